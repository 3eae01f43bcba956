-- made by a program of this session (wip/tools/myprint.py over the kit's print) out of the translation; Lean checks it
import Derived.Test.YtaebmmjhokjdbaaPM0
import Derived.Test.YtaebmmjhokjdbaaSort
import Derived.Test.YtaebmmjhokjdbaaPM4
import Derived.Test.YtaebmmjhokjdbaaPM8
import Derived.Test.YtaebmmjhokjdbaaPM10
namespace Go.Proofs.Ytaebmmjhokjdbaa.PM
open Go.RowKit Go.Proofs.YtaebmmjhokjdbaaW.PrintWords Go.Proofs.YtaebmmjhokjdbaaW.PrintLast Go.Proofs.YtaebmmjhokjdbaaW.PrintMore
attribute [local go_sem] max2_int min2_int max_two min_two max_three min_three max_four min_four   -- for this text's walks alone
attribute [local go_sem high] Go.Proofs.Ytaebmmjhokjdbaa.My.str_leq Go.Proofs.Ytaebmmjhokjdbaa.My.str_gtr Go.Proofs.Ytaebmmjhokjdbaa.My.str_geq
set_option linter.unusedVariables false
set_option linter.unusedSimpArgs false

/-! ### ticket_Order: function 30 -/
-- (by hand)
-- IMPORT YtaebmmjhokjdbaaSort
theorem ticket_Order.stf {P : Program} {w : World} {a : Addr} {m : Mode} (f : Fn) (b c : Array Value) : (store a (.func f b c) m).run P w = stored P w a (.func f b c) m := run_store P w a _ m rfl
attribute [local go_sem] ticket_Order.stf
def ticket_Order.f (l0 : List (S26)) : Option ((List (S26))) := if l0.length ≤ 20 then some (SortT.tsort SortF.bf l0) else none
set_option maxHeartbeats 1000000 in
theorem ticket_Order.calls (A0 : Option Addr) (c0 : Nat) (l0 : List (S26)) (r : List (S26)) (w : World) (hr0 : Kd.C k26 w A0 l0.length l0) (hc0 : l0.length ≤ c0) (h : ticket_Order.f l0 = some r) :
    Calls Try.prog 30 #[.slice A0 l0.length c0] w fun e w' => ∃ v0_ : Value, e = .returned (v0_) ∧ Kd.R k26 26 w' w.heap.size (fun _ => True) v0_ r ∧ Below w.heap.size w w' := by
  unfold ticket_Order.f at h
  by_cases hl : l0.length ≤ 20
  rotate_left
  · rw [if_neg hl] at h
    exact absurd h (by simp)
  rw [if_pos hl] at h
  obtain ⟨k, hk⟩ := (SortF.sort_f hl).rounds
  replace hk : api_KV_46.f k l0 () = some r := by rw [← Option.some.inj h]; exact hk
  have HK := Aside0.mk hk
  have HF := Aside0.mk (show api_KV_36.f l0 = some l0 by unfold api_KV_36.f; rw [if_pos (by omega)])
  have HR0 := Aside0.mk hr0
  have HC0 := Aside0.mk hc0
  clear hr0 hc0 h hl hk
  have HA := Aside0.mk (below_alloc (Below.refl w.heap.size w) (Obj.cells #[Value.func (Fn.func 45) #[] #[]] 72))
  go_enter Try.func30, Try.ntmps30
  go_wp2_with (first | (go_at_call 36; refine (api_KV_36.calls A0 c0 l0 l0 _ ?hr HC0.out HF.out).mono ?_; (case hr => exact Kd.C_below HR0.out (below_alloc (Below.refl _ _) _)); rintro e w2 ⟨v, rfl, ho, hb⟩; obtain ⟨A1, c1, e1⟩ := Kd.R_slice ho; subst e1; have he : ticket_Order_1.env (fun k_ => some k_ = (.slice A1 l0.length c1 : Value).ownBlock) w.heap.size w2 := ⟨by have := hb.size; simp only [World.size_alloc] at this; omega, fun q => by have := Kd.R_base ho _ q.symm; simp only [World.size_alloc] at this; omega, (hb.cell (p := ⟨w.heap.size, 0, none⟩) (by simp only [World.size_alloc]; omega)).trans ((World.cell?_alloc_mark w _ _ (0, 0) 0).trans rfl)⟩; have HE := Aside0.mk he; have HO := Aside0.mk ho; have HB := Aside0.mk hb; clear he ho hb) | ((with_reducible refine gate_callee (f := 46) rfl ?_); refine goesL_ (some 9) rfl rfl Try.func46 (by kernel_rfl) rfl #[.slice A1 l0.length c1, .func (.func 47) #[] #[.pointer (some ⟨w.heap.size, 0, none⟩)]] rfl (by (try simp only [List.map_toArray, List.map_cons, List.map_nil]); first | done | rfl | (simp only [List.length_drop, List.length_take]; rfl)) ?_; refine (api_KV_46.calls k (fun k_ => some k_ = (.slice A1 l0.length c1 : Value).ownBlock) (.slice A1 l0.length c1) l0 () r (w.alloc (Obj.cells #[Value.func (Fn.func 45) #[] #[]] 72)) _ HE.out HB.out (Kd.R_tight rfl HO.out) HK.out).mono ?_; rintro e w5 ⟨rfl, hy0, hb5, hkp⟩; refine ⟨_, rfl, ?_⟩; have HY := Aside0.mk hy0; have HB5 := Aside0.mk hb5; clear hy0 hb5 hkp))
  go_ret
  exact ⟨_, rfl, Kd.R_mono (Kd.R_lower HY.out HA.out.size) (fun _ _ => trivial), below_step HA.out HB5.out⟩


end Go.Proofs.Ytaebmmjhokjdbaa.PM
