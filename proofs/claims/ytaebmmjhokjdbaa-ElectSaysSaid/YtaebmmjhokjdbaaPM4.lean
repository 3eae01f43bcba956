-- made by a program of this session (wip/tools/myprint.py over the kit's print) out of the translation; Lean checks it
import Derived.Test.YtaebmmjhokjdbaaPM0
namespace Go.Proofs.Ytaebmmjhokjdbaa.PM
open Go.RowKit Go.Proofs.YtaebmmjhokjdbaaW.PrintWords Go.Proofs.YtaebmmjhokjdbaaW.PrintLast Go.Proofs.YtaebmmjhokjdbaaW.PrintMore
attribute [local go_sem] max2_int min2_int max_two min_two max_three min_three max_four min_four   -- for this text's walks alone
attribute [local go_sem high] Go.Proofs.Ytaebmmjhokjdbaa.My.str_leq Go.Proofs.Ytaebmmjhokjdbaa.My.str_gtr Go.Proofs.Ytaebmmjhokjdbaa.My.str_geq
set_option linter.unusedVariables false
set_option linter.unusedSimpArgs false

/-! ### api_KV_36: function 36 -/
-- (by hand)
def api_KV_36.f (l0 : List (S26)) : Option (List (S26)) := if l0.length < 2199023255552 then some l0 else none
theorem api_KV_36.nil {A : Option Addr} {n : Nat} {l : List (S26)} {W : World} (h : Kd.C k26 W A n l) (hA : A = none) (hn : n = l.length) : l = [] := by
  cases l with
  | nil => rfl
  | cons x l =>
    simp only [List.length_cons] at hn
    obtain ⟨ad, c, e, _⟩ := Kd.C_get h x 0 (by decide) (by omega)
    rw [hA] at e
    cases e
set_option maxHeartbeats 1000000 in
theorem api_KV_36.calls (A0 : Option Addr) (c0 : Nat) (l0 : List (S26)) (r : List (S26)) (w : World) (hr0 : Kd.C k26 w A0 l0.length l0) (hc0 : l0.length ≤ c0) (h : api_KV_36.f l0 = some r) :
    Calls Try.prog 36 #[.slice A0 l0.length c0] w fun e w' => ∃ v0_ : Value, e = .returned (v0_) ∧ Kd.R k26 26 w' w.heap.size (fun _ => True) v0_ r ∧ Below w.heap.size w w' := by
  have hmx : l0.length ≤ 9223372036854775807 := hr0.2.1
  unfold api_KV_36.f at h
  by_cases hlim : l0.length < 2199023255552
  rotate_left
  · rw [if_neg hlim] at h
    exact absurd h (by simp)
  rw [if_pos hlim] at h
  obtain rfl := Option.some.inj h
  have HL := Aside0.mk hlim
  have HR0 := Aside0.mk hr0
  have hi := info26
  have qn := fun (W : World) (A : Option Addr) (n c : Nat) => Lib.run_eql_slice_nil (P := Try.prog) W 22 26 A n c 0 0 Try.underlying22
  clear hr0 hc0 h hlim
  cases A0 with
  | none =>
    have hl := api_KV_36.nil HR0.out rfl rfl
    subst hl
    go_enter Try.func36, Try.ntmps36
    go_wp2
    go_ret
    exact ⟨_, rfl, Kd.R_nil _ _ _ _ _, Below.refl _ _⟩
  | some ad =>
    go_enter Try.func36, Try.ntmps36
    go_wp2_with (first | ((with_reducible refine gate_dst (N := 5) rfl ?_); refine Kd.R_lit k26 _ 26 ?hg (N := 5) ?hd (xs := ([] : List (S26))) (inner := []) (ok := fun _ => True) (okp := fun _ => True) ?hr ?hp (fun _ hk => hk) trivial (Below.refl _ _) (Nat.le_refl _) (by simp) ?_; (case hd => rfl); (case hg => rfl); (case hr => first | (go_simp; done) | (go_simp; rfl)); (case hp => exact (Reps.none _ _)); intro v1 w1 ho hb _ _; have HO := Aside0.mk ho; have HB := Aside0.mk hb; clear ho hb) | ((with_reducible refine gate_builtin (b := .append) (xs := #[.tmp 5, .tmp 6]) rfl ?_); at_builtin; refine Kd.R_append_rows k26 (w0 := w) w.heap.size rfl (.tmp 5) (.tmp 6) 22 26 (.agg #[(.string ⟨#[]⟩), (.string ⟨#[]⟩), (.int .i64 0), (.int .i64 0), (.int .i64 0), (.int .i64 0)]) 64 rfl Try.underlying22 hi rfl (by decide) (by omega) v1 [] l0 _ _ _ (fun _ => True) (fun _ => False) rfl rfl HO.out (Kd.C_below HR0.out HB.out) (fun x cs hx => by obtain rfl := k26_open hx; exact k26_mkM _ _ _ x) (fun _ h => h.elim) (fun _ _ => trivial) HB.out HB.out.size (by have := HL.out; simp; omega) ?_; intro v3 w3 hR3 hB3 _ _; have HR3 := Aside0.mk (And.intro hR3 hB3); clear hR3 hB3))
    go_ret
    exact ⟨_, rfl, HR3.out.1, HR3.out.2⟩


end Go.Proofs.Ytaebmmjhokjdbaa.PM
