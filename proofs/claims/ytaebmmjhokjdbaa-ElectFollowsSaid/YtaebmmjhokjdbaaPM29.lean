-- made by a program of this session (wip/tools/myprint.py over the kit's print) out of the translation; Lean checks it
import Derived.Test.YtaebmmjhokjdbaaPM0
import Derived.Test.YtaebmmjhokjdbaaPM3
import Derived.Test.YtaebmmjhokjdbaaPM20
import Derived.Test.YtaebmmjhokjdbaaPM25
import Derived.Test.YtaebmmjhokjdbaaPM27
import Derived.Test.YtaebmmjhokjdbaaPM28
namespace Go.Proofs.Ytaebmmjhokjdbaa.PM
open Go.RowKit Go.Proofs.YtaebmmjhokjdbaaW.PrintWords Go.Proofs.YtaebmmjhokjdbaaW.PrintLast Go.Proofs.YtaebmmjhokjdbaaW.PrintMore
attribute [local go_sem] max2_int min2_int max_two min_two max_three min_three max_four min_four   -- for this text's walks alone
attribute [local go_sem high] Go.Proofs.Ytaebmmjhokjdbaa.My.str_leq Go.Proofs.Ytaebmmjhokjdbaa.My.str_gtr Go.Proofs.Ytaebmmjhokjdbaa.My.str_geq
set_option linter.unusedVariables false
set_option linter.unusedSimpArgs false

/-! ### batonlaw17_ElectFollows: function 4 -/
def batonlaw17_ElectFollows.j0 : Nat → List (S26) → List (S54) → Bool → Option (Bool)
 | 0, _, _, _ => none
 | k + 1, x0, x1, x16 => if x16 = true then ((batonlaw17_live.f k).bind fun t618 => (some t618)) else ((elect_Follow.f k x0 x1).bind fun bt619 => ((batonref17_Follow.f k x0 x1).bind fun bt625 => ((batonref03_KVs.f k bt619.1 bt625.1).bind fun t631 => (if t631 = true then ((batonref03_KVs.f k bt619.2 bt625.2).bind fun t632 => (if t632 = true then ((batonlaw17_live.f k).bind fun t633 => (some t633)) else (none))) else (none)))))
def batonlaw17_ElectFollows.f (k : Nat) (l0 : List (S26)) (l1 : List (S54)) : Option (Bool) := (batonref03_Few.f k l0 40).bind fun t616 => (if t616 = true then ((batonref03_FewEvents.f k l1 40).bind fun t617 => (batonlaw17_ElectFollows.j0 k l0 l1 (!t617))) else (batonlaw17_ElectFollows.j0 k l0 l1 true))
theorem batonlaw17_ElectFollows.mono_l : ∀ k, (∀ y0 y1 y2, LeO (batonlaw17_ElectFollows.j0 k y0 y1 y2) (batonlaw17_ElectFollows.j0 (k + 1) y0 y1 y2))
 | 0 => fun _ _ _ r h => by simp [batonlaw17_ElectFollows.j0] at h
 | k + 1 => by
  have ih0 := batonlaw17_ElectFollows.mono_l k
  ·intro y0 y1 y2
   unfold batonlaw17_ElectFollows.j0
   have ic0 := @batonlaw17_live.mono; have ic1 := @batonref03_Few.mono; have ic2 := @batonref03_FewEvents.mono; have ic3 := @batonref03_KVs.mono; have ic4 := @batonref17_Follow.mono; have ic5 := @elect_Follow.mono; exact My.mono_
theorem batonlaw17_ElectFollows.mono : ∀ a0 a1 k, LeO (batonlaw17_ElectFollows.f k a0 a1) (batonlaw17_ElectFollows.f (k + 1) a0 a1) := by
 intro a0 a1 k
 have ih0 := batonlaw17_ElectFollows.mono_l k
 unfold batonlaw17_ElectFollows.f
 have ic0 := @batonlaw17_live.mono; have ic1 := @batonref03_Few.mono; have ic2 := @batonref03_FewEvents.mono; have ic3 := @batonref03_KVs.mono; have ic4 := @batonref17_Follow.mono; have ic5 := @elect_Follow.mono; exact My.mono_
set_option maxHeartbeats 8000000 in
set_option maxRecDepth 100000 in
theorem batonlaw17_ElectFollows.calls (k : Nat) (A0 : Option Addr) (c0 : Nat) (l0 : List (S26)) (A1 : Option Addr) (c1 : Nat) (l1 : List (S54)) (r : Bool) (w : World) (hr0 : Kd.C k26 w A0 l0.length l0) (hc0 : l0.length ≤ c0) (hr1 : Kd.C k54 w A1 l1.length l1) (hc1 : l1.length ≤ c1) (h : batonlaw17_ElectFollows.f k l0 l1 = some r) :
  Calls Try.prog 4 #[.slice A0 l0.length c0, .slice A1 l1.length c1] w fun e w' => e = .returned (.bool r) ∧ Below w.heap.size w w' := by
 have HR0 := Aside0.mk hr0; have HC0 := Aside0.mk hc0; clear hr0 hc0; have HR1 := Aside0.mk hr1; have HC1 := Aside0.mk hc1; clear hr1 hc1; have HB := Aside0.mk (Below.refl w.heap.size w); have H : ((batonref03_Few.f k l0 40).bind fun t616 => (if t616 = true then ((batonref03_FewEvents.f k l1 40).bind fun t617 => (batonlaw17_ElectFollows.j0 k l0 l1 (!t617))) else (batonlaw17_ElectFollows.j0 k l0 l1 true))) = some r := h; clear h; have HC3 := Aside0.mk H; clear H
 go_enter Try.func4, Try.ntmps4
 go_upto_region 1 with (fail)
 go_cut [16] (fun v16 wc => ∃ (kq : Nat) (x16_2 : Bool), v16 = .bool x16_2 ∧ Aside0 (batonlaw17_ElectFollows.j0 kq l0 l1 x16_2 = some r) ∧ Aside0 (kq ≤ k) ∧ Aside0 (Below w.heap.size w wc))
 case first =>
  have H := HC3.out; clear HC3; replace H := Option.bind_eq_some_iff.mp H; obtain ⟨t616, A40, H⟩ := H; replace H : (if t616 = true then ((batonref03_FewEvents.f k l1 40).bind fun t617 => (batonlaw17_ElectFollows.j0 k l0 l1 (!t617))) else (batonlaw17_ElectFollows.j0 k l0 l1 true)) = some r := H; have A4 := Aside0.mk A40; clear A40
  by_cases c5 : t616 = true
  ·subst c5
   (have H1 : ((batonref03_FewEvents.f k l1 40).bind fun t617 => (batonlaw17_ElectFollows.j0 k l0 l1 (!t617))) = some r := by rw [if_pos rfl] at H; exact H); clear H; have H := H1; clear H1; replace H := Option.bind_eq_some_iff.mp H; obtain ⟨t617, A60, H⟩ := H; replace H : (batonlaw17_ElectFollows.j0 k l0 l1 (!t617)) = some r := H; have A6 := Aside0.mk A60; clear A60; have H' := Aside0.mk H; clear H
   go_wp2_with (first | ((with_reducible refine gate_callee (f := 9) rfl ?_); refine goesL_ (some 10) rfl rfl Try.func9 (by kernel_rfl) rfl #[.slice A0 l0.length c0, .int .i64 40] rfl My.ar ?_; (with_reducible refine (batonref03_Few.calls k _ _ l0 40 true _ ?side1 ?side2 A4.out).mono ?_); (case side1 => exact My.Ca (Kd.C_below HR0.out HB.out)); (case side2 => exact HC0.out); rintro e w' ⟨rfl, ⟨nd, rfl⟩⟩; refine ⟨_, rfl, ?_⟩) | (go_at_call 18; (with_reducible refine (batonref03_FewEvents.calls k _ _ l1 40 t617 _ ?side1 ?side2 A6.out).mono ?_); (case side1 => exact My.Ca (Kd.C_below HR1.out My.bB)); (case side2 => exact HC1.out); rintro e w' ⟨rfl, ⟨nd, rfl⟩⟩))
   go_meet
   case rel => exact ⟨_, (!t617), My.q0, H', ⟨by first | omega | exact Nat.le_refl _⟩, ⟨My.bB⟩⟩
  ·replace c5 := Bool.eq_false_iff.mpr c5
   subst c5; (have H1 : (batonlaw17_ElectFollows.j0 k l0 l1 true) = some r := by rw [if_neg (show ¬ (false = true) by decide)] at H; exact H); clear H; have H := H1; clear H1; have H' := Aside0.mk H; clear H
   go_wp2_with (first | ((with_reducible refine gate_callee (f := 9) rfl ?_); refine goesL_ (some 10) rfl rfl Try.func9 (by kernel_rfl) rfl #[.slice A0 l0.length c0, .int .i64 40] rfl My.ar ?_; (with_reducible refine (batonref03_Few.calls k _ _ l0 40 false _ ?side1 ?side2 A4.out).mono ?_); (case side1 => exact My.Ca (Kd.C_below HR0.out HB.out)); (case side2 => exact HC0.out); rintro e w' ⟨rfl, ⟨nd, rfl⟩⟩; refine ⟨_, rfl, ?_⟩))
   go_meet
   case rel => exact ⟨_, (true), My.q0, H', ⟨by first | omega | exact Nat.le_refl _⟩, ⟨My.bB⟩⟩
 case rest =>
  clear HC3; (try clear c1); (try clear p2); (try clear c4); (try clear c5); obtain ⟨kq, x16_2, rfl, HA, HJ2, HB⟩ := hcut
  cases kq with
  | zero => exact absurd HA.out (by simp [batonlaw17_ElectFollows.j0])
  | succ kj2 =>
   have H := HA.out; clear HA; simp only [batonlaw17_ElectFollows.j0] at H
   by_cases c7 : x16_2 = true
   ·subst c7
    (have H1 : ((batonlaw17_live.f kj2).bind fun t618 => (some t618)) = some r := by rw [if_pos rfl] at H; exact H); clear H; have H := H1; clear H1; replace H := Option.bind_eq_some_iff.mp H; obtain ⟨t618, A80, H⟩ := H; replace H : (some t618) = some r := H; have A8 := Aside0.mk A80; clear A80; obtain rfl := Option.some.inj H
    go_wp2_with (first | ((with_reducible refine gate_callee (f := 10) rfl ?_); refine goesL_ (some 17) rfl rfl Try.func10 (by kernel_rfl) rfl #[] rfl My.ar ?_; (with_reducible refine (batonlaw17_live.calls kj2  t618 _ A8.out).mono ?_); rintro e w9 ⟨rfl, hb⟩; refine ⟨_, rfl, ?_⟩; have n0_ := Aside0.mk (below_step My.bB hb); clear HB; have HB := n0_; clear n0_))
    go_ret
    exact ⟨My.q1, My.bB⟩
   ·replace c7 := Bool.eq_false_iff.mpr c7
    subst c7; (have H1 : ((elect_Follow.f kj2 l0 l1).bind fun bt619 => ((batonref17_Follow.f kj2 l0 l1).bind fun bt625 => ((batonref03_KVs.f kj2 bt619.1 bt625.1).bind fun t631 => (if t631 = true then ((batonref03_KVs.f kj2 bt619.2 bt625.2).bind fun t632 => (if t632 = true then ((batonlaw17_live.f kj2).bind fun t633 => (some t633)) else (none))) else (none))))) = some r := by rw [if_neg (show ¬ (false = true) by decide)] at H; exact H); clear H; have H := H1; clear H1; replace H := Option.bind_eq_some_iff.mp H; obtain ⟨⟨t619, t622⟩, A100, H⟩ := H; replace H : ((batonref17_Follow.f kj2 l0 l1).bind fun bt625 => ((batonref03_KVs.f kj2 t619 bt625.1).bind fun t631 => (if t631 = true then ((batonref03_KVs.f kj2 t622 bt625.2).bind fun t632 => (if t632 = true then ((batonlaw17_live.f kj2).bind fun t633 => (some t633)) else (none))) else (none)))) = some r := H; have A10 := Aside0.mk A100; clear A100; replace H := Option.bind_eq_some_iff.mp H; obtain ⟨⟨t625, t628⟩, A110, H⟩ := H; replace H : ((batonref03_KVs.f kj2 t619 t625).bind fun t631 => (if t631 = true then ((batonref03_KVs.f kj2 t622 t628).bind fun t632 => (if t632 = true then ((batonlaw17_live.f kj2).bind fun t633 => (some t633)) else (none))) else (none))) = some r := H; have A11 := Aside0.mk A110; clear A110; replace H := Option.bind_eq_some_iff.mp H; obtain ⟨t631, A120, H⟩ := H; replace H : (if t631 = true then ((batonref03_KVs.f kj2 t622 t628).bind fun t632 => (if t632 = true then ((batonlaw17_live.f kj2).bind fun t633 => (some t633)) else (none))) else (none)) = some r := H; have A12 := Aside0.mk A120; clear A120
    by_cases c13 : t631 = true
    ·subst c13
     (have H1 : ((batonref03_KVs.f kj2 t622 t628).bind fun t632 => (if t632 = true then ((batonlaw17_live.f kj2).bind fun t633 => (some t633)) else (none))) = some r := by rw [if_pos rfl] at H; exact H); clear H; have H := H1; clear H1; replace H := Option.bind_eq_some_iff.mp H; obtain ⟨t632, A140, H⟩ := H; replace H : (if t632 = true then ((batonlaw17_live.f kj2).bind fun t633 => (some t633)) else (none)) = some r := H; have A14 := Aside0.mk A140; clear A140
     by_cases c15 : t632 = true
     ·subst c15
      (have H1 : ((batonlaw17_live.f kj2).bind fun t633 => (some t633)) = some r := by rw [if_pos rfl] at H; exact H); clear H; have H := H1; clear H1; replace H := Option.bind_eq_some_iff.mp H; obtain ⟨t633, A160, H⟩ := H; replace H : (some t633) = some r := H; have A16 := Aside0.mk A160; clear A160; obtain rfl := Option.some.inj H
      go_wp2_with (first | ((with_reducible refine gate_callee (f := 19) rfl ?_); refine goesL_ (some 21) rfl rfl Try.func19 (by kernel_rfl) rfl #[.slice A0 l0.length c0, .slice A1 l1.length c1] rfl My.ar ?_; (with_reducible refine (elect_Follow.calls kj2 _ _ l0 (fun k_ => k_ < w.heap.size) _ _ l1 t619 t622 _ ?side1 ?side2 ?side3 A10.out).mono ?_); (case side1 => exact My.Ca (Kd.C_below HR0.out HB.out)); (case side2 => exact HC0.out); (case side3 => exact Kd.V_mk HC1.out (Kd.F_below (Kd.C_F k54_heap HR1.out) My.bB)); rintro e w17 ⟨v620, v623, rfl, ho0, ho1, hb⟩; refine ⟨_, rfl, ?_⟩; have HO621 := Aside0.mk (Kd.R_lower (Kd.R_mono (ok' := fun k_ => some k_ ≠ (v623 : Value).ownBlock) ho0 (fun _ hk_ => hk_.2)) (below_size My.bB)); have HO624 := Aside0.mk (Kd.R_lower (Kd.R_mono (ok' := fun k_ => some k_ ≠ (v620 : Value).ownBlock) ho1 (fun _ hk_ => hk_.2)) (below_size My.bB)); replace HB := Aside0.mk (below_step My.bB hb); (try clear ho0); (try clear ho1)) | ((with_reducible refine gate_callee (f := 20) rfl ?_); refine goesL_ (some 27) rfl rfl Try.func20 (by kernel_rfl) rfl #[.slice A0 l0.length c0, .slice A1 l1.length c1] rfl My.ar ?_; (with_reducible refine (batonref17_Follow.calls kj2 (fun k_ => k_ < w.heap.size) _ _ l0 _ _ l1 t625 t628 _ ?side1 ?side2 ?side3 A11.out).mono ?_); (case side1 => exact Kd.V_mk HC0.out (Kd.F_below (Kd.C_F k26_heap HR0.out) My.bB)); (case side2 => exact My.Ca (Kd.C_below HR1.out HB.out)); (case side3 => exact HC1.out); rintro e w18 ⟨v626, v629, rfl, ho0, ho1, hb⟩; refine ⟨_, rfl, ?_⟩; have n0_ := Aside0.mk (Kd.R_elder' (My.Ra HO621.out) (Kd.R_base ho1) hb); have n1_ := Aside0.mk (Kd.R_elder' (My.Ra HO624.out) (Kd.R_base ho1) hb); have n2_ := Aside0.mk (Kd.V_lower (Kd.V_mono (ok' := fun k_ => some k_ ≠ (v629 : Value).ownBlock ∧ some k_ ≠ (v620 : Value).ownBlock ∧ some k_ ≠ (v623 : Value).ownBlock) ho0 (fun k_ hk_ => ⟨hk_.2, Or.elim hk_.1 (fun hs_ => fun e_ => Nat.not_le.2 hs_ (Kd.R_base HO621.out k_ e_.symm)) (fun hn_ => (Kd.fresh' (Kd.R_lt (My.Ra HO621.out)) k_ hn_)), Or.elim hk_.1 (fun hs_ => fun e_ => Nat.not_le.2 hs_ (Kd.R_base HO624.out k_ e_.symm)) (fun hn_ => (Kd.fresh' (Kd.R_lt (My.Ra HO624.out)) k_ hn_))⟩)) (below_size My.bB)); have n3_ := Aside0.mk (Kd.R_lower (Kd.R_new' (Kd.R_new' (Kd.R_mono (ok' := fun k_ => True) ho1 (fun _ hk_ => trivial)) (Kd.R_lt (My.Ra HO621.out))) (Kd.R_lt (My.Ra HO624.out))) (below_size My.bB)); have n4_ := Aside0.mk (below_step My.bB hb); clear HO621; clear HO624; clear HB; have HO621 := n0_; have HO624 := n1_; have HO627 := n2_; have HO630 := n3_; have HB := n4_; clear n0_ n1_ n2_ n3_ n4_; (try clear ho0); (try clear ho1); obtain ⟨Ao19, co19, eo19⟩ := Kd.R_slice HO621.out; subst eo19; obtain ⟨Ao20, co20, eo20⟩ := Kd.V_slice HO627.out; subst eo20) | ((with_reducible refine gate_callee (f := 21) rfl ?_); refine goesL_ (some 32) rfl rfl Try.func21 (by kernel_rfl) rfl #[.slice Ao19 t619.length co19, .slice Ao20 t625.length co20] rfl My.ar ?_; (with_reducible refine (batonref03_KVs.calls kj2 _ _ t619 _ _ t625 true _ ?side1 ?side2 ?side3 ?side4 A12.out).mono ?_); (case side1 => repeat (first | exact (Kd.R_reads' HO621.out).2.2 | (with_reducible refine Kd.C_alloc ?_ _) | (with_reducible refine Kd.C_drewN ?_ _) | (with_reducible refine Kd.C_drew ?_))); (case side2 => exact (Kd.R_reads' HO621.out).2.1); (case side3 => repeat (first | exact (Kd.V_reads' HO627.out).2.2 | (with_reducible refine Kd.C_alloc ?_ _) | (with_reducible refine Kd.C_drewN ?_ _) | (with_reducible refine Kd.C_drew ?_))); (case side4 => exact (Kd.V_reads' HO627.out).2.1); rintro e w' ⟨rfl, ⟨nd, rfl⟩⟩; refine ⟨_, rfl, ?_⟩; obtain ⟨Ao21, co21, eo21⟩ := Kd.R_slice HO624.out; subst eo21; obtain ⟨Ao22, co22, eo22⟩ := Kd.R_slice HO630.out; subst eo22) | (go_at_call 21; (with_reducible refine (batonref03_KVs.calls kj2 _ _ t622 _ _ t628 true _ ?side1 ?side2 ?side3 ?side4 A14.out).mono ?_); (case side1 => repeat (first | exact (Kd.R_reads' HO624.out).2.2 | (with_reducible refine Kd.C_alloc ?_ _) | (with_reducible refine Kd.C_drewN ?_ _) | (with_reducible refine Kd.C_drew ?_))); (case side2 => exact (Kd.R_reads' HO624.out).2.1); (case side3 => repeat (first | exact (Kd.R_reads' HO630.out).2.2 | (with_reducible refine Kd.C_alloc ?_ _) | (with_reducible refine Kd.C_drewN ?_ _) | (with_reducible refine Kd.C_drew ?_))); (case side4 => exact (Kd.R_reads' HO630.out).2.1); rintro e w' ⟨rfl, ⟨nd, rfl⟩⟩) | (go_at_call 10; (with_reducible refine (batonlaw17_live.calls kj2  t633 _ A16.out).mono ?_); rintro e w23 ⟨rfl, hb⟩; replace HO621 := Aside0.mk (Kd.R_below (My.Ra HO621.out) hb); replace HO624 := Aside0.mk (Kd.R_below (My.Ra HO624.out) hb); replace HO627 := Aside0.mk (Kd.V_below (My.Va HO627.out) hb); replace HO630 := Aside0.mk (Kd.R_below (My.Ra HO630.out) hb); replace HB := Aside0.mk (below_step My.bB hb)))
      go_ret
      exact ⟨My.q1, My.bB⟩
     ·replace c15 := Bool.eq_false_iff.mpr c15
      subst c15; (have H1 : (none) = some r := by rw [if_neg (show ¬ (false = true) by decide)] at H; exact H); clear H; have H := H1; clear H1; exact absurd H (by simp)
    ·replace c13 := Bool.eq_false_iff.mpr c13
     subst c13; (have H1 : (none) = some r := by rw [if_neg (show ¬ (false = true) by decide)] at H; exact H); clear H; have H := H1; clear H1; exact absurd H (by simp)

end Go.Proofs.Ytaebmmjhokjdbaa.PM
