-- made by a program of this session (wip/tools/myprint.py over the kit's print) out of the translation; Lean checks it
import Derived.Test.YtaebmmjhokjdbaaPM0
import Derived.Test.YtaebmmjhokjdbaaPM8
import Derived.Test.YtaebmmjhokjdbaaPM9
namespace Go.Proofs.Ytaebmmjhokjdbaa.PM
open Go.RowKit Go.Proofs.YtaebmmjhokjdbaaW.PrintWords Go.Proofs.YtaebmmjhokjdbaaW.PrintLast Go.Proofs.YtaebmmjhokjdbaaW.PrintMore
attribute [local go_sem] max2_int min2_int max_two min_two max_three min_three max_four min_four   -- for this text's walks alone
attribute [local go_sem high] Go.Proofs.Ytaebmmjhokjdbaa.My.str_leq Go.Proofs.Ytaebmmjhokjdbaa.My.str_gtr Go.Proofs.Ytaebmmjhokjdbaa.My.str_geq
set_option linter.unusedVariables false
set_option linter.unusedSimpArgs false

/-! ### api_KV_70: told for lists that it is never called with -/
def api_KV_70.f : Nat → List (S26) → Int → Int → Int → Unit → Option ((List (S26))) := fun _ _ _ _ _ _ => none
theorem api_KV_70.mono : ∀ a0 a1 a2 a3 a4 k, LeO (api_KV_70.f k a0 a1 a2 a3 a4) (api_KV_70.f (k + 1) a0 a1 a2 a3 a4) := by
 intros
 intro r h
 simp [api_KV_70.f] at h
theorem api_KV_70.calls (k : Nat) : ∀ (P0_ : Nat → Prop) (u9000_ : Value) (l0 : List (S26)) (a1 : Int) (a2 : Int) (a3 : Int) (a4 : Unit) (r : List (S26)) (w0 w : World) {gcl : Nat} (henv : ticket_Order_1.env P0_ gcl w) (hB : Below w0.heap.size w0 w) (ho0 : Kd.R k26 26 w w0.heap.size P0_ u9000_ l0) (h : api_KV_70.f k l0 a1 a2 a3 a4 = some r),
  Calls Try.prog 70 #[u9000_, .int .i64 a1, .int .i64 a2, .int .i64 a3, .func (.func 47) #[] #[.pointer (some ⟨gcl, 0, none⟩)]] w fun e w' => e = .returned (.tuple #[]) ∧ Kd.R k26 26 w' w0.heap.size (fun k_ => (P0_ k_ ∨ w.heap.size ≤ k_)) u9000_ r ∧ Below w0.heap.size w0 w' ∧ Kept w w' (fun k_ => P0_ k_) := by
 intros
 rename_i h
 exact absurd h (by simp [api_KV_70.f])
/-! ### api_KV_60: function 60 -/
mutual
def api_KV_60.l0 : Nat → List (S26) → Int → Unit → Int → Int → Int → Option ((List (S26)))
 | 0, _, _, _, _, _, _ => none
 | k + 1, x0, x1, x2, x6, x7, x8 => if x8 ≤ x1 then ((api_KV_69.f k x0 x7 x8 x2).bind fun t150 => (api_KV_60.l0 k t150 x1 x2 x6 x8 (wrap64 (x8 + x6)))) else ((api_KV_69.f k x0 x7 x1 x2).bind fun t151 => (api_KV_60.l1 k t151 x1 x2 x6))
def api_KV_60.l1 : Nat → List (S26) → Int → Unit → Int → Option ((List (S26)))
 | 0, _, _, _, _ => none
 | k + 1, x0, x1, x2, x6 => if x6 < x1 then (api_KV_60.l2 k x0 x1 x2 x6 0 (wrap64 (2 * x6))) else (some x0)
def api_KV_60.l2 : Nat → List (S26) → Int → Unit → Int → Int → Int → Option ((List (S26)))
 | 0, _, _, _, _, _, _ => none
 | k + 1, x0, x1, x2, x6, x7, x8 => if x8 ≤ x1 then ((api_KV_70.f k x0 x7 (wrap64 (x7 + x6)) x8 x2).bind fun t152 => (api_KV_60.l2 k t152 x1 x2 x6 x8 (wrap64 (x8 + (wrap64 (2 * x6)))))) else (if (wrap64 (x7 + x6)) < x1 then ((api_KV_70.f k x0 x7 (wrap64 (x7 + x6)) x1 x2).bind fun t153 => (api_KV_60.l1 k t153 x1 x2 (wrap64 (x6 * 2)))) else (api_KV_60.l1 k x0 x1 x2 (wrap64 (x6 * 2))))
end
def api_KV_60.f (k : Nat) (l0 : List (S26)) (a1 : Int) (a2 : Unit) : Option ((List (S26))) := api_KV_60.l0 k l0 a1 a2 20 0 20
theorem api_KV_60.mono_l : ∀ k, (∀ y0 y1 y2 y3 y4 y5, LeO (api_KV_60.l0 k y0 y1 y2 y3 y4 y5) (api_KV_60.l0 (k + 1) y0 y1 y2 y3 y4 y5)) ∧ (∀ y0 y1 y2 y3, LeO (api_KV_60.l1 k y0 y1 y2 y3) (api_KV_60.l1 (k + 1) y0 y1 y2 y3)) ∧ (∀ y0 y1 y2 y3 y4 y5, LeO (api_KV_60.l2 k y0 y1 y2 y3 y4 y5) (api_KV_60.l2 (k + 1) y0 y1 y2 y3 y4 y5))
 | 0 => ⟨fun _ _ _ _ _ _ r h => by simp [api_KV_60.l0] at h, fun _ _ _ _ r h => by simp [api_KV_60.l1] at h, fun _ _ _ _ _ _ r h => by simp [api_KV_60.l2] at h⟩
 | k + 1 => by
  obtain ⟨ih0, ih1, ih2⟩ := api_KV_60.mono_l k
  refine ⟨?_, ?_, ?_⟩
  ·intro y0 y1 y2 y3 y4 y5
   unfold api_KV_60.l0
   have ic0 := @api_KV_69.mono; have ic1 := @api_KV_70.mono; exact My.mono_
  ·intro y0 y1 y2 y3
   unfold api_KV_60.l1
   have ic0 := @api_KV_69.mono; have ic1 := @api_KV_70.mono; exact My.mono_
  ·intro y0 y1 y2 y3 y4 y5
   unfold api_KV_60.l2
   have ic0 := @api_KV_69.mono; have ic1 := @api_KV_70.mono; exact My.mono_
theorem api_KV_60.mono : ∀ a0 a1 a2 k, LeO (api_KV_60.f k a0 a1 a2) (api_KV_60.f (k + 1) a0 a1 a2) := by
 intro a0 a1 a2 k
 obtain ⟨ih0, ih1, ih2⟩ := api_KV_60.mono_l k
 unfold api_KV_60.f
 have ic0 := @api_KV_69.mono; have ic1 := @api_KV_70.mono; exact My.mono_
set_option maxHeartbeats 80000000 in
set_option maxRecDepth 100000 in
theorem api_KV_60.calls (k : Nat) (P0_ : Nat → Prop) (u9000_ : Value) (l0 : List (S26)) (a1 : Int) (a2 : Unit) (r : List (S26)) (w0 w : World) {gcl : Nat} (henv : ticket_Order_1.env P0_ gcl w) (hB : Below w0.heap.size w0 w) (ho0 : Kd.R k26 26 w w0.heap.size P0_ u9000_ l0) (h : api_KV_60.f k l0 a1 a2 = some r) :
  Calls Try.prog 60 #[u9000_, .int .i64 a1, .func (.func 47) #[] #[.pointer (some ⟨gcl, 0, none⟩)]] w fun e w' => e = .returned (.tuple #[]) ∧ Kd.R k26 26 w' w0.heap.size (fun k_ => (P0_ k_ ∨ w.heap.size ≤ k_)) u9000_ r ∧ Below w0.heap.size w0 w' ∧ Kept w w' (fun k_ => P0_ k_) := by
 have HENV := Aside0.mk henv; clear henv; have HO0 := My.m (show Kd.R k26 26 w w0.heap.size (fun k_ => (P0_ k_ ∨ w.heap.size ≤ k_)) u9000_ l0 from Kd.R_mono ho0 (fun k_ hk => (.inl hk))); have HK := My.m (Kept.refl w (fun k_ => P0_ k_)); have HW0 := Aside0.mk hB.size; have HB := Aside0.mk hB; clear hB; have H := h; clear h; unfold api_KV_60.f at H; have H' := Aside0.mk H; clear H
 go_enter Try.func60, Try.ntmps60
 go_wp2
 go_loopg [7, 8] k (fun kq v7 v8 w' => ∃ (x0_1 : List (S26)) (x7_1 : Int) (x8_1 : Int), v7 = .int .i64 x7_1 ∧ v8 = .int .i64 x8_1 ∧ Aside0 (api_KV_60.l0 kq x0_1 a1 a2 20 x7_1 x8_1 = some r) ∧ Aside0 (kq ≤ k) ∧ Aside0 (Kd.R k26 26 w' w0.heap.size (fun k_ => (P0_ k_ ∨ w.heap.size ≤ k_)) u9000_ x0_1) ∧ Aside0 (Kept w w' (fun k_ => P0_ k_)) ∧ Aside0 (Below w0.heap.size w0 w'))
 case atStart => exact ⟨(l0), (0), (20), My.q0, My.q0, H', ⟨Nat.le_refl _⟩, ⟨My.Ra HO0.out⟩, ⟨My.kK⟩, ⟨My.bB⟩⟩
 case round =>
  clear H'; (try clear p2); obtain ⟨x0_1, x7_1, x8_1, rfl, rfl, HA, HK1, HO_0, HK, HB⟩ := hrel
  cases gk with
  | zero => exact absurd HA.out (by simp [api_KV_60.l0])
  | succ k1 =>
   have H := HA.out; clear HA; simp only [api_KV_60.l0] at H
   by_cases c4 : x8_1 ≤ a1
   ·rw [if_pos c4] at H
    have c4b0 := decide_eq_true c4; clear c4; replace H := Option.bind_eq_some_iff.mp H; obtain ⟨t150, A50, H⟩ := H; have A5 := Aside0.mk A50; clear A50; have H' := Aside0.mk H; clear H; obtain ⟨Ao6, co6, eo6⟩ := Kd.R_slice HO_0.out; subst eo6
    go_wp2_with (first | ((with_reducible refine gate_callee (f := 69) rfl ?_); refine goesL_ (some 18) rfl rfl Try.func69 (by kernel_rfl) rfl #[.slice Ao6 x0_1.length co6, .int .i64 x7_1, .int .i64 x8_1, .func (.func 47) #[] #[.pointer (some ⟨gcl, 0, none⟩)]] rfl My.ar ?_; (refine (api_KV_69.calls (henv := ticket_Order_1.call HENV.out My.kK (fun e_ => HO_0.out.1 _ e_.symm)) k1 (fun k_ => some k_ = (.slice Ao6 x0_1.length co6 : Value).ownBlock) (.slice Ao6 x0_1.length co6) x0_1 x7_1 x8_1 a2 t150 w0 _ ?side1 ?side2 A5.out).mono ?_); (case side1 => repeat (first | (with_reducible first | exact HB.out | apply below_alloc | apply pw_below_drewN | apply below_drew1) | exact HB.out)); (case side2 => exact Kd.R_tight rfl HO_0.out); rintro e w7 ⟨rfl, hy0, hb, hkp⟩; refine ⟨_, rfl, ?_⟩; replace HK := My.m (Kept.then_ (S := (fun k_ => P0_ k_)) My.kK hkp (fun k_ hs_ => (fun e_ => (HO_0.out.1 k_ e_.symm)) hs_)); replace HO_0 := My.m (Kd.R_reok rfl hy0 (fun k_ e_ => HO_0.out.1 k_ e_)); replace HB := My.m hb; (try clear hb); (try clear hkp); (try clear hy0)))
    go_roundg k1
    case measure => have := HK1.out; omega
    case rel => exact ⟨(t150), (x8_1), (wrap64 (x8_1 + 20)), My.q0, My.q0, H', ⟨by have := HK1.out; omega⟩, ⟨My.Ra HO_0.out⟩, ⟨My.kK⟩, ⟨My.bB⟩⟩
   ·rw [if_neg c4] at H
    have c4b0 := decide_eq_false c4; clear c4; replace H := Option.bind_eq_some_iff.mp H; obtain ⟨t151, A80, H⟩ := H; have A8 := Aside0.mk A80; clear A80; have H' := Aside0.mk H; clear H; obtain ⟨Ao9, co9, eo9⟩ := Kd.R_slice HO_0.out; subst eo9
    go_wp2_with (first | ((with_reducible refine gate_callee (f := 69) rfl ?_); refine goesL_ (some 27) rfl rfl Try.func69 (by kernel_rfl) rfl #[.slice Ao9 x0_1.length co9, .int .i64 x7_1, .int .i64 a1, .func (.func 47) #[] #[.pointer (some ⟨gcl, 0, none⟩)]] rfl My.ar ?_; (refine (api_KV_69.calls (henv := ticket_Order_1.call HENV.out My.kK (fun e_ => HO_0.out.1 _ e_.symm)) k1 (fun k_ => some k_ = (.slice Ao9 x0_1.length co9 : Value).ownBlock) (.slice Ao9 x0_1.length co9) x0_1 x7_1 a1 a2 t151 w0 _ ?side1 ?side2 A8.out).mono ?_); (case side1 => repeat (first | (with_reducible first | exact HB.out | apply below_alloc | apply pw_below_drewN | apply below_drew1) | exact HB.out)); (case side2 => exact Kd.R_tight rfl HO_0.out); rintro e w10 ⟨rfl, hy0, hb, hkp⟩; refine ⟨_, rfl, ?_⟩; replace HK := My.m (Kept.then_ (S := (fun k_ => P0_ k_)) My.kK hkp (fun k_ hs_ => (fun e_ => (HO_0.out.1 k_ e_.symm)) hs_)); replace HO_0 := My.m (Kd.R_reok rfl hy0 (fun k_ e_ => HO_0.out.1 k_ e_)); replace HB := My.m hb; (try clear hb); (try clear hkp); (try clear hy0)))
    (try simp only [Act.put, List.setIfInBounds_toArray, List.set_cons_zero, List.set_cons_succ])
    go_loopg [6] k1 (fun kq v6 w' => ∃ (x0_2 : List (S26)) (x6_2 : Int), v6 = .int .i64 x6_2 ∧ Aside0 (api_KV_60.l1 kq x0_2 a1 a2 x6_2 = some r) ∧ Aside0 (kq ≤ k1) ∧ Aside0 (Kd.R k26 26 w' w0.heap.size (fun k_ => (P0_ k_ ∨ w.heap.size ≤ k_)) (.slice Ao9 x0_1.length co9) x0_2) ∧ Aside0 (Kept w w' (fun k_ => P0_ k_)) ∧ Aside0 (Below w0.heap.size w0 w'))
    case atStart => exact ⟨(t151), (20), My.q0, H', ⟨Nat.le_refl _⟩, ⟨My.Ra HO_0.out⟩, ⟨My.kK⟩, ⟨My.bB⟩⟩
    case round =>
     clear H'; (try clear p2); (try clear c4); (try clear c4b0); (try clear c6); (try clear p6); (try clear p2); obtain ⟨x0_2, x6_2, rfl, HA, HK2, HO_0, HK, HB⟩ := hrel; have hl0_2 := (Kd.R_reads' HO_0.out).1; rw [hl0_2] at HO_0; (try simp only [hl0_2])
     cases gk with
     | zero => exact absurd HA.out (by simp [api_KV_60.l1])
     | succ k2 =>
      have H := HA.out; clear HA; simp only [api_KV_60.l1] at H
      by_cases c11 : x6_2 < a1
      ·rw [if_pos c11] at H
       have c11b0 := decide_eq_true c11; clear c11; have H' := Aside0.mk H; clear H
       go_wp2
       go_loopg [7, 8] k2 (fun kq v7 v8 w' => ∃ (x0_3 : List (S26)) (x7_3 : Int) (x8_3 : Int), v7 = .int .i64 x7_3 ∧ v8 = .int .i64 x8_3 ∧ Aside0 (api_KV_60.l2 kq x0_3 a1 a2 x6_2 x7_3 x8_3 = some r) ∧ Aside0 (kq ≤ k2) ∧ Aside0 (Kd.R k26 26 w' w0.heap.size (fun k_ => (P0_ k_ ∨ w.heap.size ≤ k_)) (.slice Ao9 x0_2.length co9) x0_3) ∧ Aside0 (Kept w w' (fun k_ => P0_ k_)) ∧ Aside0 (Below w0.heap.size w0 w'))
       case atStart => exact ⟨(x0_2), (0), (wrap64 (2 * x6_2)), My.q0, My.q0, H', ⟨Nat.le_refl _⟩, ⟨by (try simp only [hl0_2]); (with_reducible repeat (first | apply Kd.R_alloc | apply Kd.R_drewN | apply Kd.R_drew)); exact HO_0.out⟩, ⟨My.kK⟩, ⟨My.bB⟩⟩
       case round =>
        clear H'; (try clear c1); (try clear p2); (try clear c4); (try clear c4b0); (try clear c6); (try clear p6); (try clear c11); (try clear c11b0); (try clear p2); (try clear p6); obtain ⟨x0_3, x7_3, x8_3, rfl, rfl, HA, HK3, HO_0, HK, HB⟩ := hrel; have hl0_3 := (Kd.R_reads' HO_0.out).1; rw [hl0_3] at HO_0; (try simp only [hl0_3])
        cases gk with
        | zero => exact absurd HA.out (by simp [api_KV_60.l2])
        | succ k3 =>
         have H := HA.out; clear HA; simp only [api_KV_60.l2] at H
         by_cases c12 : x8_3 ≤ a1
         ·rw [if_pos c12] at H
          have c12b0 := decide_eq_true c12; clear c12; replace H := Option.bind_eq_some_iff.mp H; obtain ⟨t152, A130, H⟩ := H; have A13 := Aside0.mk A130; clear A130; have H' := Aside0.mk H; clear H
          go_wp2_with (first | ((with_reducible refine gate_callee (f := 70) rfl ?_); refine goesL_ (some 43) rfl rfl Try.func70 (by kernel_rfl) rfl #[.slice Ao9 x0_3.length co9, .int .i64 x7_3, .int .i64 (wrap64 (x7_3 + x6_2)), .int .i64 x8_3, .func (.func 47) #[] #[.pointer (some ⟨gcl, 0, none⟩)]] rfl My.ar ?_; (refine (api_KV_70.calls (henv := ticket_Order_1.call HENV.out My.kK (fun e_ => HO_0.out.1 _ e_.symm)) k3 (fun k_ => some k_ = (.slice Ao9 x0_3.length co9 : Value).ownBlock) (.slice Ao9 x0_3.length co9) x0_3 x7_3 (wrap64 (x7_3 + x6_2)) x8_3 a2 t152 w0 _ ?side1 ?side2 A13.out).mono ?_); (case side1 => repeat (first | (with_reducible first | exact HB.out | apply below_alloc | apply pw_below_drewN | apply below_drew1) | exact HB.out)); (case side2 => exact Kd.R_tight rfl HO_0.out); rintro e w14 ⟨rfl, hy0, hb, hkp⟩; refine ⟨_, rfl, ?_⟩; replace HK := My.m (Kept.then_ (S := (fun k_ => P0_ k_)) My.kK hkp (fun k_ hs_ => (fun e_ => (HO_0.out.1 k_ e_.symm)) hs_)); replace HO_0 := My.m (Kd.R_reok rfl hy0 (fun k_ e_ => HO_0.out.1 k_ e_)); replace HB := My.m hb; (try clear hb); (try clear hkp); (try clear hy0)))
          (try simp only [← hl0_3])
          go_roundg k3
          case measure => have := HK1.out; have := HK2.out; have := HK3.out; omega
          case rel => exact ⟨(t152), (x8_3), (wrap64 (x8_3 + (wrap64 (2 * x6_2)))), My.q0, My.q0, H', ⟨by have := HK1.out; have := HK2.out; have := HK3.out; omega⟩, ⟨by (try simp only [hl0_2]); (try simp only [hl0_3]); (with_reducible repeat (first | apply Kd.R_alloc | apply Kd.R_drewN | apply Kd.R_drew)); exact HO_0.out⟩, ⟨My.kK⟩, ⟨My.bB⟩⟩
         ·rw [if_neg c12] at H
          have c12b0 := decide_eq_false c12; clear c12
          by_cases c15 : (wrap64 (x7_3 + x6_2)) < a1
          ·rw [if_pos c15] at H
           have c15b0 := decide_eq_true c15; clear c15; replace H := Option.bind_eq_some_iff.mp H; obtain ⟨t153, A160, H⟩ := H; have A16 := Aside0.mk A160; clear A160; have H' := Aside0.mk H; clear H
           go_wp2_with (first | ((with_reducible refine gate_callee (f := 70) rfl ?_); refine goesL_ (some 60) rfl rfl Try.func70 (by kernel_rfl) rfl #[.slice Ao9 x0_3.length co9, .int .i64 x7_3, .int .i64 (wrap64 (x7_3 + x6_2)), .int .i64 a1, .func (.func 47) #[] #[.pointer (some ⟨gcl, 0, none⟩)]] rfl My.ar ?_; (refine (api_KV_70.calls (henv := ticket_Order_1.call HENV.out My.kK (fun e_ => HO_0.out.1 _ e_.symm)) k3 (fun k_ => some k_ = (.slice Ao9 x0_3.length co9 : Value).ownBlock) (.slice Ao9 x0_3.length co9) x0_3 x7_3 (wrap64 (x7_3 + x6_2)) a1 a2 t153 w0 _ ?side1 ?side2 A16.out).mono ?_); (case side1 => repeat (first | (with_reducible first | exact HB.out | apply below_alloc | apply pw_below_drewN | apply below_drew1) | exact HB.out)); (case side2 => exact Kd.R_tight rfl HO_0.out); rintro e w17 ⟨rfl, hy0, hb, hkp⟩; refine ⟨_, rfl, ?_⟩; replace HK := My.m (Kept.then_ (S := (fun k_ => P0_ k_)) My.kK hkp (fun k_ hs_ => (fun e_ => (HO_0.out.1 k_ e_.symm)) hs_)); replace HO_0 := My.m (Kd.R_reok rfl hy0 (fun k_ e_ => HO_0.out.1 k_ e_)); replace HB := My.m hb; (try clear hb); (try clear hkp); (try clear hy0)))
           (try simp only [← hl0_2, ← hl0_3])
           go_roundg k3
           case measure => have := HK1.out; have := HK2.out; have := HK3.out; omega
           case rel => exact ⟨(t153), (wrap64 (x6_2 * 2)), My.q0, H', ⟨by have := HK1.out; have := HK2.out; have := HK3.out; omega⟩, ⟨by (try simp only [hl0_2]); (try simp only [hl0_3]); (with_reducible repeat (first | apply Kd.R_alloc | apply Kd.R_drewN | apply Kd.R_drew)); exact HO_0.out⟩, ⟨My.kK⟩, ⟨My.bB⟩⟩
          ·rw [if_neg c15] at H
           have c15b0 := decide_eq_false c15; clear c15; have H' := Aside0.mk H; clear H
           go_wp2
           (try simp only [← hl0_2, ← hl0_3])
           go_roundg k3
           case measure => have := HK1.out; have := HK2.out; have := HK3.out; omega
           case rel => exact ⟨(x0_3), (wrap64 (x6_2 * 2)), My.q0, H', ⟨by have := HK1.out; have := HK2.out; have := HK3.out; omega⟩, ⟨by (try simp only [hl0_2]); (try simp only [hl0_3]); (with_reducible repeat (first | apply Kd.R_alloc | apply Kd.R_drewN | apply Kd.R_drew)); exact HO_0.out⟩, ⟨My.kK⟩, ⟨My.bB⟩⟩
      ·rw [if_neg c11] at H
       have c11b0 := decide_eq_false c11; clear c11; obtain rfl := Option.some.inj H
       go_wp2
       (first | go_end0 | ((try simp only [Exit.inBlock, Exit.then]); refine bodyPost_ret (results_none rfl _ _ _) rfl ?_)); exact ⟨My.q1, (by first | exact (My.Ra HO_0.out) | (simp only [hl0_2]; exact (My.Ra HO_0.out))), My.bB, My.kK⟩

/-! ### api_KV_46: function 46 -/
def api_KV_46.f (k : Nat) (l0 : List (S26)) (a1 : Unit) : Option ((List (S26))) := (api_KV_60.f k l0 (l0.length : Int) a1).bind fun t154 => (some t154)
theorem api_KV_46.mono : ∀ a0 a1 k, LeO (api_KV_46.f k a0 a1) (api_KV_46.f (k + 1) a0 a1) := by
  intro a0 a1 k
  unfold api_KV_46.f
  have ic0 := @api_KV_60.mono; exact My.mono_
set_option maxHeartbeats 80000000 in
set_option maxRecDepth 100000 in
theorem api_KV_46.calls (k : Nat) (P0_ : Nat → Prop) (u9000_ : Value) (l0 : List (S26)) (a1 : Unit) (r : List (S26)) (w0 w : World) {gcl : Nat} (henv : ticket_Order_1.env P0_ gcl w) (hB : Below w0.heap.size w0 w) (ho0 : Kd.R k26 26 w w0.heap.size P0_ u9000_ l0) (h : api_KV_46.f k l0 a1 = some r) :
    Calls Try.prog 46 #[u9000_, .func (.func 47) #[] #[.pointer (some ⟨gcl, 0, none⟩)]] w fun e w' => e = .returned (.tuple #[]) ∧ Kd.R k26 26 w' w0.heap.size (fun k_ => (P0_ k_ ∨ w.heap.size ≤ k_)) u9000_ r ∧ Below w0.heap.size w0 w' ∧ Kept w w' (fun k_ => P0_ k_) := by
  have HENV := Aside0.mk henv; clear henv; have HO0 := My.m (show Kd.R k26 26 w w0.heap.size (fun k_ => (P0_ k_ ∨ w.heap.size ≤ k_)) u9000_ l0 from Kd.R_mono ho0 (fun k_ hk => (.inl hk))); have HK := My.m (Kept.refl w (fun k_ => P0_ k_)); have HW0 := Aside0.mk hB.size; have HB := Aside0.mk hB; clear hB; have H := h; clear h; unfold api_KV_46.f at H; replace H := Option.bind_eq_some_iff.mp H; obtain ⟨t154, A30, H⟩ := H; have A3 := Aside0.mk A30; clear A30; obtain rfl := Option.some.inj H; obtain ⟨Ao4, co4, eo4⟩ := Kd.R_slice HO0.out; subst eo4
  go_enter Try.func46, Try.ntmps46
  go_wp2_with (first | ((with_reducible refine gate_callee (f := 60) rfl ?_); refine goesL_ (some 8) rfl rfl Try.func60 (by kernel_rfl) rfl #[.slice Ao4 l0.length co4, .int .i64 (l0.length : Int), .func (.func 47) #[] #[.pointer (some ⟨gcl, 0, none⟩)]] rfl My.ar ?_; (refine (api_KV_60.calls (henv := ticket_Order_1.call HENV.out My.kK (fun e_ => HO0.out.1 _ e_.symm)) k (fun k_ => some k_ = (.slice Ao4 l0.length co4 : Value).ownBlock) (.slice Ao4 l0.length co4) l0 (l0.length : Int) a1 t154 w0 _ ?side1 ?side2 A3.out).mono ?_); (case side1 => repeat (first | (with_reducible first | exact HB.out | apply below_alloc | apply pw_below_drewN | apply below_drew1) | exact HB.out)); (case side2 => exact Kd.R_tight rfl HO0.out); rintro e w5 ⟨rfl, hy0, hb, hkp⟩; refine ⟨_, rfl, ?_⟩; replace HK := My.m (Kept.then_ (S := (fun k_ => P0_ k_)) My.kK hkp (fun k_ hs_ => (fun e_ => (HO0.out.1 k_ e_.symm)) hs_)); replace HO0 := My.m (Kd.R_reok rfl hy0 (fun k_ e_ => HO0.out.1 k_ e_)); replace HB := My.m hb; (try clear hb); (try clear hkp); (try clear hy0)))
  (first | go_end0 | ((try simp only [Exit.inBlock, Exit.then]); refine bodyPost_ret (results_none rfl _ _ _) rfl ?_)); exact ⟨My.q1, My.Ra HO0.out, My.bB, My.kK⟩

end Go.Proofs.Ytaebmmjhokjdbaa.PM
