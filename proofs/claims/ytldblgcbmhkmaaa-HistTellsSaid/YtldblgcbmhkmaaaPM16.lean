-- made by a program of this session (wip/tools/myprint.py over the kit's print) out of the translation; Lean checks it
import Derived.Test.YtldblgcbmhkmaaaPM0
namespace Go.Proofs.Ytldblgcbmhkmaaa.PM
open Go.RowKit Go.Proofs.YtldblgcbmhkmaaaW.PrintWords Go.Proofs.YtldblgcbmhkmaaaW.PrintLast Go.Proofs.YtldblgcbmhkmaaaW.PrintMore
attribute [local go_sem] max2_int min2_int max_two min_two max_three min_three max_four min_four   -- for this text's walks alone
attribute [local go_sem high] Go.Proofs.Ytldblgcbmhkmaaa.My.str_leq Go.Proofs.Ytldblgcbmhkmaaa.My.str_gtr Go.Proofs.Ytldblgcbmhkmaaa.My.str_geq
set_option linter.unusedVariables false
set_option linter.unusedSimpArgs false

/-! ### batonref02_Check: function 33 -/
mutual
def batonref02_Check.j0 : Nat → ByteArray → Bool → Option (Bool)
  | 0, _, _ => none
  | k + 1, x0, x11 => if x11 = true then (some false) else (batonref02_Check.l0 k x0 0)
def batonref02_Check.l0 : Nat → ByteArray → Int → Option (Bool)
  | 0, _, _ => none
  | k + 1, x0, x3 => if x3 < (x0.size : Int) then (if 0 ≤ x3 then (if (bt x0 x3) < 33 then (some false) else (if (bt x0 x3) > 126 then (some false) else (batonref02_Check.l0 k x0 (wrap64 (x3 + 1))))) else (none)) else (some true)
end
def batonref02_Check.f (k : Nat) (a0 : ByteArray) : Option (Bool) := if (a0.size : Int) < 1 then (batonref02_Check.j0 k a0 true) else (batonref02_Check.j0 k a0 (decide ((a0.size : Int) > 40)))
theorem batonref02_Check.mono_l : ∀ k, (∀ y0 y1, LeO (batonref02_Check.j0 k y0 y1) (batonref02_Check.j0 (k + 1) y0 y1)) ∧ (∀ y0 y1, LeO (batonref02_Check.l0 k y0 y1) (batonref02_Check.l0 (k + 1) y0 y1))
  | 0 => ⟨fun _ _ r h => by simp [batonref02_Check.j0] at h, fun _ _ r h => by simp [batonref02_Check.l0] at h⟩
  | k + 1 => by
    obtain ⟨ih0, ih1⟩ := batonref02_Check.mono_l k
    refine ⟨?_, ?_⟩
    · intro y0 y1
      unfold batonref02_Check.j0
      repeat' first
      | (with_reducible exact ih0 _ _)
      | (with_reducible exact ih1 _ _)
      | (with_reducible exact LeO.refl _)
      | (with_reducible exact LeO.none _)
      | (with_reducible refine LeO.ite ?_ ?_)
      | (with_reducible refine LeO.bind ?_ (fun _ => ?_))
      | exact ih0 _ _
      | exact ih1 _ _
      | exact LeO.none _
      | refine LeO.ite ?_ ?_
      | refine LeO.bind ?_ (fun _ => ?_)
    · intro y0 y1
      unfold batonref02_Check.l0
      repeat' first
      | (with_reducible exact ih0 _ _)
      | (with_reducible exact ih1 _ _)
      | (with_reducible exact LeO.refl _)
      | (with_reducible exact LeO.none _)
      | (with_reducible refine LeO.ite ?_ ?_)
      | (with_reducible refine LeO.bind ?_ (fun _ => ?_))
      | exact ih0 _ _
      | exact ih1 _ _
      | exact LeO.none _
      | refine LeO.ite ?_ ?_
      | refine LeO.bind ?_ (fun _ => ?_)
theorem batonref02_Check.mono : ∀ a0 k, LeO (batonref02_Check.f k a0) (batonref02_Check.f (k + 1) a0) := by
  intro a0 k
  obtain ⟨ih0, ih1⟩ := batonref02_Check.mono_l k
  unfold batonref02_Check.f
  repeat' first
      | (with_reducible exact ih0 _ _)
      | (with_reducible exact ih1 _ _)
      | (with_reducible exact LeO.refl _)
      | (with_reducible exact LeO.none _)
      | (with_reducible refine LeO.ite ?_ ?_)
      | (with_reducible refine LeO.bind ?_ (fun _ => ?_))
      | exact ih0 _ _
      | exact ih1 _ _
      | exact LeO.none _
      | refine LeO.ite ?_ ?_
      | refine LeO.bind ?_ (fun _ => ?_)
set_option maxHeartbeats 8000000 in
set_option maxRecDepth 100000 in
theorem batonref02_Check.calls (k : Nat) (a0 : ByteArray) (r : Bool) (w : World) (h : batonref02_Check.f k a0 = some r) :
    Calls Try.prog 33 #[.string a0] w fun e w' => e = .returned (.bool r) ∧ Drawn0 w w' := by
  have H : (if (a0.size : Int) < 1 then (batonref02_Check.j0 k a0 true) else (batonref02_Check.j0 k a0 (decide ((a0.size : Int) > 40)))) = some r := h
  clear h
  have HC2 := Aside0.mk H
  clear H
  go_enter Try.func33, Try.ntmps33
  go_upto_region 1 with (fail)
  go_cut [11] (fun v11 wc => ∃ (kq : Nat) (x11_1 : Bool), v11 = .bool x11_1 ∧ Aside0 (batonref02_Check.j0 kq a0 x11_1 = some r) ∧ Aside0 (kq ≤ k) ∧ Drawn0 w wc)
  case first =>
    have H := HC2.out
    clear HC2
    by_cases c3 : (a0.size : Int) < 1
    · rw [if_pos c3] at H
      have c3b0 : decide ((a0.size : Int) < 1) = true := decide_eq_true c3
      have c3b1 : decide (a0.size < 1) = true := decide_eq_true (by omega)
      clear c3
      (first | rw [c3b0] | (simp only [i64_w, i32_w]; rw [c3b0]) | skip)
      have H' := Aside0.mk H
      clear H
      go_wp2
      go_meet
      case rel => exact ⟨_, (true), (by first | rfl | (simp; done) | (simp [*]; done)), H', ⟨by first | omega | exact Nat.le_refl _⟩, by repeat (first | exact Drawn0.refl _ | apply Drawn0.step)⟩
    · rw [if_neg c3] at H
      have c3b0 : decide ((a0.size : Int) < 1) = false := decide_eq_false c3
      have c3b1 : decide (a0.size < 1) = false := decide_eq_false (by omega)
      clear c3
      (first | rw [c3b0] | (simp only [i64_w, i32_w]; rw [c3b0]) | skip)
      have H' := Aside0.mk H
      clear H
      go_wp2
      go_meet
      case rel => exact ⟨_, (decide ((a0.size : Int) > 40)), (by first | rfl | (simp; done) | (simp [*]; done)), H', ⟨by first | omega | exact Nat.le_refl _⟩, by repeat (first | exact Drawn0.refl _ | apply Drawn0.step)⟩
  case rest =>
    clear HC2
    try clear p2
    try clear c3
    try clear c3b0
    try clear c3b1
    obtain ⟨kq, x11_1, rfl, HA, HJ1, ⟨mc1, rfl⟩⟩ := hcut
    cases kq with
    | zero => exact absurd HA.out (by simp [batonref02_Check.j0])
    | succ kj1 =>
      have H := HA.out
      clear HA
      simp only [batonref02_Check.j0] at H
      by_cases c4 : x11_1 = true
      · subst c4
        have H1 : (some false) = some r := by rw [if_pos rfl] at H; exact H
        clear H
        have H := H1
        clear H1
        obtain rfl := Option.some.inj H
        go_wp2
        go_ret
        exact ⟨by first | rfl | (simp; done) | (simp [*]; done), by repeat (first | exact Drawn0.refl _ | apply Drawn0.step)⟩
      · replace c4 := Bool.eq_false_iff.mpr c4
        subst c4
        have H1 : (batonref02_Check.l0 kj1 a0 0) = some r := by rw [if_neg (show ¬ (false = true) by decide)] at H; exact H
        clear H
        have H := H1
        clear H1
        have H' := Aside0.mk H
        clear H
        go_wp2
        go_loopg [3] kj1 (fun kq v3 w' => ∃ (x3_2 : Int), v3 = .int .i64 x3_2 ∧ Aside0 (batonref02_Check.l0 kq a0 x3_2 = some r) ∧ Aside0 (kq ≤ kj1) ∧ Drawn0 w w')
        case atStart => exact ⟨(0), (by first | rfl | (simp; done) | (simp [*]; done)), H', ⟨Nat.le_refl _⟩, by repeat (first | exact Drawn0.refl _ | apply Drawn0.step)⟩
        case round =>
          clear H'
          try clear c1
          try clear p2
          try clear c3
          try clear c3b0
          try clear c3b1
          try clear c4
          try clear p2
          obtain ⟨x3_2, rfl, HA, HK2, ⟨m2, rfl⟩⟩ := hrel
          cases gk with
          | zero => exact absurd HA.out (by simp [batonref02_Check.l0])
          | succ k2 =>
            have H := HA.out
            clear HA
            simp only [batonref02_Check.l0] at H
            by_cases c5 : x3_2 < (a0.size : Int)
            · rw [if_pos c5] at H
              have c5b0 : decide (x3_2 < (a0.size : Int)) = true := decide_eq_true c5
              clear c5
              by_cases c6 : 0 ≤ x3_2
              · rw [if_pos c6] at H
                have c6b0 : decide (0 ≤ x3_2) = true := decide_eq_true c6
                clear c6
                by_cases c8 : (bt a0 x3_2) < 33
                · rw [if_pos c8] at H
                  have c8b0 : decide ((bt a0 x3_2) < 33) = true := decide_eq_true c8
                  clear c8
                  obtain rfl := Option.some.inj H
                  have p7 : 0 ≤ (x3_2 : Int) := of_decide_eq_true (by first | (with_reducible assumption) | assumption)
                  have q7 : x3_2 < (a0.size : Int) := of_decide_eq_true (by first | (with_reducible assumption) | assumption)
                  have hx7 := bt_at a0 x3_2
                  replace p7 := eq_true p7
                  replace q7 := eq_true q7
                  go_wp2
                  go_ret
                  exact ⟨by first | rfl | (simp; done) | (simp [*]; done), by repeat (first | exact Drawn0.refl _ | apply Drawn0.step)⟩
                · rw [if_neg c8] at H
                  have c8b0 : decide ((bt a0 x3_2) < 33) = false := decide_eq_false c8
                  clear c8
                  by_cases c10 : (bt a0 x3_2) > 126
                  · rw [if_pos c10] at H
                    have c10b0 : decide (126 < (bt a0 x3_2)) = true := decide_eq_true c10
                    clear c10
                    obtain rfl := Option.some.inj H
                    have p7 : 0 ≤ (x3_2 : Int) := of_decide_eq_true (by first | (with_reducible assumption) | assumption)
                    have q7 : x3_2 < (a0.size : Int) := of_decide_eq_true (by first | (with_reducible assumption) | assumption)
                    have hx7 := bt_at a0 x3_2
                    replace p7 := eq_true p7
                    replace q7 := eq_true q7
                    have p9 : 0 ≤ (x3_2 : Int) := of_decide_eq_true (by first | (with_reducible assumption) | assumption)
                    have q9 : x3_2 < (a0.size : Int) := of_decide_eq_true (by first | (with_reducible assumption) | assumption)
                    have hx9 := bt_at a0 x3_2
                    replace p9 := eq_true p9
                    replace q9 := eq_true q9
                    go_wp2
                    go_ret
                    exact ⟨by first | rfl | (simp; done) | (simp [*]; done), by repeat (first | exact Drawn0.refl _ | apply Drawn0.step)⟩
                  · rw [if_neg c10] at H
                    have c10b0 : decide (126 < (bt a0 x3_2)) = false := decide_eq_false c10
                    clear c10
                    have H' := Aside0.mk H
                    clear H
                    have p7 : 0 ≤ (x3_2 : Int) := of_decide_eq_true (by first | (with_reducible assumption) | assumption)
                    have q7 : x3_2 < (a0.size : Int) := of_decide_eq_true (by first | (with_reducible assumption) | assumption)
                    have hx7 := bt_at a0 x3_2
                    replace p7 := eq_true p7
                    replace q7 := eq_true q7
                    have p9 : 0 ≤ (x3_2 : Int) := of_decide_eq_true (by first | (with_reducible assumption) | assumption)
                    have q9 : x3_2 < (a0.size : Int) := of_decide_eq_true (by first | (with_reducible assumption) | assumption)
                    have hx9 := bt_at a0 x3_2
                    replace p9 := eq_true p9
                    replace q9 := eq_true q9
                    go_wp2
                    go_roundg k2
                    case measure => have := HJ1.out; have := HK2.out; omega
                    case rel => exact ⟨(wrap64 (x3_2 + 1)), (by first | rfl | (simp; done) | (simp [*]; done)), H', ⟨by have := HJ1.out; have := HK2.out; omega⟩, by repeat (first | exact Drawn0.refl _ | apply Drawn0.step)⟩
              · rw [if_neg c6] at H
                exact absurd H (by simp)
            · rw [if_neg c5] at H
              have c5b0 : decide (x3_2 < (a0.size : Int)) = false := decide_eq_false c5
              clear c5
              obtain rfl := Option.some.inj H
              go_wp2
              go_ret
              exact ⟨by first | rfl | (simp; done) | (simp [*]; done), by repeat (first | exact Drawn0.refl _ | apply Drawn0.step)⟩

/-! ### batonref04_One: function 25 -/
def batonref04_One.f (k : Nat) (a0_0 : ByteArray) (a0_1 : ByteArray) (a0_2 : Int) (a0_3 : Int) (a0_4 : Int) (a0_5 : Int) : Option (Bool) := (batonref02_Check.f k a0_0).bind fun t381 => (if t381 = true then (if (a0_1.size : Int) > 20 then (some false) else (if a0_2 < 1 then (some false) else (if a0_2 > 1099511627775 then (some false) else (if a0_3 ≥ a0_2 then (if a0_3 ≤ 1099511627775 then (if a0_4 ≥ 1 then (if a0_4 ≤ (wrap64 ((wrap64 (a0_3 - a0_2)) + 1)) then (if a0_5 ≥ 0 then (some (decide (a0_5 ≤ 1099511627775))) else (some false)) else (some false)) else (some false)) else (some false)) else (some false))))) else (some false))
theorem batonref04_One.mono : ∀ a0 a1 a2 a3 a4 a5 k, LeO (batonref04_One.f k a0 a1 a2 a3 a4 a5) (batonref04_One.f (k + 1) a0 a1 a2 a3 a4 a5) := by
 intro a0 a1 a2 a3 a4 a5 k
 unfold batonref04_One.f
 repeat' first
   | (with_reducible exact batonref02_Check.mono _ _)
   | (with_reducible exact LeO.refl _)
   | (with_reducible exact LeO.none _)
   | (with_reducible refine LeO.ite ?_ ?_)
   | (with_reducible refine LeO.bind ?_ (fun _ => ?_))
   | exact batonref02_Check.mono _ _
   | exact LeO.none _
   | refine LeO.ite ?_ ?_
   | refine LeO.bind ?_ (fun _ => ?_)
set_option maxHeartbeats 8000000 in
set_option maxRecDepth 100000 in
theorem batonref04_One.calls (k : Nat) (a0_0 : ByteArray) (a0_1 : ByteArray) (a0_2 : Int) (a0_3 : Int) (a0_4 : Int) (a0_5 : Int) (r : Bool) (w : World) (h : batonref04_One.f k a0_0 a0_1 a0_2 a0_3 a0_4 a0_5 = some r) :
  Calls Try.prog 25 #[.agg #[.string a0_0, .string a0_1, .int .i64 a0_2, .int .i64 a0_3, .int .i64 a0_4, .int .i64 a0_5]] w fun e w' => e = .returned (.bool r) ∧ Below w.heap.size w w' := by
 have hu26 := Try.underlying26
 have HB := Aside0.mk (Below.refl w.heap.size w)
 have H : ((batonref02_Check.f k a0_0).bind fun t381 => (if t381 = true then (if (a0_1.size : Int) > 20 then (some false) else (if a0_2 < 1 then (some false) else (if a0_2 > 1099511627775 then (some false) else (if a0_3 ≥ a0_2 then (if a0_3 ≤ 1099511627775 then (if a0_4 ≥ 1 then (if a0_4 ≤ (wrap64 ((wrap64 (a0_3 - a0_2)) + 1)) then (if a0_5 ≥ 0 then (some (decide (a0_5 ≤ 1099511627775))) else (some false)) else (some false)) else (some false)) else (some false)) else (some false))))) else (some false))) = some r := h
 clear h
 replace H := Option.bind_eq_some_iff.mp H
 obtain ⟨t381, A20, H⟩ := H
 have A2 := Aside0.mk A20
 clear A20
 by_cases c3 : t381 = true
 ·subst c3
  have H1 := H
  rw [if_pos rfl] at H1
  clear H
  have H := H1
  clear H1
  by_cases c4 : (a0_1.size : Int) > 20
  ·rw [if_pos c4] at H
   have c4b0 : decide (20 < (a0_1.size : Int)) = true := decide_eq_true c4
   have c4b1 : decide (20 < a0_1.size) = true := decide_eq_true (by omega)
   clear c4
   obtain rfl := Option.some.inj H
   go_enter Try.func25, Try.ntmps25
   go_wp2_with (first | ((with_reducible refine gate_dst (N := 1) rfl ?_); (try (refine gate_guard (by rfl) ?_; dsimp only)); refine box_event ?hg (N := 1) ?hd (cs := #[.string a0_0, .string a0_1, .int .i64 a0_2, .int .i64 a0_3, .int .i64 a0_4, .int .i64 a0_5]) (t := 26) ?hr ?_; (case hd => rfl); (case hg => rfl); (case hr => first | (go_simp; done) | (go_simp; rfl)); intro gb380 hg w5 hbox hb; have n0_ := Aside0.mk (below_step (by repeat (first | (with_reducible first | exact HB.out | apply below_alloc | apply pw_below_drewN | apply below_drew1) | exact HB.out)) hb); have n1_ := Aside0.mk (hbox); have n2_ := Aside0.mk ((by rw [hg]; exact (below_size (by repeat (first | (with_reducible first | exact HB.out | apply below_alloc | apply pw_below_drewN | apply below_drew1) | exact HB.out))) : w.heap.size ≤ gb380)); have n3_ := Aside0.mk ((by rw [hg]; exact (below_size (by repeat (first | (with_reducible first | exact HB.out | apply below_alloc | apply pw_below_drewN | apply below_drew1) | exact HB.out))) : w.heap.size ≤ gb380)); clear HB; have HB := n0_; have BK380 := n1_; have GW380 := n2_; have GE380 := n3_; clear n0_ n1_ n2_ n3_; clear hb hbox hg; have hcz6_0 : w5.cell? ⟨gb380, 0, none⟩ = some (.string a0_0) := (blk_cell BK380.out 0).trans rfl; have hcz6_1 : w5.cell? ⟨gb380, 1, none⟩ = some (.string a0_1) := (blk_cell BK380.out 1).trans rfl; have hcz6_2 : w5.cell? ⟨gb380, 2, none⟩ = some (.int .i64 a0_2) := (blk_cell BK380.out 2).trans rfl; have hcz6_3 : w5.cell? ⟨gb380, 3, none⟩ = some (.int .i64 a0_3) := (blk_cell BK380.out 3).trans rfl; have hcz6_4 : w5.cell? ⟨gb380, 4, none⟩ = some (.int .i64 a0_4) := (blk_cell BK380.out 4).trans rfl; have hcz6_5 : w5.cell? ⟨gb380, 5, none⟩ = some (.int .i64 a0_5) := (blk_cell BK380.out 5).trans rfl; have hfz6_0 := blk_frozen BK380.out 0; have hfz6_1 := blk_frozen BK380.out 1; have hfz6_2 := blk_frozen BK380.out 2; have hfz6_3 := blk_frozen BK380.out 3; have hfz6_4 := blk_frozen BK380.out 4; have hfz6_5 := blk_frozen BK380.out 5) | ((with_reducible refine gate_callee (f := 33) rfl ?_); refine goesL_ (some 5) rfl rfl Try.func33 (by kernel_rfl) rfl #[.string a0_0] rfl (by (try simp only [List.map_toArray, List.map_cons, List.map_nil]); first | done | rfl | (simp only [List.length_drop, List.length_take]; rfl)) ?_; (with_reducible refine (batonref02_Check.calls k a0_0 true _ A2.out).mono ?_); rintro e w' ⟨rfl, ⟨nd, rfl⟩⟩; refine ⟨_, rfl, ?_⟩))
   go_ret
   exact ⟨by first | rfl | (simp [*] <;> rfl), by repeat (first | (with_reducible first | exact HB.out | apply below_alloc | apply pw_below_drewN | apply below_drew1 | refine below_set ?_ GE380.out) | exact HB.out)⟩
  ·rw [if_neg c4] at H
   have c4b0 : decide (20 < (a0_1.size : Int)) = false := decide_eq_false c4
   have c4b1 : decide (20 < a0_1.size) = false := decide_eq_false (by omega)
   clear c4
   by_cases c7 : a0_2 < 1
   ·rw [if_pos c7] at H
    have c7b0 : decide (a0_2 < 1) = true := decide_eq_true c7
    clear c7
    obtain rfl := Option.some.inj H
    go_enter Try.func25, Try.ntmps25
    go_wp2_with (first | ((with_reducible refine gate_dst (N := 1) rfl ?_); (try (refine gate_guard (by rfl) ?_; dsimp only)); refine box_event ?hg (N := 1) ?hd (cs := #[.string a0_0, .string a0_1, .int .i64 a0_2, .int .i64 a0_3, .int .i64 a0_4, .int .i64 a0_5]) (t := 26) ?hr ?_; (case hd => rfl); (case hg => rfl); (case hr => first | (go_simp; done) | (go_simp; rfl)); intro gb380 hg w8 hbox hb; have n0_ := Aside0.mk (below_step (by repeat (first | (with_reducible first | exact HB.out | apply below_alloc | apply pw_below_drewN | apply below_drew1) | exact HB.out)) hb); have n1_ := Aside0.mk (hbox); have n2_ := Aside0.mk ((by rw [hg]; exact (below_size (by repeat (first | (with_reducible first | exact HB.out | apply below_alloc | apply pw_below_drewN | apply below_drew1) | exact HB.out))) : w.heap.size ≤ gb380)); have n3_ := Aside0.mk ((by rw [hg]; exact (below_size (by repeat (first | (with_reducible first | exact HB.out | apply below_alloc | apply pw_below_drewN | apply below_drew1) | exact HB.out))) : w.heap.size ≤ gb380)); clear HB; have HB := n0_; have BK380 := n1_; have GW380 := n2_; have GE380 := n3_; clear n0_ n1_ n2_ n3_; clear hb hbox hg; have hcz9_0 : w8.cell? ⟨gb380, 0, none⟩ = some (.string a0_0) := (blk_cell BK380.out 0).trans rfl; have hcz9_1 : w8.cell? ⟨gb380, 1, none⟩ = some (.string a0_1) := (blk_cell BK380.out 1).trans rfl; have hcz9_2 : w8.cell? ⟨gb380, 2, none⟩ = some (.int .i64 a0_2) := (blk_cell BK380.out 2).trans rfl; have hcz9_3 : w8.cell? ⟨gb380, 3, none⟩ = some (.int .i64 a0_3) := (blk_cell BK380.out 3).trans rfl; have hcz9_4 : w8.cell? ⟨gb380, 4, none⟩ = some (.int .i64 a0_4) := (blk_cell BK380.out 4).trans rfl; have hcz9_5 : w8.cell? ⟨gb380, 5, none⟩ = some (.int .i64 a0_5) := (blk_cell BK380.out 5).trans rfl; have hfz9_0 := blk_frozen BK380.out 0; have hfz9_1 := blk_frozen BK380.out 1; have hfz9_2 := blk_frozen BK380.out 2; have hfz9_3 := blk_frozen BK380.out 3; have hfz9_4 := blk_frozen BK380.out 4; have hfz9_5 := blk_frozen BK380.out 5) | ((with_reducible refine gate_callee (f := 33) rfl ?_); refine goesL_ (some 5) rfl rfl Try.func33 (by kernel_rfl) rfl #[.string a0_0] rfl (by (try simp only [List.map_toArray, List.map_cons, List.map_nil]); first | done | rfl | (simp only [List.length_drop, List.length_take]; rfl)) ?_; (with_reducible refine (batonref02_Check.calls k a0_0 true _ A2.out).mono ?_); rintro e w' ⟨rfl, ⟨nd, rfl⟩⟩; refine ⟨_, rfl, ?_⟩))
    go_ret
    exact ⟨by first | rfl | (simp [*] <;> rfl), by repeat (first | (with_reducible first | exact HB.out | apply below_alloc | apply pw_below_drewN | apply below_drew1 | refine below_set ?_ GE380.out) | exact HB.out)⟩
   ·rw [if_neg c7] at H
    have c7b0 : decide (a0_2 < 1) = false := decide_eq_false c7
    clear c7
    by_cases c10 : a0_2 > 1099511627775
    ·rw [if_pos c10] at H
     have c10b0 : decide (1099511627775 < a0_2) = true := decide_eq_true c10
     clear c10
     obtain rfl := Option.some.inj H
     go_enter Try.func25, Try.ntmps25
     go_wp2_with (first | ((with_reducible refine gate_dst (N := 1) rfl ?_); (try (refine gate_guard (by rfl) ?_; dsimp only)); refine box_event ?hg (N := 1) ?hd (cs := #[.string a0_0, .string a0_1, .int .i64 a0_2, .int .i64 a0_3, .int .i64 a0_4, .int .i64 a0_5]) (t := 26) ?hr ?_; (case hd => rfl); (case hg => rfl); (case hr => first | (go_simp; done) | (go_simp; rfl)); intro gb380 hg w11 hbox hb; have n0_ := Aside0.mk (below_step (by repeat (first | (with_reducible first | exact HB.out | apply below_alloc | apply pw_below_drewN | apply below_drew1) | exact HB.out)) hb); have n1_ := Aside0.mk (hbox); have n2_ := Aside0.mk ((by rw [hg]; exact (below_size (by repeat (first | (with_reducible first | exact HB.out | apply below_alloc | apply pw_below_drewN | apply below_drew1) | exact HB.out))) : w.heap.size ≤ gb380)); have n3_ := Aside0.mk ((by rw [hg]; exact (below_size (by repeat (first | (with_reducible first | exact HB.out | apply below_alloc | apply pw_below_drewN | apply below_drew1) | exact HB.out))) : w.heap.size ≤ gb380)); clear HB; have HB := n0_; have BK380 := n1_; have GW380 := n2_; have GE380 := n3_; clear n0_ n1_ n2_ n3_; clear hb hbox hg; have hcz12_0 : w11.cell? ⟨gb380, 0, none⟩ = some (.string a0_0) := (blk_cell BK380.out 0).trans rfl; have hcz12_1 : w11.cell? ⟨gb380, 1, none⟩ = some (.string a0_1) := (blk_cell BK380.out 1).trans rfl; have hcz12_2 : w11.cell? ⟨gb380, 2, none⟩ = some (.int .i64 a0_2) := (blk_cell BK380.out 2).trans rfl; have hcz12_3 : w11.cell? ⟨gb380, 3, none⟩ = some (.int .i64 a0_3) := (blk_cell BK380.out 3).trans rfl; have hcz12_4 : w11.cell? ⟨gb380, 4, none⟩ = some (.int .i64 a0_4) := (blk_cell BK380.out 4).trans rfl; have hcz12_5 : w11.cell? ⟨gb380, 5, none⟩ = some (.int .i64 a0_5) := (blk_cell BK380.out 5).trans rfl; have hfz12_0 := blk_frozen BK380.out 0; have hfz12_1 := blk_frozen BK380.out 1; have hfz12_2 := blk_frozen BK380.out 2; have hfz12_3 := blk_frozen BK380.out 3; have hfz12_4 := blk_frozen BK380.out 4; have hfz12_5 := blk_frozen BK380.out 5) | ((with_reducible refine gate_callee (f := 33) rfl ?_); refine goesL_ (some 5) rfl rfl Try.func33 (by kernel_rfl) rfl #[.string a0_0] rfl (by (try simp only [List.map_toArray, List.map_cons, List.map_nil]); first | done | rfl | (simp only [List.length_drop, List.length_take]; rfl)) ?_; (with_reducible refine (batonref02_Check.calls k a0_0 true _ A2.out).mono ?_); rintro e w' ⟨rfl, ⟨nd, rfl⟩⟩; refine ⟨_, rfl, ?_⟩))
     go_ret
     exact ⟨by first | rfl | (simp [*] <;> rfl), by repeat (first | (with_reducible first | exact HB.out | apply below_alloc | apply pw_below_drewN | apply below_drew1 | refine below_set ?_ GE380.out) | exact HB.out)⟩
    ·rw [if_neg c10] at H
     have c10b0 : decide (1099511627775 < a0_2) = false := decide_eq_false c10
     clear c10
     by_cases c13 : a0_3 ≥ a0_2
     ·rw [if_pos c13] at H
      have c13b0 : decide (a0_2 ≤ a0_3) = true := decide_eq_true c13
      clear c13
      by_cases c14 : a0_3 ≤ 1099511627775
      ·rw [if_pos c14] at H
       have c14b0 : decide (a0_3 ≤ 1099511627775) = true := decide_eq_true c14
       clear c14
       by_cases c15 : a0_4 ≥ 1
       ·rw [if_pos c15] at H
        have c15b0 : decide (1 ≤ a0_4) = true := decide_eq_true c15
        clear c15
        by_cases c16 : a0_4 ≤ (wrap64 ((wrap64 (a0_3 - a0_2)) + 1))
        ·rw [if_pos c16] at H
         have c16b0 : decide (a0_4 ≤ (wrap64 ((wrap64 (a0_3 - a0_2)) + 1))) = true := decide_eq_true c16
         clear c16
         by_cases c17 : a0_5 ≥ 0
         ·rw [if_pos c17] at H
          have c17b0 : decide (0 ≤ a0_5) = true := decide_eq_true c17
          clear c17
          obtain rfl := Option.some.inj H
          go_enter Try.func25, Try.ntmps25
          go_wp2_with (first | ((with_reducible refine gate_dst (N := 1) rfl ?_); (try (refine gate_guard (by rfl) ?_; dsimp only)); refine box_event ?hg (N := 1) ?hd (cs := #[.string a0_0, .string a0_1, .int .i64 a0_2, .int .i64 a0_3, .int .i64 a0_4, .int .i64 a0_5]) (t := 26) ?hr ?_; (case hd => rfl); (case hg => rfl); (case hr => first | (go_simp; done) | (go_simp; rfl)); intro gb380 hg w18 hbox hb; have n0_ := Aside0.mk (below_step (by repeat (first | (with_reducible first | exact HB.out | apply below_alloc | apply pw_below_drewN | apply below_drew1) | exact HB.out)) hb); have n1_ := Aside0.mk (hbox); have n2_ := Aside0.mk ((by rw [hg]; exact (below_size (by repeat (first | (with_reducible first | exact HB.out | apply below_alloc | apply pw_below_drewN | apply below_drew1) | exact HB.out))) : w.heap.size ≤ gb380)); have n3_ := Aside0.mk ((by rw [hg]; exact (below_size (by repeat (first | (with_reducible first | exact HB.out | apply below_alloc | apply pw_below_drewN | apply below_drew1) | exact HB.out))) : w.heap.size ≤ gb380)); clear HB; have HB := n0_; have BK380 := n1_; have GW380 := n2_; have GE380 := n3_; clear n0_ n1_ n2_ n3_; clear hb hbox hg; have hcz19_0 : w18.cell? ⟨gb380, 0, none⟩ = some (.string a0_0) := (blk_cell BK380.out 0).trans rfl; have hcz19_1 : w18.cell? ⟨gb380, 1, none⟩ = some (.string a0_1) := (blk_cell BK380.out 1).trans rfl; have hcz19_2 : w18.cell? ⟨gb380, 2, none⟩ = some (.int .i64 a0_2) := (blk_cell BK380.out 2).trans rfl; have hcz19_3 : w18.cell? ⟨gb380, 3, none⟩ = some (.int .i64 a0_3) := (blk_cell BK380.out 3).trans rfl; have hcz19_4 : w18.cell? ⟨gb380, 4, none⟩ = some (.int .i64 a0_4) := (blk_cell BK380.out 4).trans rfl; have hcz19_5 : w18.cell? ⟨gb380, 5, none⟩ = some (.int .i64 a0_5) := (blk_cell BK380.out 5).trans rfl; have hfz19_0 := blk_frozen BK380.out 0; have hfz19_1 := blk_frozen BK380.out 1; have hfz19_2 := blk_frozen BK380.out 2; have hfz19_3 := blk_frozen BK380.out 3; have hfz19_4 := blk_frozen BK380.out 4; have hfz19_5 := blk_frozen BK380.out 5) | ((with_reducible refine gate_callee (f := 33) rfl ?_); refine goesL_ (some 5) rfl rfl Try.func33 (by kernel_rfl) rfl #[.string a0_0] rfl (by (try simp only [List.map_toArray, List.map_cons, List.map_nil]); first | done | rfl | (simp only [List.length_drop, List.length_take]; rfl)) ?_; (with_reducible refine (batonref02_Check.calls k a0_0 true _ A2.out).mono ?_); rintro e w' ⟨rfl, ⟨nd, rfl⟩⟩; refine ⟨_, rfl, ?_⟩))
          go_ret
          exact ⟨by first | rfl | (simp [*] <;> rfl), by repeat (first | (with_reducible first | exact HB.out | apply below_alloc | apply pw_below_drewN | apply below_drew1 | refine below_set ?_ GE380.out) | exact HB.out)⟩
         ·rw [if_neg c17] at H
          have c17b0 : decide (0 ≤ a0_5) = false := decide_eq_false c17
          clear c17
          obtain rfl := Option.some.inj H
          go_enter Try.func25, Try.ntmps25
          go_wp2_with (first | ((with_reducible refine gate_dst (N := 1) rfl ?_); (try (refine gate_guard (by rfl) ?_; dsimp only)); refine box_event ?hg (N := 1) ?hd (cs := #[.string a0_0, .string a0_1, .int .i64 a0_2, .int .i64 a0_3, .int .i64 a0_4, .int .i64 a0_5]) (t := 26) ?hr ?_; (case hd => rfl); (case hg => rfl); (case hr => first | (go_simp; done) | (go_simp; rfl)); intro gb380 hg w20 hbox hb; have n0_ := Aside0.mk (below_step (by repeat (first | (with_reducible first | exact HB.out | apply below_alloc | apply pw_below_drewN | apply below_drew1) | exact HB.out)) hb); have n1_ := Aside0.mk (hbox); have n2_ := Aside0.mk ((by rw [hg]; exact (below_size (by repeat (first | (with_reducible first | exact HB.out | apply below_alloc | apply pw_below_drewN | apply below_drew1) | exact HB.out))) : w.heap.size ≤ gb380)); have n3_ := Aside0.mk ((by rw [hg]; exact (below_size (by repeat (first | (with_reducible first | exact HB.out | apply below_alloc | apply pw_below_drewN | apply below_drew1) | exact HB.out))) : w.heap.size ≤ gb380)); clear HB; have HB := n0_; have BK380 := n1_; have GW380 := n2_; have GE380 := n3_; clear n0_ n1_ n2_ n3_; clear hb hbox hg; have hcz21_0 : w20.cell? ⟨gb380, 0, none⟩ = some (.string a0_0) := (blk_cell BK380.out 0).trans rfl; have hcz21_1 : w20.cell? ⟨gb380, 1, none⟩ = some (.string a0_1) := (blk_cell BK380.out 1).trans rfl; have hcz21_2 : w20.cell? ⟨gb380, 2, none⟩ = some (.int .i64 a0_2) := (blk_cell BK380.out 2).trans rfl; have hcz21_3 : w20.cell? ⟨gb380, 3, none⟩ = some (.int .i64 a0_3) := (blk_cell BK380.out 3).trans rfl; have hcz21_4 : w20.cell? ⟨gb380, 4, none⟩ = some (.int .i64 a0_4) := (blk_cell BK380.out 4).trans rfl; have hcz21_5 : w20.cell? ⟨gb380, 5, none⟩ = some (.int .i64 a0_5) := (blk_cell BK380.out 5).trans rfl; have hfz21_0 := blk_frozen BK380.out 0; have hfz21_1 := blk_frozen BK380.out 1; have hfz21_2 := blk_frozen BK380.out 2; have hfz21_3 := blk_frozen BK380.out 3; have hfz21_4 := blk_frozen BK380.out 4; have hfz21_5 := blk_frozen BK380.out 5) | ((with_reducible refine gate_callee (f := 33) rfl ?_); refine goesL_ (some 5) rfl rfl Try.func33 (by kernel_rfl) rfl #[.string a0_0] rfl (by (try simp only [List.map_toArray, List.map_cons, List.map_nil]); first | done | rfl | (simp only [List.length_drop, List.length_take]; rfl)) ?_; (with_reducible refine (batonref02_Check.calls k a0_0 true _ A2.out).mono ?_); rintro e w' ⟨rfl, ⟨nd, rfl⟩⟩; refine ⟨_, rfl, ?_⟩))
          go_ret
          exact ⟨by first | rfl | (simp [*] <;> rfl), by repeat (first | (with_reducible first | exact HB.out | apply below_alloc | apply pw_below_drewN | apply below_drew1 | refine below_set ?_ GE380.out) | exact HB.out)⟩
        ·rw [if_neg c16] at H
         have c16b0 : decide (a0_4 ≤ (wrap64 ((wrap64 (a0_3 - a0_2)) + 1))) = false := decide_eq_false c16
         clear c16
         obtain rfl := Option.some.inj H
         go_enter Try.func25, Try.ntmps25
         go_wp2_with (first | ((with_reducible refine gate_dst (N := 1) rfl ?_); (try (refine gate_guard (by rfl) ?_; dsimp only)); refine box_event ?hg (N := 1) ?hd (cs := #[.string a0_0, .string a0_1, .int .i64 a0_2, .int .i64 a0_3, .int .i64 a0_4, .int .i64 a0_5]) (t := 26) ?hr ?_; (case hd => rfl); (case hg => rfl); (case hr => first | (go_simp; done) | (go_simp; rfl)); intro gb380 hg w22 hbox hb; have n0_ := Aside0.mk (below_step (by repeat (first | (with_reducible first | exact HB.out | apply below_alloc | apply pw_below_drewN | apply below_drew1) | exact HB.out)) hb); have n1_ := Aside0.mk (hbox); have n2_ := Aside0.mk ((by rw [hg]; exact (below_size (by repeat (first | (with_reducible first | exact HB.out | apply below_alloc | apply pw_below_drewN | apply below_drew1) | exact HB.out))) : w.heap.size ≤ gb380)); have n3_ := Aside0.mk ((by rw [hg]; exact (below_size (by repeat (first | (with_reducible first | exact HB.out | apply below_alloc | apply pw_below_drewN | apply below_drew1) | exact HB.out))) : w.heap.size ≤ gb380)); clear HB; have HB := n0_; have BK380 := n1_; have GW380 := n2_; have GE380 := n3_; clear n0_ n1_ n2_ n3_; clear hb hbox hg; have hcz23_0 : w22.cell? ⟨gb380, 0, none⟩ = some (.string a0_0) := (blk_cell BK380.out 0).trans rfl; have hcz23_1 : w22.cell? ⟨gb380, 1, none⟩ = some (.string a0_1) := (blk_cell BK380.out 1).trans rfl; have hcz23_2 : w22.cell? ⟨gb380, 2, none⟩ = some (.int .i64 a0_2) := (blk_cell BK380.out 2).trans rfl; have hcz23_3 : w22.cell? ⟨gb380, 3, none⟩ = some (.int .i64 a0_3) := (blk_cell BK380.out 3).trans rfl; have hcz23_4 : w22.cell? ⟨gb380, 4, none⟩ = some (.int .i64 a0_4) := (blk_cell BK380.out 4).trans rfl; have hcz23_5 : w22.cell? ⟨gb380, 5, none⟩ = some (.int .i64 a0_5) := (blk_cell BK380.out 5).trans rfl; have hfz23_0 := blk_frozen BK380.out 0; have hfz23_1 := blk_frozen BK380.out 1; have hfz23_2 := blk_frozen BK380.out 2; have hfz23_3 := blk_frozen BK380.out 3; have hfz23_4 := blk_frozen BK380.out 4; have hfz23_5 := blk_frozen BK380.out 5) | ((with_reducible refine gate_callee (f := 33) rfl ?_); refine goesL_ (some 5) rfl rfl Try.func33 (by kernel_rfl) rfl #[.string a0_0] rfl (by (try simp only [List.map_toArray, List.map_cons, List.map_nil]); first | done | rfl | (simp only [List.length_drop, List.length_take]; rfl)) ?_; (with_reducible refine (batonref02_Check.calls k a0_0 true _ A2.out).mono ?_); rintro e w' ⟨rfl, ⟨nd, rfl⟩⟩; refine ⟨_, rfl, ?_⟩))
         go_ret
         exact ⟨by first | rfl | (simp [*] <;> rfl), by repeat (first | (with_reducible first | exact HB.out | apply below_alloc | apply pw_below_drewN | apply below_drew1 | refine below_set ?_ GE380.out) | exact HB.out)⟩
       ·rw [if_neg c15] at H
        have c15b0 : decide (1 ≤ a0_4) = false := decide_eq_false c15
        clear c15
        obtain rfl := Option.some.inj H
        go_enter Try.func25, Try.ntmps25
        go_wp2_with (first | ((with_reducible refine gate_dst (N := 1) rfl ?_); (try (refine gate_guard (by rfl) ?_; dsimp only)); refine box_event ?hg (N := 1) ?hd (cs := #[.string a0_0, .string a0_1, .int .i64 a0_2, .int .i64 a0_3, .int .i64 a0_4, .int .i64 a0_5]) (t := 26) ?hr ?_; (case hd => rfl); (case hg => rfl); (case hr => first | (go_simp; done) | (go_simp; rfl)); intro gb380 hg w24 hbox hb; have n0_ := Aside0.mk (below_step (by repeat (first | (with_reducible first | exact HB.out | apply below_alloc | apply pw_below_drewN | apply below_drew1) | exact HB.out)) hb); have n1_ := Aside0.mk (hbox); have n2_ := Aside0.mk ((by rw [hg]; exact (below_size (by repeat (first | (with_reducible first | exact HB.out | apply below_alloc | apply pw_below_drewN | apply below_drew1) | exact HB.out))) : w.heap.size ≤ gb380)); have n3_ := Aside0.mk ((by rw [hg]; exact (below_size (by repeat (first | (with_reducible first | exact HB.out | apply below_alloc | apply pw_below_drewN | apply below_drew1) | exact HB.out))) : w.heap.size ≤ gb380)); clear HB; have HB := n0_; have BK380 := n1_; have GW380 := n2_; have GE380 := n3_; clear n0_ n1_ n2_ n3_; clear hb hbox hg; have hcz25_0 : w24.cell? ⟨gb380, 0, none⟩ = some (.string a0_0) := (blk_cell BK380.out 0).trans rfl; have hcz25_1 : w24.cell? ⟨gb380, 1, none⟩ = some (.string a0_1) := (blk_cell BK380.out 1).trans rfl; have hcz25_2 : w24.cell? ⟨gb380, 2, none⟩ = some (.int .i64 a0_2) := (blk_cell BK380.out 2).trans rfl; have hcz25_3 : w24.cell? ⟨gb380, 3, none⟩ = some (.int .i64 a0_3) := (blk_cell BK380.out 3).trans rfl; have hcz25_4 : w24.cell? ⟨gb380, 4, none⟩ = some (.int .i64 a0_4) := (blk_cell BK380.out 4).trans rfl; have hcz25_5 : w24.cell? ⟨gb380, 5, none⟩ = some (.int .i64 a0_5) := (blk_cell BK380.out 5).trans rfl; have hfz25_0 := blk_frozen BK380.out 0; have hfz25_1 := blk_frozen BK380.out 1; have hfz25_2 := blk_frozen BK380.out 2; have hfz25_3 := blk_frozen BK380.out 3; have hfz25_4 := blk_frozen BK380.out 4; have hfz25_5 := blk_frozen BK380.out 5) | ((with_reducible refine gate_callee (f := 33) rfl ?_); refine goesL_ (some 5) rfl rfl Try.func33 (by kernel_rfl) rfl #[.string a0_0] rfl (by (try simp only [List.map_toArray, List.map_cons, List.map_nil]); first | done | rfl | (simp only [List.length_drop, List.length_take]; rfl)) ?_; (with_reducible refine (batonref02_Check.calls k a0_0 true _ A2.out).mono ?_); rintro e w' ⟨rfl, ⟨nd, rfl⟩⟩; refine ⟨_, rfl, ?_⟩))
        go_ret
        exact ⟨by first | rfl | (simp [*] <;> rfl), by repeat (first | (with_reducible first | exact HB.out | apply below_alloc | apply pw_below_drewN | apply below_drew1 | refine below_set ?_ GE380.out) | exact HB.out)⟩
      ·rw [if_neg c14] at H
       have c14b0 : decide (a0_3 ≤ 1099511627775) = false := decide_eq_false c14
       clear c14
       obtain rfl := Option.some.inj H
       go_enter Try.func25, Try.ntmps25
       go_wp2_with (first | ((with_reducible refine gate_dst (N := 1) rfl ?_); (try (refine gate_guard (by rfl) ?_; dsimp only)); refine box_event ?hg (N := 1) ?hd (cs := #[.string a0_0, .string a0_1, .int .i64 a0_2, .int .i64 a0_3, .int .i64 a0_4, .int .i64 a0_5]) (t := 26) ?hr ?_; (case hd => rfl); (case hg => rfl); (case hr => first | (go_simp; done) | (go_simp; rfl)); intro gb380 hg w26 hbox hb; have n0_ := Aside0.mk (below_step (by repeat (first | (with_reducible first | exact HB.out | apply below_alloc | apply pw_below_drewN | apply below_drew1) | exact HB.out)) hb); have n1_ := Aside0.mk (hbox); have n2_ := Aside0.mk ((by rw [hg]; exact (below_size (by repeat (first | (with_reducible first | exact HB.out | apply below_alloc | apply pw_below_drewN | apply below_drew1) | exact HB.out))) : w.heap.size ≤ gb380)); have n3_ := Aside0.mk ((by rw [hg]; exact (below_size (by repeat (first | (with_reducible first | exact HB.out | apply below_alloc | apply pw_below_drewN | apply below_drew1) | exact HB.out))) : w.heap.size ≤ gb380)); clear HB; have HB := n0_; have BK380 := n1_; have GW380 := n2_; have GE380 := n3_; clear n0_ n1_ n2_ n3_; clear hb hbox hg; have hcz27_0 : w26.cell? ⟨gb380, 0, none⟩ = some (.string a0_0) := (blk_cell BK380.out 0).trans rfl; have hcz27_1 : w26.cell? ⟨gb380, 1, none⟩ = some (.string a0_1) := (blk_cell BK380.out 1).trans rfl; have hcz27_2 : w26.cell? ⟨gb380, 2, none⟩ = some (.int .i64 a0_2) := (blk_cell BK380.out 2).trans rfl; have hcz27_3 : w26.cell? ⟨gb380, 3, none⟩ = some (.int .i64 a0_3) := (blk_cell BK380.out 3).trans rfl; have hcz27_4 : w26.cell? ⟨gb380, 4, none⟩ = some (.int .i64 a0_4) := (blk_cell BK380.out 4).trans rfl; have hcz27_5 : w26.cell? ⟨gb380, 5, none⟩ = some (.int .i64 a0_5) := (blk_cell BK380.out 5).trans rfl; have hfz27_0 := blk_frozen BK380.out 0; have hfz27_1 := blk_frozen BK380.out 1; have hfz27_2 := blk_frozen BK380.out 2; have hfz27_3 := blk_frozen BK380.out 3; have hfz27_4 := blk_frozen BK380.out 4; have hfz27_5 := blk_frozen BK380.out 5) | ((with_reducible refine gate_callee (f := 33) rfl ?_); refine goesL_ (some 5) rfl rfl Try.func33 (by kernel_rfl) rfl #[.string a0_0] rfl (by (try simp only [List.map_toArray, List.map_cons, List.map_nil]); first | done | rfl | (simp only [List.length_drop, List.length_take]; rfl)) ?_; (with_reducible refine (batonref02_Check.calls k a0_0 true _ A2.out).mono ?_); rintro e w' ⟨rfl, ⟨nd, rfl⟩⟩; refine ⟨_, rfl, ?_⟩))
       go_ret
       exact ⟨by first | rfl | (simp [*] <;> rfl), by repeat (first | (with_reducible first | exact HB.out | apply below_alloc | apply pw_below_drewN | apply below_drew1 | refine below_set ?_ GE380.out) | exact HB.out)⟩
     ·rw [if_neg c13] at H
      have c13b0 : decide (a0_2 ≤ a0_3) = false := decide_eq_false c13
      clear c13
      obtain rfl := Option.some.inj H
      go_enter Try.func25, Try.ntmps25
      go_wp2_with (first | ((with_reducible refine gate_dst (N := 1) rfl ?_); (try (refine gate_guard (by rfl) ?_; dsimp only)); refine box_event ?hg (N := 1) ?hd (cs := #[.string a0_0, .string a0_1, .int .i64 a0_2, .int .i64 a0_3, .int .i64 a0_4, .int .i64 a0_5]) (t := 26) ?hr ?_; (case hd => rfl); (case hg => rfl); (case hr => first | (go_simp; done) | (go_simp; rfl)); intro gb380 hg w28 hbox hb; have n0_ := Aside0.mk (below_step (by repeat (first | (with_reducible first | exact HB.out | apply below_alloc | apply pw_below_drewN | apply below_drew1) | exact HB.out)) hb); have n1_ := Aside0.mk (hbox); have n2_ := Aside0.mk ((by rw [hg]; exact (below_size (by repeat (first | (with_reducible first | exact HB.out | apply below_alloc | apply pw_below_drewN | apply below_drew1) | exact HB.out))) : w.heap.size ≤ gb380)); have n3_ := Aside0.mk ((by rw [hg]; exact (below_size (by repeat (first | (with_reducible first | exact HB.out | apply below_alloc | apply pw_below_drewN | apply below_drew1) | exact HB.out))) : w.heap.size ≤ gb380)); clear HB; have HB := n0_; have BK380 := n1_; have GW380 := n2_; have GE380 := n3_; clear n0_ n1_ n2_ n3_; clear hb hbox hg; have hcz29_0 : w28.cell? ⟨gb380, 0, none⟩ = some (.string a0_0) := (blk_cell BK380.out 0).trans rfl; have hcz29_1 : w28.cell? ⟨gb380, 1, none⟩ = some (.string a0_1) := (blk_cell BK380.out 1).trans rfl; have hcz29_2 : w28.cell? ⟨gb380, 2, none⟩ = some (.int .i64 a0_2) := (blk_cell BK380.out 2).trans rfl; have hcz29_3 : w28.cell? ⟨gb380, 3, none⟩ = some (.int .i64 a0_3) := (blk_cell BK380.out 3).trans rfl; have hcz29_4 : w28.cell? ⟨gb380, 4, none⟩ = some (.int .i64 a0_4) := (blk_cell BK380.out 4).trans rfl; have hcz29_5 : w28.cell? ⟨gb380, 5, none⟩ = some (.int .i64 a0_5) := (blk_cell BK380.out 5).trans rfl; have hfz29_0 := blk_frozen BK380.out 0; have hfz29_1 := blk_frozen BK380.out 1; have hfz29_2 := blk_frozen BK380.out 2; have hfz29_3 := blk_frozen BK380.out 3; have hfz29_4 := blk_frozen BK380.out 4; have hfz29_5 := blk_frozen BK380.out 5) | ((with_reducible refine gate_callee (f := 33) rfl ?_); refine goesL_ (some 5) rfl rfl Try.func33 (by kernel_rfl) rfl #[.string a0_0] rfl (by (try simp only [List.map_toArray, List.map_cons, List.map_nil]); first | done | rfl | (simp only [List.length_drop, List.length_take]; rfl)) ?_; (with_reducible refine (batonref02_Check.calls k a0_0 true _ A2.out).mono ?_); rintro e w' ⟨rfl, ⟨nd, rfl⟩⟩; refine ⟨_, rfl, ?_⟩))
      go_ret
      exact ⟨by first | rfl | (simp [*] <;> rfl), by repeat (first | (with_reducible first | exact HB.out | apply below_alloc | apply pw_below_drewN | apply below_drew1 | refine below_set ?_ GE380.out) | exact HB.out)⟩
 ·replace c3 := Bool.eq_false_iff.mpr c3
  subst c3
  have H1 : (some false) = some r := by rw [if_neg (show ¬ (false = true) by decide)] at H; exact H
  clear H
  have H := H1
  clear H1
  obtain rfl := Option.some.inj H
  go_enter Try.func25, Try.ntmps25
  go_wp2_with (first | ((with_reducible refine gate_dst (N := 1) rfl ?_); (try (refine gate_guard (by rfl) ?_; dsimp only)); refine box_event ?hg (N := 1) ?hd (cs := #[.string a0_0, .string a0_1, .int .i64 a0_2, .int .i64 a0_3, .int .i64 a0_4, .int .i64 a0_5]) (t := 26) ?hr ?_; (case hd => rfl); (case hg => rfl); (case hr => first | (go_simp; done) | (go_simp; rfl)); intro gb380 hg w30 hbox hb; have n0_ := Aside0.mk (below_step (by repeat (first | (with_reducible first | exact HB.out | apply below_alloc | apply pw_below_drewN | apply below_drew1) | exact HB.out)) hb); have n1_ := Aside0.mk (hbox); have n2_ := Aside0.mk ((by rw [hg]; exact (below_size (by repeat (first | (with_reducible first | exact HB.out | apply below_alloc | apply pw_below_drewN | apply below_drew1) | exact HB.out))) : w.heap.size ≤ gb380)); have n3_ := Aside0.mk ((by rw [hg]; exact (below_size (by repeat (first | (with_reducible first | exact HB.out | apply below_alloc | apply pw_below_drewN | apply below_drew1) | exact HB.out))) : w.heap.size ≤ gb380)); clear HB; have HB := n0_; have BK380 := n1_; have GW380 := n2_; have GE380 := n3_; clear n0_ n1_ n2_ n3_; clear hb hbox hg; have hcz31_0 : w30.cell? ⟨gb380, 0, none⟩ = some (.string a0_0) := (blk_cell BK380.out 0).trans rfl; have hcz31_1 : w30.cell? ⟨gb380, 1, none⟩ = some (.string a0_1) := (blk_cell BK380.out 1).trans rfl; have hcz31_2 : w30.cell? ⟨gb380, 2, none⟩ = some (.int .i64 a0_2) := (blk_cell BK380.out 2).trans rfl; have hcz31_3 : w30.cell? ⟨gb380, 3, none⟩ = some (.int .i64 a0_3) := (blk_cell BK380.out 3).trans rfl; have hcz31_4 : w30.cell? ⟨gb380, 4, none⟩ = some (.int .i64 a0_4) := (blk_cell BK380.out 4).trans rfl; have hcz31_5 : w30.cell? ⟨gb380, 5, none⟩ = some (.int .i64 a0_5) := (blk_cell BK380.out 5).trans rfl; have hfz31_0 := blk_frozen BK380.out 0; have hfz31_1 := blk_frozen BK380.out 1; have hfz31_2 := blk_frozen BK380.out 2; have hfz31_3 := blk_frozen BK380.out 3; have hfz31_4 := blk_frozen BK380.out 4; have hfz31_5 := blk_frozen BK380.out 5) | ((with_reducible refine gate_callee (f := 33) rfl ?_); refine goesL_ (some 5) rfl rfl Try.func33 (by kernel_rfl) rfl #[.string a0_0] rfl (by (try simp only [List.map_toArray, List.map_cons, List.map_nil]); first | done | rfl | (simp only [List.length_drop, List.length_take]; rfl)) ?_; (with_reducible refine (batonref02_Check.calls k a0_0 false _ A2.out).mono ?_); rintro e w' ⟨rfl, ⟨nd, rfl⟩⟩; refine ⟨_, rfl, ?_⟩))
  go_ret
  exact ⟨by first | rfl | (simp [*] <;> rfl), by repeat (first | (with_reducible first | exact HB.out | apply below_alloc | apply pw_below_drewN | apply below_drew1 | refine below_set ?_ GE380.out) | exact HB.out)⟩

end Go.Proofs.Ytldblgcbmhkmaaa.PM
