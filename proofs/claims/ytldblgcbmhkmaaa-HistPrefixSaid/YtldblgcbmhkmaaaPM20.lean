-- made by a program of this session (wip/tools/myprint.py over the kit's print) out of the translation; Lean checks it
import Derived.Test.YtldblgcbmhkmaaaPM0
import Derived.Test.YtldblgcbmhkmaaaPM2
import Derived.Test.YtldblgcbmhkmaaaPM6
import Derived.Test.YtldblgcbmhkmaaaPM10
import Derived.Test.YtldblgcbmhkmaaaPM11
import Derived.Test.YtldblgcbmhkmaaaPM12
import Derived.Test.YtldblgcbmhkmaaaPM16
namespace Go.Proofs.Ytldblgcbmhkmaaa.PM
open Go.RowKit Go.Proofs.YtldblgcbmhkmaaaW.PrintWords Go.Proofs.YtldblgcbmhkmaaaW.PrintLast Go.Proofs.YtldblgcbmhkmaaaW.PrintMore
attribute [local go_sem] max2_int min2_int max_two min_two max_three min_three max_four min_four   -- for this text's walks alone
attribute [local go_sem high] Go.Proofs.Ytldblgcbmhkmaaa.My.str_leq Go.Proofs.Ytldblgcbmhkmaaa.My.str_gtr
set_option linter.unusedVariables false
set_option linter.unusedSimpArgs false

/-! ### batonlaw04_HistPrefix: function 8 -/
mutual
def batonlaw04_HistPrefix.j0 : Nat → List (S26) → ByteArray → Bool → ByteArray → ByteArray → Int → Int → Int → Int → Option (Bool)
  | 0, _, _, _, _, _, _, _, _, _ => none
  | k + 1, x0, x2, x33, x522000, x522001, x522002, x522003, x522004, x522005 => if x33 = true then ((batonlaw04_live.f k).bind fun t525 => (some t525)) else ((hist_From.f k x0 x2).bind fun t526 => ((hist_Lay.f k x0 x522000 x522001 x522002 x522003 x522004 x522005).bind fun t529 => ((hist_From.f k t529 x2).bind fun t532 => ((hist_Take.f x0 x522000).bind fun t535 => ((hist_From.f k t535 x2).bind fun t538 => (if (x522000.size : Int) ≥ (x2.size : Int) then (if 0 ≤ (x2.size : Int) then (if (x2.size : Int) ≤ (x522000.size : Int) then (batonlaw04_HistPrefix.j1 k t526 t532 t538 ((x522000.extract 0 ((x2.size : Int) : Int).toNat).toList == x2.toList) x522000 x522001 x522002 x522003 x522004 x522005) else (none)) else (none)) else (batonlaw04_HistPrefix.j1 k t526 t532 t538 false x522000 x522001 x522002 x522003 x522004 x522005)))))))
def batonlaw04_HistPrefix.j1 : Nat → List (S26) → List (S26) → List (S26) → Bool → ByteArray → ByteArray → Int → Int → Int → Int → Option (Bool)
  | 0, _, _, _, _, _, _, _, _, _, _ => none
  | k + 1, x7, x8, x9, x63, x522000, x522001, x522002, x522003, x522004, x522005 => if x63 = true then ((hist_Lay.f k x7 x522000 x522001 x522002 x522003 x522004 x522005).bind fun t541 => ((batonref03_KVs.f k x8 t541).bind fun t544 => (if t544 = true then ((hist_Take.f x7 x522000).bind fun t545 => ((batonref03_KVs.f k x9 t545).bind fun t548 => (if t548 = true then ((hist_May.f k x7).bind fun t549 => (if t549 = true then ((batonlaw04_live.f k).bind fun t550 => (some t550)) else (none))) else (none)))) else (none)))) else ((batonref03_KVs.f k x7 x8).bind fun t551 => (if t551 = true then ((batonref03_KVs.f k x7 x9).bind fun t552 => (if t552 = true then ((hist_May.f k x7).bind fun t553 => (if t553 = true then ((batonlaw04_live.f k).bind fun t554 => (some t554)) else (none))) else (none))) else (none)))
end
def batonlaw04_HistPrefix.f (k : Nat) (l0 : List (S26)) (a1_0 : ByteArray) (a1_1 : ByteArray) (a1_2 : Int) (a1_3 : Int) (a1_4 : Int) (a1_5 : Int) (a2 : ByteArray) : Option (Bool) := (batonref03_Few.f k l0 40).bind fun t522 => (if t522 = true then (if (a1_0.size : Int) > 60 then (batonlaw04_HistPrefix.j0 k l0 a2 true a1_0 a1_1 a1_2 a1_3 a1_4 a1_5) else (if (a2.size : Int) > 60 then (batonlaw04_HistPrefix.j0 k l0 a2 true a1_0 a1_1 a1_2 a1_3 a1_4 a1_5) else ((hist_May.f k l0).bind fun t523 => (if t523 = true then ((batonref04_One.f k a1_0 a1_1 a1_2 a1_3 a1_4 a1_5).bind fun t524 => (batonlaw04_HistPrefix.j0 k l0 a2 (!t524) a1_0 a1_1 a1_2 a1_3 a1_4 a1_5)) else (batonlaw04_HistPrefix.j0 k l0 a2 true a1_0 a1_1 a1_2 a1_3 a1_4 a1_5))))) else (batonlaw04_HistPrefix.j0 k l0 a2 true a1_0 a1_1 a1_2 a1_3 a1_4 a1_5))
theorem batonlaw04_HistPrefix.mono_l : ∀ k, (∀ y0 y1 y2 y3 y4 y5 y6 y7 y8, LeO (batonlaw04_HistPrefix.j0 k y0 y1 y2 y3 y4 y5 y6 y7 y8) (batonlaw04_HistPrefix.j0 (k + 1) y0 y1 y2 y3 y4 y5 y6 y7 y8)) ∧ (∀ y0 y1 y2 y3 y4 y5 y6 y7 y8 y9, LeO (batonlaw04_HistPrefix.j1 k y0 y1 y2 y3 y4 y5 y6 y7 y8 y9) (batonlaw04_HistPrefix.j1 (k + 1) y0 y1 y2 y3 y4 y5 y6 y7 y8 y9))
  | 0 => ⟨fun _ _ _ _ _ _ _ _ _ r h => by simp [batonlaw04_HistPrefix.j0] at h, fun _ _ _ _ _ _ _ _ _ _ r h => by simp [batonlaw04_HistPrefix.j1] at h⟩
  | k + 1 => by
    obtain ⟨ih0, ih1⟩ := batonlaw04_HistPrefix.mono_l k
    refine ⟨?_, ?_⟩
    · intro y0 y1 y2 y3 y4 y5 y6 y7 y8
      unfold batonlaw04_HistPrefix.j0
      repeat' first
      | (with_reducible exact ih0 _ _ _ _ _ _ _ _ _)
      | (with_reducible exact ih1 _ _ _ _ _ _ _ _ _ _)
      | (with_reducible exact batonlaw04_live.mono _)
      | (with_reducible exact batonref03_Few.mono _ _ _)
      | (with_reducible exact batonref03_KVs.mono _ _ _)
      | (with_reducible exact batonref04_One.mono _ _ _ _ _ _ _)
      | (with_reducible exact hist_From.mono _ _ _)
      | (with_reducible exact hist_Lay.mono _ _ _ _ _ _ _ _)
      | (with_reducible exact hist_May.mono _ _)
      | (with_reducible exact LeO.refl _)
      | (with_reducible exact LeO.none _)
      | (with_reducible refine LeO.ite ?_ ?_)
      | (with_reducible refine LeO.bind ?_ (fun _ => ?_))
      | exact ih0 _ _ _ _ _ _ _ _ _
      | exact ih1 _ _ _ _ _ _ _ _ _ _
      | exact batonlaw04_live.mono _
      | exact batonref03_Few.mono _ _ _
      | exact batonref03_KVs.mono _ _ _
      | exact batonref04_One.mono _ _ _ _ _ _ _
      | exact hist_From.mono _ _ _
      | exact hist_Lay.mono _ _ _ _ _ _ _ _
      | exact hist_May.mono _ _
      | exact LeO.none _
      | refine LeO.ite ?_ ?_
      | refine LeO.bind ?_ (fun _ => ?_)
    · intro y0 y1 y2 y3 y4 y5 y6 y7 y8 y9
      unfold batonlaw04_HistPrefix.j1
      repeat' first
      | (with_reducible exact ih0 _ _ _ _ _ _ _ _ _)
      | (with_reducible exact ih1 _ _ _ _ _ _ _ _ _ _)
      | (with_reducible exact batonlaw04_live.mono _)
      | (with_reducible exact batonref03_Few.mono _ _ _)
      | (with_reducible exact batonref03_KVs.mono _ _ _)
      | (with_reducible exact batonref04_One.mono _ _ _ _ _ _ _)
      | (with_reducible exact hist_From.mono _ _ _)
      | (with_reducible exact hist_Lay.mono _ _ _ _ _ _ _ _)
      | (with_reducible exact hist_May.mono _ _)
      | (with_reducible exact LeO.refl _)
      | (with_reducible exact LeO.none _)
      | (with_reducible refine LeO.ite ?_ ?_)
      | (with_reducible refine LeO.bind ?_ (fun _ => ?_))
      | exact ih0 _ _ _ _ _ _ _ _ _
      | exact ih1 _ _ _ _ _ _ _ _ _ _
      | exact batonlaw04_live.mono _
      | exact batonref03_Few.mono _ _ _
      | exact batonref03_KVs.mono _ _ _
      | exact batonref04_One.mono _ _ _ _ _ _ _
      | exact hist_From.mono _ _ _
      | exact hist_Lay.mono _ _ _ _ _ _ _ _
      | exact hist_May.mono _ _
      | exact LeO.none _
      | refine LeO.ite ?_ ?_
      | refine LeO.bind ?_ (fun _ => ?_)
theorem batonlaw04_HistPrefix.mono : ∀ a0 a1 a2 a3 a4 a5 a6 a7 k, LeO (batonlaw04_HistPrefix.f k a0 a1 a2 a3 a4 a5 a6 a7) (batonlaw04_HistPrefix.f (k + 1) a0 a1 a2 a3 a4 a5 a6 a7) := by
  intro a0 a1 a2 a3 a4 a5 a6 a7 k
  obtain ⟨ih0, ih1⟩ := batonlaw04_HistPrefix.mono_l k
  unfold batonlaw04_HistPrefix.f
  repeat' first
      | (with_reducible exact ih0 _ _ _ _ _ _ _ _ _)
      | (with_reducible exact ih1 _ _ _ _ _ _ _ _ _ _)
      | (with_reducible exact batonlaw04_live.mono _)
      | (with_reducible exact batonref03_Few.mono _ _ _)
      | (with_reducible exact batonref03_KVs.mono _ _ _)
      | (with_reducible exact batonref04_One.mono _ _ _ _ _ _ _)
      | (with_reducible exact hist_From.mono _ _ _)
      | (with_reducible exact hist_Lay.mono _ _ _ _ _ _ _ _)
      | (with_reducible exact hist_May.mono _ _)
      | (with_reducible exact LeO.refl _)
      | (with_reducible exact LeO.none _)
      | (with_reducible refine LeO.ite ?_ ?_)
      | (with_reducible refine LeO.bind ?_ (fun _ => ?_))
      | exact ih0 _ _ _ _ _ _ _ _ _
      | exact ih1 _ _ _ _ _ _ _ _ _ _
      | exact batonlaw04_live.mono _
      | exact batonref03_Few.mono _ _ _
      | exact batonref03_KVs.mono _ _ _
      | exact batonref04_One.mono _ _ _ _ _ _ _
      | exact hist_From.mono _ _ _
      | exact hist_Lay.mono _ _ _ _ _ _ _ _
      | exact hist_May.mono _ _
      | exact LeO.none _
      | refine LeO.ite ?_ ?_
      | refine LeO.bind ?_ (fun _ => ?_)
set_option maxHeartbeats 8000000 in
set_option maxRecDepth 100000 in
theorem batonlaw04_HistPrefix.calls (k : Nat) (A0 : Option Addr) (c0 : Nat) (l0 : List (S26)) (a1_0 : ByteArray) (a1_1 : ByteArray) (a1_2 : Int) (a1_3 : Int) (a1_4 : Int) (a1_5 : Int) (a2 : ByteArray) (r : Bool) (w : World) (hr0 : Kd.C k26 w A0 l0.length l0) (hc0 : l0.length ≤ c0) (h : batonlaw04_HistPrefix.f k l0 a1_0 a1_1 a1_2 a1_3 a1_4 a1_5 a2 = some r) :
    Calls Try.prog 8 #[.slice A0 l0.length c0, .agg #[.string a1_0, .string a1_1, .int .i64 a1_2, .int .i64 a1_3, .int .i64 a1_4, .int .i64 a1_5], .string a2] w fun e w' => e = .returned (.bool r) ∧ Below w.heap.size w w' := by
  have hu26 := Try.underlying26
  have HR0 := Aside0.mk hr0
  have HC0 := Aside0.mk hc0
  clear hr0 hc0
  have HB := Aside0.mk (Below.refl w.heap.size w)
  have H : ((batonref03_Few.f k l0 40).bind fun t522 => (if t522 = true then (if (a1_0.size : Int) > 60 then (batonlaw04_HistPrefix.j0 k l0 a2 true a1_0 a1_1 a1_2 a1_3 a1_4 a1_5) else (if (a2.size : Int) > 60 then (batonlaw04_HistPrefix.j0 k l0 a2 true a1_0 a1_1 a1_2 a1_3 a1_4 a1_5) else ((hist_May.f k l0).bind fun t523 => (if t523 = true then ((batonref04_One.f k a1_0 a1_1 a1_2 a1_3 a1_4 a1_5).bind fun t524 => (batonlaw04_HistPrefix.j0 k l0 a2 (!t524) a1_0 a1_1 a1_2 a1_3 a1_4 a1_5)) else (batonlaw04_HistPrefix.j0 k l0 a2 true a1_0 a1_1 a1_2 a1_3 a1_4 a1_5))))) else (batonlaw04_HistPrefix.j0 k l0 a2 true a1_0 a1_1 a1_2 a1_3 a1_4 a1_5))) = some r := h
  clear h
  have HC4 := Aside0.mk H
  clear H
  go_enter Try.func8, Try.ntmps8
  go_upto_region 1 with (first | ((with_reducible refine gate_dst (N := 4) rfl ?_); (try (refine gate_guard (by rfl) ?_; dsimp only)); refine box_event ?hg (N := 4) ?hd (cs := #[.string a1_0, .string a1_1, .int .i64 a1_2, .int .i64 a1_3, .int .i64 a1_4, .int .i64 a1_5]) (t := 26) ?hr ?_; (case hd => rfl); (case hg => rfl); (case hr => first | (go_simp; done) | (go_simp; rfl)); intro gb521 hg w5 hbox hb; have n0_ := Aside0.mk (below_step (by repeat (first | (with_reducible first | exact HB.out | apply below_alloc | apply pw_below_drewN | apply below_drew1) | exact HB.out)) hb); have n1_ := Aside0.mk (hbox); have n2_ := Aside0.mk ((by rw [hg]; exact (below_size (by repeat (first | (with_reducible first | exact HB.out | apply below_alloc | apply pw_below_drewN | apply below_drew1) | exact HB.out))) : w.heap.size ≤ gb521)); have n3_ := Aside0.mk ((by rw [hg]; exact (below_size (by repeat (first | (with_reducible first | exact HB.out | apply below_alloc | apply pw_below_drewN | apply below_drew1) | exact HB.out))) : w.heap.size ≤ gb521)); clear HB; have HB := n0_; have BK521 := n1_; have GW521 := n2_; have GE521 := n3_; clear n0_ n1_ n2_ n3_; clear hb hbox hg))
  (try simp only [Act.put, List.setIfInBounds_toArray, List.set_cons_zero, List.set_cons_succ])
  go_cut [33] (fun v33 wc => ∃ (kq : Nat) (x33_3 : Bool), v33 = .bool x33_3 ∧ Aside0 (batonlaw04_HistPrefix.j0 kq l0 a2 x33_3 a1_0 a1_1 a1_2 a1_3 a1_4 a1_5 = some r) ∧ Aside0 (kq ≤ k) ∧ Aside0 (wc.heap[gb521]? = some (.cells #[.string a1_0, .string a1_1, .int .i64 a1_2, .int .i64 a1_3, .int .i64 a1_4, .int .i64 a1_5] 26 (0, 0))) ∧ Aside0 (Below w.heap.size w wc))
  case first =>
    have H := HC4.out
    clear HC4
    replace H := Option.bind_eq_some_iff.mp H
    obtain ⟨t522, A60, H⟩ := H
    replace H : (if t522 = true then (if (a1_0.size : Int) > 60 then (batonlaw04_HistPrefix.j0 k l0 a2 true a1_0 a1_1 a1_2 a1_3 a1_4 a1_5) else (if (a2.size : Int) > 60 then (batonlaw04_HistPrefix.j0 k l0 a2 true a1_0 a1_1 a1_2 a1_3 a1_4 a1_5) else ((hist_May.f k l0).bind fun t523 => (if t523 = true then ((batonref04_One.f k a1_0 a1_1 a1_2 a1_3 a1_4 a1_5).bind fun t524 => (batonlaw04_HistPrefix.j0 k l0 a2 (!t524) a1_0 a1_1 a1_2 a1_3 a1_4 a1_5)) else (batonlaw04_HistPrefix.j0 k l0 a2 true a1_0 a1_1 a1_2 a1_3 a1_4 a1_5))))) else (batonlaw04_HistPrefix.j0 k l0 a2 true a1_0 a1_1 a1_2 a1_3 a1_4 a1_5)) = some r := H
    have A6 := Aside0.mk A60
    clear A60
    by_cases c7 : t522 = true
    · subst c7
      have H1 : (if (a1_0.size : Int) > 60 then (batonlaw04_HistPrefix.j0 k l0 a2 true a1_0 a1_1 a1_2 a1_3 a1_4 a1_5) else (if (a2.size : Int) > 60 then (batonlaw04_HistPrefix.j0 k l0 a2 true a1_0 a1_1 a1_2 a1_3 a1_4 a1_5) else ((hist_May.f k l0).bind fun t523 => (if t523 = true then ((batonref04_One.f k a1_0 a1_1 a1_2 a1_3 a1_4 a1_5).bind fun t524 => (batonlaw04_HistPrefix.j0 k l0 a2 (!t524) a1_0 a1_1 a1_2 a1_3 a1_4 a1_5)) else (batonlaw04_HistPrefix.j0 k l0 a2 true a1_0 a1_1 a1_2 a1_3 a1_4 a1_5))))) = some r := by rw [if_pos rfl] at H; exact H
      clear H
      have H := H1
      clear H1
      by_cases c8 : (a1_0.size : Int) > 60
      · rw [if_pos c8] at H
        have c8b0 : decide (60 < (a1_0.size : Int)) = true := decide_eq_true c8
        have c8b1 : decide (60 < a1_0.size) = true := decide_eq_true (by omega)
        clear c8
        (first | rw [c8b0] | (simp only [i64_w, i32_w]; rw [c8b0]) | skip)
        have H' := Aside0.mk H
        clear H
        go_wp2_with (first | ((with_reducible refine gate_callee (f := 9) rfl ?_); refine goesL_ (some 11) rfl rfl Try.func9 (by kernel_rfl) rfl #[.slice A0 l0.length c0, .int .i64 40] rfl (by (try simp only [List.map_toArray, List.map_cons, List.map_nil]); first | done | rfl | (simp only [List.length_drop, List.length_take]; rfl)) ?_; (with_reducible refine (batonref03_Few.calls k _ _ l0 40 true _ ?side1 ?side2 A6.out).mono ?_); (case side1 => repeat (first | exact (Kd.C_below HR0.out HB.out) | (with_reducible refine Kd.C_alloc ?_ _) | (with_reducible refine Kd.C_drewN ?_ _) | (with_reducible refine Kd.C_drew ?_))); (case side2 => exact HC0.out); rintro e w' ⟨rfl, ⟨nd, rfl⟩⟩; refine ⟨_, rfl, ?_⟩; have hcz9_0 : w5.cell? ⟨gb521, 0, none⟩ = some (.string a1_0) := (blk_cell BK521.out 0).trans rfl; have hcz9_1 : w5.cell? ⟨gb521, 1, none⟩ = some (.string a1_1) := (blk_cell BK521.out 1).trans rfl; have hcz9_2 : w5.cell? ⟨gb521, 2, none⟩ = some (.int .i64 a1_2) := (blk_cell BK521.out 2).trans rfl; have hcz9_3 : w5.cell? ⟨gb521, 3, none⟩ = some (.int .i64 a1_3) := (blk_cell BK521.out 3).trans rfl; have hcz9_4 : w5.cell? ⟨gb521, 4, none⟩ = some (.int .i64 a1_4) := (blk_cell BK521.out 4).trans rfl; have hcz9_5 : w5.cell? ⟨gb521, 5, none⟩ = some (.int .i64 a1_5) := (blk_cell BK521.out 5).trans rfl; have hfz9_0 := blk_frozen BK521.out 0; have hfz9_1 := blk_frozen BK521.out 1; have hfz9_2 := blk_frozen BK521.out 2; have hfz9_3 := blk_frozen BK521.out 3; have hfz9_4 := blk_frozen BK521.out 4; have hfz9_5 := blk_frozen BK521.out 5))
        go_meet
        case rel => exact ⟨_, (true), (by first | rfl | (simp; done) | (simp [*]; done)), H', ⟨by first | omega | exact Nat.le_refl _⟩, ⟨by (with_reducible repeat (first | refine blk_drewN ?_ _ | refine blk_drew ?_ | refine blk_alloc ?_ _)); exact BK521.out⟩, ⟨by repeat (first | (with_reducible first | exact HB.out | apply below_alloc | apply pw_below_drewN | apply below_drew1 | refine below_set ?_ GE521.out) | exact HB.out)⟩⟩
      · rw [if_neg c8] at H
        have c8b0 : decide (60 < (a1_0.size : Int)) = false := decide_eq_false c8
        have c8b1 : decide (60 < a1_0.size) = false := decide_eq_false (by omega)
        clear c8
        (first | rw [c8b0] | (simp only [i64_w, i32_w]; rw [c8b0]) | skip)
        by_cases c10 : (a2.size : Int) > 60
        · rw [if_pos c10] at H
          have c10b0 : decide (60 < (a2.size : Int)) = true := decide_eq_true c10
          have c10b1 : decide (60 < a2.size) = true := decide_eq_true (by omega)
          clear c10
          have H' := Aside0.mk H
          clear H
          go_wp2_with (first | ((with_reducible refine gate_callee (f := 9) rfl ?_); refine goesL_ (some 11) rfl rfl Try.func9 (by kernel_rfl) rfl #[.slice A0 l0.length c0, .int .i64 40] rfl (by (try simp only [List.map_toArray, List.map_cons, List.map_nil]); first | done | rfl | (simp only [List.length_drop, List.length_take]; rfl)) ?_; (with_reducible refine (batonref03_Few.calls k _ _ l0 40 true _ ?side1 ?side2 A6.out).mono ?_); (case side1 => repeat (first | exact (Kd.C_below HR0.out HB.out) | (with_reducible refine Kd.C_alloc ?_ _) | (with_reducible refine Kd.C_drewN ?_ _) | (with_reducible refine Kd.C_drew ?_))); (case side2 => exact HC0.out); rintro e w' ⟨rfl, ⟨nd, rfl⟩⟩; refine ⟨_, rfl, ?_⟩; have hcz11_0 : w5.cell? ⟨gb521, 0, none⟩ = some (.string a1_0) := (blk_cell BK521.out 0).trans rfl; have hcz11_1 : w5.cell? ⟨gb521, 1, none⟩ = some (.string a1_1) := (blk_cell BK521.out 1).trans rfl; have hcz11_2 : w5.cell? ⟨gb521, 2, none⟩ = some (.int .i64 a1_2) := (blk_cell BK521.out 2).trans rfl; have hcz11_3 : w5.cell? ⟨gb521, 3, none⟩ = some (.int .i64 a1_3) := (blk_cell BK521.out 3).trans rfl; have hcz11_4 : w5.cell? ⟨gb521, 4, none⟩ = some (.int .i64 a1_4) := (blk_cell BK521.out 4).trans rfl; have hcz11_5 : w5.cell? ⟨gb521, 5, none⟩ = some (.int .i64 a1_5) := (blk_cell BK521.out 5).trans rfl; have hfz11_0 := blk_frozen BK521.out 0; have hfz11_1 := blk_frozen BK521.out 1; have hfz11_2 := blk_frozen BK521.out 2; have hfz11_3 := blk_frozen BK521.out 3; have hfz11_4 := blk_frozen BK521.out 4; have hfz11_5 := blk_frozen BK521.out 5))
          go_meet
          case rel => exact ⟨_, (true), (by first | rfl | (simp; done) | (simp [*]; done)), H', ⟨by first | omega | exact Nat.le_refl _⟩, ⟨by (with_reducible repeat (first | refine blk_drewN ?_ _ | refine blk_drew ?_ | refine blk_alloc ?_ _)); exact BK521.out⟩, ⟨by repeat (first | (with_reducible first | exact HB.out | apply below_alloc | apply pw_below_drewN | apply below_drew1 | refine below_set ?_ GE521.out) | exact HB.out)⟩⟩
        · rw [if_neg c10] at H
          have c10b0 : decide (60 < (a2.size : Int)) = false := decide_eq_false c10
          have c10b1 : decide (60 < a2.size) = false := decide_eq_false (by omega)
          clear c10
          replace H := Option.bind_eq_some_iff.mp H
          obtain ⟨t523, A120, H⟩ := H
          replace H : (if t523 = true then ((batonref04_One.f k a1_0 a1_1 a1_2 a1_3 a1_4 a1_5).bind fun t524 => (batonlaw04_HistPrefix.j0 k l0 a2 (!t524) a1_0 a1_1 a1_2 a1_3 a1_4 a1_5)) else (batonlaw04_HistPrefix.j0 k l0 a2 true a1_0 a1_1 a1_2 a1_3 a1_4 a1_5)) = some r := H
          have A12 := Aside0.mk A120
          clear A120
          by_cases c13 : t523 = true
          · subst c13
            have H1 : ((batonref04_One.f k a1_0 a1_1 a1_2 a1_3 a1_4 a1_5).bind fun t524 => (batonlaw04_HistPrefix.j0 k l0 a2 (!t524) a1_0 a1_1 a1_2 a1_3 a1_4 a1_5)) = some r := by rw [if_pos rfl] at H; exact H
            clear H
            have H := H1
            clear H1
            replace H := Option.bind_eq_some_iff.mp H
            obtain ⟨t524, A140, H⟩ := H
            replace H : (batonlaw04_HistPrefix.j0 k l0 a2 (!t524) a1_0 a1_1 a1_2 a1_3 a1_4 a1_5) = some r := H
            have A14 := Aside0.mk A140
            clear A140
            have H' := Aside0.mk H
            clear H
            go_wp2_with (first | ((with_reducible refine gate_callee (f := 9) rfl ?_); refine goesL_ (some 11) rfl rfl Try.func9 (by kernel_rfl) rfl #[.slice A0 l0.length c0, .int .i64 40] rfl (by (try simp only [List.map_toArray, List.map_cons, List.map_nil]); first | done | rfl | (simp only [List.length_drop, List.length_take]; rfl)) ?_; (with_reducible refine (batonref03_Few.calls k _ _ l0 40 true _ ?side1 ?side2 A6.out).mono ?_); (case side1 => repeat (first | exact (Kd.C_below HR0.out HB.out) | (with_reducible refine Kd.C_alloc ?_ _) | (with_reducible refine Kd.C_drewN ?_ _) | (with_reducible refine Kd.C_drew ?_))); (case side2 => exact HC0.out); rintro e w' ⟨rfl, ⟨nd, rfl⟩⟩; refine ⟨_, rfl, ?_⟩; have hcz15_0 : w5.cell? ⟨gb521, 0, none⟩ = some (.string a1_0) := (blk_cell BK521.out 0).trans rfl; have hcz15_1 : w5.cell? ⟨gb521, 1, none⟩ = some (.string a1_1) := (blk_cell BK521.out 1).trans rfl; have hcz15_2 : w5.cell? ⟨gb521, 2, none⟩ = some (.int .i64 a1_2) := (blk_cell BK521.out 2).trans rfl; have hcz15_3 : w5.cell? ⟨gb521, 3, none⟩ = some (.int .i64 a1_3) := (blk_cell BK521.out 3).trans rfl; have hcz15_4 : w5.cell? ⟨gb521, 4, none⟩ = some (.int .i64 a1_4) := (blk_cell BK521.out 4).trans rfl; have hcz15_5 : w5.cell? ⟨gb521, 5, none⟩ = some (.int .i64 a1_5) := (blk_cell BK521.out 5).trans rfl; have hfz15_0 := blk_frozen BK521.out 0; have hfz15_1 := blk_frozen BK521.out 1; have hfz15_2 := blk_frozen BK521.out 2; have hfz15_3 := blk_frozen BK521.out 3; have hfz15_4 := blk_frozen BK521.out 4; have hfz15_5 := blk_frozen BK521.out 5) | (go_at_call 13; (with_reducible refine (hist_May.calls k _ _ l0 true _ ?side1 ?side2 A12.out).mono ?_); (case side1 => repeat (first | exact (Kd.C_below HR0.out (by repeat (first | (with_reducible first | exact HB.out | apply below_alloc | apply pw_below_drewN | apply below_drew1 | refine below_set ?_ GE521.out) | exact HB.out))) | (with_reducible refine Kd.C_alloc ?_ _) | (with_reducible refine Kd.C_drewN ?_ _) | (with_reducible refine Kd.C_drew ?_))); (case side2 => exact HC0.out); rintro e w16 ⟨rfl, hb⟩; have n0_ := Aside0.mk (blk_below (g := gb521) (o := .cells #[.string a1_0, .string a1_1, .int .i64 a1_2, .int .i64 a1_3, .int .i64 a1_4, .int .i64 a1_5] 26 (0, 0)) (by (with_reducible repeat (first | refine blk_drewN ?_ _ | refine blk_drew ?_ | refine blk_alloc ?_ _)); exact BK521.out) hb); have n1_ := Aside0.mk (below_step (by repeat (first | (with_reducible first | exact HB.out | apply below_alloc | apply pw_below_drewN | apply below_drew1 | refine below_set ?_ GE521.out) | exact HB.out)) hb); clear BK521; clear HB; have BK521 := n0_; have HB := n1_; clear n0_ n1_; (try clear hb); (try clear hb2); (try clear hk); (try clear hi); have hcz17_0 : w16.cell? ⟨gb521, 0, none⟩ = some (.string a1_0) := (blk_cell BK521.out 0).trans rfl; have hcz17_1 : w16.cell? ⟨gb521, 1, none⟩ = some (.string a1_1) := (blk_cell BK521.out 1).trans rfl; have hcz17_2 : w16.cell? ⟨gb521, 2, none⟩ = some (.int .i64 a1_2) := (blk_cell BK521.out 2).trans rfl; have hcz17_3 : w16.cell? ⟨gb521, 3, none⟩ = some (.int .i64 a1_3) := (blk_cell BK521.out 3).trans rfl; have hcz17_4 : w16.cell? ⟨gb521, 4, none⟩ = some (.int .i64 a1_4) := (blk_cell BK521.out 4).trans rfl; have hcz17_5 : w16.cell? ⟨gb521, 5, none⟩ = some (.int .i64 a1_5) := (blk_cell BK521.out 5).trans rfl; have hfz17_0 := blk_frozen BK521.out 0; have hfz17_1 := blk_frozen BK521.out 1; have hfz17_2 := blk_frozen BK521.out 2; have hfz17_3 := blk_frozen BK521.out 3; have hfz17_4 := blk_frozen BK521.out 4; have hfz17_5 := blk_frozen BK521.out 5) | (go_at_call 25; (with_reducible refine (batonref04_One.calls k a1_0 a1_1 a1_2 a1_3 a1_4 a1_5 t524 _ A14.out).mono ?_); rintro e w18 ⟨rfl, hb⟩; have n0_ := Aside0.mk (blk_below (g := gb521) (o := .cells #[.string a1_0, .string a1_1, .int .i64 a1_2, .int .i64 a1_3, .int .i64 a1_4, .int .i64 a1_5] 26 (0, 0)) (by (with_reducible repeat (first | refine blk_drewN ?_ _ | refine blk_drew ?_ | refine blk_alloc ?_ _)); exact BK521.out) hb); have n1_ := Aside0.mk (below_step (by repeat (first | (with_reducible first | exact HB.out | apply below_alloc | apply pw_below_drewN | apply below_drew1 | refine below_set ?_ GE521.out) | exact HB.out)) hb); clear BK521; clear HB; have BK521 := n0_; have HB := n1_; clear n0_ n1_; (try clear hb); (try clear hb2); (try clear hk); (try clear hi)))
            go_meet
            case rel => exact ⟨_, (!t524), (by first | rfl | (simp; done) | (simp [*]; done)), H', ⟨by first | omega | exact Nat.le_refl _⟩, ⟨by (with_reducible repeat (first | refine blk_drewN ?_ _ | refine blk_drew ?_ | refine blk_alloc ?_ _)); exact BK521.out⟩, ⟨by repeat (first | (with_reducible first | exact HB.out | apply below_alloc | apply pw_below_drewN | apply below_drew1 | refine below_set ?_ GE521.out) | exact HB.out)⟩⟩
          · replace c13 := Bool.eq_false_iff.mpr c13
            subst c13
            have H1 : (batonlaw04_HistPrefix.j0 k l0 a2 true a1_0 a1_1 a1_2 a1_3 a1_4 a1_5) = some r := by rw [if_neg (show ¬ (false = true) by decide)] at H; exact H
            clear H
            have H := H1
            clear H1
            have H' := Aside0.mk H
            clear H
            go_wp2_with (first | ((with_reducible refine gate_callee (f := 9) rfl ?_); refine goesL_ (some 11) rfl rfl Try.func9 (by kernel_rfl) rfl #[.slice A0 l0.length c0, .int .i64 40] rfl (by (try simp only [List.map_toArray, List.map_cons, List.map_nil]); first | done | rfl | (simp only [List.length_drop, List.length_take]; rfl)) ?_; (with_reducible refine (batonref03_Few.calls k _ _ l0 40 true _ ?side1 ?side2 A6.out).mono ?_); (case side1 => repeat (first | exact (Kd.C_below HR0.out HB.out) | (with_reducible refine Kd.C_alloc ?_ _) | (with_reducible refine Kd.C_drewN ?_ _) | (with_reducible refine Kd.C_drew ?_))); (case side2 => exact HC0.out); rintro e w' ⟨rfl, ⟨nd, rfl⟩⟩; refine ⟨_, rfl, ?_⟩; have hcz19_0 : w5.cell? ⟨gb521, 0, none⟩ = some (.string a1_0) := (blk_cell BK521.out 0).trans rfl; have hcz19_1 : w5.cell? ⟨gb521, 1, none⟩ = some (.string a1_1) := (blk_cell BK521.out 1).trans rfl; have hcz19_2 : w5.cell? ⟨gb521, 2, none⟩ = some (.int .i64 a1_2) := (blk_cell BK521.out 2).trans rfl; have hcz19_3 : w5.cell? ⟨gb521, 3, none⟩ = some (.int .i64 a1_3) := (blk_cell BK521.out 3).trans rfl; have hcz19_4 : w5.cell? ⟨gb521, 4, none⟩ = some (.int .i64 a1_4) := (blk_cell BK521.out 4).trans rfl; have hcz19_5 : w5.cell? ⟨gb521, 5, none⟩ = some (.int .i64 a1_5) := (blk_cell BK521.out 5).trans rfl; have hfz19_0 := blk_frozen BK521.out 0; have hfz19_1 := blk_frozen BK521.out 1; have hfz19_2 := blk_frozen BK521.out 2; have hfz19_3 := blk_frozen BK521.out 3; have hfz19_4 := blk_frozen BK521.out 4; have hfz19_5 := blk_frozen BK521.out 5) | (go_at_call 13; (with_reducible refine (hist_May.calls k _ _ l0 false _ ?side1 ?side2 A12.out).mono ?_); (case side1 => repeat (first | exact (Kd.C_below HR0.out (by repeat (first | (with_reducible first | exact HB.out | apply below_alloc | apply pw_below_drewN | apply below_drew1 | refine below_set ?_ GE521.out) | exact HB.out))) | (with_reducible refine Kd.C_alloc ?_ _) | (with_reducible refine Kd.C_drewN ?_ _) | (with_reducible refine Kd.C_drew ?_))); (case side2 => exact HC0.out); rintro e w20 ⟨rfl, hb⟩; have n0_ := Aside0.mk (blk_below (g := gb521) (o := .cells #[.string a1_0, .string a1_1, .int .i64 a1_2, .int .i64 a1_3, .int .i64 a1_4, .int .i64 a1_5] 26 (0, 0)) (by (with_reducible repeat (first | refine blk_drewN ?_ _ | refine blk_drew ?_ | refine blk_alloc ?_ _)); exact BK521.out) hb); have n1_ := Aside0.mk (below_step (by repeat (first | (with_reducible first | exact HB.out | apply below_alloc | apply pw_below_drewN | apply below_drew1 | refine below_set ?_ GE521.out) | exact HB.out)) hb); clear BK521; clear HB; have BK521 := n0_; have HB := n1_; clear n0_ n1_; (try clear hb); (try clear hb2); (try clear hk); (try clear hi)))
            go_meet
            case rel => exact ⟨_, (true), (by first | rfl | (simp; done) | (simp [*]; done)), H', ⟨by first | omega | exact Nat.le_refl _⟩, ⟨by (with_reducible repeat (first | refine blk_drewN ?_ _ | refine blk_drew ?_ | refine blk_alloc ?_ _)); exact BK521.out⟩, ⟨by repeat (first | (with_reducible first | exact HB.out | apply below_alloc | apply pw_below_drewN | apply below_drew1 | refine below_set ?_ GE521.out) | exact HB.out)⟩⟩
    · replace c7 := Bool.eq_false_iff.mpr c7
      subst c7
      have H1 : (batonlaw04_HistPrefix.j0 k l0 a2 true a1_0 a1_1 a1_2 a1_3 a1_4 a1_5) = some r := by rw [if_neg (show ¬ (false = true) by decide)] at H; exact H
      clear H
      have H := H1
      clear H1
      have H' := Aside0.mk H
      clear H
      go_wp2_with (first | ((with_reducible refine gate_callee (f := 9) rfl ?_); refine goesL_ (some 11) rfl rfl Try.func9 (by kernel_rfl) rfl #[.slice A0 l0.length c0, .int .i64 40] rfl (by (try simp only [List.map_toArray, List.map_cons, List.map_nil]); first | done | rfl | (simp only [List.length_drop, List.length_take]; rfl)) ?_; (with_reducible refine (batonref03_Few.calls k _ _ l0 40 false _ ?side1 ?side2 A6.out).mono ?_); (case side1 => repeat (first | exact (Kd.C_below HR0.out HB.out) | (with_reducible refine Kd.C_alloc ?_ _) | (with_reducible refine Kd.C_drewN ?_ _) | (with_reducible refine Kd.C_drew ?_))); (case side2 => exact HC0.out); rintro e w' ⟨rfl, ⟨nd, rfl⟩⟩; refine ⟨_, rfl, ?_⟩))
      go_meet
      case rel => exact ⟨_, (true), (by first | rfl | (simp; done) | (simp [*]; done)), H', ⟨by first | omega | exact Nat.le_refl _⟩, ⟨by (with_reducible repeat (first | refine blk_drewN ?_ _ | refine blk_drew ?_ | refine blk_alloc ?_ _)); exact BK521.out⟩, ⟨by repeat (first | (with_reducible first | exact HB.out | apply below_alloc | apply pw_below_drewN | apply below_drew1 | refine below_set ?_ GE521.out) | exact HB.out)⟩⟩
  case rest =>
    clear HC4
    try clear c1
    try clear p2
    try clear c7
    try clear c8
    try clear c8b0
    try clear c8b1
    try clear c9
    try clear c10
    try clear c10b0
    try clear c10b1
    try clear c13
    try clear hcz11_0
    try clear hcz11_1
    try clear hcz11_2
    try clear hcz11_3
    try clear hcz11_4
    try clear hcz11_5
    try clear hcz15_0
    try clear hcz15_1
    try clear hcz15_2
    try clear hcz15_3
    try clear hcz15_4
    try clear hcz15_5
    try clear hcz17_0
    try clear hcz17_1
    try clear hcz17_2
    try clear hcz17_3
    try clear hcz17_4
    try clear hcz17_5
    try clear hcz19_0
    try clear hcz19_1
    try clear hcz19_2
    try clear hcz19_3
    try clear hcz19_4
    try clear hcz19_5
    try clear hcz9_0
    try clear hcz9_1
    try clear hcz9_2
    try clear hcz9_3
    try clear hcz9_4
    try clear hcz9_5
    try clear hfz11_0
    try clear hfz11_1
    try clear hfz11_2
    try clear hfz11_3
    try clear hfz11_4
    try clear hfz11_5
    try clear hfz15_0
    try clear hfz15_1
    try clear hfz15_2
    try clear hfz15_3
    try clear hfz15_4
    try clear hfz15_5
    try clear hfz17_0
    try clear hfz17_1
    try clear hfz17_2
    try clear hfz17_3
    try clear hfz17_4
    try clear hfz17_5
    try clear hfz19_0
    try clear hfz19_1
    try clear hfz19_2
    try clear hfz19_3
    try clear hfz19_4
    try clear hfz19_5
    try clear hfz9_0
    try clear hfz9_1
    try clear hfz9_2
    try clear hfz9_3
    try clear hfz9_4
    try clear hfz9_5
    obtain ⟨kq, x33_3, rfl, HA, HJ3, BK521, HB⟩ := hcut
    cases kq with
    | zero => exact absurd HA.out (by simp [batonlaw04_HistPrefix.j0])
    | succ kj3 =>
      have H := HA.out
      clear HA
      simp only [batonlaw04_HistPrefix.j0] at H
      by_cases c21 : x33_3 = true
      · subst c21
        have H1 : ((batonlaw04_live.f kj3).bind fun t525 => (some t525)) = some r := by rw [if_pos rfl] at H; exact H
        clear H
        have H := H1
        clear H1
        replace H := Option.bind_eq_some_iff.mp H
        obtain ⟨t525, A220, H⟩ := H
        replace H : (some t525) = some r := H
        have A22 := Aside0.mk A220
        clear A220
        obtain rfl := Option.some.inj H
        go_wp2_with (first | ((with_reducible refine gate_callee (f := 10) rfl ?_); refine goesL_ (some 34) rfl rfl Try.func10 (by kernel_rfl) rfl #[] rfl (by (try simp only [List.map_toArray, List.map_cons, List.map_nil]); first | done | rfl | (simp only [List.length_drop, List.length_take]; rfl)) ?_; (with_reducible refine (batonlaw04_live.calls kj3  t525 _ A22.out).mono ?_); rintro e w23 ⟨rfl, hb⟩; refine ⟨_, rfl, ?_⟩; have n0_ := Aside0.mk (blk_below (g := gb521) (o := .cells #[.string a1_0, .string a1_1, .int .i64 a1_2, .int .i64 a1_3, .int .i64 a1_4, .int .i64 a1_5] 26 (0, 0)) (by (with_reducible repeat (first | refine blk_drewN ?_ _ | refine blk_drew ?_ | refine blk_alloc ?_ _)); exact BK521.out) hb); have n1_ := Aside0.mk (below_step (by repeat (first | (with_reducible first | exact HB.out | apply below_alloc | apply pw_below_drewN | apply below_drew1 | refine below_set ?_ GE521.out) | exact HB.out)) hb); clear BK521; clear HB; have BK521 := n0_; have HB := n1_; clear n0_ n1_; (try clear hb); (try clear hb2); (try clear hk); (try clear hi)))
        go_ret
        exact ⟨by first | rfl | (simp [errW_none, errW_some] <;> rfl) | (simp [*, errW_none, errW_some] <;> rfl), by repeat (first | (with_reducible first | exact HB.out | apply below_alloc | apply pw_below_drewN | apply below_drew1 | refine below_set ?_ GE521.out) | exact HB.out)⟩
      · replace c21 := Bool.eq_false_iff.mpr c21
        subst c21
        have H1 : ((hist_From.f kj3 l0 a2).bind fun t526 => ((hist_Lay.f kj3 l0 a1_0 a1_1 a1_2 a1_3 a1_4 a1_5).bind fun t529 => ((hist_From.f kj3 t529 a2).bind fun t532 => ((hist_Take.f l0 a1_0).bind fun t535 => ((hist_From.f kj3 t535 a2).bind fun t538 => (if (a1_0.size : Int) ≥ (a2.size : Int) then (if 0 ≤ (a2.size : Int) then (if (a2.size : Int) ≤ (a1_0.size : Int) then (batonlaw04_HistPrefix.j1 kj3 t526 t532 t538 ((a1_0.extract 0 ((a2.size : Int) : Int).toNat).toList == a2.toList) a1_0 a1_1 a1_2 a1_3 a1_4 a1_5) else (none)) else (none)) else (batonlaw04_HistPrefix.j1 kj3 t526 t532 t538 false a1_0 a1_1 a1_2 a1_3 a1_4 a1_5))))))) = some r := by rw [if_neg (show ¬ (false = true) by decide)] at H; exact H
        clear H
        have H := H1
        clear H1
        replace H := Option.bind_eq_some_iff.mp H
        obtain ⟨t526, A240, H⟩ := H
        replace H : ((hist_Lay.f kj3 l0 a1_0 a1_1 a1_2 a1_3 a1_4 a1_5).bind fun t529 => ((hist_From.f kj3 t529 a2).bind fun t532 => ((hist_Take.f l0 a1_0).bind fun t535 => ((hist_From.f kj3 t535 a2).bind fun t538 => (if (a1_0.size : Int) ≥ (a2.size : Int) then (if 0 ≤ (a2.size : Int) then (if (a2.size : Int) ≤ (a1_0.size : Int) then (batonlaw04_HistPrefix.j1 kj3 t526 t532 t538 ((a1_0.extract 0 ((a2.size : Int) : Int).toNat).toList == a2.toList) a1_0 a1_1 a1_2 a1_3 a1_4 a1_5) else (none)) else (none)) else (batonlaw04_HistPrefix.j1 kj3 t526 t532 t538 false a1_0 a1_1 a1_2 a1_3 a1_4 a1_5)))))) = some r := H
        have A24 := Aside0.mk A240
        clear A240
        replace H := Option.bind_eq_some_iff.mp H
        obtain ⟨t529, A250, H⟩ := H
        replace H : ((hist_From.f kj3 t529 a2).bind fun t532 => ((hist_Take.f l0 a1_0).bind fun t535 => ((hist_From.f kj3 t535 a2).bind fun t538 => (if (a1_0.size : Int) ≥ (a2.size : Int) then (if 0 ≤ (a2.size : Int) then (if (a2.size : Int) ≤ (a1_0.size : Int) then (batonlaw04_HistPrefix.j1 kj3 t526 t532 t538 ((a1_0.extract 0 ((a2.size : Int) : Int).toNat).toList == a2.toList) a1_0 a1_1 a1_2 a1_3 a1_4 a1_5) else (none)) else (none)) else (batonlaw04_HistPrefix.j1 kj3 t526 t532 t538 false a1_0 a1_1 a1_2 a1_3 a1_4 a1_5))))) = some r := H
        have A25 := Aside0.mk A250
        clear A250
        replace H := Option.bind_eq_some_iff.mp H
        obtain ⟨t532, A260, H⟩ := H
        replace H : ((hist_Take.f l0 a1_0).bind fun t535 => ((hist_From.f kj3 t535 a2).bind fun t538 => (if (a1_0.size : Int) ≥ (a2.size : Int) then (if 0 ≤ (a2.size : Int) then (if (a2.size : Int) ≤ (a1_0.size : Int) then (batonlaw04_HistPrefix.j1 kj3 t526 t532 t538 ((a1_0.extract 0 ((a2.size : Int) : Int).toNat).toList == a2.toList) a1_0 a1_1 a1_2 a1_3 a1_4 a1_5) else (none)) else (none)) else (batonlaw04_HistPrefix.j1 kj3 t526 t532 t538 false a1_0 a1_1 a1_2 a1_3 a1_4 a1_5)))) = some r := H
        have A26 := Aside0.mk A260
        clear A260
        replace H := Option.bind_eq_some_iff.mp H
        obtain ⟨t535, A270, H⟩ := H
        replace H : ((hist_From.f kj3 t535 a2).bind fun t538 => (if (a1_0.size : Int) ≥ (a2.size : Int) then (if 0 ≤ (a2.size : Int) then (if (a2.size : Int) ≤ (a1_0.size : Int) then (batonlaw04_HistPrefix.j1 kj3 t526 t532 t538 ((a1_0.extract 0 ((a2.size : Int) : Int).toNat).toList == a2.toList) a1_0 a1_1 a1_2 a1_3 a1_4 a1_5) else (none)) else (none)) else (batonlaw04_HistPrefix.j1 kj3 t526 t532 t538 false a1_0 a1_1 a1_2 a1_3 a1_4 a1_5))) = some r := H
        have A27 := Aside0.mk A270
        clear A270
        replace H := Option.bind_eq_some_iff.mp H
        obtain ⟨t538, A280, H⟩ := H
        replace H : (if (a1_0.size : Int) ≥ (a2.size : Int) then (if 0 ≤ (a2.size : Int) then (if (a2.size : Int) ≤ (a1_0.size : Int) then (batonlaw04_HistPrefix.j1 kj3 t526 t532 t538 ((a1_0.extract 0 ((a2.size : Int) : Int).toNat).toList == a2.toList) a1_0 a1_1 a1_2 a1_3 a1_4 a1_5) else (none)) else (none)) else (batonlaw04_HistPrefix.j1 kj3 t526 t532 t538 false a1_0 a1_1 a1_2 a1_3 a1_4 a1_5)) = some r := H
        have A28 := Aside0.mk A280
        clear A280
        have HC29 := Aside0.mk H
        clear H
        go_upto_region 6 with (first | ((with_reducible refine gate_callee (f := 18) rfl ?_); refine goesL_ (some 37) rfl rfl Try.func18 (by kernel_rfl) rfl #[.slice A0 l0.length c0, .string a2] rfl (by (try simp only [List.map_toArray, List.map_cons, List.map_nil]); first | done | rfl | (simp only [List.length_drop, List.length_take]; rfl)) ?_; (with_reducible refine (hist_From.calls kj3 _ _ l0 a2 t526 _ ?side1 ?side2 A24.out).mono ?_); (case side1 => repeat (first | exact (Kd.C_below HR0.out HB.out) | (with_reducible refine Kd.C_alloc ?_ _) | (with_reducible refine Kd.C_drewN ?_ _) | (with_reducible refine Kd.C_drew ?_))); (case side2 => exact HC0.out); rintro e w30 ⟨v527, rfl, ho0, hb⟩; refine ⟨_, rfl, ?_⟩; have n0_ := Aside0.mk (Kd.R_lower (Kd.R_newB ho0 (g := gb521) (o := .cells #[.string a1_0, .string a1_1, .int .i64 a1_2, .int .i64 a1_3, .int .i64 a1_4, .int .i64 a1_5] 26 (0, 0)) (by (with_reducible repeat (first | refine blk_drewN ?_ _ | refine blk_drew ?_ | refine blk_alloc ?_ _)); exact BK521.out)) (below_size (by repeat (first | (with_reducible first | exact HB.out | apply below_alloc | apply pw_below_drewN | apply below_drew1 | refine below_set ?_ GE521.out) | exact HB.out)))); have n1_ := Aside0.mk (blk_below (g := gb521) (o := .cells #[.string a1_0, .string a1_1, .int .i64 a1_2, .int .i64 a1_3, .int .i64 a1_4, .int .i64 a1_5] 26 (0, 0)) (by (with_reducible repeat (first | refine blk_drewN ?_ _ | refine blk_drew ?_ | refine blk_alloc ?_ _)); exact BK521.out) hb); have n2_ := Aside0.mk (below_step (by repeat (first | (with_reducible first | exact HB.out | apply below_alloc | apply pw_below_drewN | apply below_drew1 | refine below_set ?_ GE521.out) | exact HB.out)) hb); clear BK521; clear HB; have HO528 := n0_; have BK521 := n1_; have HB := n2_; clear n0_ n1_ n2_; (try clear hb); (try clear hb2); (try clear hk); (try clear hi); (try clear ho0); have hcz31_0 : w30.cell? ⟨gb521, 0, none⟩ = some (.string a1_0) := (blk_cell BK521.out 0).trans rfl; have hcz31_1 : w30.cell? ⟨gb521, 1, none⟩ = some (.string a1_1) := (blk_cell BK521.out 1).trans rfl; have hcz31_2 : w30.cell? ⟨gb521, 2, none⟩ = some (.int .i64 a1_2) := (blk_cell BK521.out 2).trans rfl; have hcz31_3 : w30.cell? ⟨gb521, 3, none⟩ = some (.int .i64 a1_3) := (blk_cell BK521.out 3).trans rfl; have hcz31_4 : w30.cell? ⟨gb521, 4, none⟩ = some (.int .i64 a1_4) := (blk_cell BK521.out 4).trans rfl; have hcz31_5 : w30.cell? ⟨gb521, 5, none⟩ = some (.int .i64 a1_5) := (blk_cell BK521.out 5).trans rfl; have hfz31_0 := blk_frozen BK521.out 0; have hfz31_1 := blk_frozen BK521.out 1; have hfz31_2 := blk_frozen BK521.out 2; have hfz31_3 := blk_frozen BK521.out 3; have hfz31_4 := blk_frozen BK521.out 4; have hfz31_5 := blk_frozen BK521.out 5) | ((with_reducible refine gate_callee (f := 23) rfl ?_); refine goesL_ (some 40) rfl rfl Try.func23 (by kernel_rfl) rfl #[.slice A0 l0.length c0, .agg #[.string a1_0, .string a1_1, .int .i64 a1_2, .int .i64 a1_3, .int .i64 a1_4, .int .i64 a1_5]] rfl (by (try simp only [List.map_toArray, List.map_cons, List.map_nil]); first | done | rfl | (simp only [List.length_drop, List.length_take]; rfl)) ?_; (with_reducible refine (hist_Lay.calls kj3 _ _ l0 a1_0 a1_1 a1_2 a1_3 a1_4 a1_5 t529 _ ?side1 ?side2 A25.out).mono ?_); (case side1 => repeat (first | exact (Kd.C_below HR0.out HB.out) | (with_reducible refine Kd.C_alloc ?_ _) | (with_reducible refine Kd.C_drewN ?_ _) | (with_reducible refine Kd.C_drew ?_))); (case side2 => exact HC0.out); rintro e w32 ⟨v530, rfl, ho0, hb⟩; refine ⟨_, rfl, ?_⟩; have n0_ := Aside0.mk (Kd.R_elder' (by (with_reducible repeat (first | apply Kd.R_alloc | apply Kd.R_drewN | apply Kd.R_drew)); exact HO528.out) (Kd.R_base ho0) hb); have n1_ := Aside0.mk (Kd.R_lower (Kd.R_newB (Kd.R_new' ho0 (Kd.R_lt (by (with_reducible repeat (first | apply Kd.R_alloc | apply Kd.R_drewN | apply Kd.R_drew)); exact HO528.out))) (g := gb521) (o := .cells #[.string a1_0, .string a1_1, .int .i64 a1_2, .int .i64 a1_3, .int .i64 a1_4, .int .i64 a1_5] 26 (0, 0)) (by (with_reducible repeat (first | refine blk_drewN ?_ _ | refine blk_drew ?_ | refine blk_alloc ?_ _)); exact BK521.out)) (below_size (by repeat (first | (with_reducible first | exact HB.out | apply below_alloc | apply pw_below_drewN | apply below_drew1 | refine below_set ?_ GE521.out) | exact HB.out)))); have n2_ := Aside0.mk (blk_below (g := gb521) (o := .cells #[.string a1_0, .string a1_1, .int .i64 a1_2, .int .i64 a1_3, .int .i64 a1_4, .int .i64 a1_5] 26 (0, 0)) (by (with_reducible repeat (first | refine blk_drewN ?_ _ | refine blk_drew ?_ | refine blk_alloc ?_ _)); exact BK521.out) hb); have n3_ := Aside0.mk (below_step (by repeat (first | (with_reducible first | exact HB.out | apply below_alloc | apply pw_below_drewN | apply below_drew1 | refine below_set ?_ GE521.out) | exact HB.out)) hb); clear HO528; clear BK521; clear HB; have HO528 := n0_; have HO531 := n1_; have BK521 := n2_; have HB := n3_; clear n0_ n1_ n2_ n3_; (try clear hb); (try clear hb2); (try clear hk); (try clear hi); (try clear ho0); obtain ⟨Ao33, co33, eo33⟩ := Kd.R_slice HO531.out; subst eo33) | ((with_reducible refine gate_callee (f := 18) rfl ?_); refine goesL_ (some 42) rfl rfl Try.func18 (by kernel_rfl) rfl #[.slice Ao33 t529.length co33, .string a2] rfl (by (try simp only [List.map_toArray, List.map_cons, List.map_nil]); first | done | rfl | (simp only [List.length_drop, List.length_take]; rfl)) ?_; (with_reducible refine (hist_From.calls kj3 _ _ t529 a2 t532 _ ?side1 ?side2 A26.out).mono ?_); (case side1 => repeat (first | exact (Kd.R_reads' HO531.out).2.2 | (with_reducible refine Kd.C_alloc ?_ _) | (with_reducible refine Kd.C_drewN ?_ _) | (with_reducible refine Kd.C_drew ?_))); (case side2 => exact (Kd.R_reads' HO531.out).2.1); rintro e w34 ⟨v533, rfl, ho0, hb⟩; refine ⟨_, rfl, ?_⟩; have n0_ := Aside0.mk (Kd.R_elder' (by (with_reducible repeat (first | apply Kd.R_alloc | apply Kd.R_drewN | apply Kd.R_drew)); exact HO528.out) (Kd.R_base ho0) hb); have n1_ := Aside0.mk (Kd.R_elder' (by (with_reducible repeat (first | apply Kd.R_alloc | apply Kd.R_drewN | apply Kd.R_drew)); exact HO531.out) (Kd.R_base ho0) hb); have n2_ := Aside0.mk (Kd.R_lower (Kd.R_newB (Kd.R_new' (Kd.R_new' ho0 (Kd.R_lt (by (with_reducible repeat (first | apply Kd.R_alloc | apply Kd.R_drewN | apply Kd.R_drew)); exact HO528.out))) (Kd.R_lt (by (with_reducible repeat (first | apply Kd.R_alloc | apply Kd.R_drewN | apply Kd.R_drew)); exact HO531.out))) (g := gb521) (o := .cells #[.string a1_0, .string a1_1, .int .i64 a1_2, .int .i64 a1_3, .int .i64 a1_4, .int .i64 a1_5] 26 (0, 0)) (by (with_reducible repeat (first | refine blk_drewN ?_ _ | refine blk_drew ?_ | refine blk_alloc ?_ _)); exact BK521.out)) (below_size (by repeat (first | (with_reducible first | exact HB.out | apply below_alloc | apply pw_below_drewN | apply below_drew1 | refine below_set ?_ GE521.out) | exact HB.out)))); have n3_ := Aside0.mk (blk_below (g := gb521) (o := .cells #[.string a1_0, .string a1_1, .int .i64 a1_2, .int .i64 a1_3, .int .i64 a1_4, .int .i64 a1_5] 26 (0, 0)) (by (with_reducible repeat (first | refine blk_drewN ?_ _ | refine blk_drew ?_ | refine blk_alloc ?_ _)); exact BK521.out) hb); have n4_ := Aside0.mk (below_step (by repeat (first | (with_reducible first | exact HB.out | apply below_alloc | apply pw_below_drewN | apply below_drew1 | refine below_set ?_ GE521.out) | exact HB.out)) hb); clear HO528; clear HO531; clear BK521; clear HB; have HO528 := n0_; have HO531 := n1_; have HO534 := n2_; have BK521 := n3_; have HB := n4_; clear n0_ n1_ n2_ n3_ n4_; (try clear hb); (try clear hb2); (try clear hk); (try clear hi); (try clear ho0); have hcz35_0 : w34.cell? ⟨gb521, 0, none⟩ = some (.string a1_0) := (blk_cell BK521.out 0).trans rfl; have hcz35_1 : w34.cell? ⟨gb521, 1, none⟩ = some (.string a1_1) := (blk_cell BK521.out 1).trans rfl; have hcz35_2 : w34.cell? ⟨gb521, 2, none⟩ = some (.int .i64 a1_2) := (blk_cell BK521.out 2).trans rfl; have hcz35_3 : w34.cell? ⟨gb521, 3, none⟩ = some (.int .i64 a1_3) := (blk_cell BK521.out 3).trans rfl; have hcz35_4 : w34.cell? ⟨gb521, 4, none⟩ = some (.int .i64 a1_4) := (blk_cell BK521.out 4).trans rfl; have hcz35_5 : w34.cell? ⟨gb521, 5, none⟩ = some (.int .i64 a1_5) := (blk_cell BK521.out 5).trans rfl; have hfz35_0 := blk_frozen BK521.out 0; have hfz35_1 := blk_frozen BK521.out 1; have hfz35_2 := blk_frozen BK521.out 2; have hfz35_3 := blk_frozen BK521.out 3; have hfz35_4 := blk_frozen BK521.out 4; have hfz35_5 := blk_frozen BK521.out 5) | ((with_reducible refine gate_callee (f := 16) rfl ?_); refine goesL_ (some 46) rfl rfl Try.func16 (by kernel_rfl) rfl #[.slice A0 l0.length c0, .string a1_0] rfl (by (try simp only [List.map_toArray, List.map_cons, List.map_nil]); first | done | rfl | (simp only [List.length_drop, List.length_take]; rfl)) ?_; (with_reducible refine (hist_Take.calls (fun k_ => k_ < w.heap.size) _ _ l0 a1_0 t535 _ ?side1 A27.out).mono ?_); (case side1 => exact Kd.V_mk HC0.out (Kd.F_below (Kd.C_F k26_heap HR0.out) (by repeat (first | (with_reducible first | exact HB.out | apply below_alloc | apply pw_below_drewN | apply below_drew1 | refine below_set ?_ GE521.out) | exact HB.out)))); rintro e w36 ⟨v536, rfl, ho0, hb⟩; refine ⟨_, rfl, ?_⟩; have n0_ := Aside0.mk (Kd.R_elder' (by (with_reducible repeat (first | apply Kd.R_alloc | apply Kd.R_drewN | apply Kd.R_drew)); exact HO528.out) (Kd.R_base ho0) hb); have n1_ := Aside0.mk (Kd.R_elder' (by (with_reducible repeat (first | apply Kd.R_alloc | apply Kd.R_drewN | apply Kd.R_drew)); exact HO531.out) (Kd.R_base ho0) hb); have n2_ := Aside0.mk (Kd.R_elder' (by (with_reducible repeat (first | apply Kd.R_alloc | apply Kd.R_drewN | apply Kd.R_drew)); exact HO534.out) (Kd.R_base ho0) hb); have n3_ := Aside0.mk (Kd.R_lower (Kd.R_newB (Kd.R_new' (Kd.R_new' (Kd.R_new' (Kd.R_mono (ok' := fun k_ => True) ho0 (fun _ hk_ => trivial)) (Kd.R_lt (by (with_reducible repeat (first | apply Kd.R_alloc | apply Kd.R_drewN | apply Kd.R_drew)); exact HO528.out))) (Kd.R_lt (by (with_reducible repeat (first | apply Kd.R_alloc | apply Kd.R_drewN | apply Kd.R_drew)); exact HO531.out))) (Kd.R_lt (by (with_reducible repeat (first | apply Kd.R_alloc | apply Kd.R_drewN | apply Kd.R_drew)); exact HO534.out))) (g := gb521) (o := .cells #[.string a1_0, .string a1_1, .int .i64 a1_2, .int .i64 a1_3, .int .i64 a1_4, .int .i64 a1_5] 26 (0, 0)) (by (with_reducible repeat (first | refine blk_drewN ?_ _ | refine blk_drew ?_ | refine blk_alloc ?_ _)); exact BK521.out)) (below_size (by repeat (first | (with_reducible first | exact HB.out | apply below_alloc | apply pw_below_drewN | apply below_drew1 | refine below_set ?_ GE521.out) | exact HB.out)))); have n4_ := Aside0.mk (blk_below (g := gb521) (o := .cells #[.string a1_0, .string a1_1, .int .i64 a1_2, .int .i64 a1_3, .int .i64 a1_4, .int .i64 a1_5] 26 (0, 0)) (by (with_reducible repeat (first | refine blk_drewN ?_ _ | refine blk_drew ?_ | refine blk_alloc ?_ _)); exact BK521.out) hb); have n5_ := Aside0.mk (below_step (by repeat (first | (with_reducible first | exact HB.out | apply below_alloc | apply pw_below_drewN | apply below_drew1 | refine below_set ?_ GE521.out) | exact HB.out)) hb); clear HO528; clear HO531; clear HO534; clear BK521; clear HB; have HO528 := n0_; have HO531 := n1_; have HO534 := n2_; have HO537 := n3_; have BK521 := n4_; have HB := n5_; clear n0_ n1_ n2_ n3_ n4_ n5_; (try clear hb); (try clear hb2); (try clear hk); (try clear hi); (try clear ho0); obtain ⟨Ao37, co37, eo37⟩ := Kd.R_slice HO537.out; subst eo37) | ((with_reducible refine gate_callee (f := 18) rfl ?_); refine goesL_ (some 48) rfl rfl Try.func18 (by kernel_rfl) rfl #[.slice Ao37 t535.length co37, .string a2] rfl (by (try simp only [List.map_toArray, List.map_cons, List.map_nil]); first | done | rfl | (simp only [List.length_drop, List.length_take]; rfl)) ?_; (with_reducible refine (hist_From.calls kj3 _ _ t535 a2 t538 _ ?side1 ?side2 A28.out).mono ?_); (case side1 => repeat (first | exact (Kd.R_reads' HO537.out).2.2 | (with_reducible refine Kd.C_alloc ?_ _) | (with_reducible refine Kd.C_drewN ?_ _) | (with_reducible refine Kd.C_drew ?_))); (case side2 => exact (Kd.R_reads' HO537.out).2.1); rintro e w38 ⟨v539, rfl, ho0, hb⟩; refine ⟨_, rfl, ?_⟩; have n0_ := Aside0.mk (Kd.R_elder' (by (with_reducible repeat (first | apply Kd.R_alloc | apply Kd.R_drewN | apply Kd.R_drew)); exact HO528.out) (Kd.R_base ho0) hb); have n1_ := Aside0.mk (Kd.R_elder' (by (with_reducible repeat (first | apply Kd.R_alloc | apply Kd.R_drewN | apply Kd.R_drew)); exact HO531.out) (Kd.R_base ho0) hb); have n2_ := Aside0.mk (Kd.R_elder' (by (with_reducible repeat (first | apply Kd.R_alloc | apply Kd.R_drewN | apply Kd.R_drew)); exact HO534.out) (Kd.R_base ho0) hb); have n3_ := Aside0.mk (Kd.R_elder' (by (with_reducible repeat (first | apply Kd.R_alloc | apply Kd.R_drewN | apply Kd.R_drew)); exact HO537.out) (Kd.R_base ho0) hb); have n4_ := Aside0.mk (Kd.R_lower (Kd.R_newB (Kd.R_new' (Kd.R_new' (Kd.R_new' (Kd.R_new' ho0 (Kd.R_lt (by (with_reducible repeat (first | apply Kd.R_alloc | apply Kd.R_drewN | apply Kd.R_drew)); exact HO528.out))) (Kd.R_lt (by (with_reducible repeat (first | apply Kd.R_alloc | apply Kd.R_drewN | apply Kd.R_drew)); exact HO531.out))) (Kd.R_lt (by (with_reducible repeat (first | apply Kd.R_alloc | apply Kd.R_drewN | apply Kd.R_drew)); exact HO534.out))) (Kd.R_lt (by (with_reducible repeat (first | apply Kd.R_alloc | apply Kd.R_drewN | apply Kd.R_drew)); exact HO537.out))) (g := gb521) (o := .cells #[.string a1_0, .string a1_1, .int .i64 a1_2, .int .i64 a1_3, .int .i64 a1_4, .int .i64 a1_5] 26 (0, 0)) (by (with_reducible repeat (first | refine blk_drewN ?_ _ | refine blk_drew ?_ | refine blk_alloc ?_ _)); exact BK521.out)) (below_size (by repeat (first | (with_reducible first | exact HB.out | apply below_alloc | apply pw_below_drewN | apply below_drew1 | refine below_set ?_ GE521.out) | exact HB.out)))); have n5_ := Aside0.mk (blk_below (g := gb521) (o := .cells #[.string a1_0, .string a1_1, .int .i64 a1_2, .int .i64 a1_3, .int .i64 a1_4, .int .i64 a1_5] 26 (0, 0)) (by (with_reducible repeat (first | refine blk_drewN ?_ _ | refine blk_drew ?_ | refine blk_alloc ?_ _)); exact BK521.out) hb); have n6_ := Aside0.mk (below_step (by repeat (first | (with_reducible first | exact HB.out | apply below_alloc | apply pw_below_drewN | apply below_drew1 | refine below_set ?_ GE521.out) | exact HB.out)) hb); clear HO528; clear HO531; clear HO534; clear HO537; clear BK521; clear HB; have HO528 := n0_; have HO531 := n1_; have HO534 := n2_; have HO537 := n3_; have HO540 := n4_; have BK521 := n5_; have HB := n6_; clear n0_ n1_ n2_ n3_ n4_ n5_ n6_; (try clear hb); (try clear hb2); (try clear hk); (try clear hi); (try clear ho0)))
        (try simp only [Act.put, List.setIfInBounds_toArray, List.set_cons_zero, List.set_cons_succ])
        go_cut [63] (fun v63 wc => ∃ (kq : Nat) (x63_28 : Bool), v63 = .bool x63_28 ∧ Aside0 (batonlaw04_HistPrefix.j1 kq t526 t532 t538 x63_28 a1_0 a1_1 a1_2 a1_3 a1_4 a1_5 = some r) ∧ Aside0 (kq ≤ kj3) ∧ Aside0 (Kd.R k26 26 wc w.heap.size (fun k_ => some k_ ≠ (v533 : Value).ownBlock ∧ some k_ ≠ (v539 : Value).ownBlock ∧ k_ ≠ gb521) v527 t526) ∧ Aside0 (Kd.R k26 26 wc w.heap.size (fun k_ => some k_ ≠ (v527 : Value).ownBlock ∧ some k_ ≠ (v539 : Value).ownBlock ∧ k_ ≠ gb521) v533 t532) ∧ Aside0 (Kd.R k26 26 wc w.heap.size (fun k_ => some k_ ≠ (v527 : Value).ownBlock ∧ some k_ ≠ (v533 : Value).ownBlock ∧ k_ ≠ gb521) v539 t538) ∧ Aside0 (wc.heap[gb521]? = some (.cells #[.string a1_0, .string a1_1, .int .i64 a1_2, .int .i64 a1_3, .int .i64 a1_4, .int .i64 a1_5] 26 (0, 0))) ∧ Aside0 (Below w.heap.size w wc))
        case first =>
          have H := HC29.out
          clear HC29
          by_cases c39 : (a1_0.size : Int) ≥ (a2.size : Int)
          · rw [if_pos c39] at H
            have c39b0 : decide ((a2.size : Int) ≤ (a1_0.size : Int)) = true := decide_eq_true c39
            have c39b1 : decide (a2.size ≤ a1_0.size) = true := decide_eq_true (Int.ofNat_le.mp c39)
            clear c39
            (first | rw [c39b0] | (simp only [i64_w, i32_w]; rw [c39b0]) | skip)
            by_cases c40 : 0 ≤ (a2.size : Int)
            · rw [if_pos c40] at H
              have c40b0 := eq_true c40
              have c40b1 : decide (0 ≤ (a2.size : Int)) = true := decide_eq_true c40
              clear c40
              by_cases c41 : (a2.size : Int) ≤ (a1_0.size : Int)
              · rw [if_pos c41] at H
                have c41b0 := eq_true c41
                have c41b1 : decide ((a2.size : Int) ≤ (a1_0.size : Int)) = true := decide_eq_true c41
                clear c41
                have H' := Aside0.mk H
                clear H
                have hcz42_0 : w38.cell? ⟨gb521, 0, none⟩ = some (.string a1_0) := (blk_cell BK521.out 0).trans rfl
                have hcz42_1 : w38.cell? ⟨gb521, 1, none⟩ = some (.string a1_1) := (blk_cell BK521.out 1).trans rfl
                have hcz42_2 : w38.cell? ⟨gb521, 2, none⟩ = some (.int .i64 a1_2) := (blk_cell BK521.out 2).trans rfl
                have hcz42_3 : w38.cell? ⟨gb521, 3, none⟩ = some (.int .i64 a1_3) := (blk_cell BK521.out 3).trans rfl
                have hcz42_4 : w38.cell? ⟨gb521, 4, none⟩ = some (.int .i64 a1_4) := (blk_cell BK521.out 4).trans rfl
                have hcz42_5 : w38.cell? ⟨gb521, 5, none⟩ = some (.int .i64 a1_5) := (blk_cell BK521.out 5).trans rfl
                have hfz42_0 := blk_frozen BK521.out 0
                have hfz42_1 := blk_frozen BK521.out 1
                have hfz42_2 := blk_frozen BK521.out 2
                have hfz42_3 := blk_frozen BK521.out 3
                have hfz42_4 := blk_frozen BK521.out 4
                have hfz42_5 := blk_frozen BK521.out 5
                go_wp2
                go_meet
                case rel => exact ⟨_, (((a1_0.extract 0 ((a2.size : Int) : Int).toNat).toList == a2.toList)), (by first | rfl | (simp; done) | (simp [*]; done)), H', ⟨by have := HJ3.out; first | omega | exact Nat.le_refl _⟩, ⟨by (with_reducible repeat (first | apply Kd.R_alloc | apply Kd.R_drewN | apply Kd.R_drew)); exact Kd.R_mono HO528.out (fun _ hk => ⟨hk.1.1.2, ⟨hk.2, hk.1.1.1.1.2⟩⟩)⟩, ⟨by (with_reducible repeat (first | apply Kd.R_alloc | apply Kd.R_drewN | apply Kd.R_drew)); exact Kd.R_mono HO534.out (fun _ hk => ⟨hk.1.1.1.1.2, ⟨hk.2, hk.1.1.2⟩⟩)⟩, ⟨by (with_reducible repeat (first | apply Kd.R_alloc | apply Kd.R_drewN | apply Kd.R_drew)); exact Kd.R_mono HO540.out (fun _ hk => ⟨hk.1.1.1.1.2, ⟨hk.1.1.2, hk.2⟩⟩)⟩, ⟨by (with_reducible repeat (first | refine blk_drewN ?_ _ | refine blk_drew ?_ | refine blk_alloc ?_ _)); exact BK521.out⟩, ⟨by repeat (first | (with_reducible first | exact HB.out | apply below_alloc | apply pw_below_drewN | apply below_drew1 | refine below_set ?_ GE521.out) | exact HB.out)⟩⟩
              · rw [if_neg c41] at H
                exact absurd H (by simp)
            · rw [if_neg c40] at H
              exact absurd H (by simp)
          · rw [if_neg c39] at H
            have c39b0 : decide ((a2.size : Int) ≤ (a1_0.size : Int)) = false := decide_eq_false c39
            have c39b1 : decide (a2.size ≤ a1_0.size) = false := decide_eq_false (fun h => c39 (Int.ofNat_le.mpr h))
            clear c39
            (first | rw [c39b0] | (simp only [i64_w, i32_w]; rw [c39b0]) | skip)
            have H' := Aside0.mk H
            clear H
            have hcz43_0 : w38.cell? ⟨gb521, 0, none⟩ = some (.string a1_0) := (blk_cell BK521.out 0).trans rfl
            have hcz43_1 : w38.cell? ⟨gb521, 1, none⟩ = some (.string a1_1) := (blk_cell BK521.out 1).trans rfl
            have hcz43_2 : w38.cell? ⟨gb521, 2, none⟩ = some (.int .i64 a1_2) := (blk_cell BK521.out 2).trans rfl
            have hcz43_3 : w38.cell? ⟨gb521, 3, none⟩ = some (.int .i64 a1_3) := (blk_cell BK521.out 3).trans rfl
            have hcz43_4 : w38.cell? ⟨gb521, 4, none⟩ = some (.int .i64 a1_4) := (blk_cell BK521.out 4).trans rfl
            have hcz43_5 : w38.cell? ⟨gb521, 5, none⟩ = some (.int .i64 a1_5) := (blk_cell BK521.out 5).trans rfl
            have hfz43_0 := blk_frozen BK521.out 0
            have hfz43_1 := blk_frozen BK521.out 1
            have hfz43_2 := blk_frozen BK521.out 2
            have hfz43_3 := blk_frozen BK521.out 3
            have hfz43_4 := blk_frozen BK521.out 4
            have hfz43_5 := blk_frozen BK521.out 5
            go_wp2
            go_meet
            case rel => exact ⟨_, (false), (by first | rfl | (simp; done) | (simp [*]; done)), H', ⟨by have := HJ3.out; first | omega | exact Nat.le_refl _⟩, ⟨by (with_reducible repeat (first | apply Kd.R_alloc | apply Kd.R_drewN | apply Kd.R_drew)); exact Kd.R_mono HO528.out (fun _ hk => ⟨hk.1.1.2, ⟨hk.2, hk.1.1.1.1.2⟩⟩)⟩, ⟨by (with_reducible repeat (first | apply Kd.R_alloc | apply Kd.R_drewN | apply Kd.R_drew)); exact Kd.R_mono HO534.out (fun _ hk => ⟨hk.1.1.1.1.2, ⟨hk.2, hk.1.1.2⟩⟩)⟩, ⟨by (with_reducible repeat (first | apply Kd.R_alloc | apply Kd.R_drewN | apply Kd.R_drew)); exact Kd.R_mono HO540.out (fun _ hk => ⟨hk.1.1.1.1.2, ⟨hk.1.1.2, hk.2⟩⟩)⟩, ⟨by (with_reducible repeat (first | refine blk_drewN ?_ _ | refine blk_drew ?_ | refine blk_alloc ?_ _)); exact BK521.out⟩, ⟨by repeat (first | (with_reducible first | exact HB.out | apply below_alloc | apply pw_below_drewN | apply below_drew1 | refine below_set ?_ GE521.out) | exact HB.out)⟩⟩
        case rest =>
          clear HC29
          try clear c1
          try clear c2
          try clear p2
          try clear c3
          try clear c4
          try clear c7
          try clear c8
          try clear c8b0
          try clear c8b1
          try clear c9
          try clear c10
          try clear c10b0
          try clear c10b1
          try clear c13
          try clear c16
          try clear c18
          try clear c21
          try clear c23
          try clear c39
          try clear c39b0
          try clear c39b1
          try clear c40
          try clear c40b0
          try clear c40b1
          try clear c41
          try clear c41b0
          try clear c41b1
          try clear hcz11_0
          try clear hcz11_1
          try clear hcz11_2
          try clear hcz11_3
          try clear hcz11_4
          try clear hcz11_5
          try clear hcz15_0
          try clear hcz15_1
          try clear hcz15_2
          try clear hcz15_3
          try clear hcz15_4
          try clear hcz15_5
          try clear hcz17_0
          try clear hcz17_1
          try clear hcz17_2
          try clear hcz17_3
          try clear hcz17_4
          try clear hcz17_5
          try clear hcz19_0
          try clear hcz19_1
          try clear hcz19_2
          try clear hcz19_3
          try clear hcz19_4
          try clear hcz19_5
          try clear hcz31_0
          try clear hcz31_1
          try clear hcz31_2
          try clear hcz31_3
          try clear hcz31_4
          try clear hcz31_5
          try clear hcz35_0
          try clear hcz35_1
          try clear hcz35_2
          try clear hcz35_3
          try clear hcz35_4
          try clear hcz35_5
          try clear hcz42_0
          try clear hcz42_1
          try clear hcz42_2
          try clear hcz42_3
          try clear hcz42_4
          try clear hcz42_5
          try clear hcz43_0
          try clear hcz43_1
          try clear hcz43_2
          try clear hcz43_3
          try clear hcz43_4
          try clear hcz43_5
          try clear hcz9_0
          try clear hcz9_1
          try clear hcz9_2
          try clear hcz9_3
          try clear hcz9_4
          try clear hcz9_5
          try clear hfz11_0
          try clear hfz11_1
          try clear hfz11_2
          try clear hfz11_3
          try clear hfz11_4
          try clear hfz11_5
          try clear hfz15_0
          try clear hfz15_1
          try clear hfz15_2
          try clear hfz15_3
          try clear hfz15_4
          try clear hfz15_5
          try clear hfz17_0
          try clear hfz17_1
          try clear hfz17_2
          try clear hfz17_3
          try clear hfz17_4
          try clear hfz17_5
          try clear hfz19_0
          try clear hfz19_1
          try clear hfz19_2
          try clear hfz19_3
          try clear hfz19_4
          try clear hfz19_5
          try clear hfz31_0
          try clear hfz31_1
          try clear hfz31_2
          try clear hfz31_3
          try clear hfz31_4
          try clear hfz31_5
          try clear hfz35_0
          try clear hfz35_1
          try clear hfz35_2
          try clear hfz35_3
          try clear hfz35_4
          try clear hfz35_5
          try clear hfz42_0
          try clear hfz42_1
          try clear hfz42_2
          try clear hfz42_3
          try clear hfz42_4
          try clear hfz42_5
          try clear hfz43_0
          try clear hfz43_1
          try clear hfz43_2
          try clear hfz43_3
          try clear hfz43_4
          try clear hfz43_5
          try clear hfz9_0
          try clear hfz9_1
          try clear hfz9_2
          try clear hfz9_3
          try clear hfz9_4
          try clear hfz9_5
          try clear p2
          obtain ⟨kq, x63_28, rfl, HA, HJ28, HO_7, HO_8, HO_9, BK521, HB⟩ := hcut
          cases kq with
          | zero => exact absurd HA.out (by simp [batonlaw04_HistPrefix.j1])
          | succ kj28 =>
            have H := HA.out
            clear HA
            simp only [batonlaw04_HistPrefix.j1] at H
            by_cases c44 : x63_28 = true
            · subst c44
              have H1 : ((hist_Lay.f kj28 t526 a1_0 a1_1 a1_2 a1_3 a1_4 a1_5).bind fun t541 => ((batonref03_KVs.f kj28 t532 t541).bind fun t544 => (if t544 = true then ((hist_Take.f t526 a1_0).bind fun t545 => ((batonref03_KVs.f kj28 t538 t545).bind fun t548 => (if t548 = true then ((hist_May.f kj28 t526).bind fun t549 => (if t549 = true then ((batonlaw04_live.f kj28).bind fun t550 => (some t550)) else (none))) else (none)))) else (none)))) = some r := by rw [if_pos rfl] at H; exact H
              clear H
              have H := H1
              clear H1
              replace H := Option.bind_eq_some_iff.mp H
              obtain ⟨t541, A450, H⟩ := H
              replace H : ((batonref03_KVs.f kj28 t532 t541).bind fun t544 => (if t544 = true then ((hist_Take.f t526 a1_0).bind fun t545 => ((batonref03_KVs.f kj28 t538 t545).bind fun t548 => (if t548 = true then ((hist_May.f kj28 t526).bind fun t549 => (if t549 = true then ((batonlaw04_live.f kj28).bind fun t550 => (some t550)) else (none))) else (none)))) else (none))) = some r := H
              have A45 := Aside0.mk A450
              clear A450
              replace H := Option.bind_eq_some_iff.mp H
              obtain ⟨t544, A460, H⟩ := H
              replace H : (if t544 = true then ((hist_Take.f t526 a1_0).bind fun t545 => ((batonref03_KVs.f kj28 t538 t545).bind fun t548 => (if t548 = true then ((hist_May.f kj28 t526).bind fun t549 => (if t549 = true then ((batonlaw04_live.f kj28).bind fun t550 => (some t550)) else (none))) else (none)))) else (none)) = some r := H
              have A46 := Aside0.mk A460
              clear A460
              by_cases c47 : t544 = true
              · subst c47
                have H1 : ((hist_Take.f t526 a1_0).bind fun t545 => ((batonref03_KVs.f kj28 t538 t545).bind fun t548 => (if t548 = true then ((hist_May.f kj28 t526).bind fun t549 => (if t549 = true then ((batonlaw04_live.f kj28).bind fun t550 => (some t550)) else (none))) else (none)))) = some r := by rw [if_pos rfl] at H; exact H
                clear H
                have H := H1
                clear H1
                replace H := Option.bind_eq_some_iff.mp H
                obtain ⟨t545, A480, H⟩ := H
                replace H : ((batonref03_KVs.f kj28 t538 t545).bind fun t548 => (if t548 = true then ((hist_May.f kj28 t526).bind fun t549 => (if t549 = true then ((batonlaw04_live.f kj28).bind fun t550 => (some t550)) else (none))) else (none))) = some r := H
                have A48 := Aside0.mk A480
                clear A480
                replace H := Option.bind_eq_some_iff.mp H
                obtain ⟨t548, A490, H⟩ := H
                replace H : (if t548 = true then ((hist_May.f kj28 t526).bind fun t549 => (if t549 = true then ((batonlaw04_live.f kj28).bind fun t550 => (some t550)) else (none))) else (none)) = some r := H
                have A49 := Aside0.mk A490
                clear A490
                by_cases c50 : t548 = true
                · subst c50
                  have H1 : ((hist_May.f kj28 t526).bind fun t549 => (if t549 = true then ((batonlaw04_live.f kj28).bind fun t550 => (some t550)) else (none))) = some r := by rw [if_pos rfl] at H; exact H
                  clear H
                  have H := H1
                  clear H1
                  replace H := Option.bind_eq_some_iff.mp H
                  obtain ⟨t549, A510, H⟩ := H
                  replace H : (if t549 = true then ((batonlaw04_live.f kj28).bind fun t550 => (some t550)) else (none)) = some r := H
                  have A51 := Aside0.mk A510
                  clear A510
                  by_cases c52 : t549 = true
                  · subst c52
                    have H1 : ((batonlaw04_live.f kj28).bind fun t550 => (some t550)) = some r := by rw [if_pos rfl] at H; exact H
                    clear H
                    have H := H1
                    clear H1
                    replace H := Option.bind_eq_some_iff.mp H
                    obtain ⟨t550, A530, H⟩ := H
                    replace H : (some t550) = some r := H
                    have A53 := Aside0.mk A530
                    clear A530
                    obtain rfl := Option.some.inj H
                    have hcz54_0 : wc.cell? ⟨gb521, 0, none⟩ = some (.string a1_0) := (blk_cell BK521.out 0).trans rfl
                    have hcz54_1 : wc.cell? ⟨gb521, 1, none⟩ = some (.string a1_1) := (blk_cell BK521.out 1).trans rfl
                    have hcz54_2 : wc.cell? ⟨gb521, 2, none⟩ = some (.int .i64 a1_2) := (blk_cell BK521.out 2).trans rfl
                    have hcz54_3 : wc.cell? ⟨gb521, 3, none⟩ = some (.int .i64 a1_3) := (blk_cell BK521.out 3).trans rfl
                    have hcz54_4 : wc.cell? ⟨gb521, 4, none⟩ = some (.int .i64 a1_4) := (blk_cell BK521.out 4).trans rfl
                    have hcz54_5 : wc.cell? ⟨gb521, 5, none⟩ = some (.int .i64 a1_5) := (blk_cell BK521.out 5).trans rfl
                    have hfz54_0 := blk_frozen BK521.out 0
                    have hfz54_1 := blk_frozen BK521.out 1
                    have hfz54_2 := blk_frozen BK521.out 2
                    have hfz54_3 := blk_frozen BK521.out 3
                    have hfz54_4 := blk_frozen BK521.out 4
                    have hfz54_5 := blk_frozen BK521.out 5
                    obtain ⟨Ao55, co55, eo55⟩ := Kd.R_slice HO_7.out
                    subst eo55
                    go_wp2_with (first | ((with_reducible refine gate_callee (f := 23) rfl ?_); refine goesL_ (some 67) rfl rfl Try.func23 (by kernel_rfl) rfl #[.slice Ao55 t526.length co55, .agg #[.string a1_0, .string a1_1, .int .i64 a1_2, .int .i64 a1_3, .int .i64 a1_4, .int .i64 a1_5]] rfl (by (try simp only [List.map_toArray, List.map_cons, List.map_nil]); first | done | rfl | (simp only [List.length_drop, List.length_take]; rfl)) ?_; (with_reducible refine (hist_Lay.calls kj28 _ _ t526 a1_0 a1_1 a1_2 a1_3 a1_4 a1_5 t541 _ ?side1 ?side2 A45.out).mono ?_); (case side1 => repeat (first | exact (Kd.R_reads' HO_7.out).2.2 | (with_reducible refine Kd.C_alloc ?_ _) | (with_reducible refine Kd.C_drewN ?_ _) | (with_reducible refine Kd.C_drew ?_))); (case side2 => exact (Kd.R_reads' HO_7.out).2.1); rintro e w56 ⟨v542, rfl, ho0, hb⟩; refine ⟨_, rfl, ?_⟩; have n0_ := Aside0.mk (Kd.R_elder' (by (with_reducible repeat (first | apply Kd.R_alloc | apply Kd.R_drewN | apply Kd.R_drew)); exact HO_7.out) (Kd.R_base ho0) hb); have n1_ := Aside0.mk (Kd.R_elder' (by (with_reducible repeat (first | apply Kd.R_alloc | apply Kd.R_drewN | apply Kd.R_drew)); exact HO_8.out) (Kd.R_base ho0) hb); have n2_ := Aside0.mk (Kd.R_elder' (by (with_reducible repeat (first | apply Kd.R_alloc | apply Kd.R_drewN | apply Kd.R_drew)); exact HO_9.out) (Kd.R_base ho0) hb); have n3_ := Aside0.mk (Kd.R_lower (Kd.R_newB (Kd.R_new' (Kd.R_new' (Kd.R_new' ho0 (Kd.R_lt (by (with_reducible repeat (first | apply Kd.R_alloc | apply Kd.R_drewN | apply Kd.R_drew)); exact HO_7.out))) (Kd.R_lt (by (with_reducible repeat (first | apply Kd.R_alloc | apply Kd.R_drewN | apply Kd.R_drew)); exact HO_8.out))) (Kd.R_lt (by (with_reducible repeat (first | apply Kd.R_alloc | apply Kd.R_drewN | apply Kd.R_drew)); exact HO_9.out))) (g := gb521) (o := .cells #[.string a1_0, .string a1_1, .int .i64 a1_2, .int .i64 a1_3, .int .i64 a1_4, .int .i64 a1_5] 26 (0, 0)) (by (with_reducible repeat (first | refine blk_drewN ?_ _ | refine blk_drew ?_ | refine blk_alloc ?_ _)); exact BK521.out)) (below_size (by repeat (first | (with_reducible first | exact HB.out | apply below_alloc | apply pw_below_drewN | apply below_drew1 | refine below_set ?_ GE521.out) | exact HB.out)))); have n4_ := Aside0.mk (blk_below (g := gb521) (o := .cells #[.string a1_0, .string a1_1, .int .i64 a1_2, .int .i64 a1_3, .int .i64 a1_4, .int .i64 a1_5] 26 (0, 0)) (by (with_reducible repeat (first | refine blk_drewN ?_ _ | refine blk_drew ?_ | refine blk_alloc ?_ _)); exact BK521.out) hb); have n5_ := Aside0.mk (below_step (by repeat (first | (with_reducible first | exact HB.out | apply below_alloc | apply pw_below_drewN | apply below_drew1 | refine below_set ?_ GE521.out) | exact HB.out)) hb); clear HO_7; clear HO_8; clear HO_9; clear BK521; clear HB; have HO_7 := n0_; have HO_8 := n1_; have HO_9 := n2_; have HO543 := n3_; have BK521 := n4_; have HB := n5_; clear n0_ n1_ n2_ n3_ n4_ n5_; (try clear hb); (try clear hb2); (try clear hk); (try clear hi); (try clear ho0); obtain ⟨Ao57, co57, eo57⟩ := Kd.R_slice HO_8.out; subst eo57; obtain ⟨Ao58, co58, eo58⟩ := Kd.R_slice HO543.out; subst eo58) | ((with_reducible refine gate_callee (f := 15) rfl ?_); refine goesL_ (some 68) rfl rfl Try.func15 (by kernel_rfl) rfl #[.slice Ao57 t532.length co57, .slice Ao58 t541.length co58] rfl (by (try simp only [List.map_toArray, List.map_cons, List.map_nil]); first | done | rfl | (simp only [List.length_drop, List.length_take]; rfl)) ?_; (with_reducible refine (batonref03_KVs.calls kj28 _ _ t532 _ _ t541 true _ ?side1 ?side2 ?side3 ?side4 A46.out).mono ?_); (case side1 => repeat (first | exact (Kd.R_reads' HO_8.out).2.2 | (with_reducible refine Kd.C_alloc ?_ _) | (with_reducible refine Kd.C_drewN ?_ _) | (with_reducible refine Kd.C_drew ?_))); (case side2 => exact (Kd.R_reads' HO_8.out).2.1); (case side3 => repeat (first | exact (Kd.R_reads' HO543.out).2.2 | (with_reducible refine Kd.C_alloc ?_ _) | (with_reducible refine Kd.C_drewN ?_ _) | (with_reducible refine Kd.C_drew ?_))); (case side4 => exact (Kd.R_reads' HO543.out).2.1); rintro e w' ⟨rfl, ⟨nd, rfl⟩⟩; refine ⟨_, rfl, ?_⟩; have hcz59_0 : w56.cell? ⟨gb521, 0, none⟩ = some (.string a1_0) := (blk_cell BK521.out 0).trans rfl; have hcz59_1 : w56.cell? ⟨gb521, 1, none⟩ = some (.string a1_1) := (blk_cell BK521.out 1).trans rfl; have hcz59_2 : w56.cell? ⟨gb521, 2, none⟩ = some (.int .i64 a1_2) := (blk_cell BK521.out 2).trans rfl; have hcz59_3 : w56.cell? ⟨gb521, 3, none⟩ = some (.int .i64 a1_3) := (blk_cell BK521.out 3).trans rfl; have hcz59_4 : w56.cell? ⟨gb521, 4, none⟩ = some (.int .i64 a1_4) := (blk_cell BK521.out 4).trans rfl; have hcz59_5 : w56.cell? ⟨gb521, 5, none⟩ = some (.int .i64 a1_5) := (blk_cell BK521.out 5).trans rfl; have hfz59_0 := blk_frozen BK521.out 0; have hfz59_1 := blk_frozen BK521.out 1; have hfz59_2 := blk_frozen BK521.out 2; have hfz59_3 := blk_frozen BK521.out 3; have hfz59_4 := blk_frozen BK521.out 4; have hfz59_5 := blk_frozen BK521.out 5) | (go_at_call 16; (with_reducible refine (hist_Take.calls (fun k_ => some k_ = (.slice Ao55 t526.length co55 : Value).ownBlock) _ _ t526 a1_0 t545 _ ?side1 A48.out).mono ?_); (case side1 => exact Kd.R_V (Kd.R_tight rfl (HO_7.out))); rintro e w60 ⟨v546, rfl, ho0, hb⟩; have n0_ := Aside0.mk (Kd.R_elder' (by (with_reducible repeat (first | apply Kd.R_alloc | apply Kd.R_drewN | apply Kd.R_drew)); exact HO_7.out) (Kd.R_base ho0) hb); have n1_ := Aside0.mk (Kd.R_elder' (by (with_reducible repeat (first | apply Kd.R_alloc | apply Kd.R_drewN | apply Kd.R_drew)); exact HO_8.out) (Kd.R_base ho0) hb); have n2_ := Aside0.mk (Kd.R_elder' (by (with_reducible repeat (first | apply Kd.R_alloc | apply Kd.R_drewN | apply Kd.R_drew)); exact HO_9.out) (Kd.R_base ho0) hb); have n3_ := Aside0.mk (Kd.R_elder' (by (with_reducible repeat (first | apply Kd.R_alloc | apply Kd.R_drewN | apply Kd.R_drew)); exact HO543.out) (Kd.R_base ho0) hb); have n4_ := Aside0.mk (Kd.R_lower (Kd.R_newB (Kd.R_new' (Kd.R_new' (Kd.R_new' (Kd.R_new' (Kd.R_mono (ok' := fun k_ => True) ho0 (fun _ hk_ => trivial)) (Kd.R_lt (by (with_reducible repeat (first | apply Kd.R_alloc | apply Kd.R_drewN | apply Kd.R_drew)); exact HO_7.out))) (Kd.R_lt (by (with_reducible repeat (first | apply Kd.R_alloc | apply Kd.R_drewN | apply Kd.R_drew)); exact HO_8.out))) (Kd.R_lt (by (with_reducible repeat (first | apply Kd.R_alloc | apply Kd.R_drewN | apply Kd.R_drew)); exact HO_9.out))) (Kd.R_lt (by (with_reducible repeat (first | apply Kd.R_alloc | apply Kd.R_drewN | apply Kd.R_drew)); exact HO543.out))) (g := gb521) (o := .cells #[.string a1_0, .string a1_1, .int .i64 a1_2, .int .i64 a1_3, .int .i64 a1_4, .int .i64 a1_5] 26 (0, 0)) (by (with_reducible repeat (first | refine blk_drewN ?_ _ | refine blk_drew ?_ | refine blk_alloc ?_ _)); exact BK521.out)) (below_size (by repeat (first | (with_reducible first | exact HB.out | apply below_alloc | apply pw_below_drewN | apply below_drew1 | refine below_set ?_ GE521.out) | exact HB.out)))); have n5_ := Aside0.mk (blk_below (g := gb521) (o := .cells #[.string a1_0, .string a1_1, .int .i64 a1_2, .int .i64 a1_3, .int .i64 a1_4, .int .i64 a1_5] 26 (0, 0)) (by (with_reducible repeat (first | refine blk_drewN ?_ _ | refine blk_drew ?_ | refine blk_alloc ?_ _)); exact BK521.out) hb); have n6_ := Aside0.mk (below_step (by repeat (first | (with_reducible first | exact HB.out | apply below_alloc | apply pw_below_drewN | apply below_drew1 | refine below_set ?_ GE521.out) | exact HB.out)) hb); clear HO_7; clear HO_8; clear HO_9; clear HO543; clear BK521; clear HB; have HO_7 := n0_; have HO_8 := n1_; have HO_9 := n2_; have HO543 := n3_; have HO547 := n4_; have BK521 := n5_; have HB := n6_; clear n0_ n1_ n2_ n3_ n4_ n5_ n6_; (try clear hb); (try clear hb2); (try clear hk); (try clear hi); (try clear ho0); obtain ⟨Ao61, co61, eo61⟩ := Kd.R_slice HO_9.out; subst eo61; obtain ⟨Ao62, co62, eo62⟩ := Kd.R_slice HO547.out; subst eo62) | (go_at_call 15; (with_reducible refine (batonref03_KVs.calls kj28 _ _ t538 _ _ t545 true _ ?side1 ?side2 ?side3 ?side4 A49.out).mono ?_); (case side1 => repeat (first | exact (Kd.R_reads' HO_9.out).2.2 | (with_reducible refine Kd.C_alloc ?_ _) | (with_reducible refine Kd.C_drewN ?_ _) | (with_reducible refine Kd.C_drew ?_))); (case side2 => exact (Kd.R_reads' HO_9.out).2.1); (case side3 => repeat (first | exact (Kd.R_reads' HO547.out).2.2 | (with_reducible refine Kd.C_alloc ?_ _) | (with_reducible refine Kd.C_drewN ?_ _) | (with_reducible refine Kd.C_drew ?_))); (case side4 => exact (Kd.R_reads' HO547.out).2.1); rintro e w' ⟨rfl, ⟨nd, rfl⟩⟩) | (go_at_call 13; (with_reducible refine (hist_May.calls kj28 _ _ t526 true _ ?side1 ?side2 A51.out).mono ?_); (case side1 => repeat (first | exact (Kd.R_reads' HO_7.out).2.2 | (with_reducible refine Kd.C_alloc ?_ _) | (with_reducible refine Kd.C_drewN ?_ _) | (with_reducible refine Kd.C_drew ?_))); (case side2 => exact (Kd.R_reads' HO_7.out).2.1); rintro e w63 ⟨rfl, hb⟩; have n0_ := Aside0.mk (Kd.R_below (by (with_reducible repeat (first | apply Kd.R_alloc | apply Kd.R_drewN | apply Kd.R_drew)); exact HO_7.out) hb); have n1_ := Aside0.mk (Kd.R_below (by (with_reducible repeat (first | apply Kd.R_alloc | apply Kd.R_drewN | apply Kd.R_drew)); exact HO_8.out) hb); have n2_ := Aside0.mk (Kd.R_below (by (with_reducible repeat (first | apply Kd.R_alloc | apply Kd.R_drewN | apply Kd.R_drew)); exact HO_9.out) hb); have n3_ := Aside0.mk (Kd.R_below (by (with_reducible repeat (first | apply Kd.R_alloc | apply Kd.R_drewN | apply Kd.R_drew)); exact HO543.out) hb); have n4_ := Aside0.mk (Kd.R_below (by (with_reducible repeat (first | apply Kd.R_alloc | apply Kd.R_drewN | apply Kd.R_drew)); exact HO547.out) hb); have n5_ := Aside0.mk (blk_below (g := gb521) (o := .cells #[.string a1_0, .string a1_1, .int .i64 a1_2, .int .i64 a1_3, .int .i64 a1_4, .int .i64 a1_5] 26 (0, 0)) (by (with_reducible repeat (first | refine blk_drewN ?_ _ | refine blk_drew ?_ | refine blk_alloc ?_ _)); exact BK521.out) hb); have n6_ := Aside0.mk (below_step (by repeat (first | (with_reducible first | exact HB.out | apply below_alloc | apply pw_below_drewN | apply below_drew1 | refine below_set ?_ GE521.out) | exact HB.out)) hb); clear HO_7; clear HO_8; clear HO_9; clear HO543; clear HO547; clear BK521; clear HB; have HO_7 := n0_; have HO_8 := n1_; have HO_9 := n2_; have HO543 := n3_; have HO547 := n4_; have BK521 := n5_; have HB := n6_; clear n0_ n1_ n2_ n3_ n4_ n5_ n6_; (try clear hb); (try clear hb2); (try clear hk); (try clear hi)) | (go_at_call 10; (with_reducible refine (batonlaw04_live.calls kj28  t550 _ A53.out).mono ?_); rintro e w64 ⟨rfl, hb⟩; have n0_ := Aside0.mk (Kd.R_below (by (with_reducible repeat (first | apply Kd.R_alloc | apply Kd.R_drewN | apply Kd.R_drew)); exact HO_7.out) hb); have n1_ := Aside0.mk (Kd.R_below (by (with_reducible repeat (first | apply Kd.R_alloc | apply Kd.R_drewN | apply Kd.R_drew)); exact HO_8.out) hb); have n2_ := Aside0.mk (Kd.R_below (by (with_reducible repeat (first | apply Kd.R_alloc | apply Kd.R_drewN | apply Kd.R_drew)); exact HO_9.out) hb); have n3_ := Aside0.mk (Kd.R_below (by (with_reducible repeat (first | apply Kd.R_alloc | apply Kd.R_drewN | apply Kd.R_drew)); exact HO543.out) hb); have n4_ := Aside0.mk (Kd.R_below (by (with_reducible repeat (first | apply Kd.R_alloc | apply Kd.R_drewN | apply Kd.R_drew)); exact HO547.out) hb); have n5_ := Aside0.mk (blk_below (g := gb521) (o := .cells #[.string a1_0, .string a1_1, .int .i64 a1_2, .int .i64 a1_3, .int .i64 a1_4, .int .i64 a1_5] 26 (0, 0)) (by (with_reducible repeat (first | refine blk_drewN ?_ _ | refine blk_drew ?_ | refine blk_alloc ?_ _)); exact BK521.out) hb); have n6_ := Aside0.mk (below_step (by repeat (first | (with_reducible first | exact HB.out | apply below_alloc | apply pw_below_drewN | apply below_drew1 | refine below_set ?_ GE521.out) | exact HB.out)) hb); clear HO_7; clear HO_8; clear HO_9; clear HO543; clear HO547; clear BK521; clear HB; have HO_7 := n0_; have HO_8 := n1_; have HO_9 := n2_; have HO543 := n3_; have HO547 := n4_; have BK521 := n5_; have HB := n6_; clear n0_ n1_ n2_ n3_ n4_ n5_ n6_; (try clear hb); (try clear hb2); (try clear hk); (try clear hi)))
                    go_ret
                    exact ⟨by first | rfl | (simp [errW_none, errW_some] <;> rfl) | (simp [*, errW_none, errW_some] <;> rfl), by repeat (first | (with_reducible first | exact HB.out | apply below_alloc | apply pw_below_drewN | apply below_drew1 | refine below_set ?_ GE521.out) | exact HB.out)⟩
                  · replace c52 := Bool.eq_false_iff.mpr c52
                    subst c52
                    have H1 : (none) = some r := by rw [if_neg (show ¬ (false = true) by decide)] at H; exact H
                    clear H
                    have H := H1
                    clear H1
                    exact absurd H (by simp)
                · replace c50 := Bool.eq_false_iff.mpr c50
                  subst c50
                  have H1 : (none) = some r := by rw [if_neg (show ¬ (false = true) by decide)] at H; exact H
                  clear H
                  have H := H1
                  clear H1
                  exact absurd H (by simp)
              · replace c47 := Bool.eq_false_iff.mpr c47
                subst c47
                have H1 : (none) = some r := by rw [if_neg (show ¬ (false = true) by decide)] at H; exact H
                clear H
                have H := H1
                clear H1
                exact absurd H (by simp)
            · replace c44 := Bool.eq_false_iff.mpr c44
              subst c44
              have H1 : ((batonref03_KVs.f kj28 t526 t532).bind fun t551 => (if t551 = true then ((batonref03_KVs.f kj28 t526 t538).bind fun t552 => (if t552 = true then ((hist_May.f kj28 t526).bind fun t553 => (if t553 = true then ((batonlaw04_live.f kj28).bind fun t554 => (some t554)) else (none))) else (none))) else (none))) = some r := by rw [if_neg (show ¬ (false = true) by decide)] at H; exact H
              clear H
              have H := H1
              clear H1
              replace H := Option.bind_eq_some_iff.mp H
              obtain ⟨t551, A650, H⟩ := H
              replace H : (if t551 = true then ((batonref03_KVs.f kj28 t526 t538).bind fun t552 => (if t552 = true then ((hist_May.f kj28 t526).bind fun t553 => (if t553 = true then ((batonlaw04_live.f kj28).bind fun t554 => (some t554)) else (none))) else (none))) else (none)) = some r := H
              have A65 := Aside0.mk A650
              clear A650
              by_cases c66 : t551 = true
              · subst c66
                have H1 : ((batonref03_KVs.f kj28 t526 t538).bind fun t552 => (if t552 = true then ((hist_May.f kj28 t526).bind fun t553 => (if t553 = true then ((batonlaw04_live.f kj28).bind fun t554 => (some t554)) else (none))) else (none))) = some r := by rw [if_pos rfl] at H; exact H
                clear H
                have H := H1
                clear H1
                replace H := Option.bind_eq_some_iff.mp H
                obtain ⟨t552, A670, H⟩ := H
                replace H : (if t552 = true then ((hist_May.f kj28 t526).bind fun t553 => (if t553 = true then ((batonlaw04_live.f kj28).bind fun t554 => (some t554)) else (none))) else (none)) = some r := H
                have A67 := Aside0.mk A670
                clear A670
                by_cases c68 : t552 = true
                · subst c68
                  have H1 : ((hist_May.f kj28 t526).bind fun t553 => (if t553 = true then ((batonlaw04_live.f kj28).bind fun t554 => (some t554)) else (none))) = some r := by rw [if_pos rfl] at H; exact H
                  clear H
                  have H := H1
                  clear H1
                  replace H := Option.bind_eq_some_iff.mp H
                  obtain ⟨t553, A690, H⟩ := H
                  replace H : (if t553 = true then ((batonlaw04_live.f kj28).bind fun t554 => (some t554)) else (none)) = some r := H
                  have A69 := Aside0.mk A690
                  clear A690
                  by_cases c70 : t553 = true
                  · subst c70
                    have H1 : ((batonlaw04_live.f kj28).bind fun t554 => (some t554)) = some r := by rw [if_pos rfl] at H; exact H
                    clear H
                    have H := H1
                    clear H1
                    replace H := Option.bind_eq_some_iff.mp H
                    obtain ⟨t554, A710, H⟩ := H
                    replace H : (some t554) = some r := H
                    have A71 := Aside0.mk A710
                    clear A710
                    obtain rfl := Option.some.inj H
                    obtain ⟨Ao72, co72, eo72⟩ := Kd.R_slice HO_7.out
                    subst eo72
                    obtain ⟨Ao73, co73, eo73⟩ := Kd.R_slice HO_8.out
                    subst eo73
                    go_wp2_with (first | ((with_reducible refine gate_callee (f := 15) rfl ?_); refine goesL_ (some 86) rfl rfl Try.func15 (by kernel_rfl) rfl #[.slice Ao72 t526.length co72, .slice Ao73 t532.length co73] rfl (by (try simp only [List.map_toArray, List.map_cons, List.map_nil]); first | done | rfl | (simp only [List.length_drop, List.length_take]; rfl)) ?_; (with_reducible refine (batonref03_KVs.calls kj28 _ _ t526 _ _ t532 true _ ?side1 ?side2 ?side3 ?side4 A65.out).mono ?_); (case side1 => repeat (first | exact (Kd.R_reads' HO_7.out).2.2 | (with_reducible refine Kd.C_alloc ?_ _) | (with_reducible refine Kd.C_drewN ?_ _) | (with_reducible refine Kd.C_drew ?_))); (case side2 => exact (Kd.R_reads' HO_7.out).2.1); (case side3 => repeat (first | exact (Kd.R_reads' HO_8.out).2.2 | (with_reducible refine Kd.C_alloc ?_ _) | (with_reducible refine Kd.C_drewN ?_ _) | (with_reducible refine Kd.C_drew ?_))); (case side4 => exact (Kd.R_reads' HO_8.out).2.1); rintro e w' ⟨rfl, ⟨nd, rfl⟩⟩; refine ⟨_, rfl, ?_⟩; obtain ⟨Ao74, co74, eo74⟩ := Kd.R_slice HO_9.out; subst eo74) | (go_at_call 15; (with_reducible refine (batonref03_KVs.calls kj28 _ _ t526 _ _ t538 true _ ?side1 ?side2 ?side3 ?side4 A67.out).mono ?_); (case side1 => repeat (first | exact (Kd.R_reads' HO_7.out).2.2 | (with_reducible refine Kd.C_alloc ?_ _) | (with_reducible refine Kd.C_drewN ?_ _) | (with_reducible refine Kd.C_drew ?_))); (case side2 => exact (Kd.R_reads' HO_7.out).2.1); (case side3 => repeat (first | exact (Kd.R_reads' HO_9.out).2.2 | (with_reducible refine Kd.C_alloc ?_ _) | (with_reducible refine Kd.C_drewN ?_ _) | (with_reducible refine Kd.C_drew ?_))); (case side4 => exact (Kd.R_reads' HO_9.out).2.1); rintro e w' ⟨rfl, ⟨nd, rfl⟩⟩) | (go_at_call 13; (with_reducible refine (hist_May.calls kj28 _ _ t526 true _ ?side1 ?side2 A69.out).mono ?_); (case side1 => repeat (first | exact (Kd.R_reads' HO_7.out).2.2 | (with_reducible refine Kd.C_alloc ?_ _) | (with_reducible refine Kd.C_drewN ?_ _) | (with_reducible refine Kd.C_drew ?_))); (case side2 => exact (Kd.R_reads' HO_7.out).2.1); rintro e w75 ⟨rfl, hb⟩; have n0_ := Aside0.mk (Kd.R_below (by (with_reducible repeat (first | apply Kd.R_alloc | apply Kd.R_drewN | apply Kd.R_drew)); exact HO_7.out) hb); have n1_ := Aside0.mk (Kd.R_below (by (with_reducible repeat (first | apply Kd.R_alloc | apply Kd.R_drewN | apply Kd.R_drew)); exact HO_8.out) hb); have n2_ := Aside0.mk (Kd.R_below (by (with_reducible repeat (first | apply Kd.R_alloc | apply Kd.R_drewN | apply Kd.R_drew)); exact HO_9.out) hb); have n3_ := Aside0.mk (blk_below (g := gb521) (o := .cells #[.string a1_0, .string a1_1, .int .i64 a1_2, .int .i64 a1_3, .int .i64 a1_4, .int .i64 a1_5] 26 (0, 0)) (by (with_reducible repeat (first | refine blk_drewN ?_ _ | refine blk_drew ?_ | refine blk_alloc ?_ _)); exact BK521.out) hb); have n4_ := Aside0.mk (below_step (by repeat (first | (with_reducible first | exact HB.out | apply below_alloc | apply pw_below_drewN | apply below_drew1 | refine below_set ?_ GE521.out) | exact HB.out)) hb); clear HO_7; clear HO_8; clear HO_9; clear BK521; clear HB; have HO_7 := n0_; have HO_8 := n1_; have HO_9 := n2_; have BK521 := n3_; have HB := n4_; clear n0_ n1_ n2_ n3_ n4_; (try clear hb); (try clear hb2); (try clear hk); (try clear hi)) | (go_at_call 10; (with_reducible refine (batonlaw04_live.calls kj28  t554 _ A71.out).mono ?_); rintro e w76 ⟨rfl, hb⟩; have n0_ := Aside0.mk (Kd.R_below (by (with_reducible repeat (first | apply Kd.R_alloc | apply Kd.R_drewN | apply Kd.R_drew)); exact HO_7.out) hb); have n1_ := Aside0.mk (Kd.R_below (by (with_reducible repeat (first | apply Kd.R_alloc | apply Kd.R_drewN | apply Kd.R_drew)); exact HO_8.out) hb); have n2_ := Aside0.mk (Kd.R_below (by (with_reducible repeat (first | apply Kd.R_alloc | apply Kd.R_drewN | apply Kd.R_drew)); exact HO_9.out) hb); have n3_ := Aside0.mk (blk_below (g := gb521) (o := .cells #[.string a1_0, .string a1_1, .int .i64 a1_2, .int .i64 a1_3, .int .i64 a1_4, .int .i64 a1_5] 26 (0, 0)) (by (with_reducible repeat (first | refine blk_drewN ?_ _ | refine blk_drew ?_ | refine blk_alloc ?_ _)); exact BK521.out) hb); have n4_ := Aside0.mk (below_step (by repeat (first | (with_reducible first | exact HB.out | apply below_alloc | apply pw_below_drewN | apply below_drew1 | refine below_set ?_ GE521.out) | exact HB.out)) hb); clear HO_7; clear HO_8; clear HO_9; clear BK521; clear HB; have HO_7 := n0_; have HO_8 := n1_; have HO_9 := n2_; have BK521 := n3_; have HB := n4_; clear n0_ n1_ n2_ n3_ n4_; (try clear hb); (try clear hb2); (try clear hk); (try clear hi)))
                    go_ret
                    exact ⟨by first | rfl | (simp [errW_none, errW_some] <;> rfl) | (simp [*, errW_none, errW_some] <;> rfl), by repeat (first | (with_reducible first | exact HB.out | apply below_alloc | apply pw_below_drewN | apply below_drew1 | refine below_set ?_ GE521.out) | exact HB.out)⟩
                  · replace c70 := Bool.eq_false_iff.mpr c70
                    subst c70
                    have H1 : (none) = some r := by rw [if_neg (show ¬ (false = true) by decide)] at H; exact H
                    clear H
                    have H := H1
                    clear H1
                    exact absurd H (by simp)
                · replace c68 := Bool.eq_false_iff.mpr c68
                  subst c68
                  have H1 : (none) = some r := by rw [if_neg (show ¬ (false = true) by decide)] at H; exact H
                  clear H
                  have H := H1
                  clear H1
                  exact absurd H (by simp)
              · replace c66 := Bool.eq_false_iff.mpr c66
                subst c66
                have H1 : (none) = some r := by rw [if_neg (show ¬ (false = true) by decide)] at H; exact H
                clear H
                have H := H1
                clear H1
                exact absurd H (by simp)

end Go.Proofs.Ytldblgcbmhkmaaa.PM
