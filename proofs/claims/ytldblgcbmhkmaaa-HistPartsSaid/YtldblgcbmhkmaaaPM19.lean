-- made by a program of this session (wip/tools/myprint.py over the kit's print) out of the translation; Lean checks it
import Derived.Test.YtldblgcbmhkmaaaPM0
import Derived.Test.YtldblgcbmhkmaaaPM2
import Derived.Test.YtldblgcbmhkmaaaPM10
import Derived.Test.YtldblgcbmhkmaaaPM11
import Derived.Test.YtldblgcbmhkmaaaPM12
namespace Go.Proofs.Ytldblgcbmhkmaaa.PM
open Go.RowKit Go.Proofs.YtldblgcbmhkmaaaW.PrintWords Go.Proofs.YtldblgcbmhkmaaaW.PrintLast Go.Proofs.YtldblgcbmhkmaaaW.PrintMore
attribute [local go_sem] max2_int min2_int max_two min_two max_three min_three max_four min_four   -- for this text's walks alone
attribute [local go_sem high] Go.Proofs.Ytldblgcbmhkmaaa.My.str_leq Go.Proofs.Ytldblgcbmhkmaaa.My.str_gtr
set_option linter.unusedVariables false
set_option linter.unusedSimpArgs false

/-! ### batonlaw04_HistParts: function 7 -/
mutual
def batonlaw04_HistParts.j0 : Nat → List (S26) → List (S38) → Int → Int → Bool → Option (Bool)
  | 0, _, _, _, _, _ => none
  | k + 1, x0, x1, x7, x8, x33 => if x33 = true then ((batonlaw04_live.f k).bind fun t488 => (some t488)) else ((hist_Fold.f k x0 x1 x7).bind fun t489 => (if 0 ≤ x8 then (if x8 ≤ (x1.length : Int) then ((hist_Fold.f k x0 (x1.take (x8 : Int).toNat) x7).bind fun t496 => ((hist_Fold.f k t496 (x1.drop (x8 : Int).toNat) x7).bind fun t503 => ((batonref03_KVs.f k t489 t503).bind fun t506 => (if t506 = true then (batonlaw04_HistParts.l0 k x0 x1 x7 t489 ([] : List (S38)) 0) else (none))))) else (none)) else (none)))
def batonlaw04_HistParts.l0 : Nat → List (S26) → List (S38) → Int → List (S26) → List (S38) → Int → Option (Bool)
  | 0, _, _, _, _, _, _ => none
  | k + 1, x0, x1, x7, x9, x10, x11 => if x11 < (x1.length : Int) then (if 0 ≤ x11 then (if ((rd_T38 x1 x11).f0) ≤ x7 then (if x10.length < 1759218604441 then (batonlaw04_HistParts.l0 k x0 x1 x7 x9 (x10 ++ [(⟨(rd_T38 x1 x11).f0, (rd_T38 x1 x11).f1, (⟨(rd_T38 x1 x11).f2.f0, (rd_T38 x1 x11).f2.f1, (rd_T38 x1 x11).f2.f2, (rd_T38 x1 x11).f2.f3, (rd_T38 x1 x11).f2.f4, (rd_T38 x1 x11).f2.f5⟩ : S26)⟩ : S38)]) (wrap64 (x11 + 1))) else (none)) else (batonlaw04_HistParts.l0 k x0 x1 x7 x9 x10 (wrap64 (x11 + 1)))) else (none)) else ((hist_Fold.f k x0 x10 x7).bind fun t512 => ((batonref03_KVs.f k x9 t512).bind fun t515 => (if t515 = true then ((hist_From.f k x9 (⟨#[]⟩ : ByteArray)).bind fun t516 => ((batonref03_KVs.f k t516 x9).bind fun t519 => (if t519 = true then ((batonlaw04_live.f k).bind fun t520 => (some t520)) else (none)))) else (none))))
end
def batonlaw04_HistParts.f (k : Nat) (l0 : List (S26)) (l1 : List (S38)) (a2_0 : Int) (a2_1 : Int) : Option (Bool) := (batonref03_Few.f k l0 40).bind fun t486 => (if t486 = true then ((batonref03_FewEvents.f k l1 40).bind fun t487 => (if t487 = true then (if a2_1 < 0 then (batonlaw04_HistParts.j0 k l0 l1 a2_0 a2_1 true) else (batonlaw04_HistParts.j0 k l0 l1 a2_0 a2_1 (decide (a2_1 > (l1.length : Int))))) else (batonlaw04_HistParts.j0 k l0 l1 a2_0 a2_1 true))) else (batonlaw04_HistParts.j0 k l0 l1 a2_0 a2_1 true))
theorem batonlaw04_HistParts.mono_l : ∀ k, (∀ y0 y1 y2 y3 y4, LeO (batonlaw04_HistParts.j0 k y0 y1 y2 y3 y4) (batonlaw04_HistParts.j0 (k + 1) y0 y1 y2 y3 y4)) ∧ (∀ y0 y1 y2 y3 y4 y5, LeO (batonlaw04_HistParts.l0 k y0 y1 y2 y3 y4 y5) (batonlaw04_HistParts.l0 (k + 1) y0 y1 y2 y3 y4 y5))
  | 0 => ⟨fun _ _ _ _ _ r h => by simp [batonlaw04_HistParts.j0] at h, fun _ _ _ _ _ _ r h => by simp [batonlaw04_HistParts.l0] at h⟩
  | k + 1 => by
    obtain ⟨ih0, ih1⟩ := batonlaw04_HistParts.mono_l k
    refine ⟨?_, ?_⟩
    · intro y0 y1 y2 y3 y4
      unfold batonlaw04_HistParts.j0
      repeat' first
      | (with_reducible exact ih0 _ _ _ _ _)
      | (with_reducible exact ih1 _ _ _ _ _ _)
      | (with_reducible exact batonlaw04_live.mono _)
      | (with_reducible exact batonref03_Few.mono _ _ _)
      | (with_reducible exact batonref03_FewEvents.mono _ _ _)
      | (with_reducible exact batonref03_KVs.mono _ _ _)
      | (with_reducible exact hist_Fold.mono _ _ _ _)
      | (with_reducible exact hist_From.mono _ _ _)
      | (with_reducible exact LeO.refl _)
      | (with_reducible exact LeO.none _)
      | (with_reducible refine LeO.ite ?_ ?_)
      | (with_reducible refine LeO.bind ?_ (fun _ => ?_))
      | exact ih0 _ _ _ _ _
      | exact ih1 _ _ _ _ _ _
      | exact batonlaw04_live.mono _
      | exact batonref03_Few.mono _ _ _
      | exact batonref03_FewEvents.mono _ _ _
      | exact batonref03_KVs.mono _ _ _
      | exact hist_Fold.mono _ _ _ _
      | exact hist_From.mono _ _ _
      | exact LeO.none _
      | refine LeO.ite ?_ ?_
      | refine LeO.bind ?_ (fun _ => ?_)
    · intro y0 y1 y2 y3 y4 y5
      unfold batonlaw04_HistParts.l0
      repeat' first
      | (with_reducible exact ih0 _ _ _ _ _)
      | (with_reducible exact ih1 _ _ _ _ _ _)
      | (with_reducible exact batonlaw04_live.mono _)
      | (with_reducible exact batonref03_Few.mono _ _ _)
      | (with_reducible exact batonref03_FewEvents.mono _ _ _)
      | (with_reducible exact batonref03_KVs.mono _ _ _)
      | (with_reducible exact hist_Fold.mono _ _ _ _)
      | (with_reducible exact hist_From.mono _ _ _)
      | (with_reducible exact LeO.refl _)
      | (with_reducible exact LeO.none _)
      | (with_reducible refine LeO.ite ?_ ?_)
      | (with_reducible refine LeO.bind ?_ (fun _ => ?_))
      | exact ih0 _ _ _ _ _
      | exact ih1 _ _ _ _ _ _
      | exact batonlaw04_live.mono _
      | exact batonref03_Few.mono _ _ _
      | exact batonref03_FewEvents.mono _ _ _
      | exact batonref03_KVs.mono _ _ _
      | exact hist_Fold.mono _ _ _ _
      | exact hist_From.mono _ _ _
      | exact LeO.none _
      | refine LeO.ite ?_ ?_
      | refine LeO.bind ?_ (fun _ => ?_)
theorem batonlaw04_HistParts.mono : ∀ a0 a1 a2 a3 k, LeO (batonlaw04_HistParts.f k a0 a1 a2 a3) (batonlaw04_HistParts.f (k + 1) a0 a1 a2 a3) := by
  intro a0 a1 a2 a3 k
  obtain ⟨ih0, ih1⟩ := batonlaw04_HistParts.mono_l k
  unfold batonlaw04_HistParts.f
  repeat' first
      | (with_reducible exact ih0 _ _ _ _ _)
      | (with_reducible exact ih1 _ _ _ _ _ _)
      | (with_reducible exact batonlaw04_live.mono _)
      | (with_reducible exact batonref03_Few.mono _ _ _)
      | (with_reducible exact batonref03_FewEvents.mono _ _ _)
      | (with_reducible exact batonref03_KVs.mono _ _ _)
      | (with_reducible exact hist_Fold.mono _ _ _ _)
      | (with_reducible exact hist_From.mono _ _ _)
      | (with_reducible exact LeO.refl _)
      | (with_reducible exact LeO.none _)
      | (with_reducible refine LeO.ite ?_ ?_)
      | (with_reducible refine LeO.bind ?_ (fun _ => ?_))
      | exact ih0 _ _ _ _ _
      | exact ih1 _ _ _ _ _ _
      | exact batonlaw04_live.mono _
      | exact batonref03_Few.mono _ _ _
      | exact batonref03_FewEvents.mono _ _ _
      | exact batonref03_KVs.mono _ _ _
      | exact hist_Fold.mono _ _ _ _
      | exact hist_From.mono _ _ _
      | exact LeO.none _
      | refine LeO.ite ?_ ?_
      | refine LeO.bind ?_ (fun _ => ?_)
def batonlaw04_HistParts.T5 : Bool × List (List Nat × List Nat) := (true, [([], []), ([], []), ([], []), ([], []), ([2, 3], [2, 3]), ([], []), ([1, 4, 5], [1, 4, 5]), ([], []), ([], []), ([7, 8], [7, 8]), ([], []), ([6, 9, 10, 6], [6, 9, 10]), ([0, 11, 11], [0, 11]), ([12], [12])])
def batonlaw04_HistParts.B5 : List Nat := [0, 0, 0, 0, 12, 0, 62, 0, 0, 384, 0, 2046, 4095, 8191]
theorem batonlaw04_HistParts.tab5 : rtab .any (opsOf Try.f7 5) = batonlaw04_HistParts.T5 := by kernel_rfl
theorem batonlaw04_HistParts.bits5 : waitsOk batonlaw04_HistParts.T5.2 batonlaw04_HistParts.B5 = true := by kernel_rfl
set_option maxHeartbeats 8000000 in
set_option maxRecDepth 100000 in
theorem batonlaw04_HistParts.calls (k : Nat) (A0 : Option Addr) (c0 : Nat) (l0 : List (S26)) (A1 : Option Addr) (c1 : Nat) (l1 : List (S38)) (a2_0 : Int) (a2_1 : Int) (r : Bool) (w : World) (hr0 : Kd.C k26 w A0 l0.length l0) (hc0 : l0.length ≤ c0) (hr1 : Kd.C k38 w A1 l1.length l1) (hc1 : l1.length ≤ c1) (h : batonlaw04_HistParts.f k l0 l1 a2_0 a2_1 = some r) :
    Calls Try.prog 7 #[.slice A0 l0.length c0, .slice A1 l1.length c1, .agg #[.int .i64 a2_0, .int .i64 a2_1]] w fun e w' => e = .returned (.bool r) ∧ Below w.heap.size w w' := by
  have hu43 := Try.underlying43
  have hu38 := Try.underlying38
  have HR0 := Aside0.mk hr0
  have HC0 := Aside0.mk hc0
  clear hr0 hc0
  have HR1 := Aside0.mk hr1
  have HC1 := Aside0.mk hc1
  clear hr1 hc1
  have HB := Aside0.mk (Below.refl w.heap.size w)
  have H : ((batonref03_Few.f k l0 40).bind fun t486 => (if t486 = true then ((batonref03_FewEvents.f k l1 40).bind fun t487 => (if t487 = true then (if a2_1 < 0 then (batonlaw04_HistParts.j0 k l0 l1 a2_0 a2_1 true) else (batonlaw04_HistParts.j0 k l0 l1 a2_0 a2_1 (decide (a2_1 > (l1.length : Int))))) else (batonlaw04_HistParts.j0 k l0 l1 a2_0 a2_1 true))) else (batonlaw04_HistParts.j0 k l0 l1 a2_0 a2_1 true))) = some r := h
  clear h
  have HC4 := Aside0.mk H
  clear H
  go_enter Try.func7, Try.ntmps7
  try go_wp2_with (first | ((with_reducible refine gate_dst (N := 5) rfl ?_); (try (refine gate_guard (by rfl) ?_; dsimp only)); refine box_event ?hg (N := 5) ?hd (cs := #[.int .i64 a2_0, .int .i64 a2_1]) (t := 43) ?hr ?_; (case hd => rfl); (case hg => rfl); (case hr => first | (go_simp; done) | (go_simp; rfl)); intro gb485 hg w5 hbox hb; have n0_ := Aside0.mk (below_step (by repeat (first | (with_reducible first | exact HB.out | apply below_alloc | apply pw_below_drewN | apply below_drew1) | exact HB.out)) hb); have n1_ := Aside0.mk (hbox); have n2_ := Aside0.mk ((by rw [hg]; exact (below_size (by repeat (first | (with_reducible first | exact HB.out | apply below_alloc | apply pw_below_drewN | apply below_drew1) | exact HB.out))) : w.heap.size ≤ gb485)); have n3_ := Aside0.mk ((by rw [hg]; exact (below_size (by repeat (first | (with_reducible first | exact HB.out | apply below_alloc | apply pw_below_drewN | apply below_drew1) | exact HB.out))) : w.heap.size ≤ gb485)); clear HB; have HB := n0_; have BK485 := n1_; have GW485 := n2_; have GE485 := n3_; clear n0_ n1_ n2_ n3_; clear hb hbox hg))
  have n0_ := Aside0.mk (blk_drew BK485.out)
  have n1_ := Aside0.mk (below_drew1 HB.out)
  clear BK485
  clear HB
  have BK485 := n0_
  have HB := n1_
  clear n0_ n1_
  refine start_ (n := 6) (S := fun w' => w'.cell? ⟨gb485, 0, none⟩ = some (.int .i64 a2_0) ∧ w'.cell? ⟨gb485, 1, none⟩ = some (.int .i64 a2_1)) (ds := []) #[false, false, false, false, false, false] (by kernel_rfl) rfl rfl ⟨(blk_cell BK485.out 0).trans rfl, (blk_cell BK485.out 1).trans rfl⟩ (fun hHeld => ?_)
  generalize w5.drew = w6 at BK485 HB hHeld ⊢
  refine pure_ (i := 0) (N := some 12) (v := ?_) (a' := ?_) #[true, false, false, false, false, false] rfl rfl (by kernel_rfl) (fun _ _ _ h => h) (Or.inl ⟨by rfl, ?_⟩) ?_ ?_
  rotate_left
  · intro w'
    go_simp
    with_reducible rfl
  rotate_left
  · simp only [Act.put, List.setIfInBounds_toArray, List.set_cons_zero, List.set_cons_succ, i64_w, i32_w]
    rfl
  refine pure_ (i := 2) (N := some 14) (v := ?_) (a' := ?_) #[true, false, true, false, false, false] rfl rfl (by kernel_rfl) (fun _ _ _ h => h) (Or.inl ⟨by rfl, ?_⟩) ?_ ?_
  rotate_left
  · intro w'
    go_simp
    with_reducible rfl
  rotate_left
  · simp only [Act.put, List.setIfInBounds_toArray, List.set_cons_zero, List.set_cons_succ, i64_w, i32_w]
    rfl
  refine take_ (i := 1) (N := some 13) (v := ?_) (a' := ?_) #[true, true, true, false, false, false] rfl rfl (by kernel_rfl) (fun _ _ _ h => h) (Or.inl ⟨by rfl, ?_⟩) hHeld ?_ ?_
  rotate_left
  · rintro w' ⟨s0, s1⟩
    go_simp
    with_reducible rfl
  rotate_left
  · simp only [Act.put, List.setIfInBounds_toArray, List.set_cons_zero, List.set_cons_succ, i64_w, i32_w]
    rfl
  refine pure_ (i := 4) (N := some 7) (v := ?_) (a' := ?_) #[true, true, true, false, true, false] rfl rfl (by kernel_rfl) (fun _ _ _ h => h) (Or.inl ⟨by rfl, ?_⟩) ?_ ?_
  rotate_left
  · intro w'
    go_simp
    with_reducible rfl
  rotate_left
  · simp only [Act.put, List.setIfInBounds_toArray, List.set_cons_zero, List.set_cons_succ, i64_w, i32_w]
    rfl
  refine take_ (i := 3) (N := some 15) (v := ?_) (a' := ?_) #[true, true, true, true, true, false] rfl rfl (by kernel_rfl) (fun _ _ _ h => h) (Or.inl ⟨by rfl, ?_⟩) hHeld ?_ ?_
  rotate_left
  · rintro w' ⟨s0, s1⟩
    go_simp
    with_reducible rfl
  rotate_left
  · simp only [Act.put, List.setIfInBounds_toArray, List.set_cons_zero, List.set_cons_succ, i64_w, i32_w]
    rfl
  refine pure_ (i := 5) (N := some 8) (v := ?_) (a' := ?_) #[true, true, true, true, true, true] rfl rfl (by kernel_rfl) (fun _ _ _ h => h) (Or.inl ⟨by rfl, ?_⟩) ?_ ?_
  rotate_left
  · intro w'
    go_simp
    with_reducible rfl
  rotate_left
  · simp only [Act.put, List.setIfInBounds_toArray, List.set_cons_zero, List.set_cons_succ, i64_w, i32_w]
    rfl
  refine done_ (by kernel_rfl) ?_
  go_upto_region 2 with (fail)
  go_cut [33] (fun v33 wc => ∃ (kq : Nat) (x33_3 : Bool), v33 = .bool x33_3 ∧ Aside0 (batonlaw04_HistParts.j0 kq l0 l1 a2_0 a2_1 x33_3 = some r) ∧ Aside0 (kq ≤ k) ∧ Aside0 (wc.heap[gb485]? = some (.cells #[.int .i64 a2_0, .int .i64 a2_1] 43 (0, 0))) ∧ Aside0 (Below w.heap.size w wc))
  case first =>
    have H := HC4.out
    clear HC4
    replace H := Option.bind_eq_some_iff.mp H
    obtain ⟨t486, A70, H⟩ := H
    replace H : (if t486 = true then ((batonref03_FewEvents.f k l1 40).bind fun t487 => (if t487 = true then (if a2_1 < 0 then (batonlaw04_HistParts.j0 k l0 l1 a2_0 a2_1 true) else (batonlaw04_HistParts.j0 k l0 l1 a2_0 a2_1 (decide (a2_1 > (l1.length : Int))))) else (batonlaw04_HistParts.j0 k l0 l1 a2_0 a2_1 true))) else (batonlaw04_HistParts.j0 k l0 l1 a2_0 a2_1 true)) = some r := H
    have A7 := Aside0.mk A70
    clear A70
    by_cases c8 : t486 = true
    · subst c8
      have H1 : ((batonref03_FewEvents.f k l1 40).bind fun t487 => (if t487 = true then (if a2_1 < 0 then (batonlaw04_HistParts.j0 k l0 l1 a2_0 a2_1 true) else (batonlaw04_HistParts.j0 k l0 l1 a2_0 a2_1 (decide (a2_1 > (l1.length : Int))))) else (batonlaw04_HistParts.j0 k l0 l1 a2_0 a2_1 true))) = some r := by rw [if_pos rfl] at H; exact H
      clear H
      have H := H1
      clear H1
      replace H := Option.bind_eq_some_iff.mp H
      obtain ⟨t487, A90, H⟩ := H
      replace H : (if t487 = true then (if a2_1 < 0 then (batonlaw04_HistParts.j0 k l0 l1 a2_0 a2_1 true) else (batonlaw04_HistParts.j0 k l0 l1 a2_0 a2_1 (decide (a2_1 > (l1.length : Int))))) else (batonlaw04_HistParts.j0 k l0 l1 a2_0 a2_1 true)) = some r := H
      have A9 := Aside0.mk A90
      clear A90
      by_cases c10 : t487 = true
      · subst c10
        have H1 : (if a2_1 < 0 then (batonlaw04_HistParts.j0 k l0 l1 a2_0 a2_1 true) else (batonlaw04_HistParts.j0 k l0 l1 a2_0 a2_1 (decide (a2_1 > (l1.length : Int))))) = some r := by rw [if_pos rfl] at H; exact H
        clear H
        have H := H1
        clear H1
        by_cases c11 : a2_1 < 0
        · rw [if_pos c11] at H
          have c11b0 : decide (a2_1 < 0) = true := decide_eq_true c11
          clear c11
          (first | rw [c11b0] | (simp only [i64_w, i32_w]; rw [c11b0]) | skip)
          have H' := Aside0.mk H
          clear H
          go_wp2_with (first | ((with_reducible refine gate_callee (f := 9) rfl ?_); refine goesL_ (some 17) rfl rfl Try.func9 (by kernel_rfl) rfl #[.slice A0 l0.length c0, .int .i64 40] rfl (by (try simp only [List.map_toArray, List.map_cons, List.map_nil]); first | done | rfl | (simp only [List.length_drop, List.length_take]; rfl)) ?_; (with_reducible refine (batonref03_Few.calls k _ _ l0 40 true _ ?side1 ?side2 A7.out).mono ?_); (case side1 => repeat (first | exact (Kd.C_below HR0.out HB.out) | (with_reducible refine Kd.C_alloc ?_ _) | (with_reducible refine Kd.C_drewN ?_ _) | (with_reducible refine Kd.C_drew ?_))); (case side2 => exact HC0.out); rintro e w' ⟨rfl, ⟨nd, rfl⟩⟩; refine ⟨_, rfl, ?_⟩) | (go_at_call 20; (with_reducible refine (batonref03_FewEvents.calls k _ _ l1 40 true _ ?side1 ?side2 A9.out).mono ?_); (case side1 => repeat (first | exact (Kd.C_below HR1.out (by repeat (first | (with_reducible first | exact HB.out | apply below_alloc | apply pw_below_drewN | apply below_drew1 | refine below_set ?_ GE485.out) | exact HB.out))) | (with_reducible refine Kd.C_alloc ?_ _) | (with_reducible refine Kd.C_drewN ?_ _) | (with_reducible refine Kd.C_drew ?_))); (case side2 => exact HC1.out); rintro e w' ⟨rfl, ⟨nd, rfl⟩⟩))
          go_meet
          case rel => exact ⟨_, (true), (by first | rfl | (simp; done) | (simp [*]; done)), H', ⟨by first | omega | exact Nat.le_refl _⟩, ⟨by (with_reducible repeat (first | refine blk_drewN ?_ _ | refine blk_drew ?_ | refine blk_alloc ?_ _)); exact BK485.out⟩, ⟨by repeat (first | (with_reducible first | exact HB.out | apply below_alloc | apply pw_below_drewN | apply below_drew1 | refine below_set ?_ GE485.out) | exact HB.out)⟩⟩
        · rw [if_neg c11] at H
          have c11b0 : decide (a2_1 < 0) = false := decide_eq_false c11
          clear c11
          (first | rw [c11b0] | (simp only [i64_w, i32_w]; rw [c11b0]) | skip)
          have H' := Aside0.mk H
          clear H
          go_wp2_with (first | ((with_reducible refine gate_callee (f := 9) rfl ?_); refine goesL_ (some 17) rfl rfl Try.func9 (by kernel_rfl) rfl #[.slice A0 l0.length c0, .int .i64 40] rfl (by (try simp only [List.map_toArray, List.map_cons, List.map_nil]); first | done | rfl | (simp only [List.length_drop, List.length_take]; rfl)) ?_; (with_reducible refine (batonref03_Few.calls k _ _ l0 40 true _ ?side1 ?side2 A7.out).mono ?_); (case side1 => repeat (first | exact (Kd.C_below HR0.out HB.out) | (with_reducible refine Kd.C_alloc ?_ _) | (with_reducible refine Kd.C_drewN ?_ _) | (with_reducible refine Kd.C_drew ?_))); (case side2 => exact HC0.out); rintro e w' ⟨rfl, ⟨nd, rfl⟩⟩; refine ⟨_, rfl, ?_⟩) | (go_at_call 20; (with_reducible refine (batonref03_FewEvents.calls k _ _ l1 40 true _ ?side1 ?side2 A9.out).mono ?_); (case side1 => repeat (first | exact (Kd.C_below HR1.out (by repeat (first | (with_reducible first | exact HB.out | apply below_alloc | apply pw_below_drewN | apply below_drew1 | refine below_set ?_ GE485.out) | exact HB.out))) | (with_reducible refine Kd.C_alloc ?_ _) | (with_reducible refine Kd.C_drewN ?_ _) | (with_reducible refine Kd.C_drew ?_))); (case side2 => exact HC1.out); rintro e w' ⟨rfl, ⟨nd, rfl⟩⟩))
          go_meet
          case rel => exact ⟨_, (decide (a2_1 > (l1.length : Int))), (by first | rfl | (simp; done) | (simp [*]; done)), H', ⟨by first | omega | exact Nat.le_refl _⟩, ⟨by (with_reducible repeat (first | refine blk_drewN ?_ _ | refine blk_drew ?_ | refine blk_alloc ?_ _)); exact BK485.out⟩, ⟨by repeat (first | (with_reducible first | exact HB.out | apply below_alloc | apply pw_below_drewN | apply below_drew1 | refine below_set ?_ GE485.out) | exact HB.out)⟩⟩
      · replace c10 := Bool.eq_false_iff.mpr c10
        subst c10
        have H1 : (batonlaw04_HistParts.j0 k l0 l1 a2_0 a2_1 true) = some r := by rw [if_neg (show ¬ (false = true) by decide)] at H; exact H
        clear H
        have H := H1
        clear H1
        have H' := Aside0.mk H
        clear H
        go_wp2_with (first | ((with_reducible refine gate_callee (f := 9) rfl ?_); refine goesL_ (some 17) rfl rfl Try.func9 (by kernel_rfl) rfl #[.slice A0 l0.length c0, .int .i64 40] rfl (by (try simp only [List.map_toArray, List.map_cons, List.map_nil]); first | done | rfl | (simp only [List.length_drop, List.length_take]; rfl)) ?_; (with_reducible refine (batonref03_Few.calls k _ _ l0 40 true _ ?side1 ?side2 A7.out).mono ?_); (case side1 => repeat (first | exact (Kd.C_below HR0.out HB.out) | (with_reducible refine Kd.C_alloc ?_ _) | (with_reducible refine Kd.C_drewN ?_ _) | (with_reducible refine Kd.C_drew ?_))); (case side2 => exact HC0.out); rintro e w' ⟨rfl, ⟨nd, rfl⟩⟩; refine ⟨_, rfl, ?_⟩) | (go_at_call 20; (with_reducible refine (batonref03_FewEvents.calls k _ _ l1 40 false _ ?side1 ?side2 A9.out).mono ?_); (case side1 => repeat (first | exact (Kd.C_below HR1.out (by repeat (first | (with_reducible first | exact HB.out | apply below_alloc | apply pw_below_drewN | apply below_drew1 | refine below_set ?_ GE485.out) | exact HB.out))) | (with_reducible refine Kd.C_alloc ?_ _) | (with_reducible refine Kd.C_drewN ?_ _) | (with_reducible refine Kd.C_drew ?_))); (case side2 => exact HC1.out); rintro e w' ⟨rfl, ⟨nd, rfl⟩⟩))
        go_meet
        case rel => exact ⟨_, (true), (by first | rfl | (simp; done) | (simp [*]; done)), H', ⟨by first | omega | exact Nat.le_refl _⟩, ⟨by (with_reducible repeat (first | refine blk_drewN ?_ _ | refine blk_drew ?_ | refine blk_alloc ?_ _)); exact BK485.out⟩, ⟨by repeat (first | (with_reducible first | exact HB.out | apply below_alloc | apply pw_below_drewN | apply below_drew1 | refine below_set ?_ GE485.out) | exact HB.out)⟩⟩
    · replace c8 := Bool.eq_false_iff.mpr c8
      subst c8
      have H1 : (batonlaw04_HistParts.j0 k l0 l1 a2_0 a2_1 true) = some r := by rw [if_neg (show ¬ (false = true) by decide)] at H; exact H
      clear H
      have H := H1
      clear H1
      have H' := Aside0.mk H
      clear H
      go_wp2_with (first | ((with_reducible refine gate_callee (f := 9) rfl ?_); refine goesL_ (some 17) rfl rfl Try.func9 (by kernel_rfl) rfl #[.slice A0 l0.length c0, .int .i64 40] rfl (by (try simp only [List.map_toArray, List.map_cons, List.map_nil]); first | done | rfl | (simp only [List.length_drop, List.length_take]; rfl)) ?_; (with_reducible refine (batonref03_Few.calls k _ _ l0 40 false _ ?side1 ?side2 A7.out).mono ?_); (case side1 => repeat (first | exact (Kd.C_below HR0.out HB.out) | (with_reducible refine Kd.C_alloc ?_ _) | (with_reducible refine Kd.C_drewN ?_ _) | (with_reducible refine Kd.C_drew ?_))); (case side2 => exact HC0.out); rintro e w' ⟨rfl, ⟨nd, rfl⟩⟩; refine ⟨_, rfl, ?_⟩))
      go_meet
      case rel => exact ⟨_, (true), (by first | rfl | (simp; done) | (simp [*]; done)), H', ⟨by first | omega | exact Nat.le_refl _⟩, ⟨by (with_reducible repeat (first | refine blk_drewN ?_ _ | refine blk_drew ?_ | refine blk_alloc ?_ _)); exact BK485.out⟩, ⟨by repeat (first | (with_reducible first | exact HB.out | apply below_alloc | apply pw_below_drewN | apply below_drew1 | refine below_set ?_ GE485.out) | exact HB.out)⟩⟩
  case rest =>
    clear HC4
    try clear c1
    try clear p2
    try clear c7
    try clear c8
    try clear c9
    try clear c10
    try clear c11
    try clear c11b0
    obtain ⟨kq, x33_3, rfl, HA, HJ3, BK485, HB⟩ := hcut
    cases kq with
    | zero => exact absurd HA.out (by simp [batonlaw04_HistParts.j0])
    | succ kj3 =>
      have H := HA.out
      clear HA
      simp only [batonlaw04_HistParts.j0] at H
      by_cases c12 : x33_3 = true
      · subst c12
        have H1 : ((batonlaw04_live.f kj3).bind fun t488 => (some t488)) = some r := by rw [if_pos rfl] at H; exact H
        clear H
        have H := H1
        clear H1
        replace H := Option.bind_eq_some_iff.mp H
        obtain ⟨t488, A130, H⟩ := H
        replace H : (some t488) = some r := H
        have A13 := Aside0.mk A130
        clear A130
        obtain rfl := Option.some.inj H
        go_wp2_with (first | ((with_reducible refine gate_callee (f := 10) rfl ?_); refine goesL_ (some 34) rfl rfl Try.func10 (by kernel_rfl) rfl #[] rfl (by (try simp only [List.map_toArray, List.map_cons, List.map_nil]); first | done | rfl | (simp only [List.length_drop, List.length_take]; rfl)) ?_; (with_reducible refine (batonlaw04_live.calls kj3  t488 _ A13.out).mono ?_); rintro e w14 ⟨rfl, hb⟩; refine ⟨_, rfl, ?_⟩; have n0_ := Aside0.mk (blk_below (g := gb485) (o := .cells #[.int .i64 a2_0, .int .i64 a2_1] 43 (0, 0)) (by (with_reducible repeat (first | refine blk_drewN ?_ _ | refine blk_drew ?_ | refine blk_alloc ?_ _)); exact BK485.out) hb); have n1_ := Aside0.mk (below_step (by repeat (first | (with_reducible first | exact HB.out | apply below_alloc | apply pw_below_drewN | apply below_drew1 | refine below_set ?_ GE485.out) | exact HB.out)) hb); clear BK485; clear HB; have BK485 := n0_; have HB := n1_; clear n0_ n1_; (try clear hb); (try clear hb2); (try clear hk); (try clear hi)))
        go_ret
        exact ⟨by first | rfl | (simp [errW_none, errW_some] <;> rfl) | (simp [*, errW_none, errW_some] <;> rfl), by repeat (first | (with_reducible first | exact HB.out | apply below_alloc | apply pw_below_drewN | apply below_drew1 | refine below_set ?_ GE485.out) | exact HB.out)⟩
      · replace c12 := Bool.eq_false_iff.mpr c12
        subst c12
        have H1 : ((hist_Fold.f kj3 l0 l1 a2_0).bind fun t489 => (if 0 ≤ a2_1 then (if a2_1 ≤ (l1.length : Int) then ((hist_Fold.f kj3 l0 (l1.take (a2_1 : Int).toNat) a2_0).bind fun t496 => ((hist_Fold.f kj3 t496 (l1.drop (a2_1 : Int).toNat) a2_0).bind fun t503 => ((batonref03_KVs.f kj3 t489 t503).bind fun t506 => (if t506 = true then (batonlaw04_HistParts.l0 kj3 l0 l1 a2_0 t489 ([] : List (S38)) 0) else (none))))) else (none)) else (none))) = some r := by rw [if_neg (show ¬ (false = true) by decide)] at H; exact H
        clear H
        have H := H1
        clear H1
        replace H := Option.bind_eq_some_iff.mp H
        obtain ⟨t489, A150, H⟩ := H
        replace H : (if 0 ≤ a2_1 then (if a2_1 ≤ (l1.length : Int) then ((hist_Fold.f kj3 l0 (l1.take (a2_1 : Int).toNat) a2_0).bind fun t496 => ((hist_Fold.f kj3 t496 (l1.drop (a2_1 : Int).toNat) a2_0).bind fun t503 => ((batonref03_KVs.f kj3 t489 t503).bind fun t506 => (if t506 = true then (batonlaw04_HistParts.l0 kj3 l0 l1 a2_0 t489 ([] : List (S38)) 0) else (none))))) else (none)) else (none)) = some r := H
        have A15 := Aside0.mk A150
        clear A150
        by_cases c16 : 0 ≤ a2_1
        · rw [if_pos c16] at H
          have c16b0 := eq_true c16
          have c16b1 : decide (0 ≤ a2_1) = true := decide_eq_true c16
          clear c16
          by_cases c17 : a2_1 ≤ (l1.length : Int)
          · rw [if_pos c17] at H
            have c17b0 := eq_true c17
            have c17b1 : decide (a2_1 ≤ (l1.length : Int)) = true := decide_eq_true c17
            clear c17
            obtain ⟨y492, hy492⟩ : ∃ y_ : List (S38), y_ = (l1.take (a2_1 : Int).toNat) := ⟨_, rfl⟩
            replace H : ((hist_Fold.f kj3 l0 y492 a2_0).bind fun t496 => ((hist_Fold.f kj3 t496 (l1.drop (a2_1 : Int).toNat) a2_0).bind fun t503 => ((batonref03_KVs.f kj3 t489 t503).bind fun t506 => (if t506 = true then (batonlaw04_HistParts.l0 kj3 l0 l1 a2_0 t489 ([] : List (S38)) 0) else (none))))) = some r := by first | (rw [hy492]; with_reducible exact H) | (have H2_ := (Option.bind_some _ _).symm.trans H; rw [hy492]; with_reducible exact H2_) | (have H2_ := (Option.bind_some _ _).symm.trans H; with_reducible exact H2_) | with_reducible exact H | (rw [hy492]; exact H) | exact H
            have Ny492 := Aside0.mk hy492
            clear hy492
            replace H := Option.bind_eq_some_iff.mp H
            obtain ⟨t496, A180, H⟩ := H
            replace H : ((hist_Fold.f kj3 t496 (l1.drop (a2_1 : Int).toNat) a2_0).bind fun t503 => ((batonref03_KVs.f kj3 t489 t503).bind fun t506 => (if t506 = true then (batonlaw04_HistParts.l0 kj3 l0 l1 a2_0 t489 ([] : List (S38)) 0) else (none)))) = some r := H
            have A18 := Aside0.mk A180
            clear A180
            have c19b0 := eq_true (of_decide_eq_true (by first | (with_reducible assumption) | assumption) : 0 ≤ a2_1)
            have c20b0 := eq_true (of_decide_eq_true (by first | (with_reducible assumption) | assumption) : a2_1 ≤ (l1.length : Int))
            obtain ⟨y499, hy499⟩ : ∃ y_ : List (S38), y_ = (l1.drop (a2_1 : Int).toNat) := ⟨_, rfl⟩
            replace H : ((hist_Fold.f kj3 t496 y499 a2_0).bind fun t503 => ((batonref03_KVs.f kj3 t489 t503).bind fun t506 => (if t506 = true then (batonlaw04_HistParts.l0 kj3 l0 l1 a2_0 t489 ([] : List (S38)) 0) else (none)))) = some r := by first | (rw [hy499]; with_reducible exact H) | (have H2_ := (Option.bind_some _ _).symm.trans H; rw [hy499]; with_reducible exact H2_) | (have H2_ := (Option.bind_some _ _).symm.trans H; with_reducible exact H2_) | with_reducible exact H | (rw [hy499]; exact H) | exact H
            have Ny499 := Aside0.mk hy499
            clear hy499
            replace H := Option.bind_eq_some_iff.mp H
            obtain ⟨t503, A210, H⟩ := H
            replace H : ((batonref03_KVs.f kj3 t489 t503).bind fun t506 => (if t506 = true then (batonlaw04_HistParts.l0 kj3 l0 l1 a2_0 t489 ([] : List (S38)) 0) else (none))) = some r := H
            have A21 := Aside0.mk A210
            clear A210
            replace H := Option.bind_eq_some_iff.mp H
            obtain ⟨t506, A220, H⟩ := H
            replace H : (if t506 = true then (batonlaw04_HistParts.l0 kj3 l0 l1 a2_0 t489 ([] : List (S38)) 0) else (none)) = some r := H
            have A22 := Aside0.mk A220
            clear A220
            by_cases c23 : t506 = true
            · subst c23
              have H1 : (batonlaw04_HistParts.l0 kj3 l0 l1 a2_0 t489 ([] : List (S38)) 0) = some r := by rw [if_pos rfl] at H; exact H
              clear H
              have H := H1
              clear H1
              have H' := Aside0.mk H
              clear H
              try go_wp2_with (first | ((with_reducible refine gate_callee (f := 21) rfl ?_); refine goesL_ (some 38) rfl rfl Try.func21 (by kernel_rfl) rfl #[.slice A0 l0.length c0, .slice A1 l1.length c1, .int .i64 a2_0] rfl (by (try simp only [List.map_toArray, List.map_cons, List.map_nil]); first | done | rfl | (simp only [List.length_drop, List.length_take]; rfl)) ?_; (with_reducible refine (hist_Fold.calls kj3 _ _ l0 _ _ l1 a2_0 t489 _ ?side1 ?side2 ?side3 ?side4 A15.out).mono ?_); (case side1 => repeat (first | exact (Kd.C_below HR0.out HB.out) | (with_reducible refine Kd.C_alloc ?_ _) | (with_reducible refine Kd.C_drewN ?_ _) | (with_reducible refine Kd.C_drew ?_))); (case side2 => exact HC0.out); (case side3 => repeat (first | exact (Kd.C_below HR1.out HB.out) | (with_reducible refine Kd.C_alloc ?_ _) | (with_reducible refine Kd.C_drewN ?_ _) | (with_reducible refine Kd.C_drew ?_))); (case side4 => exact HC1.out); rintro e w24 ⟨v490, rfl, ho0, hb⟩; refine ⟨_, rfl, ?_⟩; have n0_ := Aside0.mk (Kd.R_lower ho0 (below_size (by repeat (first | (with_reducible first | exact HB.out | apply below_alloc | apply pw_below_drewN | apply below_drew1 | refine below_set ?_ GE485.out) | exact HB.out)))); have n1_ := Aside0.mk (blk_below (g := gb485) (o := .cells #[.int .i64 a2_0, .int .i64 a2_1] 43 (0, 0)) (by (with_reducible repeat (first | refine blk_drewN ?_ _ | refine blk_drew ?_ | refine blk_alloc ?_ _)); exact BK485.out) hb); have n2_ := Aside0.mk (below_step (by repeat (first | (with_reducible first | exact HB.out | apply below_alloc | apply pw_below_drewN | apply below_drew1 | refine below_set ?_ GE485.out) | exact HB.out)) hb); clear BK485; clear HB; have HO491 := n0_; have BK485 := n1_; have HB := n2_; clear n0_ n1_ n2_; (try clear hb); (try clear hb2); (try clear hk); (try clear hi); (try clear ho0)))
              have n0_ := Aside0.mk (Kd.R_drew HO491.out)
              have n1_ := Aside0.mk (blk_drew BK485.out)
              have n2_ := Aside0.mk (below_drew1 HB.out)
              clear HO491
              clear BK485
              clear HB
              have HO491 := n0_
              have BK485 := n1_
              have HB := n2_
              clear n0_ n1_ n2_
              have q26 : (a2_1 : Int) ≤ ((l1.length : Int) : Int) := of_decide_eq_true (by first | (with_reducible assumption) | assumption)
              obtain ⟨i026, hi026, _, hsz26, _⟩ := info_parts info38
              have hroom26 : l1.length ≤ c1 := HC1.out
              have hC26 : Kd.C k38 _ A1 l1.length l1 := HR1.out
              have hcut26 := cut_to (P := Try.prog) 33 38 .i64 Try.underlying33 hi026 A1 l1.length c1 a2_1 (of_decide_eq_true (by first | (with_reducible assumption) | assumption)) q26 hroom26
              have hr26 := Kd.C_take (m := (a2_1 : Int).toNat) hC26 (by omega)
              have hy26 : y492.length = (a2_1 : Int).toNat := (by rw [Ny492.out, List.length_take]; omega)
              rw [← Ny492.out] at hr26
              rw [← hy26] at hcut26
              have HR495 := Aside0.mk hr26
              have HC495 := Aside0.mk (show y492.length ≤ c1 from by omega)
              clear hr26 hC26 hroom26 hi026 hsz26
              have KY26 := Aside0.mk hy26
              clear hy26
              replace q26 := eq_true q26
              have q27 : (a2_1 : Int) ≤ ((l1.length : Int) : Int) := of_decide_eq_true (by first | (with_reducible assumption) | assumption)
              obtain ⟨i027, hi027, _, hsz27, _⟩ := info_parts info38
              have hroom27 : l1.length ≤ c1 := HC1.out
              have hC27 : Kd.C k38 _ A1 l1.length l1 := HR1.out
              have q027 : (0 : Int) ≤ (a2_1 : Int) := of_decide_eq_true (by first | (with_reducible assumption) | assumption)
              have hcut27 := cut_from (P := Try.prog) 33 38 .i64 Try.underlying33 hi027 8 hsz27 A1 l1.length c1 a2_1 q027 q27
              have hr27 := Kd.C_drop (m := (a2_1 : Int).toNat) (c := c1) hC27 (by omega) hroom27
              obtain ⟨A27, hA27⟩ : ∃ z__, z__ = (if c1 = (a2_1 : Int).toNat then A1 else (A1 : Option Addr).map (·.add ((a2_1 : Int).toNat * 8))) := ⟨_, rfl⟩
              obtain ⟨c27, hc27⟩ : ∃ z__, z__ = c1 - (a2_1 : Int).toNat := ⟨_, rfl⟩
              have hy27 : y499.length = l1.length - (a2_1 : Int).toNat := (by rw [Ny499.out, List.length_drop] <;> omega)
              rw [show (l1).drop (a2_1 : Int).toNat = y499 from Ny499.out.symm] at hr27
              replace hr27 : Kd.C k38 _ A27 y499.length y499 := (by rw [hA27]; exact hr27)
              rw [← hy27, ← hA27, ← hc27] at hcut27
              have HR502 := Aside0.mk hr27
              have HC502 := Aside0.mk (show y499.length ≤ c27 from by rw [hy27, hc27]; exact Nat.sub_le_sub_right hroom27 _)
              clear hr27 hC27 hroom27 hi027 hsz27 hc27
              have KY27 := Aside0.mk hy27
              have KA27 := Aside0.mk hA27
              clear hy27 hA27
              replace q27 := eq_true q27
              refine start_ (n := 14) (S := fun w' => True) (ds := []) #[false, false, false, false, false, false, false, false, false, false, false, false, false, false] (by kernel_rfl) rfl rfl trivial (fun hHeld => ?_); refine with_tabW batonlaw04_HistParts.tab5 batonlaw04_HistParts.bits5 (fun HT_ HW_ => ?_)
              generalize w24.drew = w25 at HO491 BK485 HB HR495 HR502 hHeld ⊢
              refine pure_ (i := 0) (N := some 39) (v := ?_) (a' := ?_) #[true, false, false, false, false, false, false, false, false, false, false, false, false, false] rfl rfl (any_of HT_.out (by kernel_rfl)) (fun _ _ _ h => h) (Or.inl ⟨by rfl, ?_⟩) ?_ ?_
              rotate_left
              · intro w'
                go_simp
                with_reducible rfl
              rotate_left
              · simp only [Act.put, List.setIfInBounds_toArray, List.set_cons_zero, List.set_cons_succ, i64_w, i32_w]
                rfl
              refine pure_ (i := 1) (N := some 40) (v := ?_) (a' := ?_) #[true, true, false, false, false, false, false, false, false, false, false, false, false, false] rfl rfl (any_of HT_.out (by kernel_rfl)) (fun _ _ _ h => h) (Or.inl ⟨by rfl, ?_⟩) ?_ ?_
              rotate_left
              · intro w'
                go_simp
                with_reducible rfl
              rotate_left
              · simp only [Act.put, List.setIfInBounds_toArray, List.set_cons_zero, List.set_cons_succ, i64_w, i32_w]
                rfl
              refine pure_ (i := 2) (N := some 41) (v := ?_) (a' := ?_) #[true, true, true, false, false, false, false, false, false, false, false, false, false, false] rfl rfl (any_of HT_.out (by kernel_rfl)) (fun _ _ _ h => h) (Or.inl ⟨by rfl, ?_⟩) ?_ ?_
              rotate_left
              · intro w'
                go_simp
                with_reducible rfl
              rotate_left
              · simp only [Act.put, List.setIfInBounds_toArray, List.set_cons_zero, List.set_cons_succ, i64_w, i32_w]
                rfl
              refine pure_ (i := 3) (N := some 42) (v := ?_) (a' := ?_) #[true, true, true, true, false, false, false, false, false, false, false, false, false, false] rfl rfl (any_of HT_.out (by kernel_rfl)) (fun _ _ _ h => h) (Or.inl ⟨by rfl, ?_⟩) ?_ ?_
              rotate_left
              · intro w'
                go_simp
                with_reducible rfl
              rotate_left
              · simp only [Act.put, List.setIfInBounds_toArray, List.set_cons_zero, List.set_cons_succ, i64_w, i32_w]
                rfl
              refine pure_ (i := 4) (N := some 43) (v := ?_) (a' := ?_) #[true, true, true, true, true, false, false, false, false, false, false, false, false, false] rfl rfl (any_of HT_.out (by kernel_rfl)) (fun _ _ _ h => h) (Or.inl ⟨by rfl, ?_⟩) ?_ ?_
              rotate_left
              · intro w'
                go_simp
                with_reducible rfl
              rotate_left
              · simp only [Act.put, List.setIfInBounds_toArray, List.set_cons_zero, List.set_cons_succ, i64_w, i32_w]
                rfl
              refine pure_ (i := 5) (N := some 44) (v := ?_) (a' := ?_) #[true, true, true, true, true, true, false, false, false, false, false, false, false, false] rfl rfl (any_of HT_.out (by kernel_rfl)) (fun _ _ _ h => h) (Or.inl ⟨by rfl, ?_⟩) ?_ ?_
              rotate_left
              · intro w'
                go_simp
                with_reducible rfl
              rotate_left
              · simp only [Act.put, List.setIfInBounds_toArray, List.set_cons_zero, List.set_cons_succ, i64_w, i32_w]
                rfl
              refine pure_ (i := 7) (N := some 46) (v := ?_) (a' := ?_) #[true, true, true, true, true, true, false, true, false, false, false, false, false, false] rfl rfl (any_of HT_.out (by kernel_rfl)) (fun _ _ _ h => h) (Or.inl ⟨by rfl, ?_⟩) ?_ ?_
              rotate_left
              · intro w'
                go_simp
                with_reducible rfl
              rotate_left
              · simp only [Act.put, List.setIfInBounds_toArray, List.set_cons_zero, List.set_cons_succ, i64_w, i32_w]
                rfl
              refine pure_ (i := 8) (N := some 47) (v := ?_) (a' := ?_) #[true, true, true, true, true, true, false, true, true, false, false, false, false, false] rfl rfl (any_of HT_.out (by kernel_rfl)) (fun _ _ _ h => h) (Or.inl ⟨by rfl, ?_⟩) ?_ ?_
              rotate_left
              · intro w'
                go_simp
                with_reducible rfl
              rotate_left
              · simp only [Act.put, List.setIfInBounds_toArray, List.set_cons_zero, List.set_cons_succ, i64_w, i32_w]
                rfl
              refine pure_ (i := 9) (N := some 48) (v := ?_) (a' := ?_) #[true, true, true, true, true, true, false, true, true, true, false, false, false, false] rfl rfl (any_of HT_.out (by kernel_rfl)) (fun _ _ _ h => h) (Or.inl ⟨by rfl, ?_⟩) ?_ ?_
              rotate_left
              · intro w'
                go_simp
                with_reducible rfl
              rotate_left
              · simp only [Act.put, List.setIfInBounds_toArray, List.set_cons_zero, List.set_cons_succ, i64_w, i32_w]
                rfl
              refine pure_ (i := 10) (N := some 49) (v := ?_) (a' := ?_) #[true, true, true, true, true, true, false, true, true, true, true, false, false, false] rfl rfl (any_of HT_.out (by kernel_rfl)) (fun _ _ _ h => h) (Or.inl ⟨by rfl, ?_⟩) ?_ ?_
              rotate_left
              · intro w'
                go_simp
                with_reducible rfl
              rotate_left
              · simp only [Act.put, List.setIfInBounds_toArray, List.set_cons_zero, List.set_cons_succ, i64_w, i32_w]
                rfl
              refine one_ (i := 6) (N := some 45) #[true, true, true, true, true, true, true, true, true, true, true, false, false, false] rfl rfl (one_of HT_.out (by kernel_rfl)) (by decide) (fun K hK => ?_)
              refine goes_ Try.func21 (by kernel_rfl) rfl #[.slice A0 l0.length c0, .slice A1 y492.length c1, .int .i64 a2_0] (by rfl) rfl rfl (by (try simp only [List.map_toArray, List.map_cons, List.map_nil]); first | done | rfl | (simp only [List.length_drop, List.length_take]; rfl)) ?_
              with_reducible refine (hist_Fold.calls kj3 _ _ l0 _ _ y492 a2_0 t496 _ ?side1 ?side2 ?side3 ?side4 A18.out).mono ?_
              (case side1 => repeat (first | exact (Kd.C_below HR0.out HB.out) | (with_reducible refine Kd.C_alloc ?_ _) | (with_reducible refine Kd.C_drewN ?_ _) | (with_reducible refine Kd.C_drew ?_)))
              (case side2 => exact HC0.out)
              (case side3 => repeat (first | exact (Kd.C_below HR495.out HB.out) | (with_reducible refine Kd.C_alloc ?_ _) | (with_reducible refine Kd.C_drewN ?_ _) | (with_reducible refine Kd.C_drew ?_)))
              (case side4 => exact HC495.out)
              rintro e w28 ⟨v497, rfl, ho0, hb⟩
              refine ⟨_, rfl, ?_⟩
              have n0_ := Aside0.mk (Kd.R_elder' (by (with_reducible repeat (first | apply Kd.R_alloc | apply Kd.R_drewN | apply Kd.R_drew)); exact HO491.out) (Kd.R_base ho0) hb)
              have n1_ := Aside0.mk (Kd.R_lower (Kd.R_new' ho0 (Kd.R_lt (by (with_reducible repeat (first | apply Kd.R_alloc | apply Kd.R_drewN | apply Kd.R_drew)); exact HO491.out))) (below_size (by repeat (first | (with_reducible first | exact HB.out | apply below_alloc | apply pw_below_drewN | apply below_drew1 | refine below_set ?_ GE485.out) | exact HB.out))))
              have n2_ := Aside0.mk (blk_below (g := gb485) (o := .cells #[.int .i64 a2_0, .int .i64 a2_1] 43 (0, 0)) (by (with_reducible repeat (first | refine blk_drewN ?_ _ | refine blk_drew ?_ | refine blk_alloc ?_ _)); exact BK485.out) hb)
              have n3_ := Aside0.mk (below_step (by repeat (first | (with_reducible first | exact HB.out | apply below_alloc | apply pw_below_drewN | apply below_drew1 | refine below_set ?_ GE485.out) | exact HB.out)) hb)
              clear HO491
              clear BK485
              clear HB
              have HO491 := n0_
              have HO498 := n1_
              have BK485 := n2_
              have HB := n3_
              clear n0_ n1_ n2_ n3_
              (try clear hb)
              (try clear hb2)
              (try clear hk)
              (try clear hi)
              (try clear ho0)
              obtain ⟨Ao29, co29, eo29⟩ := Kd.R_slice HO498.out
              (first | subst eo29 | (injection eo29 with f1_ f2_ f3_; have f4_ := f1_.symm; have f5_ := f3_.symm; clear f1_ f2_ f3_; subst f4_; subst f5_))
              refine hK.out _ _ trivial (fun hHeld => ?_)
              clear hK K
              refine norm_ (a' := ?_) ?_ ?_
              rotate_left
              · show Act.put _ (some 45) _ = _
                simp only [Act.put, List.setIfInBounds_toArray, List.set_cons_zero, List.set_cons_succ, i64_w, i32_w]
                rfl
              refine one_ (i := 11) (N := some 50) #[true, true, true, true, true, true, true, true, true, true, true, true, false, false] rfl rfl (one_of HT_.out (by kernel_rfl)) (by decide) (fun K hK => ?_)
              refine goes_ Try.func21 (by kernel_rfl) rfl #[.slice Ao29 t496.length co29, .slice A27 y499.length c27, .int .i64 a2_0] (by rfl) rfl rfl (by (try simp only [List.map_toArray, List.map_cons, List.map_nil]); first | done | rfl | (simp only [List.length_drop, List.length_take]; rfl)) ?_
              with_reducible refine (hist_Fold.calls kj3 _ _ t496 _ _ y499 a2_0 t503 _ ?side1 ?side2 ?side3 ?side4 A21.out).mono ?_
              (case side1 => repeat (first | exact (Kd.R_reads' HO498.out).2.2 | (with_reducible refine Kd.C_alloc ?_ _) | (with_reducible refine Kd.C_drewN ?_ _) | (with_reducible refine Kd.C_drew ?_)))
              (case side2 => exact (Kd.R_reads' HO498.out).2.1)
              (case side3 => repeat (first | exact (Kd.C_below HR502.out HB.out) | (with_reducible refine Kd.C_alloc ?_ _) | (with_reducible refine Kd.C_drewN ?_ _) | (with_reducible refine Kd.C_drew ?_)))
              (case side4 => exact HC502.out)
              rintro e w30 ⟨v504, rfl, ho0, hb⟩
              refine ⟨_, rfl, ?_⟩
              have n0_ := Aside0.mk (Kd.R_elder' (by (with_reducible repeat (first | apply Kd.R_alloc | apply Kd.R_drewN | apply Kd.R_drew)); exact HO491.out) (Kd.R_base ho0) hb)
              have n1_ := Aside0.mk (Kd.R_elder' (by (with_reducible repeat (first | apply Kd.R_alloc | apply Kd.R_drewN | apply Kd.R_drew)); exact HO498.out) (Kd.R_base ho0) hb)
              have n2_ := Aside0.mk (Kd.R_lower (Kd.R_new' (Kd.R_new' ho0 (Kd.R_lt (by (with_reducible repeat (first | apply Kd.R_alloc | apply Kd.R_drewN | apply Kd.R_drew)); exact HO491.out))) (Kd.R_lt (by (with_reducible repeat (first | apply Kd.R_alloc | apply Kd.R_drewN | apply Kd.R_drew)); exact HO498.out))) (below_size (by repeat (first | (with_reducible first | exact HB.out | apply below_alloc | apply pw_below_drewN | apply below_drew1 | refine below_set ?_ GE485.out) | exact HB.out))))
              have n3_ := Aside0.mk (blk_below (g := gb485) (o := .cells #[.int .i64 a2_0, .int .i64 a2_1] 43 (0, 0)) (by (with_reducible repeat (first | refine blk_drewN ?_ _ | refine blk_drew ?_ | refine blk_alloc ?_ _)); exact BK485.out) hb)
              have n4_ := Aside0.mk (below_step (by repeat (first | (with_reducible first | exact HB.out | apply below_alloc | apply pw_below_drewN | apply below_drew1 | refine below_set ?_ GE485.out) | exact HB.out)) hb)
              clear HO491
              clear HO498
              clear BK485
              clear HB
              have HO491 := n0_
              have HO498 := n1_
              have HO505 := n2_
              have BK485 := n3_
              have HB := n4_
              clear n0_ n1_ n2_ n3_ n4_
              (try clear hb)
              (try clear hb2)
              (try clear hk)
              (try clear hi)
              (try clear ho0)
              obtain ⟨Ao31, co31, eo31⟩ := Kd.R_slice HO491.out
              (first | subst eo31 | (injection eo31 with f1_ f2_ f3_; have f4_ := f1_.symm; have f5_ := f3_.symm; clear f1_ f2_ f3_; subst f4_; subst f5_))
              obtain ⟨Ao32, co32, eo32⟩ := Kd.R_slice HO505.out
              (first | subst eo32 | (injection eo32 with f1_ f2_ f3_; have f4_ := f1_.symm; have f5_ := f3_.symm; clear f1_ f2_ f3_; subst f4_; subst f5_))
              refine hK.out _ _ trivial (fun hHeld => ?_)
              clear hK K
              refine norm_ (a' := ?_) ?_ ?_
              rotate_left
              · show Act.put _ (some 50) _ = _
                simp only [Act.put, List.setIfInBounds_toArray, List.set_cons_zero, List.set_cons_succ, i64_w, i32_w]
                rfl
              refine one_ (i := 12) (N := some 51) #[true, true, true, true, true, true, true, true, true, true, true, true, true, false] rfl rfl (one_of HT_.out (by kernel_rfl)) (by decide) (fun K hK => ?_)
              refine goes_ Try.func15 (by kernel_rfl) rfl #[.slice Ao31 t489.length co31, .slice Ao32 t503.length co32] (by rfl) rfl rfl (by (try simp only [List.map_toArray, List.map_cons, List.map_nil]); first | done | rfl | (simp only [List.length_drop, List.length_take]; rfl)) ?_
              with_reducible refine (batonref03_KVs.calls kj3 _ _ t489 _ _ t503 true _ ?side1 ?side2 ?side3 ?side4 A22.out).mono ?_
              (case side1 => repeat (first | exact (Kd.R_reads' HO491.out).2.2 | (with_reducible refine Kd.C_alloc ?_ _) | (with_reducible refine Kd.C_drewN ?_ _) | (with_reducible refine Kd.C_drew ?_)))
              (case side2 => exact (Kd.R_reads' HO491.out).2.1)
              (case side3 => repeat (first | exact (Kd.R_reads' HO505.out).2.2 | (with_reducible refine Kd.C_alloc ?_ _) | (with_reducible refine Kd.C_drewN ?_ _) | (with_reducible refine Kd.C_drew ?_)))
              (case side4 => exact (Kd.R_reads' HO505.out).2.1)
              rintro e w' ⟨rfl, ⟨nd, rfl⟩⟩
              refine ⟨_, rfl, ?_⟩
              refine hK.out _ _ trivial (fun hHeld => ?_)
              clear hK K
              refine norm_ (a' := ?_) ?_ ?_
              rotate_left
              · show Act.put _ (some 51) _ = _
                simp only [Act.put, List.setIfInBounds_toArray, List.set_cons_zero, List.set_cons_succ, i64_w, i32_w]
                rfl
              refine pure_ (i := 13) (N := some 52) (v := ?_) (a' := ?_) #[true, true, true, true, true, true, true, true, true, true, true, true, true, true] rfl rfl (any_of HT_.out (by kernel_rfl)) (fun _ _ _ h => h) (Or.inl ⟨by rfl, ?_⟩) ?_ ?_
              rotate_left
              · intro w'
                go_simp
                with_reducible rfl
              rotate_left
              · simp only [Act.put, List.setIfInBounds_toArray, List.set_cons_zero, List.set_cons_succ, i64_w, i32_w]
                rfl
              refine done_ (done_of HT_.out (by kernel_rfl)) ?_
              try go_wp2
              go_loopg [10, 11] kj3 (fun kq v10 v11 w' => ∃ (x10_2 : List (S38)) (x11_2 : Int), v11 = .int .i64 x11_2 ∧ Aside0 (batonlaw04_HistParts.l0 kq l0 l1 a2_0 t489 x10_2 x11_2 = some r) ∧ Aside0 (kq ≤ kj3) ∧ Aside0 (Kd.R k26 26 w' w.heap.size (fun _ => True) (.slice Ao31 t489.length co31) t489) ∧ Aside0 (Kd.R k38 38 w' w.heap.size (fun _ => True) v10 x10_2) ∧ Aside0 (w'.heap[gb485]? = some (.cells #[.int .i64 a2_0, .int .i64 a2_1] 43 (0, 0))) ∧ Aside0 (Below w.heap.size w w'))
              case atStart => exact ⟨(([] : List (S38))), (0), (by first | rfl | (simp; done) | (simp [*]; done)), H', ⟨Nat.le_refl _⟩, ⟨by (with_reducible repeat (first | apply Kd.R_alloc | apply Kd.R_drewN | apply Kd.R_drew)); exact Kd.R_mono HO491.out (fun _ hk => trivial)⟩, ⟨by first | exact Kd.R_nil _ _ _ _ _ | exact Kd.N_nil _ _ _ _ _ | exact Kd.V_nil _ _ _ _ _ | exact Kd.Q_nil _ _ _ _ _ | exact Kd.S_nil _ _ _ _ _⟩, ⟨by (with_reducible repeat (first | refine blk_drewN ?_ _ | refine blk_drew ?_ | refine blk_alloc ?_ _)); exact BK485.out⟩, ⟨by repeat (first | (with_reducible first | exact HB.out | apply below_alloc | apply pw_below_drewN | apply below_drew1 | refine below_set ?_ GE485.out) | exact HB.out)⟩⟩
              case round =>
                clear H'
                try clear c1
                try clear c2
                try clear p2
                try clear q2
                try clear c7
                try clear c8
                try clear c9
                try clear c10
                try clear c11
                try clear c11b0
                try clear c12
                try clear c15
                try clear c16
                try clear c16b0
                try clear c16b1
                try clear c17
                try clear c17b0
                try clear c17b1
                try clear c19
                try clear c19b0
                try clear c20
                try clear c20b0
                try clear c21
                try clear c23
                try clear q26
                try clear c27
                try clear q27
                try clear p2
                try clear q027
                try clear q26
                try clear q27
                obtain ⟨x10_2, x11_2, rfl, HA, HK2, HO_9, HO_10, BK485, HB⟩ := hrel
                cases gk with
                | zero => exact absurd HA.out (by simp [batonlaw04_HistParts.l0])
                | succ k2 =>
                  have H := HA.out
                  clear HA
                  simp only [batonlaw04_HistParts.l0] at H
                  by_cases c33 : x11_2 < (l1.length : Int)
                  · rw [if_pos c33] at H
                    have c33b0 : decide (x11_2 < (l1.length : Int)) = true := decide_eq_true c33
                    clear c33
                    by_cases c34 : 0 ≤ x11_2
                    · rw [if_pos c34] at H
                      have c34b0 : decide (0 ≤ x11_2) = true := decide_eq_true c34
                      clear c34
                      by_cases c35 : ((rd_T38 l1 x11_2).f0) ≤ a2_0
                      · rw [if_pos c35] at H
                        have c35b0 : decide (((rd_T38 l1 x11_2).f0) ≤ a2_0) = true := decide_eq_true c35
                        clear c35
                        by_cases c36 : x10_2.length < 1759218604441
                        · rw [if_pos c36] at H
                          have LMc36 := Aside0.mk c36
                          clear c36
                          obtain ⟨y509, hy509⟩ : ∃ y_ : List (S38), y_ = (x10_2 ++ [(⟨(rd_T38 l1 x11_2).f0, (rd_T38 l1 x11_2).f1, (⟨(rd_T38 l1 x11_2).f2.f0, (rd_T38 l1 x11_2).f2.f1, (rd_T38 l1 x11_2).f2.f2, (rd_T38 l1 x11_2).f2.f3, (rd_T38 l1 x11_2).f2.f4, (rd_T38 l1 x11_2).f2.f5⟩ : S26)⟩ : S38)]) := ⟨_, rfl⟩
                          replace H : (batonlaw04_HistParts.l0 k2 l0 l1 a2_0 t489 y509 (wrap64 (x11_2 + 1))) = some r := by first | (rw [hy509]; with_reducible exact H) | (have H2_ := (Option.bind_some _ _).symm.trans H; rw [hy509]; with_reducible exact H2_) | (have H2_ := (Option.bind_some _ _).symm.trans H; with_reducible exact H2_) | with_reducible exact H | (rw [hy509]; exact H) | exact H
                          have Ny509 := Aside0.mk hy509
                          clear hy509
                          have H' := Aside0.mk H
                          clear H
                          have p507 : 0 ≤ (x11_2 : Int) := of_decide_eq_true (by first | (with_reducible assumption) | assumption)
                          have q507 : x11_2 < (l1.length : Int) := of_decide_eq_true (by first | (with_reducible assumption) | assumption)
                          obtain ⟨ad507, e507, hx507_0, hx507_1, hx507_2, hx507_3, hx507_4, hx507_5, hx507_6, hx507_7⟩ := at_T38 HR1.out x11_2 p507 q507
                          cases e507
                          replace hx507_0 := (HB.out.cell (World.block_lt_of_cell? w _ hx507_0)).trans hx507_0
                          replace hx507_1 := (HB.out.cell (World.block_lt_of_cell? w _ hx507_1)).trans hx507_1
                          replace hx507_2 := (HB.out.cell (World.block_lt_of_cell? w _ hx507_2)).trans hx507_2
                          replace hx507_3 := (HB.out.cell (World.block_lt_of_cell? w _ hx507_3)).trans hx507_3
                          replace hx507_4 := (HB.out.cell (World.block_lt_of_cell? w _ hx507_4)).trans hx507_4
                          replace hx507_5 := (HB.out.cell (World.block_lt_of_cell? w _ hx507_5)).trans hx507_5
                          replace hx507_6 := (HB.out.cell (World.block_lt_of_cell? w _ hx507_6)).trans hx507_6
                          replace hx507_7 := (HB.out.cell (World.block_lt_of_cell? w _ hx507_7)).trans hx507_7
                          replace p507 := eq_true p507
                          replace q507 := eq_true q507
                          have p508 : 0 ≤ (x11_2 : Int) := of_decide_eq_true (by first | (with_reducible assumption) | assumption)
                          have q508 : x11_2 < (l1.length : Int) := of_decide_eq_true (by first | (with_reducible assumption) | assumption)
                          obtain ⟨ad508, e508, hx508_0, hx508_1, hx508_2, hx508_3, hx508_4, hx508_5, hx508_6, hx508_7⟩ := at_T38 HR1.out x11_2 p508 q508
                          obtain rfl : ad507 = ad508 := (by injection e508)
                          replace hx508_0 := (HB.out.cell (World.block_lt_of_cell? w _ hx508_0)).trans hx508_0
                          replace hx508_1 := (HB.out.cell (World.block_lt_of_cell? w _ hx508_1)).trans hx508_1
                          replace hx508_2 := (HB.out.cell (World.block_lt_of_cell? w _ hx508_2)).trans hx508_2
                          replace hx508_3 := (HB.out.cell (World.block_lt_of_cell? w _ hx508_3)).trans hx508_3
                          replace hx508_4 := (HB.out.cell (World.block_lt_of_cell? w _ hx508_4)).trans hx508_4
                          replace hx508_5 := (HB.out.cell (World.block_lt_of_cell? w _ hx508_5)).trans hx508_5
                          replace hx508_6 := (HB.out.cell (World.block_lt_of_cell? w _ hx508_6)).trans hx508_6
                          replace hx508_7 := (HB.out.cell (World.block_lt_of_cell? w _ hx508_7)).trans hx508_7
                          replace p508 := eq_true p508
                          replace q508 := eq_true q508
                          go_wp2_with (first | ((with_reducible refine gate_builtin (b := .append) (xs := #[.tmp 66, .tmp 71]) rfl ?_); (try (refine gate_guard (by rfl) ?_; dsimp only)); at_builtin; refine Kd.R_append k38 (w0 := w) w.heap.size rfl (.tmp 66) (.tmp 71) 33 38 (.agg #[(.int .i64 0), (.bool false), (.string ⟨#[]⟩), (.string ⟨#[]⟩), (.int .i64 0), (.int .i64 0), (.int .i64 0), (.int .i64 0)]) 80 rfl Try.underlying33 info38 rfl (by decide) (by omega) u10 x10_2 (⟨(rd_T38 l1 x11_2).f0, (rd_T38 l1 x11_2).f1, (⟨(rd_T38 l1 x11_2).f2.f0, (rd_T38 l1 x11_2).f2.f1, (rd_T38 l1 x11_2).f2.f2, (rd_T38 l1 x11_2).f2.f3, (rd_T38 l1 x11_2).f2.f4, (rd_T38 l1 x11_2).f2.f5⟩ : S26)⟩ : S38) [.int .i64 ((rd_T38 l1 x11_2).f0), .bool ((rd_T38 l1 x11_2).f1), .string ((rd_T38 l1 x11_2).f2.f0), .string ((rd_T38 l1 x11_2).f2.f1), .int .i64 ((rd_T38 l1 x11_2).f2.f2), .int .i64 ((rd_T38 l1 x11_2).f2.f3), .int .i64 ((rd_T38 l1 x11_2).f2.f4), .int .i64 ((rd_T38 l1 x11_2).f2.f5)] (fun _ => True) (fun _ => False) rfl rfl ?aP (fun _ hk => hk.elim) ?aF ?aO ?aB ?aS ?aL ?_; (case aP => exact k38_mkM _ _ _ (⟨(rd_T38 l1 x11_2).f0, (rd_T38 l1 x11_2).f1, (⟨(rd_T38 l1 x11_2).f2.f0, (rd_T38 l1 x11_2).f2.f1, (rd_T38 l1 x11_2).f2.f2, (rd_T38 l1 x11_2).f2.f3, (rd_T38 l1 x11_2).f2.f4, (rd_T38 l1 x11_2).f2.f5⟩ : S26)⟩ : S38)); (case aB => exact (by repeat (first | (with_reducible first | exact HB.out | apply below_alloc | apply pw_below_drewN | apply below_drew1 | refine below_set ?_ GE485.out) | exact HB.out))); (case aF => exact (fun _ _ => trivial)); (case aO => exact (by (with_reducible repeat (first | apply Kd.R_alloc | apply Kd.R_drewN | apply Kd.R_drew)); exact HO_10.out)); (case aS => exact (below_size (by repeat (first | (with_reducible first | exact HB.out | apply below_alloc | apply pw_below_drewN | apply below_drew1 | refine below_set ?_ GE485.out) | exact HB.out)))); (case aL => have := LMc36.out; omega); intro v510 w37 ho hb hg hat; rw [← Ny509.out] at ho; have n0_ := Aside0.mk (Kd.R_over' (by (with_reducible repeat (first | apply Kd.R_alloc | apply Kd.R_drewN | apply Kd.R_drew)); exact HO_9.out) (Kd.R_typed (by (with_reducible repeat (first | apply Kd.R_alloc | apply Kd.R_drewN | apply Kd.R_drew)); exact HO_10.out)) (by decide) hg); have n1_ := Aside0.mk (blk_grown (g := gb485) (o := .cells #[.int .i64 a2_0, .int .i64 a2_1] 43 (0, 0)) (by (with_reducible repeat (first | refine blk_drewN ?_ _ | refine blk_drew ?_ | refine blk_alloc ?_ _)); exact BK485.out) hg (Kd.R_ne HO_10.out BK485.out (by decide))); have n2_ := Aside0.mk (hb); have n3_ := Aside0.mk (ho); clear HO_9; clear BK485; clear HB; clear HO_10; have HO_9 := n0_; have BK485 := n1_; have HB := n2_; have HO511 := n3_; clear n0_ n1_ n2_ n3_; clear ho hb hg hat))
                          go_roundg k2
                          case measure => have := HJ3.out; have := HK2.out; omega
                          case rel => exact ⟨(y509), (wrap64 (x11_2 + 1)), (by first | rfl | (simp; done) | (simp [*]; done)), H', ⟨by have := HJ3.out; have := HK2.out; omega⟩, ⟨by (with_reducible repeat (first | apply Kd.R_alloc | apply Kd.R_drewN | apply Kd.R_drew)); exact HO_9.out⟩, ⟨by (with_reducible repeat (first | apply Kd.R_alloc | apply Kd.R_drewN | apply Kd.R_drew)); exact HO511.out⟩, ⟨by (with_reducible repeat (first | refine blk_drewN ?_ _ | refine blk_drew ?_ | refine blk_alloc ?_ _)); exact BK485.out⟩, ⟨by repeat (first | (with_reducible first | exact HB.out | apply below_alloc | apply pw_below_drewN | apply below_drew1 | refine below_set ?_ GE485.out) | exact HB.out)⟩⟩
                        · rw [if_neg c36] at H
                          exact absurd H (by simp)
                      · rw [if_neg c35] at H
                        have c35b0 : decide (((rd_T38 l1 x11_2).f0) ≤ a2_0) = false := decide_eq_false c35
                        clear c35
                        have H' := Aside0.mk H
                        clear H
                        have p507 : 0 ≤ (x11_2 : Int) := of_decide_eq_true (by first | (with_reducible assumption) | assumption)
                        have q507 : x11_2 < (l1.length : Int) := of_decide_eq_true (by first | (with_reducible assumption) | assumption)
                        obtain ⟨ad507, e507, hx507_0, hx507_1, hx507_2, hx507_3, hx507_4, hx507_5, hx507_6, hx507_7⟩ := at_T38 HR1.out x11_2 p507 q507
                        cases e507
                        replace hx507_0 := (HB.out.cell (World.block_lt_of_cell? w _ hx507_0)).trans hx507_0
                        replace hx507_1 := (HB.out.cell (World.block_lt_of_cell? w _ hx507_1)).trans hx507_1
                        replace hx507_2 := (HB.out.cell (World.block_lt_of_cell? w _ hx507_2)).trans hx507_2
                        replace hx507_3 := (HB.out.cell (World.block_lt_of_cell? w _ hx507_3)).trans hx507_3
                        replace hx507_4 := (HB.out.cell (World.block_lt_of_cell? w _ hx507_4)).trans hx507_4
                        replace hx507_5 := (HB.out.cell (World.block_lt_of_cell? w _ hx507_5)).trans hx507_5
                        replace hx507_6 := (HB.out.cell (World.block_lt_of_cell? w _ hx507_6)).trans hx507_6
                        replace hx507_7 := (HB.out.cell (World.block_lt_of_cell? w _ hx507_7)).trans hx507_7
                        replace p507 := eq_true p507
                        replace q507 := eq_true q507
                        go_wp2
                        go_roundg k2
                        case measure => have := HJ3.out; have := HK2.out; omega
                        case rel => exact ⟨(x10_2), (wrap64 (x11_2 + 1)), (by first | rfl | (simp; done) | (simp [*]; done)), H', ⟨by have := HJ3.out; have := HK2.out; omega⟩, ⟨by (with_reducible repeat (first | apply Kd.R_alloc | apply Kd.R_drewN | apply Kd.R_drew)); exact HO_9.out⟩, ⟨by (with_reducible repeat (first | apply Kd.R_alloc | apply Kd.R_drewN | apply Kd.R_drew)); exact HO_10.out⟩, ⟨by (with_reducible repeat (first | refine blk_drewN ?_ _ | refine blk_drew ?_ | refine blk_alloc ?_ _)); exact BK485.out⟩, ⟨by repeat (first | (with_reducible first | exact HB.out | apply below_alloc | apply pw_below_drewN | apply below_drew1 | refine below_set ?_ GE485.out) | exact HB.out)⟩⟩
                    · rw [if_neg c34] at H
                      exact absurd H (by simp)
                  · rw [if_neg c33] at H
                    have c33b0 : decide (x11_2 < (l1.length : Int)) = false := decide_eq_false c33
                    clear c33
                    replace H := Option.bind_eq_some_iff.mp H
                    obtain ⟨t512, A380, H⟩ := H
                    replace H : ((batonref03_KVs.f k2 t489 t512).bind fun t515 => (if t515 = true then ((hist_From.f k2 t489 (⟨#[]⟩ : ByteArray)).bind fun t516 => ((batonref03_KVs.f k2 t516 t489).bind fun t519 => (if t519 = true then ((batonlaw04_live.f k2).bind fun t520 => (some t520)) else (none)))) else (none))) = some r := H
                    have A38 := Aside0.mk A380
                    clear A380
                    replace H := Option.bind_eq_some_iff.mp H
                    obtain ⟨t515, A390, H⟩ := H
                    replace H : (if t515 = true then ((hist_From.f k2 t489 (⟨#[]⟩ : ByteArray)).bind fun t516 => ((batonref03_KVs.f k2 t516 t489).bind fun t519 => (if t519 = true then ((batonlaw04_live.f k2).bind fun t520 => (some t520)) else (none)))) else (none)) = some r := H
                    have A39 := Aside0.mk A390
                    clear A390
                    by_cases c40 : t515 = true
                    · subst c40
                      have H1 : ((hist_From.f k2 t489 (⟨#[]⟩ : ByteArray)).bind fun t516 => ((batonref03_KVs.f k2 t516 t489).bind fun t519 => (if t519 = true then ((batonlaw04_live.f k2).bind fun t520 => (some t520)) else (none)))) = some r := by rw [if_pos rfl] at H; exact H
                      clear H
                      have H := H1
                      clear H1
                      replace H := Option.bind_eq_some_iff.mp H
                      obtain ⟨t516, A410, H⟩ := H
                      replace H : ((batonref03_KVs.f k2 t516 t489).bind fun t519 => (if t519 = true then ((batonlaw04_live.f k2).bind fun t520 => (some t520)) else (none))) = some r := H
                      have A41 := Aside0.mk A410
                      clear A410
                      replace H := Option.bind_eq_some_iff.mp H
                      obtain ⟨t519, A420, H⟩ := H
                      replace H : (if t519 = true then ((batonlaw04_live.f k2).bind fun t520 => (some t520)) else (none)) = some r := H
                      have A42 := Aside0.mk A420
                      clear A420
                      by_cases c43 : t519 = true
                      · subst c43
                        have H1 : ((batonlaw04_live.f k2).bind fun t520 => (some t520)) = some r := by rw [if_pos rfl] at H; exact H
                        clear H
                        have H := H1
                        clear H1
                        replace H := Option.bind_eq_some_iff.mp H
                        obtain ⟨t520, A440, H⟩ := H
                        replace H : (some t520) = some r := H
                        have A44 := Aside0.mk A440
                        clear A440
                        obtain rfl := Option.some.inj H
                        obtain ⟨Ao45, co45, eo45⟩ := Kd.R_slice HO_10.out
                        subst eo45
                        go_wp2_with (first | ((with_reducible refine gate_callee (f := 21) rfl ?_); refine goesL_ (some 77) rfl rfl Try.func21 (by kernel_rfl) rfl #[.slice A0 l0.length c0, .slice Ao45 x10_2.length co45, .int .i64 a2_0] rfl (by (try simp only [List.map_toArray, List.map_cons, List.map_nil]); first | done | rfl | (simp only [List.length_drop, List.length_take]; rfl)) ?_; (with_reducible refine (hist_Fold.calls k2 _ _ l0 _ _ x10_2 a2_0 t512 _ ?side1 ?side2 ?side3 ?side4 A38.out).mono ?_); (case side1 => repeat (first | exact (Kd.C_below HR0.out HB.out) | (with_reducible refine Kd.C_alloc ?_ _) | (with_reducible refine Kd.C_drewN ?_ _) | (with_reducible refine Kd.C_drew ?_))); (case side2 => exact HC0.out); (case side3 => repeat (first | exact (Kd.R_reads' HO_10.out).2.2 | (with_reducible refine Kd.C_alloc ?_ _) | (with_reducible refine Kd.C_drewN ?_ _) | (with_reducible refine Kd.C_drew ?_))); (case side4 => exact (Kd.R_reads' HO_10.out).2.1); rintro e w46 ⟨v513, rfl, ho0, hb⟩; refine ⟨_, rfl, ?_⟩; have n0_ := Aside0.mk (Kd.R_elder' (by (with_reducible repeat (first | apply Kd.R_alloc | apply Kd.R_drewN | apply Kd.R_drew)); exact HO_9.out) (Kd.R_base ho0) hb); have n1_ := Aside0.mk (Kd.R_below (by (with_reducible repeat (first | apply Kd.R_alloc | apply Kd.R_drewN | apply Kd.R_drew)); exact HO_10.out) hb); have n2_ := Aside0.mk (Kd.R_lower (Kd.R_new' ho0 (Kd.R_lt (by (with_reducible repeat (first | apply Kd.R_alloc | apply Kd.R_drewN | apply Kd.R_drew)); exact HO_9.out))) (below_size (by repeat (first | (with_reducible first | exact HB.out | apply below_alloc | apply pw_below_drewN | apply below_drew1 | refine below_set ?_ GE485.out) | exact HB.out)))); have n3_ := Aside0.mk (blk_below (g := gb485) (o := .cells #[.int .i64 a2_0, .int .i64 a2_1] 43 (0, 0)) (by (with_reducible repeat (first | refine blk_drewN ?_ _ | refine blk_drew ?_ | refine blk_alloc ?_ _)); exact BK485.out) hb); have n4_ := Aside0.mk (below_step (by repeat (first | (with_reducible first | exact HB.out | apply below_alloc | apply pw_below_drewN | apply below_drew1 | refine below_set ?_ GE485.out) | exact HB.out)) hb); clear HO_9; clear HO_10; clear BK485; clear HB; have HO_9 := n0_; have HO_10 := n1_; have HO514 := n2_; have BK485 := n3_; have HB := n4_; clear n0_ n1_ n2_ n3_ n4_; (try clear hb); (try clear hb2); (try clear hk); (try clear hi); (try clear ho0); obtain ⟨Ao47, co47, eo47⟩ := Kd.R_slice HO514.out; subst eo47) | ((with_reducible refine gate_callee (f := 15) rfl ?_); refine goesL_ (some 78) rfl rfl Try.func15 (by kernel_rfl) rfl #[.slice Ao31 t489.length co31, .slice Ao47 t512.length co47] rfl (by (try simp only [List.map_toArray, List.map_cons, List.map_nil]); first | done | rfl | (simp only [List.length_drop, List.length_take]; rfl)) ?_; (with_reducible refine (batonref03_KVs.calls k2 _ _ t489 _ _ t512 true _ ?side1 ?side2 ?side3 ?side4 A39.out).mono ?_); (case side1 => repeat (first | exact (Kd.R_reads' HO_9.out).2.2 | (with_reducible refine Kd.C_alloc ?_ _) | (with_reducible refine Kd.C_drewN ?_ _) | (with_reducible refine Kd.C_drew ?_))); (case side2 => exact (Kd.R_reads' HO_9.out).2.1); (case side3 => repeat (first | exact (Kd.R_reads' HO514.out).2.2 | (with_reducible refine Kd.C_alloc ?_ _) | (with_reducible refine Kd.C_drewN ?_ _) | (with_reducible refine Kd.C_drew ?_))); (case side4 => exact (Kd.R_reads' HO514.out).2.1); rintro e w' ⟨rfl, ⟨nd, rfl⟩⟩; refine ⟨_, rfl, ?_⟩) | (go_at_call 18; (with_reducible refine (hist_From.calls k2 _ _ t489 (⟨#[]⟩ : ByteArray) t516 _ ?side1 ?side2 A41.out).mono ?_); (case side1 => repeat (first | exact (Kd.R_reads' HO_9.out).2.2 | (with_reducible refine Kd.C_alloc ?_ _) | (with_reducible refine Kd.C_drewN ?_ _) | (with_reducible refine Kd.C_drew ?_))); (case side2 => exact (Kd.R_reads' HO_9.out).2.1); rintro e w48 ⟨v517, rfl, ho0, hb⟩; have n0_ := Aside0.mk (Kd.R_elder' (by (with_reducible repeat (first | apply Kd.R_alloc | apply Kd.R_drewN | apply Kd.R_drew)); exact HO_9.out) (Kd.R_base ho0) hb); have n1_ := Aside0.mk (Kd.R_below (by (with_reducible repeat (first | apply Kd.R_alloc | apply Kd.R_drewN | apply Kd.R_drew)); exact HO_10.out) hb); have n2_ := Aside0.mk (Kd.R_elder' (by (with_reducible repeat (first | apply Kd.R_alloc | apply Kd.R_drewN | apply Kd.R_drew)); exact HO514.out) (Kd.R_base ho0) hb); have n3_ := Aside0.mk (Kd.R_lower (Kd.R_new' (Kd.R_new' ho0 (Kd.R_lt (by (with_reducible repeat (first | apply Kd.R_alloc | apply Kd.R_drewN | apply Kd.R_drew)); exact HO_9.out))) (Kd.R_lt (by (with_reducible repeat (first | apply Kd.R_alloc | apply Kd.R_drewN | apply Kd.R_drew)); exact HO514.out))) (below_size (by repeat (first | (with_reducible first | exact HB.out | apply below_alloc | apply pw_below_drewN | apply below_drew1 | refine below_set ?_ GE485.out) | exact HB.out)))); have n4_ := Aside0.mk (blk_below (g := gb485) (o := .cells #[.int .i64 a2_0, .int .i64 a2_1] 43 (0, 0)) (by (with_reducible repeat (first | refine blk_drewN ?_ _ | refine blk_drew ?_ | refine blk_alloc ?_ _)); exact BK485.out) hb); have n5_ := Aside0.mk (below_step (by repeat (first | (with_reducible first | exact HB.out | apply below_alloc | apply pw_below_drewN | apply below_drew1 | refine below_set ?_ GE485.out) | exact HB.out)) hb); clear HO_9; clear HO_10; clear HO514; clear BK485; clear HB; have HO_9 := n0_; have HO_10 := n1_; have HO514 := n2_; have HO518 := n3_; have BK485 := n4_; have HB := n5_; clear n0_ n1_ n2_ n3_ n4_ n5_; (try clear hb); (try clear hb2); (try clear hk); (try clear hi); (try clear ho0); obtain ⟨Ao49, co49, eo49⟩ := Kd.R_slice HO518.out; subst eo49) | (go_at_call 15; (with_reducible refine (batonref03_KVs.calls k2 _ _ t516 _ _ t489 true _ ?side1 ?side2 ?side3 ?side4 A42.out).mono ?_); (case side1 => repeat (first | exact (Kd.R_reads' HO518.out).2.2 | (with_reducible refine Kd.C_alloc ?_ _) | (with_reducible refine Kd.C_drewN ?_ _) | (with_reducible refine Kd.C_drew ?_))); (case side2 => exact (Kd.R_reads' HO518.out).2.1); (case side3 => repeat (first | exact (Kd.R_reads' HO_9.out).2.2 | (with_reducible refine Kd.C_alloc ?_ _) | (with_reducible refine Kd.C_drewN ?_ _) | (with_reducible refine Kd.C_drew ?_))); (case side4 => exact (Kd.R_reads' HO_9.out).2.1); rintro e w' ⟨rfl, ⟨nd, rfl⟩⟩) | (go_at_call 10; (with_reducible refine (batonlaw04_live.calls k2  t520 _ A44.out).mono ?_); rintro e w50 ⟨rfl, hb⟩; have n0_ := Aside0.mk (Kd.R_below (by (with_reducible repeat (first | apply Kd.R_alloc | apply Kd.R_drewN | apply Kd.R_drew)); exact HO_9.out) hb); have n1_ := Aside0.mk (Kd.R_below (by (with_reducible repeat (first | apply Kd.R_alloc | apply Kd.R_drewN | apply Kd.R_drew)); exact HO_10.out) hb); have n2_ := Aside0.mk (Kd.R_below (by (with_reducible repeat (first | apply Kd.R_alloc | apply Kd.R_drewN | apply Kd.R_drew)); exact HO514.out) hb); have n3_ := Aside0.mk (Kd.R_below (by (with_reducible repeat (first | apply Kd.R_alloc | apply Kd.R_drewN | apply Kd.R_drew)); exact HO518.out) hb); have n4_ := Aside0.mk (blk_below (g := gb485) (o := .cells #[.int .i64 a2_0, .int .i64 a2_1] 43 (0, 0)) (by (with_reducible repeat (first | refine blk_drewN ?_ _ | refine blk_drew ?_ | refine blk_alloc ?_ _)); exact BK485.out) hb); have n5_ := Aside0.mk (below_step (by repeat (first | (with_reducible first | exact HB.out | apply below_alloc | apply pw_below_drewN | apply below_drew1 | refine below_set ?_ GE485.out) | exact HB.out)) hb); clear HO_9; clear HO_10; clear HO514; clear HO518; clear BK485; clear HB; have HO_9 := n0_; have HO_10 := n1_; have HO514 := n2_; have HO518 := n3_; have BK485 := n4_; have HB := n5_; clear n0_ n1_ n2_ n3_ n4_ n5_; (try clear hb); (try clear hb2); (try clear hk); (try clear hi)))
                        go_ret
                        exact ⟨by first | rfl | (simp [errW_none, errW_some] <;> rfl) | (simp [*, errW_none, errW_some] <;> rfl), by repeat (first | (with_reducible first | exact HB.out | apply below_alloc | apply pw_below_drewN | apply below_drew1 | refine below_set ?_ GE485.out) | exact HB.out)⟩
                      · replace c43 := Bool.eq_false_iff.mpr c43
                        subst c43
                        have H1 : (none) = some r := by rw [if_neg (show ¬ (false = true) by decide)] at H; exact H
                        clear H
                        have H := H1
                        clear H1
                        exact absurd H (by simp)
                    · replace c40 := Bool.eq_false_iff.mpr c40
                      subst c40
                      have H1 : (none) = some r := by rw [if_neg (show ¬ (false = true) by decide)] at H; exact H
                      clear H
                      have H := H1
                      clear H1
                      exact absurd H (by simp)
            · replace c23 := Bool.eq_false_iff.mpr c23
              subst c23
              have H1 : (none) = some r := by rw [if_neg (show ¬ (false = true) by decide)] at H; exact H
              clear H
              have H := H1
              clear H1
              exact absurd H (by simp)
          · rw [if_neg c17] at H
            exact absurd H (by simp)
        · rw [if_neg c16] at H
          exact absurd H (by simp)

end Go.Proofs.Ytldblgcbmhkmaaa.PM
