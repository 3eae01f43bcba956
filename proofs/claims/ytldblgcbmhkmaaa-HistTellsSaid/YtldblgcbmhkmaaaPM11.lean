-- made by a program of this session (wip/tools/myprint.py over the kit's print) out of the translation; Lean checks it
import Derived.Test.YtldblgcbmhkmaaaPM0
import Derived.Test.YtldblgcbmhkmaaaPM7
import Derived.Test.YtldblgcbmhkmaaaPM10
namespace Go.Proofs.Ytldblgcbmhkmaaa.PM
open Go.RowKit Go.Proofs.YtldblgcbmhkmaaaW.PrintWords Go.Proofs.YtldblgcbmhkmaaaW.PrintLast Go.Proofs.YtldblgcbmhkmaaaW.PrintMore
attribute [local go_sem] max2_int min2_int max_two min_two max_three min_three max_four min_four   -- for this text's walks alone
attribute [local go_sem high] Go.Proofs.Ytldblgcbmhkmaaa.My.str_leq Go.Proofs.Ytldblgcbmhkmaaa.My.str_gtr Go.Proofs.Ytldblgcbmhkmaaa.My.str_geq
set_option linter.unusedVariables false
set_option linter.unusedSimpArgs false

/-! ### hist_Lay: function 23 -/
mutual
def hist_Lay.l0 : Nat → List (S26) → Bool → List (S26) → Int → Int → ByteArray → ByteArray → Int → Int → Int → Int → Option ((List (S26)))
 | 0, _, _, _, _, _, _, _, _, _, _, _ => none
 | k + 1, x5, x6, x9, x10, x11, x146000, x146001, x146002, x146003, x146004, x146005 => if x11 < x10 then (if 0 ≤ x11 then (if x11 < (x9.length : Int) then (if x6 = true then (hist_Lay.j1 k x5 x6 x9 x10 x11 true x146000 x146001 x146002 x146003 x146004 x146005 ((rd_T26 x9 x11).f0) ((rd_T26 x9 x11).f1) ((rd_T26 x9 x11).f2) ((rd_T26 x9 x11).f3) ((rd_T26 x9 x11).f4) ((rd_T26 x9 x11).f5)) else (hist_Lay.j1 k x5 x6 x9 x10 x11 (Op.bytesLess (((rd_T26 x9 x11).f0).toList) x146000.toList) x146000 x146001 x146002 x146003 x146004 x146005 ((rd_T26 x9 x11).f0) ((rd_T26 x9 x11).f1) ((rd_T26 x9 x11).f2) ((rd_T26 x9 x11).f3) ((rd_T26 x9 x11).f4) ((rd_T26 x9 x11).f5))) else (none)) else (none)) else (if x6 = true then (some x5) else (if x5.length < 2199023255552 then (some (x5 ++ [(⟨x146000, x146001, x146002, x146003, x146004, x146005⟩ : S26)])) else (none)))
def hist_Lay.j1 : Nat → List (S26) → Bool → List (S26) → Int → Int → Bool → ByteArray → ByteArray → Int → Int → Int → Int → ByteArray → ByteArray → Int → Int → Int → Int → Option ((List (S26)))
 | 0, _, _, _, _, _, _, _, _, _, _, _, _, _, _, _, _, _, _ => none
 | k + 1, x5, x6, x9, x10, x11, x20, x146000, x146001, x146002, x146003, x146004, x146005, x151000, x151001, x151002, x151003, x151004, x151005 => if x20 = true then (if x5.length < 2199023255552 then (hist_Lay.l0 k (x5 ++ [(⟨x151000, x151001, x151002, x151003, x151004, x151005⟩ : S26)]) x6 x9 x10 (wrap64 (x11 + 1)) x146000 x146001 x146002 x146003 x146004 x146005) else (none)) else (if x151000.toList = x146000.toList then (if x5.length < 2199023255552 then (hist_Lay.l0 k (x5 ++ [(⟨x146000, x146001, x146002, x146003, x146004, x146005⟩ : S26)]) true x9 x10 (wrap64 (x11 + 1)) x146000 x146001 x146002 x146003 x146004 x146005) else (none)) else ((some (([(⟨x146000, x146001, x146002, x146003, x146004, x146005⟩ : S26), (⟨x151000, x151001, x151002, x151003, x151004, x151005⟩ : S26)] : List (S26)) : List (S26))).bind fun y157 => (if x5.length + y157.length < 2199023255552 then (hist_Lay.l0 k (x5 ++ y157) true x9 x10 (wrap64 (x11 + 1)) x146000 x146001 x146002 x146003 x146004 x146005) else (none))))
end
def hist_Lay.f (k : Nat) (l0 : List (S26)) (a1_0 : ByteArray) (a1_1 : ByteArray) (a1_2 : Int) (a1_3 : Int) (a1_4 : Int) (a1_5 : Int) : Option ((List (S26))) := hist_Lay.l0 k ([] : List (S26)) false l0 (l0.length : Int) 0 a1_0 a1_1 a1_2 a1_3 a1_4 a1_5
theorem hist_Lay.mono_l : ∀ k, (∀ y0 y1 y2 y3 y4 y5 y6 y7 y8 y9 y10, LeO (hist_Lay.l0 k y0 y1 y2 y3 y4 y5 y6 y7 y8 y9 y10) (hist_Lay.l0 (k + 1) y0 y1 y2 y3 y4 y5 y6 y7 y8 y9 y10)) ∧ (∀ y0 y1 y2 y3 y4 y5 y6 y7 y8 y9 y10 y11 y12 y13 y14 y15 y16 y17, LeO (hist_Lay.j1 k y0 y1 y2 y3 y4 y5 y6 y7 y8 y9 y10 y11 y12 y13 y14 y15 y16 y17) (hist_Lay.j1 (k + 1) y0 y1 y2 y3 y4 y5 y6 y7 y8 y9 y10 y11 y12 y13 y14 y15 y16 y17))
 | 0 => ⟨fun _ _ _ _ _ _ _ _ _ _ _ r h => by simp [hist_Lay.l0] at h, fun _ _ _ _ _ _ _ _ _ _ _ _ _ _ _ _ _ _ r h => by simp [hist_Lay.j1] at h⟩
 | k + 1 => by
  obtain ⟨ih0, ih1⟩ := hist_Lay.mono_l k
  refine ⟨?_, ?_⟩
  ·intro y0 y1 y2 y3 y4 y5 y6 y7 y8 y9 y10
   unfold hist_Lay.l0
   repeat' first
   | (with_reducible exact ih0 _ _ _ _ _ _ _ _ _ _ _)
   | (with_reducible exact ih1 _ _ _ _ _ _ _ _ _ _ _ _ _ _ _ _ _ _)
   | (with_reducible exact LeO.refl _)
   | (with_reducible exact LeO.none _)
   | (with_reducible refine LeO.ite ?_ ?_)
   | (with_reducible refine LeO.bind ?_ (fun _ => ?_))
   | exact ih0 _ _ _ _ _ _ _ _ _ _ _
   | exact ih1 _ _ _ _ _ _ _ _ _ _ _ _ _ _ _ _ _ _
   | exact LeO.none _
   | refine LeO.ite ?_ ?_
   | refine LeO.bind ?_ (fun _ => ?_)
  ·intro y0 y1 y2 y3 y4 y5 y6 y7 y8 y9 y10 y11 y12 y13 y14 y15 y16 y17
   unfold hist_Lay.j1
   repeat' first
   | (with_reducible exact ih0 _ _ _ _ _ _ _ _ _ _ _)
   | (with_reducible exact ih1 _ _ _ _ _ _ _ _ _ _ _ _ _ _ _ _ _ _)
   | (with_reducible exact LeO.refl _)
   | (with_reducible exact LeO.none _)
   | (with_reducible refine LeO.ite ?_ ?_)
   | (with_reducible refine LeO.bind ?_ (fun _ => ?_))
   | exact ih0 _ _ _ _ _ _ _ _ _ _ _
   | exact ih1 _ _ _ _ _ _ _ _ _ _ _ _ _ _ _ _ _ _
   | exact LeO.none _
   | refine LeO.ite ?_ ?_
   | refine LeO.bind ?_ (fun _ => ?_)
theorem hist_Lay.mono : ∀ a0 a1 a2 a3 a4 a5 a6 k, LeO (hist_Lay.f k a0 a1 a2 a3 a4 a5 a6) (hist_Lay.f (k + 1) a0 a1 a2 a3 a4 a5 a6) := by
 intro a0 a1 a2 a3 a4 a5 a6 k
 obtain ⟨ih0, ih1⟩ := hist_Lay.mono_l k
 unfold hist_Lay.f
 repeat' first
   | (with_reducible exact ih0 _ _ _ _ _ _ _ _ _ _ _)
   | (with_reducible exact ih1 _ _ _ _ _ _ _ _ _ _ _ _ _ _ _ _ _ _)
   | (with_reducible exact LeO.refl _)
   | (with_reducible exact LeO.none _)
   | (with_reducible refine LeO.ite ?_ ?_)
   | (with_reducible refine LeO.bind ?_ (fun _ => ?_))
   | exact ih0 _ _ _ _ _ _ _ _ _ _ _
   | exact ih1 _ _ _ _ _ _ _ _ _ _ _ _ _ _ _ _ _ _
   | exact LeO.none _
   | refine LeO.ite ?_ ?_
   | refine LeO.bind ?_ (fun _ => ?_)
set_option maxHeartbeats 8000000 in
set_option maxRecDepth 100000 in
theorem hist_Lay.calls (k : Nat) (A0 : Option Addr) (c0 : Nat) (l0 : List (S26)) (a1_0 : ByteArray) (a1_1 : ByteArray) (a1_2 : Int) (a1_3 : Int) (a1_4 : Int) (a1_5 : Int) (r : List (S26)) (w : World) (hr0 : Kd.C k26 w A0 l0.length l0) (hc0 : l0.length ≤ c0) (h : hist_Lay.f k l0 a1_0 a1_1 a1_2 a1_3 a1_4 a1_5 = some r) :
  Calls Try.prog 23 #[.slice A0 l0.length c0, .agg #[.string a1_0, .string a1_1, .int .i64 a1_2, .int .i64 a1_3, .int .i64 a1_4, .int .i64 a1_5]] w fun e w' => ∃ v0_ : Value, e = .returned (v0_) ∧ Kd.R k26 26 w' w.heap.size (fun _ => True) v0_ r ∧ Below w.heap.size w w' := by
 have hu26 := Try.underlying26
 have HR0 := Aside0.mk hr0
 have HC0 := Aside0.mk hc0
 clear hr0 hc0
 have HB := Aside0.mk (Below.refl w.heap.size w)
 have H : (hist_Lay.l0 k ([] : List (S26)) false l0 (l0.length : Int) 0 a1_0 a1_1 a1_2 a1_3 a1_4 a1_5) = some r := h
 clear h
 have H' := Aside0.mk H
 clear H
 go_enter Try.func23, Try.ntmps23
 go_wp2_with (first | (with_reducible first | refine wp_label ?_ | refine wp_scope_straight ?_) | ((with_reducible refine gate_dst (N := 3) rfl ?_); refine box_event ?hg (N := 3) ?hd (cs := #[.string a1_0, .string a1_1, .int .i64 a1_2, .int .i64 a1_3, .int .i64 a1_4, .int .i64 a1_5]) (t := 26) ?hr ?_; (case hd => rfl); (case hg => rfl); (case hr => first | (go_simp; done) | (go_simp; rfl)); intro gb145 hg w3 hbox hb; have n0_ := Aside0.mk (below_step (by repeat (first | (with_reducible first | exact HB.out | apply below_alloc | apply pw_below_drewN | apply below_drew1) | exact HB.out)) hb); have n1_ := Aside0.mk (hbox); have n2_ := Aside0.mk ((by rw [hg]; exact (below_size (by repeat (first | (with_reducible first | exact HB.out | apply below_alloc | apply pw_below_drewN | apply below_drew1) | exact HB.out))) : w.heap.size ≤ gb145)); have n3_ := Aside0.mk ((by rw [hg]; exact (below_size (by repeat (first | (with_reducible first | exact HB.out | apply below_alloc | apply pw_below_drewN | apply below_drew1) | exact HB.out))) : w.heap.size ≤ gb145)); clear HB; have HB := n0_; have BK145 := n1_; have GW145 := n2_; have GE145 := n3_; clear n0_ n1_ n2_ n3_; clear hb hbox hg))
 go_loopg [5, 6, 11] k (fun kq v5 v6 v11 w' => ∃ (x5_1 : List (S26)) (x6_1 : Bool) (x11_1 : Int), v6 = .bool x6_1 ∧ v11 = .int .i64 x11_1 ∧ Aside0 (hist_Lay.l0 kq x5_1 x6_1 l0 (l0.length : Int) x11_1 a1_0 a1_1 a1_2 a1_3 a1_4 a1_5 = some r) ∧ Aside0 (kq ≤ k) ∧ Aside0 (Kd.R k26 26 w' w.heap.size (fun k_ => k_ ≠ gb145) v5 x5_1) ∧ Aside0 (w'.heap[gb145]? = some (.cells #[.string a1_0, .string a1_1, .int .i64 a1_2, .int .i64 a1_3, .int .i64 a1_4, .int .i64 a1_5] 26 (0, 0))) ∧ Aside0 (Below w.heap.size w w'))
 case atStart => exact ⟨(([] : List (S26))), (false), (0), (by first | rfl | (simp; done) | (simp [*]; done)), (by first | rfl | (simp; done) | (simp [*]; done)), H', ⟨Nat.le_refl _⟩, ⟨by first | exact Kd.R_nil _ _ _ _ _ | exact Kd.N_nil _ _ _ _ _ | exact Kd.V_nil _ _ _ _ _ | exact Kd.Q_nil _ _ _ _ _ | exact Kd.S_nil _ _ _ _ _⟩, ⟨by (with_reducible repeat (first | refine blk_drewN ?_ _ | refine blk_drew ?_ | refine blk_alloc ?_ _)); exact BK145.out⟩, ⟨by repeat (first | (with_reducible first | exact HB.out | apply below_alloc | apply pw_below_drewN | apply below_drew1 | refine below_set ?_ GE145.out) | exact HB.out)⟩⟩
 case round =>
  clear H'
  try clear c2
  try clear p2
  obtain ⟨x5_1, x6_1, x11_1, rfl, rfl, HA, HK1, HO_5, BK145, HB⟩ := hrel
  cases gk with
  | zero => exact absurd HA.out (by simp [hist_Lay.l0])
  | succ k1 =>
   have H := HA.out
   clear HA
   simp only [hist_Lay.l0] at H
   by_cases c4 : x11_1 < (l0.length : Int)
   ·rw [if_pos c4] at H
    have c4b0 : decide (x11_1 < (l0.length : Int)) = true := decide_eq_true c4
    clear c4
    by_cases c5 : 0 ≤ x11_1
    ·rw [if_pos c5] at H
     have c5b0 : decide (0 ≤ x11_1) = true := decide_eq_true c5
     clear c5
     by_cases c6 : x11_1 < (l0.length : Int)
     ·rw [if_pos c6] at H
      have c6b0 : decide (x11_1 < (l0.length : Int)) = true := decide_eq_true c6
      clear c6
      have HC7 := Aside0.mk H
      clear H
      have p149 : 0 ≤ (x11_1 : Int) := of_decide_eq_true (by assumption)
      have q149 : x11_1 < (l0.length : Int) := of_decide_eq_true (by assumption)
      obtain ⟨ad149, e149, hx149_0, hx149_1, hx149_2, hx149_3, hx149_4, hx149_5⟩ := at_T26 HR0.out x11_1 p149 q149
      cases e149
      replace hx149_0 := (HB.out.cell (World.block_lt_of_cell? w _ hx149_0)).trans hx149_0
      replace hx149_1 := (HB.out.cell (World.block_lt_of_cell? w _ hx149_1)).trans hx149_1
      replace hx149_2 := (HB.out.cell (World.block_lt_of_cell? w _ hx149_2)).trans hx149_2
      replace hx149_3 := (HB.out.cell (World.block_lt_of_cell? w _ hx149_3)).trans hx149_3
      replace hx149_4 := (HB.out.cell (World.block_lt_of_cell? w _ hx149_4)).trans hx149_4
      replace hx149_5 := (HB.out.cell (World.block_lt_of_cell? w _ hx149_5)).trans hx149_5
      replace p149 := eq_true p149
      replace q149 := eq_true q149
      go_upto_region 7 with (first | ((with_reducible refine gate_dst (N := 8) rfl ?_); refine box_event ?hg (N := 8) ?hd (cs := #[.string (⟨#[]⟩ : ByteArray), .string (⟨#[]⟩ : ByteArray), .int .i64 0, .int .i64 0, .int .i64 0, .int .i64 0]) (t := 26) ?hr ?_; (case hd => rfl); (case hg => rfl); (case hr => first | (go_simp; done) | (go_simp; rfl)); intro gb150 hg w8 hbox hb; have n0_ := Aside0.mk (Kd.R_below (Kd.R_elderB (by (with_reducible repeat (first | apply Kd.R_alloc | apply Kd.R_drewN | apply Kd.R_drew)); exact HO_5.out) gb150 (Nat.le_of_eq hg.symm)) hb); have n1_ := Aside0.mk (blk_below (g := gb145) (o := .cells #[.string a1_0, .string a1_1, .int .i64 a1_2, .int .i64 a1_3, .int .i64 a1_4, .int .i64 a1_5] 26 (0, 0)) (by (with_reducible repeat (first | refine blk_drewN ?_ _ | refine blk_drew ?_ | refine blk_alloc ?_ _)); exact BK145.out) hb); have n2_ := Aside0.mk (below_step (by repeat (first | (with_reducible first | exact HB.out | apply below_alloc | apply pw_below_drewN | apply below_drew1 | refine below_set ?_ GE145.out) | exact HB.out)) hb); have n3_ := Aside0.mk (hbox); have n4_ := Aside0.mk ((by rw [hg]; exact (below_size (by repeat (first | (with_reducible first | exact HB.out | apply below_alloc | apply pw_below_drewN | apply below_drew1 | refine below_set ?_ GE145.out) | exact HB.out))) : w.heap.size ≤ gb150)); have n5_ := Aside0.mk ((by rw [hg]; exact (below_size (by repeat (first | (with_reducible first | exact HB.out | apply below_alloc | apply pw_below_drewN | apply below_drew1 | refine below_set ?_ GE145.out) | exact HB.out))) : w.heap.size ≤ gb150)); have n6_ := Aside0.mk ((by rw [hg]; exact Nat.ne_of_lt (blk_lt (g := gb145) (o := .cells #[.string a1_0, .string a1_1, .int .i64 a1_2, .int .i64 a1_3, .int .i64 a1_4, .int .i64 a1_5] 26 (0, 0)) (by (with_reducible repeat (first | refine blk_drewN ?_ _ | refine blk_drew ?_ | refine blk_alloc ?_ _)); exact BK145.out)) : gb145 ≠ gb150)); have n7_ := Aside0.mk ((by rw [hg]; exact Nat.ne_of_gt (blk_lt (g := gb145) (o := .cells #[.string a1_0, .string a1_1, .int .i64 a1_2, .int .i64 a1_3, .int .i64 a1_4, .int .i64 a1_5] 26 (0, 0)) (by (with_reducible repeat (first | refine blk_drewN ?_ _ | refine blk_drew ?_ | refine blk_alloc ?_ _)); exact BK145.out)) : gb150 ≠ gb145)); clear HO_5; clear BK145; clear HB; have HO_5 := n0_; have BK145 := n1_; have HB := n2_; have BK150 := n3_; have GW150 := n4_; have GE150 := n5_; have NB145_150 := n6_; have NB150_145 := n7_; clear n0_ n1_ n2_ n3_ n4_ n5_ n6_ n7_; clear hb hbox hg; have hnb9 := NB150_145.out; have hnc9 := NB145_150.out; have hcz10_0 : w8.cell? ⟨gb150, 0, none⟩ = some (.string (⟨#[]⟩ : ByteArray)) := (blk_cell BK150.out 0).trans rfl; have hcz10_1 : w8.cell? ⟨gb150, 1, none⟩ = some (.string (⟨#[]⟩ : ByteArray)) := (blk_cell BK150.out 1).trans rfl; have hcz10_2 : w8.cell? ⟨gb150, 2, none⟩ = some (.int .i64 0) := (blk_cell BK150.out 2).trans rfl; have hcz10_3 : w8.cell? ⟨gb150, 3, none⟩ = some (.int .i64 0) := (blk_cell BK150.out 3).trans rfl; have hcz10_4 : w8.cell? ⟨gb150, 4, none⟩ = some (.int .i64 0) := (blk_cell BK150.out 4).trans rfl; have hcz10_5 : w8.cell? ⟨gb150, 5, none⟩ = some (.int .i64 0) := (blk_cell BK150.out 5).trans rfl; have hfz10_0 := blk_frozen BK150.out 0; have hfz10_1 := blk_frozen BK150.out 1; have hfz10_2 := blk_frozen BK150.out 2; have hfz10_3 := blk_frozen BK150.out 3; have hfz10_4 := blk_frozen BK150.out 4; have hfz10_5 := blk_frozen BK150.out 5))
      (try simp only [Act.put, List.setIfInBounds_toArray, List.set_cons_zero, List.set_cons_succ])
      go_cut [20] (fun v20 wc => ∃ (kq : Nat) (x20_6 : Bool), v20 = .bool x20_6 ∧ Aside0 (hist_Lay.j1 kq x5_1 x6_1 l0 (l0.length : Int) x11_1 x20_6 a1_0 a1_1 a1_2 a1_3 a1_4 a1_5 ((rd_T26 l0 x11_1).f0) ((rd_T26 l0 x11_1).f1) ((rd_T26 l0 x11_1).f2) ((rd_T26 l0 x11_1).f3) ((rd_T26 l0 x11_1).f4) ((rd_T26 l0 x11_1).f5) = some r) ∧ Aside0 (kq ≤ k1) ∧ Aside0 (Kd.R k26 26 wc w.heap.size (fun k_ => k_ ≠ gb145 ∧ k_ ≠ gb150) u5 x5_1) ∧ Aside0 (wc.heap[gb145]? = some (.cells #[.string a1_0, .string a1_1, .int .i64 a1_2, .int .i64 a1_3, .int .i64 a1_4, .int .i64 a1_5] 26 (0, 0))) ∧ Aside0 (wc.heap[gb150]? = some (.cells #[.string ((rd_T26 l0 x11_1).f0), .string ((rd_T26 l0 x11_1).f1), .int .i64 ((rd_T26 l0 x11_1).f2), .int .i64 ((rd_T26 l0 x11_1).f3), .int .i64 ((rd_T26 l0 x11_1).f4), .int .i64 ((rd_T26 l0 x11_1).f5)] 26 (0, 0))) ∧ Aside0 (Below w.heap.size w wc))
      case first =>
       have H := HC7.out
       clear HC7
       by_cases c11 : x6_1 = true
       ·subst c11
        have H1 := H
        rw [if_pos rfl] at H1
        clear H
        have H := H1
        clear H1
        have H' := Aside0.mk H
        clear H
        go_wp2_with (with_reducible first | refine wp_label ?_ | refine wp_scope_straight ?_)
        go_meet
        case rel => exact ⟨_, (true), (by first | rfl | (simp; done) | (simp [*]; done)), H', ⟨by have := HK1.out; first | omega | exact Nat.le_refl _⟩, ⟨by (with_reducible repeat (first | apply Kd.R_alloc | apply Kd.R_drewN | apply Kd.R_drew)); exact Kd.R_mono (Kd.R_far (p := ⟨gb150, 5, none⟩) (Kd.R_far (p := ⟨gb150, 4, none⟩) (Kd.R_far (p := ⟨gb150, 3, none⟩) (Kd.R_far (p := ⟨gb150, 2, none⟩) (Kd.R_far (p := ⟨gb150, 1, none⟩) (Kd.R_far (p := ⟨gb150, 0, none⟩) (Kd.R_mono HO_5.out (fun k_ hk => (⟨hk, hk.2⟩ : _ ∧ k_ ≠ gb150))) (fun _ hk => hk.2) (.string ((rd_T26 l0 x11_1).f0))) (fun _ hk => hk.2) (.string ((rd_T26 l0 x11_1).f1))) (fun _ hk => hk.2) (.int .i64 ((rd_T26 l0 x11_1).f2))) (fun _ hk => hk.2) (.int .i64 ((rd_T26 l0 x11_1).f3))) (fun _ hk => hk.2) (.int .i64 ((rd_T26 l0 x11_1).f4))) (fun _ hk => hk.2) (.int .i64 ((rd_T26 l0 x11_1).f5))) (fun _ hk => ⟨hk.1.1, hk.1.2⟩)⟩, ⟨by (with_reducible repeat (first | refine blk_drewN ?_ _ | refine blk_drew ?_ | refine blk_alloc ?_ _)); refine blk_far ?_ NB145_150.out _; (with_reducible repeat (first | refine blk_drewN ?_ _ | refine blk_drew ?_ | refine blk_alloc ?_ _)); refine blk_far ?_ NB145_150.out _; (with_reducible repeat (first | refine blk_drewN ?_ _ | refine blk_drew ?_ | refine blk_alloc ?_ _)); refine blk_far ?_ NB145_150.out _; (with_reducible repeat (first | refine blk_drewN ?_ _ | refine blk_drew ?_ | refine blk_alloc ?_ _)); refine blk_far ?_ NB145_150.out _; (with_reducible repeat (first | refine blk_drewN ?_ _ | refine blk_drew ?_ | refine blk_alloc ?_ _)); refine blk_far ?_ NB145_150.out _; (with_reducible repeat (first | refine blk_drewN ?_ _ | refine blk_drew ?_ | refine blk_alloc ?_ _)); refine blk_far ?_ NB145_150.out _; (with_reducible repeat (first | refine blk_drewN ?_ _ | refine blk_drew ?_ | refine blk_alloc ?_ _)); exact BK145.out⟩, ⟨by (with_reducible repeat (first | refine blk_drewN ?_ _ | refine blk_drew ?_ | refine blk_alloc ?_ _)); refine blk_put (cs := #[.string ((rd_T26 l0 x11_1).f0), .string ((rd_T26 l0 x11_1).f1), .int .i64 ((rd_T26 l0 x11_1).f2), .int .i64 ((rd_T26 l0 x11_1).f3), .int .i64 ((rd_T26 l0 x11_1).f4), .int .i64 0]) ?_ 5 _ rfl; (with_reducible repeat (first | refine blk_drewN ?_ _ | refine blk_drew ?_ | refine blk_alloc ?_ _)); refine blk_put (cs := #[.string ((rd_T26 l0 x11_1).f0), .string ((rd_T26 l0 x11_1).f1), .int .i64 ((rd_T26 l0 x11_1).f2), .int .i64 ((rd_T26 l0 x11_1).f3), .int .i64 0, .int .i64 0]) ?_ 4 _ rfl; (with_reducible repeat (first | refine blk_drewN ?_ _ | refine blk_drew ?_ | refine blk_alloc ?_ _)); refine blk_put (cs := #[.string ((rd_T26 l0 x11_1).f0), .string ((rd_T26 l0 x11_1).f1), .int .i64 ((rd_T26 l0 x11_1).f2), .int .i64 0, .int .i64 0, .int .i64 0]) ?_ 3 _ rfl; (with_reducible repeat (first | refine blk_drewN ?_ _ | refine blk_drew ?_ | refine blk_alloc ?_ _)); refine blk_put (cs := #[.string ((rd_T26 l0 x11_1).f0), .string ((rd_T26 l0 x11_1).f1), .int .i64 0, .int .i64 0, .int .i64 0, .int .i64 0]) ?_ 2 _ rfl; (with_reducible repeat (first | refine blk_drewN ?_ _ | refine blk_drew ?_ | refine blk_alloc ?_ _)); refine blk_put (cs := #[.string ((rd_T26 l0 x11_1).f0), .string (⟨#[]⟩ : ByteArray), .int .i64 0, .int .i64 0, .int .i64 0, .int .i64 0]) ?_ 1 _ rfl; (with_reducible repeat (first | refine blk_drewN ?_ _ | refine blk_drew ?_ | refine blk_alloc ?_ _)); refine blk_put (cs := #[.string (⟨#[]⟩ : ByteArray), .string (⟨#[]⟩ : ByteArray), .int .i64 0, .int .i64 0, .int .i64 0, .int .i64 0]) ?_ 0 _ rfl; (with_reducible repeat (first | refine blk_drewN ?_ _ | refine blk_drew ?_ | refine blk_alloc ?_ _)); exact BK150.out⟩, ⟨by repeat (first | (with_reducible first | exact HB.out | apply below_alloc | apply pw_below_drewN | apply below_drew1 | refine below_set ?_ GE145.out | refine below_set ?_ GE150.out) | exact HB.out)⟩⟩
       ·replace c11 := Bool.eq_false_iff.mpr c11
        subst c11
        have H1 := H
        rw [if_neg (show ¬ (false = true) by decide)] at H1
        clear H
        have H := H1
        clear H1
        have H' := Aside0.mk H
        clear H
        have hnb12 := NB150_145.out
        have hnc12 := NB145_150.out
        have hcz13_0 : w8.cell? ⟨gb150, 0, none⟩ = some (.string (⟨#[]⟩ : ByteArray)) := (blk_cell BK150.out 0).trans rfl
        have hcz13_1 : w8.cell? ⟨gb150, 1, none⟩ = some (.string (⟨#[]⟩ : ByteArray)) := (blk_cell BK150.out 1).trans rfl
        have hcz13_2 : w8.cell? ⟨gb150, 2, none⟩ = some (.int .i64 0) := (blk_cell BK150.out 2).trans rfl
        have hcz13_3 : w8.cell? ⟨gb150, 3, none⟩ = some (.int .i64 0) := (blk_cell BK150.out 3).trans rfl
        have hcz13_4 : w8.cell? ⟨gb150, 4, none⟩ = some (.int .i64 0) := (blk_cell BK150.out 4).trans rfl
        have hcz13_5 : w8.cell? ⟨gb150, 5, none⟩ = some (.int .i64 0) := (blk_cell BK150.out 5).trans rfl
        have hfz13_0 := blk_frozen BK150.out 0
        have hfz13_1 := blk_frozen BK150.out 1
        have hfz13_2 := blk_frozen BK150.out 2
        have hfz13_3 := blk_frozen BK150.out 3
        have hfz13_4 := blk_frozen BK150.out 4
        have hfz13_5 := blk_frozen BK150.out 5
        have hcz14_0 : w8.cell? ⟨gb145, 0, none⟩ = some (.string a1_0) := (blk_cell BK145.out 0).trans rfl
        have hcz14_1 : w8.cell? ⟨gb145, 1, none⟩ = some (.string a1_1) := (blk_cell BK145.out 1).trans rfl
        have hcz14_2 : w8.cell? ⟨gb145, 2, none⟩ = some (.int .i64 a1_2) := (blk_cell BK145.out 2).trans rfl
        have hcz14_3 : w8.cell? ⟨gb145, 3, none⟩ = some (.int .i64 a1_3) := (blk_cell BK145.out 3).trans rfl
        have hcz14_4 : w8.cell? ⟨gb145, 4, none⟩ = some (.int .i64 a1_4) := (blk_cell BK145.out 4).trans rfl
        have hcz14_5 : w8.cell? ⟨gb145, 5, none⟩ = some (.int .i64 a1_5) := (blk_cell BK145.out 5).trans rfl
        have hfz14_0 := blk_frozen BK145.out 0
        have hfz14_1 := blk_frozen BK145.out 1
        have hfz14_2 := blk_frozen BK145.out 2
        have hfz14_3 := blk_frozen BK145.out 3
        have hfz14_4 := blk_frozen BK145.out 4
        have hfz14_5 := blk_frozen BK145.out 5
        go_wp2_with (with_reducible first | refine wp_label ?_ | refine wp_scope_straight ?_)
        go_meet
        case rel => exact ⟨_, ((Op.bytesLess (((rd_T26 l0 x11_1).f0).toList) a1_0.toList)), (by first | rfl | (simp; done) | (simp [*]; done)), H', ⟨by have := HK1.out; first | omega | exact Nat.le_refl _⟩, ⟨by (with_reducible repeat (first | apply Kd.R_alloc | apply Kd.R_drewN | apply Kd.R_drew)); exact Kd.R_mono (Kd.R_far (p := ⟨gb150, 5, none⟩) (Kd.R_far (p := ⟨gb150, 4, none⟩) (Kd.R_far (p := ⟨gb150, 3, none⟩) (Kd.R_far (p := ⟨gb150, 2, none⟩) (Kd.R_far (p := ⟨gb150, 1, none⟩) (Kd.R_far (p := ⟨gb150, 0, none⟩) (Kd.R_mono HO_5.out (fun k_ hk => (⟨hk, hk.2⟩ : _ ∧ k_ ≠ gb150))) (fun _ hk => hk.2) (.string ((rd_T26 l0 x11_1).f0))) (fun _ hk => hk.2) (.string ((rd_T26 l0 x11_1).f1))) (fun _ hk => hk.2) (.int .i64 ((rd_T26 l0 x11_1).f2))) (fun _ hk => hk.2) (.int .i64 ((rd_T26 l0 x11_1).f3))) (fun _ hk => hk.2) (.int .i64 ((rd_T26 l0 x11_1).f4))) (fun _ hk => hk.2) (.int .i64 ((rd_T26 l0 x11_1).f5))) (fun _ hk => ⟨hk.1.1, hk.1.2⟩)⟩, ⟨by (with_reducible repeat (first | refine blk_drewN ?_ _ | refine blk_drew ?_ | refine blk_alloc ?_ _)); refine blk_far ?_ NB145_150.out _; (with_reducible repeat (first | refine blk_drewN ?_ _ | refine blk_drew ?_ | refine blk_alloc ?_ _)); refine blk_far ?_ NB145_150.out _; (with_reducible repeat (first | refine blk_drewN ?_ _ | refine blk_drew ?_ | refine blk_alloc ?_ _)); refine blk_far ?_ NB145_150.out _; (with_reducible repeat (first | refine blk_drewN ?_ _ | refine blk_drew ?_ | refine blk_alloc ?_ _)); refine blk_far ?_ NB145_150.out _; (with_reducible repeat (first | refine blk_drewN ?_ _ | refine blk_drew ?_ | refine blk_alloc ?_ _)); refine blk_far ?_ NB145_150.out _; (with_reducible repeat (first | refine blk_drewN ?_ _ | refine blk_drew ?_ | refine blk_alloc ?_ _)); refine blk_far ?_ NB145_150.out _; (with_reducible repeat (first | refine blk_drewN ?_ _ | refine blk_drew ?_ | refine blk_alloc ?_ _)); exact BK145.out⟩, ⟨by (with_reducible repeat (first | refine blk_drewN ?_ _ | refine blk_drew ?_ | refine blk_alloc ?_ _)); refine blk_put (cs := #[.string ((rd_T26 l0 x11_1).f0), .string ((rd_T26 l0 x11_1).f1), .int .i64 ((rd_T26 l0 x11_1).f2), .int .i64 ((rd_T26 l0 x11_1).f3), .int .i64 ((rd_T26 l0 x11_1).f4), .int .i64 0]) ?_ 5 _ rfl; (with_reducible repeat (first | refine blk_drewN ?_ _ | refine blk_drew ?_ | refine blk_alloc ?_ _)); refine blk_put (cs := #[.string ((rd_T26 l0 x11_1).f0), .string ((rd_T26 l0 x11_1).f1), .int .i64 ((rd_T26 l0 x11_1).f2), .int .i64 ((rd_T26 l0 x11_1).f3), .int .i64 0, .int .i64 0]) ?_ 4 _ rfl; (with_reducible repeat (first | refine blk_drewN ?_ _ | refine blk_drew ?_ | refine blk_alloc ?_ _)); refine blk_put (cs := #[.string ((rd_T26 l0 x11_1).f0), .string ((rd_T26 l0 x11_1).f1), .int .i64 ((rd_T26 l0 x11_1).f2), .int .i64 0, .int .i64 0, .int .i64 0]) ?_ 3 _ rfl; (with_reducible repeat (first | refine blk_drewN ?_ _ | refine blk_drew ?_ | refine blk_alloc ?_ _)); refine blk_put (cs := #[.string ((rd_T26 l0 x11_1).f0), .string ((rd_T26 l0 x11_1).f1), .int .i64 0, .int .i64 0, .int .i64 0, .int .i64 0]) ?_ 2 _ rfl; (with_reducible repeat (first | refine blk_drewN ?_ _ | refine blk_drew ?_ | refine blk_alloc ?_ _)); refine blk_put (cs := #[.string ((rd_T26 l0 x11_1).f0), .string (⟨#[]⟩ : ByteArray), .int .i64 0, .int .i64 0, .int .i64 0, .int .i64 0]) ?_ 1 _ rfl; (with_reducible repeat (first | refine blk_drewN ?_ _ | refine blk_drew ?_ | refine blk_alloc ?_ _)); refine blk_put (cs := #[.string (⟨#[]⟩ : ByteArray), .string (⟨#[]⟩ : ByteArray), .int .i64 0, .int .i64 0, .int .i64 0, .int .i64 0]) ?_ 0 _ rfl; (with_reducible repeat (first | refine blk_drewN ?_ _ | refine blk_drew ?_ | refine blk_alloc ?_ _)); exact BK150.out⟩, ⟨by repeat (first | (with_reducible first | exact HB.out | apply below_alloc | apply pw_below_drewN | apply below_drew1 | refine below_set ?_ GE145.out | refine below_set ?_ GE150.out) | exact HB.out)⟩⟩
      case rest =>
       clear HC7
       try clear c1
       try clear p1
       try clear q1
       try clear hx1
       try clear c2
       try clear p2
       try clear c4
       try clear c4b0
       try clear c5
       try clear c5b0
       try clear c6
       try clear c6b0
       try clear c9
       try clear c11
       try clear c12
       try clear p14
       try clear q14
       try clear hx14
       try clear hcz10_0
       try clear hcz10_1
       try clear hcz10_2
       try clear hcz10_3
       try clear hcz10_4
       try clear hcz10_5
       try clear hcz13_0
       try clear hcz13_1
       try clear hcz13_2
       try clear hcz13_3
       try clear hcz13_4
       try clear hcz13_5
       try clear hcz14_0
       try clear hcz14_1
       try clear hcz14_2
       try clear hcz14_3
       try clear hcz14_4
       try clear hcz14_5
       try clear hfz10_0
       try clear hfz10_1
       try clear hfz10_2
       try clear hfz10_3
       try clear hfz10_4
       try clear hfz10_5
       try clear hfz13_0
       try clear hfz13_1
       try clear hfz13_2
       try clear hfz13_3
       try clear hfz13_4
       try clear hfz13_5
       try clear hfz14_0
       try clear hfz14_1
       try clear hfz14_2
       try clear hfz14_3
       try clear hfz14_4
       try clear hfz14_5
       try clear hx149_0
       try clear hx149_1
       try clear hx149_2
       try clear hx149_3
       try clear hx149_4
       try clear hx149_5
       try clear p149
       try clear p2
       try clear q149
       obtain ⟨kq, x20_6, rfl, HA, HJ6, HO_5, BK145, BK150, HB⟩ := hcut
       cases kq with
       | zero => exact absurd HA.out (by simp [hist_Lay.j1])
       | succ kj6 =>
        have H := HA.out
        clear HA
        simp only [hist_Lay.j1] at H
        by_cases c15 : x20_6 = true
        ·subst c15
         have H1 := H
         rw [if_pos rfl] at H1
         clear H
         have H := H1
         clear H1
         by_cases c16 : x5_1.length < 2199023255552
         ·rw [if_pos c16] at H
          have LMc16 := Aside0.mk c16
          clear c16
          obtain ⟨y151, hy151⟩ : ∃ y_ : List (S26), y_ = (x5_1 ++ [(⟨((rd_T26 l0 x11_1).f0), ((rd_T26 l0 x11_1).f1), ((rd_T26 l0 x11_1).f2), ((rd_T26 l0 x11_1).f3), ((rd_T26 l0 x11_1).f4), ((rd_T26 l0 x11_1).f5)⟩ : S26)]) := ⟨_, rfl⟩
          replace H : (hist_Lay.l0 kj6 y151 x6_1 l0 (l0.length : Int) (wrap64 (x11_1 + 1)) a1_0 a1_1 a1_2 a1_3 a1_4 a1_5) = some r := by first | (rw [hy151]; with_reducible exact H) | (have H2_ := (Option.bind_some _ _).symm.trans H; rw [hy151]; with_reducible exact H2_) | (have H2_ := (Option.bind_some _ _).symm.trans H; with_reducible exact H2_) | with_reducible exact H | (rw [hy151]; exact H) | exact H
          have Ny151 := Aside0.mk hy151
          clear hy151
          have H' := Aside0.mk H
          clear H
          have hnb17 := NB150_145.out
          have hnc17 := NB145_150.out
          have hcz18_0 : wc.cell? ⟨gb150, 0, none⟩ = some (.string ((rd_T26 l0 x11_1).f0)) := (blk_cell BK150.out 0).trans rfl
          have hcz18_1 : wc.cell? ⟨gb150, 1, none⟩ = some (.string ((rd_T26 l0 x11_1).f1)) := (blk_cell BK150.out 1).trans rfl
          have hcz18_2 : wc.cell? ⟨gb150, 2, none⟩ = some (.int .i64 ((rd_T26 l0 x11_1).f2)) := (blk_cell BK150.out 2).trans rfl
          have hcz18_3 : wc.cell? ⟨gb150, 3, none⟩ = some (.int .i64 ((rd_T26 l0 x11_1).f3)) := (blk_cell BK150.out 3).trans rfl
          have hcz18_4 : wc.cell? ⟨gb150, 4, none⟩ = some (.int .i64 ((rd_T26 l0 x11_1).f4)) := (blk_cell BK150.out 4).trans rfl
          have hcz18_5 : wc.cell? ⟨gb150, 5, none⟩ = some (.int .i64 ((rd_T26 l0 x11_1).f5)) := (blk_cell BK150.out 5).trans rfl
          have hfz18_0 := blk_frozen BK150.out 0
          have hfz18_1 := blk_frozen BK150.out 1
          have hfz18_2 := blk_frozen BK150.out 2
          have hfz18_3 := blk_frozen BK150.out 3
          have hfz18_4 := blk_frozen BK150.out 4
          have hfz18_5 := blk_frozen BK150.out 5
          go_wp2_with (first | (with_reducible first | refine wp_label ?_ | refine wp_scope_straight ?_) | ((with_reducible refine gate_builtin (b := .append) (xs := #[.tmp 29, .tmp 31]) rfl ?_); at_builtin; refine Kd.R_append k26 (w0 := w) w.heap.size rfl (.tmp 29) (.tmp 31) 22 26 (.agg #[(.string ⟨#[]⟩), (.string ⟨#[]⟩), (.int .i64 0), (.int .i64 0), (.int .i64 0), (.int .i64 0)]) 64 rfl Try.underlying22 info26 rfl (by decide) (by omega) u5 x5_1 (⟨((rd_T26 l0 x11_1).f0), ((rd_T26 l0 x11_1).f1), ((rd_T26 l0 x11_1).f2), ((rd_T26 l0 x11_1).f3), ((rd_T26 l0 x11_1).f4), ((rd_T26 l0 x11_1).f5)⟩ : S26) [.string ((rd_T26 l0 x11_1).f0), .string ((rd_T26 l0 x11_1).f1), .int .i64 ((rd_T26 l0 x11_1).f2), .int .i64 ((rd_T26 l0 x11_1).f3), .int .i64 ((rd_T26 l0 x11_1).f4), .int .i64 ((rd_T26 l0 x11_1).f5)] (fun k_ => k_ ≠ gb145 ∧ k_ ≠ gb150) (fun _ => False) rfl rfl ?aP (fun _ hk => hk.elim) ?aF ?aO ?aB ?aS ?aL ?_; (case aP => exact k26_mkM _ _ _ (⟨((rd_T26 l0 x11_1).f0), ((rd_T26 l0 x11_1).f1), ((rd_T26 l0 x11_1).f2), ((rd_T26 l0 x11_1).f3), ((rd_T26 l0 x11_1).f4), ((rd_T26 l0 x11_1).f5)⟩ : S26)); (case aB => exact (by repeat (first | (with_reducible first | exact HB.out | apply below_alloc | apply pw_below_drewN | apply below_drew1 | refine below_set ?_ GE145.out | refine below_set ?_ GE150.out) | exact HB.out))); (case aF => exact (fun k_ hk => ⟨Kd.freshB (g := gb145) (o := .cells #[.string a1_0, .string a1_1, .int .i64 a1_2, .int .i64 a1_3, .int .i64 a1_4, .int .i64 a1_5] 26 (0, 0)) (by (with_reducible repeat (first | refine blk_drewN ?_ _ | refine blk_drew ?_ | refine blk_alloc ?_ _)); exact BK145.out) k_ hk, Kd.freshB (g := gb150) (o := .cells #[.string ((rd_T26 l0 x11_1).f0), .string ((rd_T26 l0 x11_1).f1), .int .i64 ((rd_T26 l0 x11_1).f2), .int .i64 ((rd_T26 l0 x11_1).f3), .int .i64 ((rd_T26 l0 x11_1).f4), .int .i64 ((rd_T26 l0 x11_1).f5)] 26 (0, 0)) (by (with_reducible repeat (first | refine blk_drewN ?_ _ | refine blk_drew ?_ | refine blk_alloc ?_ _)); exact BK150.out) k_ hk⟩)); (case aO => exact (by (with_reducible repeat (first | apply Kd.R_alloc | apply Kd.R_drewN | apply Kd.R_drew)); exact HO_5.out)); (case aS => exact (below_size (by repeat (first | (with_reducible first | exact HB.out | apply below_alloc | apply pw_below_drewN | apply below_drew1 | refine below_set ?_ GE145.out | refine below_set ?_ GE150.out) | exact HB.out)))); (case aL => have := LMc16.out; omega); intro v152 w19 ho hb hg hat; rw [← Ny151.out] at ho; have n0_ := Aside0.mk (blk_grown (g := gb145) (o := .cells #[.string a1_0, .string a1_1, .int .i64 a1_2, .int .i64 a1_3, .int .i64 a1_4, .int .i64 a1_5] 26 (0, 0)) (by (with_reducible repeat (first | refine blk_drewN ?_ _ | refine blk_drew ?_ | refine blk_alloc ?_ _)); exact BK145.out) hg (Kd.R_away HO_5.out (fun _ hk => hk.1))); have n1_ := Aside0.mk (blk_grown (g := gb150) (o := .cells #[.string ((rd_T26 l0 x11_1).f0), .string ((rd_T26 l0 x11_1).f1), .int .i64 ((rd_T26 l0 x11_1).f2), .int .i64 ((rd_T26 l0 x11_1).f3), .int .i64 ((rd_T26 l0 x11_1).f4), .int .i64 ((rd_T26 l0 x11_1).f5)] 26 (0, 0)) (by (with_reducible repeat (first | refine blk_drewN ?_ _ | refine blk_drew ?_ | refine blk_alloc ?_ _)); exact BK150.out) hg (Kd.R_away HO_5.out (fun _ hk => hk.2))); have n2_ := Aside0.mk (hb); have n3_ := Aside0.mk (ho); clear BK145; clear BK150; clear HB; clear HO_5; have BK145 := n0_; have BK150 := n1_; have HB := n2_; have HO153 := n3_; clear n0_ n1_ n2_ n3_; clear ho hb hg hat))
          go_roundg kj6
          case measure => have := HK1.out; have := HJ6.out; omega
          case rel => exact ⟨(y151), (x6_1), (wrap64 (x11_1 + 1)), (by first | rfl | (simp; done) | (simp [*]; done)), (by first | rfl | (simp; done) | (simp [*]; done)), H', ⟨by have := HK1.out; have := HJ6.out; omega⟩, ⟨by (with_reducible repeat (first | apply Kd.R_alloc | apply Kd.R_drewN | apply Kd.R_drew)); exact Kd.R_mono HO153.out (fun _ hk => hk.1)⟩, ⟨by (with_reducible repeat (first | refine blk_drewN ?_ _ | refine blk_drew ?_ | refine blk_alloc ?_ _)); exact BK145.out⟩, ⟨by repeat (first | (with_reducible first | exact HB.out | apply below_alloc | apply pw_below_drewN | apply below_drew1 | refine below_set ?_ GE145.out | refine below_set ?_ GE150.out) | exact HB.out)⟩⟩
         ·rw [if_neg c16] at H
          exact absurd H (by simp)
        ·replace c15 := Bool.eq_false_iff.mpr c15
         subst c15
         have H1 := H
         rw [if_neg (show ¬ (false = true) by decide)] at H1
         clear H
         have H := H1
         clear H1
         by_cases c20 : ((rd_T26 l0 x11_1).f0).toList = a1_0.toList
         ·rw [if_pos c20] at H
          have c20b0 : (((rd_T26 l0 x11_1).f0).toList == a1_0.toList) = true := beq_iff_eq.mpr c20
          have c20b1 : (((rd_T26 l0 x11_1).f0).toList != a1_0.toList) = false := bne_eq_false_iff_eq.mpr c20
          clear c20
          by_cases c21 : x5_1.length < 2199023255552
          ·rw [if_pos c21] at H
           have LMc21 := Aside0.mk c21
           clear c21
           obtain ⟨y154, hy154⟩ : ∃ y_ : List (S26), y_ = (x5_1 ++ [(⟨a1_0, a1_1, a1_2, a1_3, a1_4, a1_5⟩ : S26)]) := ⟨_, rfl⟩
           replace H : (hist_Lay.l0 kj6 y154 true l0 (l0.length : Int) (wrap64 (x11_1 + 1)) a1_0 a1_1 a1_2 a1_3 a1_4 a1_5) = some r := by first | (rw [hy154]; with_reducible exact H) | (have H2_ := (Option.bind_some _ _).symm.trans H; rw [hy154]; with_reducible exact H2_) | (have H2_ := (Option.bind_some _ _).symm.trans H; with_reducible exact H2_) | with_reducible exact H | (rw [hy154]; exact H) | exact H
           have Ny154 := Aside0.mk hy154
           clear hy154
           have H' := Aside0.mk H
           clear H
           have hnb22 := NB150_145.out
           have hnc22 := NB145_150.out
           have hcz23_0 : wc.cell? ⟨gb150, 0, none⟩ = some (.string ((rd_T26 l0 x11_1).f0)) := (blk_cell BK150.out 0).trans rfl
           have hcz23_1 : wc.cell? ⟨gb150, 1, none⟩ = some (.string ((rd_T26 l0 x11_1).f1)) := (blk_cell BK150.out 1).trans rfl
           have hcz23_2 : wc.cell? ⟨gb150, 2, none⟩ = some (.int .i64 ((rd_T26 l0 x11_1).f2)) := (blk_cell BK150.out 2).trans rfl
           have hcz23_3 : wc.cell? ⟨gb150, 3, none⟩ = some (.int .i64 ((rd_T26 l0 x11_1).f3)) := (blk_cell BK150.out 3).trans rfl
           have hcz23_4 : wc.cell? ⟨gb150, 4, none⟩ = some (.int .i64 ((rd_T26 l0 x11_1).f4)) := (blk_cell BK150.out 4).trans rfl
           have hcz23_5 : wc.cell? ⟨gb150, 5, none⟩ = some (.int .i64 ((rd_T26 l0 x11_1).f5)) := (blk_cell BK150.out 5).trans rfl
           have hfz23_0 := blk_frozen BK150.out 0
           have hfz23_1 := blk_frozen BK150.out 1
           have hfz23_2 := blk_frozen BK150.out 2
           have hfz23_3 := blk_frozen BK150.out 3
           have hfz23_4 := blk_frozen BK150.out 4
           have hfz23_5 := blk_frozen BK150.out 5
           have hcz24_0 : wc.cell? ⟨gb145, 0, none⟩ = some (.string a1_0) := (blk_cell BK145.out 0).trans rfl
           have hcz24_1 : wc.cell? ⟨gb145, 1, none⟩ = some (.string a1_1) := (blk_cell BK145.out 1).trans rfl
           have hcz24_2 : wc.cell? ⟨gb145, 2, none⟩ = some (.int .i64 a1_2) := (blk_cell BK145.out 2).trans rfl
           have hcz24_3 : wc.cell? ⟨gb145, 3, none⟩ = some (.int .i64 a1_3) := (blk_cell BK145.out 3).trans rfl
           have hcz24_4 : wc.cell? ⟨gb145, 4, none⟩ = some (.int .i64 a1_4) := (blk_cell BK145.out 4).trans rfl
           have hcz24_5 : wc.cell? ⟨gb145, 5, none⟩ = some (.int .i64 a1_5) := (blk_cell BK145.out 5).trans rfl
           have hfz24_0 := blk_frozen BK145.out 0
           have hfz24_1 := blk_frozen BK145.out 1
           have hfz24_2 := blk_frozen BK145.out 2
           have hfz24_3 := blk_frozen BK145.out 3
           have hfz24_4 := blk_frozen BK145.out 4
           have hfz24_5 := blk_frozen BK145.out 5
           go_wp2_with (first | (with_reducible first | refine wp_label ?_ | refine wp_scope_straight ?_) | ((with_reducible refine gate_builtin (b := .append) (xs := #[.tmp 39, .tmp 41]) rfl ?_); at_builtin; refine Kd.R_append k26 (w0 := w) w.heap.size rfl (.tmp 39) (.tmp 41) 22 26 (.agg #[(.string ⟨#[]⟩), (.string ⟨#[]⟩), (.int .i64 0), (.int .i64 0), (.int .i64 0), (.int .i64 0)]) 64 rfl Try.underlying22 info26 rfl (by decide) (by omega) u5 x5_1 (⟨a1_0, a1_1, a1_2, a1_3, a1_4, a1_5⟩ : S26) [.string a1_0, .string a1_1, .int .i64 a1_2, .int .i64 a1_3, .int .i64 a1_4, .int .i64 a1_5] (fun k_ => k_ ≠ gb145 ∧ k_ ≠ gb150) (fun _ => False) rfl rfl ?aP (fun _ hk => hk.elim) ?aF ?aO ?aB ?aS ?aL ?_; (case aP => exact k26_mkM _ _ _ (⟨a1_0, a1_1, a1_2, a1_3, a1_4, a1_5⟩ : S26)); (case aB => exact (by repeat (first | (with_reducible first | exact HB.out | apply below_alloc | apply pw_below_drewN | apply below_drew1 | refine below_set ?_ GE145.out | refine below_set ?_ GE150.out) | exact HB.out))); (case aF => exact (fun k_ hk => ⟨Kd.freshB (g := gb145) (o := .cells #[.string a1_0, .string a1_1, .int .i64 a1_2, .int .i64 a1_3, .int .i64 a1_4, .int .i64 a1_5] 26 (0, 0)) (by (with_reducible repeat (first | refine blk_drewN ?_ _ | refine blk_drew ?_ | refine blk_alloc ?_ _)); exact BK145.out) k_ hk, Kd.freshB (g := gb150) (o := .cells #[.string ((rd_T26 l0 x11_1).f0), .string ((rd_T26 l0 x11_1).f1), .int .i64 ((rd_T26 l0 x11_1).f2), .int .i64 ((rd_T26 l0 x11_1).f3), .int .i64 ((rd_T26 l0 x11_1).f4), .int .i64 ((rd_T26 l0 x11_1).f5)] 26 (0, 0)) (by (with_reducible repeat (first | refine blk_drewN ?_ _ | refine blk_drew ?_ | refine blk_alloc ?_ _)); exact BK150.out) k_ hk⟩)); (case aO => exact (by (with_reducible repeat (first | apply Kd.R_alloc | apply Kd.R_drewN | apply Kd.R_drew)); exact HO_5.out)); (case aS => exact (below_size (by repeat (first | (with_reducible first | exact HB.out | apply below_alloc | apply pw_below_drewN | apply below_drew1 | refine below_set ?_ GE145.out | refine below_set ?_ GE150.out) | exact HB.out)))); (case aL => have := LMc21.out; omega); intro v155 w25 ho hb hg hat; rw [← Ny154.out] at ho; have n0_ := Aside0.mk (blk_grown (g := gb145) (o := .cells #[.string a1_0, .string a1_1, .int .i64 a1_2, .int .i64 a1_3, .int .i64 a1_4, .int .i64 a1_5] 26 (0, 0)) (by (with_reducible repeat (first | refine blk_drewN ?_ _ | refine blk_drew ?_ | refine blk_alloc ?_ _)); exact BK145.out) hg (Kd.R_away HO_5.out (fun _ hk => hk.1))); have n1_ := Aside0.mk (blk_grown (g := gb150) (o := .cells #[.string ((rd_T26 l0 x11_1).f0), .string ((rd_T26 l0 x11_1).f1), .int .i64 ((rd_T26 l0 x11_1).f2), .int .i64 ((rd_T26 l0 x11_1).f3), .int .i64 ((rd_T26 l0 x11_1).f4), .int .i64 ((rd_T26 l0 x11_1).f5)] 26 (0, 0)) (by (with_reducible repeat (first | refine blk_drewN ?_ _ | refine blk_drew ?_ | refine blk_alloc ?_ _)); exact BK150.out) hg (Kd.R_away HO_5.out (fun _ hk => hk.2))); have n2_ := Aside0.mk (hb); have n3_ := Aside0.mk (ho); clear BK145; clear BK150; clear HB; clear HO_5; have BK145 := n0_; have BK150 := n1_; have HB := n2_; have HO156 := n3_; clear n0_ n1_ n2_ n3_; clear ho hb hg hat))
           go_roundg kj6
           case measure => have := HK1.out; have := HJ6.out; omega
           case rel => exact ⟨(y154), (true), (wrap64 (x11_1 + 1)), (by first | rfl | (simp; done) | (simp [*]; done)), (by first | rfl | (simp; done) | (simp [*]; done)), H', ⟨by have := HK1.out; have := HJ6.out; omega⟩, ⟨by (with_reducible repeat (first | apply Kd.R_alloc | apply Kd.R_drewN | apply Kd.R_drew)); exact Kd.R_mono HO156.out (fun _ hk => hk.1)⟩, ⟨by (with_reducible repeat (first | refine blk_drewN ?_ _ | refine blk_drew ?_ | refine blk_alloc ?_ _)); exact BK145.out⟩, ⟨by repeat (first | (with_reducible first | exact HB.out | apply below_alloc | apply pw_below_drewN | apply below_drew1 | refine below_set ?_ GE145.out | refine below_set ?_ GE150.out) | exact HB.out)⟩⟩
          ·rw [if_neg c21] at H
           exact absurd H (by simp)
         ·rw [if_neg c20] at H
          have c20b0 : (((rd_T26 l0 x11_1).f0).toList == a1_0.toList) = false := beq_eq_false_iff_ne.mpr c20
          have c20b1 : (((rd_T26 l0 x11_1).f0).toList != a1_0.toList) = true := bne_iff_ne.mpr c20
          obtain ⟨y157, hy157⟩ : ∃ y_ : List (S26), y_ = (([(⟨a1_0, a1_1, a1_2, a1_3, a1_4, a1_5⟩ : S26), (⟨((rd_T26 l0 x11_1).f0), ((rd_T26 l0 x11_1).f1), ((rd_T26 l0 x11_1).f2), ((rd_T26 l0 x11_1).f3), ((rd_T26 l0 x11_1).f4), ((rd_T26 l0 x11_1).f5)⟩ : S26)] : List (S26))) := ⟨_, rfl⟩
          replace H : (if x5_1.length + y157.length < 2199023255552 then (hist_Lay.l0 kj6 (x5_1 ++ y157) true l0 (l0.length : Int) (wrap64 (x11_1 + 1)) a1_0 a1_1 a1_2 a1_3 a1_4 a1_5) else (none)) = some r := by first | (rw [hy157]; with_reducible exact H) | (have H2_ := (Option.bind_some _ _).symm.trans H; rw [hy157]; with_reducible exact H2_) | (have H2_ := (Option.bind_some _ _).symm.trans H; with_reducible exact H2_) | with_reducible exact H | (rw [hy157]; exact H) | exact H
          have Ny157 := Aside0.mk hy157
          clear hy157
          by_cases c26 : x5_1.length + y157.length < 2199023255552
          ·rw [if_pos c26] at H
           have LMc26 := Aside0.mk c26
           clear c26
           obtain ⟨y160, hy160⟩ : ∃ y_ : List (S26), y_ = (x5_1 ++ y157) := ⟨_, rfl⟩
           replace H : (hist_Lay.l0 kj6 y160 true l0 (l0.length : Int) (wrap64 (x11_1 + 1)) a1_0 a1_1 a1_2 a1_3 a1_4 a1_5) = some r := by first | (rw [hy160]; with_reducible exact H) | (have H2_ := (Option.bind_some _ _).symm.trans H; rw [hy160]; with_reducible exact H2_) | (have H2_ := (Option.bind_some _ _).symm.trans H; with_reducible exact H2_) | with_reducible exact H | (rw [hy160]; exact H) | exact H
           have Ny160 := Aside0.mk hy160
           clear hy160
           have H' := Aside0.mk H
           clear H
           have hnb27 := NB150_145.out
           have hnc27 := NB145_150.out
           have hcz28_0 : wc.cell? ⟨gb150, 0, none⟩ = some (.string ((rd_T26 l0 x11_1).f0)) := (blk_cell BK150.out 0).trans rfl
           have hcz28_1 : wc.cell? ⟨gb150, 1, none⟩ = some (.string ((rd_T26 l0 x11_1).f1)) := (blk_cell BK150.out 1).trans rfl
           have hcz28_2 : wc.cell? ⟨gb150, 2, none⟩ = some (.int .i64 ((rd_T26 l0 x11_1).f2)) := (blk_cell BK150.out 2).trans rfl
           have hcz28_3 : wc.cell? ⟨gb150, 3, none⟩ = some (.int .i64 ((rd_T26 l0 x11_1).f3)) := (blk_cell BK150.out 3).trans rfl
           have hcz28_4 : wc.cell? ⟨gb150, 4, none⟩ = some (.int .i64 ((rd_T26 l0 x11_1).f4)) := (blk_cell BK150.out 4).trans rfl
           have hcz28_5 : wc.cell? ⟨gb150, 5, none⟩ = some (.int .i64 ((rd_T26 l0 x11_1).f5)) := (blk_cell BK150.out 5).trans rfl
           have hfz28_0 := blk_frozen BK150.out 0
           have hfz28_1 := blk_frozen BK150.out 1
           have hfz28_2 := blk_frozen BK150.out 2
           have hfz28_3 := blk_frozen BK150.out 3
           have hfz28_4 := blk_frozen BK150.out 4
           have hfz28_5 := blk_frozen BK150.out 5
           have hcz29_0 : wc.cell? ⟨gb145, 0, none⟩ = some (.string a1_0) := (blk_cell BK145.out 0).trans rfl
           have hcz29_1 : wc.cell? ⟨gb145, 1, none⟩ = some (.string a1_1) := (blk_cell BK145.out 1).trans rfl
           have hcz29_2 : wc.cell? ⟨gb145, 2, none⟩ = some (.int .i64 a1_2) := (blk_cell BK145.out 2).trans rfl
           have hcz29_3 : wc.cell? ⟨gb145, 3, none⟩ = some (.int .i64 a1_3) := (blk_cell BK145.out 3).trans rfl
           have hcz29_4 : wc.cell? ⟨gb145, 4, none⟩ = some (.int .i64 a1_4) := (blk_cell BK145.out 4).trans rfl
           have hcz29_5 : wc.cell? ⟨gb145, 5, none⟩ = some (.int .i64 a1_5) := (blk_cell BK145.out 5).trans rfl
           have hfz29_0 := blk_frozen BK145.out 0
           have hfz29_1 := blk_frozen BK145.out 1
           have hfz29_2 := blk_frozen BK145.out 2
           have hfz29_3 := blk_frozen BK145.out 3
           have hfz29_4 := blk_frozen BK145.out 4
           have hfz29_5 := blk_frozen BK145.out 5
           go_wp2_with (first | (with_reducible first | refine wp_label ?_ | refine wp_scope_straight ?_) | ((with_reducible refine gate_dst (N := 18) rfl ?_); refine Kd.R_lit k26 _ 26 ?hg (N := 18) ?hd (xs := ([(⟨a1_0, a1_1, a1_2, a1_3, a1_4, a1_5⟩ : S26), (⟨((rd_T26 l0 x11_1).f0), ((rd_T26 l0 x11_1).f1), ((rd_T26 l0 x11_1).f2), ((rd_T26 l0 x11_1).f3), ((rd_T26 l0 x11_1).f4), ((rd_T26 l0 x11_1).f5)⟩ : S26)] : List (S26))) (inner := [.string a1_0, .string a1_1, .int .i64 a1_2, .int .i64 a1_3, .int .i64 a1_4, .int .i64 a1_5, .string ((rd_T26 l0 x11_1).f0), .string ((rd_T26 l0 x11_1).f1), .int .i64 ((rd_T26 l0 x11_1).f2), .int .i64 ((rd_T26 l0 x11_1).f3), .int .i64 ((rd_T26 l0 x11_1).f4), .int .i64 ((rd_T26 l0 x11_1).f5)]) (ok := fun _ => True) (okp := fun _ => True) ?hr ?hp (fun _ hk => hk) trivial (Below.refl _ _) (Nat.le_refl _) (by simp) ?_; (case hd => rfl); (case hg => rfl); (case hr => first | (go_simp; done) | (go_simp; rfl)); (case hp => exact (Reps.c6 (show Kd.M k26 _ _ _ (⟨a1_0, a1_1, a1_2, a1_3, a1_4, a1_5⟩ : S26) [.string a1_0, .string a1_1, .int .i64 a1_2, .int .i64 a1_3, .int .i64 a1_4, .int .i64 a1_5] from (k26_mkM _ _ _ (⟨a1_0, a1_1, a1_2, a1_3, a1_4, a1_5⟩ : S26) )) (Reps.c6 (show Kd.M k26 _ _ _ (⟨((rd_T26 l0 x11_1).f0), ((rd_T26 l0 x11_1).f1), ((rd_T26 l0 x11_1).f2), ((rd_T26 l0 x11_1).f3), ((rd_T26 l0 x11_1).f4), ((rd_T26 l0 x11_1).f5)⟩ : S26) [.string ((rd_T26 l0 x11_1).f0), .string ((rd_T26 l0 x11_1).f1), .int .i64 ((rd_T26 l0 x11_1).f2), .int .i64 ((rd_T26 l0 x11_1).f3), .int .i64 ((rd_T26 l0 x11_1).f4), .int .i64 ((rd_T26 l0 x11_1).f5)] from (k26_mkM _ _ _ (⟨((rd_T26 l0 x11_1).f0), ((rd_T26 l0 x11_1).f1), ((rd_T26 l0 x11_1).f2), ((rd_T26 l0 x11_1).f3), ((rd_T26 l0 x11_1).f4), ((rd_T26 l0 x11_1).f5)⟩ : S26) )) (Reps.none _ _)))); intro v158 w30 ho31 hb hg_ hnew_; clear hg_ hnew_; (first | rw [← Ny157.out] at ho31 | (simp only [Int.reduceToNat] at ho31; rw [← Ny157.out] at ho31)); have n0_ := Aside0.mk (Kd.R_elder' (by (with_reducible repeat (first | apply Kd.R_alloc | apply Kd.R_drewN | apply Kd.R_drew)); exact HO_5.out) (Kd.R_base ho31) hb); have n1_ := Aside0.mk (Kd.R_lower (Kd.R_newB (Kd.R_newB (Kd.R_new' ho31 (Kd.R_lt (by (with_reducible repeat (first | apply Kd.R_alloc | apply Kd.R_drewN | apply Kd.R_drew)); exact HO_5.out))) (g := gb145) (o := .cells #[.string a1_0, .string a1_1, .int .i64 a1_2, .int .i64 a1_3, .int .i64 a1_4, .int .i64 a1_5] 26 (0, 0)) (by (with_reducible repeat (first | refine blk_drewN ?_ _ | refine blk_drew ?_ | refine blk_alloc ?_ _)); exact BK145.out)) (g := gb150) (o := .cells #[.string ((rd_T26 l0 x11_1).f0), .string ((rd_T26 l0 x11_1).f1), .int .i64 ((rd_T26 l0 x11_1).f2), .int .i64 ((rd_T26 l0 x11_1).f3), .int .i64 ((rd_T26 l0 x11_1).f4), .int .i64 ((rd_T26 l0 x11_1).f5)] 26 (0, 0)) (by (with_reducible repeat (first | refine blk_drewN ?_ _ | refine blk_drew ?_ | refine blk_alloc ?_ _)); exact BK150.out)) (below_size (by repeat (first | (with_reducible first | exact HB.out | apply below_alloc | apply pw_below_drewN | apply below_drew1 | refine below_set ?_ GE145.out | refine below_set ?_ GE150.out) | exact HB.out)))); have n2_ := Aside0.mk (blk_below (g := gb145) (o := .cells #[.string a1_0, .string a1_1, .int .i64 a1_2, .int .i64 a1_3, .int .i64 a1_4, .int .i64 a1_5] 26 (0, 0)) (by (with_reducible repeat (first | refine blk_drewN ?_ _ | refine blk_drew ?_ | refine blk_alloc ?_ _)); exact BK145.out) hb); have n3_ := Aside0.mk (blk_below (g := gb150) (o := .cells #[.string ((rd_T26 l0 x11_1).f0), .string ((rd_T26 l0 x11_1).f1), .int .i64 ((rd_T26 l0 x11_1).f2), .int .i64 ((rd_T26 l0 x11_1).f3), .int .i64 ((rd_T26 l0 x11_1).f4), .int .i64 ((rd_T26 l0 x11_1).f5)] 26 (0, 0)) (by (with_reducible repeat (first | refine blk_drewN ?_ _ | refine blk_drew ?_ | refine blk_alloc ?_ _)); exact BK150.out) hb); have n4_ := Aside0.mk (below_step (by repeat (first | (with_reducible first | exact HB.out | apply below_alloc | apply pw_below_drewN | apply below_drew1 | refine below_set ?_ GE145.out | refine below_set ?_ GE150.out) | exact HB.out)) hb); clear HO_5; clear BK145; clear BK150; clear HB; have HO_5 := n0_; have HO159 := n1_; have BK145 := n2_; have BK150 := n3_; have HB := n4_; clear n0_ n1_ n2_ n3_ n4_; clear hb ho31; obtain ⟨Ao33, co33, eo33⟩ := Kd.R_slice HO159.out; subst eo33) | ((with_reducible refine gate_builtin (b := .append) (xs := #[.tmp 15, .tmp 18]) rfl ?_); at_builtin; refine Kd.R_append_rows k26 (w0 := w) w.heap.size rfl (.tmp 15) (.tmp 18) 22 26 (.agg #[(.string ⟨#[]⟩), (.string ⟨#[]⟩), (.int .i64 0), (.int .i64 0), (.int .i64 0), (.int .i64 0)]) 64 rfl Try.underlying22 info26 rfl (by decide) (by omega) u5 x5_1 y157 _ _ _ (fun k_ => some k_ ≠ (.slice Ao33 y157.length co33 : Value).ownBlock ∧ k_ ≠ gb145 ∧ k_ ≠ gb150) (fun _ => False) rfl rfl ?aO ?aR (fun _ _ h => h) (fun _ h => h.elim) ?aF ?aB ?aS ?aL ?_; (case aR => repeat (first | exact (Kd.R_reads' HO159.out).2.2 | (with_reducible refine Kd.C_alloc ?_ _) | (with_reducible refine Kd.C_drewN ?_ _) | (with_reducible refine Kd.C_drew ?_))); (case aB => exact (by repeat (first | (with_reducible first | exact HB.out | apply below_alloc | apply pw_below_drewN | apply below_drew1 | refine below_set ?_ GE145.out | refine below_set ?_ GE150.out) | exact HB.out))); (case aF => exact (fun k_ hk => ⟨Kd.fresh' (Kd.R_lt (by (with_reducible repeat (first | apply Kd.R_alloc | apply Kd.R_drewN | apply Kd.R_drew)); exact HO159.out)) k_ hk, Kd.freshB (g := gb145) (o := .cells #[.string a1_0, .string a1_1, .int .i64 a1_2, .int .i64 a1_3, .int .i64 a1_4, .int .i64 a1_5] 26 (0, 0)) (by (with_reducible repeat (first | refine blk_drewN ?_ _ | refine blk_drew ?_ | refine blk_alloc ?_ _)); exact BK145.out) k_ hk, Kd.freshB (g := gb150) (o := .cells #[.string ((rd_T26 l0 x11_1).f0), .string ((rd_T26 l0 x11_1).f1), .int .i64 ((rd_T26 l0 x11_1).f2), .int .i64 ((rd_T26 l0 x11_1).f3), .int .i64 ((rd_T26 l0 x11_1).f4), .int .i64 ((rd_T26 l0 x11_1).f5)] 26 (0, 0)) (by (with_reducible repeat (first | refine blk_drewN ?_ _ | refine blk_drew ?_ | refine blk_alloc ?_ _)); exact BK150.out) k_ hk⟩)); (case aO => exact (by (with_reducible repeat (first | apply Kd.R_alloc | apply Kd.R_drewN | apply Kd.R_drew)); exact Kd.R_mono HO_5.out (fun _ hk => ⟨hk.2, ⟨hk.1.1, hk.1.2⟩⟩))); (case aS => exact (below_size (by repeat (first | (with_reducible first | exact HB.out | apply below_alloc | apply pw_below_drewN | apply below_drew1 | refine below_set ?_ GE145.out | refine below_set ?_ GE150.out) | exact HB.out)))); (case aL => have := LMc26.out; omega); intro v161 w32 ho hb hg hat; rw [← Ny160.out] at ho; have n0_ := Aside0.mk (blk_grown (g := gb145) (o := .cells #[.string a1_0, .string a1_1, .int .i64 a1_2, .int .i64 a1_3, .int .i64 a1_4, .int .i64 a1_5] 26 (0, 0)) (by (with_reducible repeat (first | refine blk_drewN ?_ _ | refine blk_drew ?_ | refine blk_alloc ?_ _)); exact BK145.out) hg (Kd.R_away HO_5.out (fun _ hk => hk.1.1))); have n1_ := Aside0.mk (blk_grown (g := gb150) (o := .cells #[.string ((rd_T26 l0 x11_1).f0), .string ((rd_T26 l0 x11_1).f1), .int .i64 ((rd_T26 l0 x11_1).f2), .int .i64 ((rd_T26 l0 x11_1).f3), .int .i64 ((rd_T26 l0 x11_1).f4), .int .i64 ((rd_T26 l0 x11_1).f5)] 26 (0, 0)) (by (with_reducible repeat (first | refine blk_drewN ?_ _ | refine blk_drew ?_ | refine blk_alloc ?_ _)); exact BK150.out) hg (Kd.R_away HO_5.out (fun _ hk => hk.1.2))); have n2_ := Aside0.mk (Kd.R_after (ok := (fun k_ => k_ ≠ gb145 ∧ k_ ≠ gb150)) (by (with_reducible repeat (first | apply Kd.R_alloc | apply Kd.R_drewN | apply Kd.R_drew)); exact Kd.R_mono HO159.out (fun _ hk => ⟨⟨hk.1.2, hk.2⟩, hk.1.1.2⟩)) hg hat); have n3_ := Aside0.mk (hb); have n4_ := Aside0.mk (ho); clear BK145; clear BK150; clear HO159; clear HB; clear HO_5; have BK145 := n0_; have BK150 := n1_; have HO159 := n2_; have HB := n3_; have HO162 := n4_; clear n0_ n1_ n2_ n3_ n4_; clear ho hb hg hat))
           go_roundg kj6
           case measure => have := HK1.out; have := HJ6.out; omega
           case rel => exact ⟨(y160), (true), (wrap64 (x11_1 + 1)), (by first | rfl | (simp; done) | (simp [*]; done)), (by first | rfl | (simp; done) | (simp [*]; done)), H', ⟨by have := HK1.out; have := HJ6.out; omega⟩, ⟨by (with_reducible repeat (first | apply Kd.R_alloc | apply Kd.R_drewN | apply Kd.R_drew)); exact Kd.R_mono HO162.out (fun _ hk => hk.2.1)⟩, ⟨by (with_reducible repeat (first | refine blk_drewN ?_ _ | refine blk_drew ?_ | refine blk_alloc ?_ _)); exact BK145.out⟩, ⟨by repeat (first | (with_reducible first | exact HB.out | apply below_alloc | apply pw_below_drewN | apply below_drew1 | refine below_set ?_ GE145.out | refine below_set ?_ GE150.out) | exact HB.out)⟩⟩
          ·rw [if_neg c26] at H
           exact absurd H (by simp)
     ·rw [if_neg c6] at H
      exact absurd H (by simp)
    ·rw [if_neg c5] at H
     exact absurd H (by simp)
   ·rw [if_neg c4] at H
    have c4b0 : decide (x11_1 < (l0.length : Int)) = false := decide_eq_false c4
    clear c4
    by_cases c34 : x6_1 = true
    ·subst c34
     have H1 : (some x5_1) = some r := by rw [if_pos rfl] at H; exact H
     clear H
     have H := H1
     clear H1
     obtain rfl := Option.some.inj H
     go_wp2_with (with_reducible first | refine wp_label ?_ | refine wp_scope_straight ?_)
     go_ret
     exact ⟨_, by first | rfl | (simp [*] <;> rfl), by (with_reducible repeat (first | apply Kd.R_alloc | apply Kd.R_drewN | apply Kd.R_drew)); exact Kd.R_mono HO_5.out (fun _ hk => trivial), by repeat (first | (with_reducible first | exact HB.out | apply below_alloc | apply pw_below_drewN | apply below_drew1 | refine below_set ?_ GE145.out) | exact HB.out)⟩
    ·replace c34 := Bool.eq_false_iff.mpr c34
     subst c34
     have H1 := H
     rw [if_neg (show ¬ (false = true) by decide)] at H1
     clear H
     have H := H1
     clear H1
     by_cases c35 : x5_1.length < 2199023255552
     ·rw [if_pos c35] at H
      have LMc35 := Aside0.mk c35
      clear c35
      obtain ⟨y146, hy146⟩ : ∃ y_ : List (S26), y_ = (x5_1 ++ [(⟨a1_0, a1_1, a1_2, a1_3, a1_4, a1_5⟩ : S26)]) := ⟨_, rfl⟩
      replace H : (some y146) = some r := by first | (rw [hy146]; with_reducible exact H) | (have H2_ := (Option.bind_some _ _).symm.trans H; rw [hy146]; with_reducible exact H2_) | (have H2_ := (Option.bind_some _ _).symm.trans H; with_reducible exact H2_) | with_reducible exact H | (rw [hy146]; exact H) | exact H
      have Ny146 := Aside0.mk hy146
      clear hy146
      obtain rfl := Option.some.inj H
      have hcz36_0 : wr.cell? ⟨gb145, 0, none⟩ = some (.string a1_0) := (blk_cell BK145.out 0).trans rfl
      have hcz36_1 : wr.cell? ⟨gb145, 1, none⟩ = some (.string a1_1) := (blk_cell BK145.out 1).trans rfl
      have hcz36_2 : wr.cell? ⟨gb145, 2, none⟩ = some (.int .i64 a1_2) := (blk_cell BK145.out 2).trans rfl
      have hcz36_3 : wr.cell? ⟨gb145, 3, none⟩ = some (.int .i64 a1_3) := (blk_cell BK145.out 3).trans rfl
      have hcz36_4 : wr.cell? ⟨gb145, 4, none⟩ = some (.int .i64 a1_4) := (blk_cell BK145.out 4).trans rfl
      have hcz36_5 : wr.cell? ⟨gb145, 5, none⟩ = some (.int .i64 a1_5) := (blk_cell BK145.out 5).trans rfl
      have hfz36_0 := blk_frozen BK145.out 0
      have hfz36_1 := blk_frozen BK145.out 1
      have hfz36_2 := blk_frozen BK145.out 2
      have hfz36_3 := blk_frozen BK145.out 3
      have hfz36_4 := blk_frozen BK145.out 4
      have hfz36_5 := blk_frozen BK145.out 5
      go_wp2_with (first | (with_reducible first | refine wp_label ?_ | refine wp_scope_straight ?_) | ((with_reducible refine gate_builtin (b := .append) (xs := #[.tmp 46, .tmp 48]) rfl ?_); at_builtin; refine Kd.R_append k26 (w0 := w) w.heap.size rfl (.tmp 46) (.tmp 48) 22 26 (.agg #[(.string ⟨#[]⟩), (.string ⟨#[]⟩), (.int .i64 0), (.int .i64 0), (.int .i64 0), (.int .i64 0)]) 64 rfl Try.underlying22 info26 rfl (by decide) (by omega) u5 x5_1 (⟨a1_0, a1_1, a1_2, a1_3, a1_4, a1_5⟩ : S26) [.string a1_0, .string a1_1, .int .i64 a1_2, .int .i64 a1_3, .int .i64 a1_4, .int .i64 a1_5] (fun k_ => k_ ≠ gb145) (fun _ => False) rfl rfl ?aP (fun _ hk => hk.elim) ?aF ?aO ?aB ?aS ?aL ?_; (case aP => exact k26_mkM _ _ _ (⟨a1_0, a1_1, a1_2, a1_3, a1_4, a1_5⟩ : S26)); (case aB => exact (by repeat (first | (with_reducible first | exact HB.out | apply below_alloc | apply pw_below_drewN | apply below_drew1 | refine below_set ?_ GE145.out) | exact HB.out))); (case aF => exact (fun k_ hk => Kd.freshB (g := gb145) (o := .cells #[.string a1_0, .string a1_1, .int .i64 a1_2, .int .i64 a1_3, .int .i64 a1_4, .int .i64 a1_5] 26 (0, 0)) (by (with_reducible repeat (first | refine blk_drewN ?_ _ | refine blk_drew ?_ | refine blk_alloc ?_ _)); exact BK145.out) k_ hk)); (case aO => exact (by (with_reducible repeat (first | apply Kd.R_alloc | apply Kd.R_drewN | apply Kd.R_drew)); exact HO_5.out)); (case aS => exact (below_size (by repeat (first | (with_reducible first | exact HB.out | apply below_alloc | apply pw_below_drewN | apply below_drew1 | refine below_set ?_ GE145.out) | exact HB.out)))); (case aL => have := LMc35.out; omega); intro v147 w37 ho hb hg hat; rw [← Ny146.out] at ho; have n0_ := Aside0.mk (blk_grown (g := gb145) (o := .cells #[.string a1_0, .string a1_1, .int .i64 a1_2, .int .i64 a1_3, .int .i64 a1_4, .int .i64 a1_5] 26 (0, 0)) (by (with_reducible repeat (first | refine blk_drewN ?_ _ | refine blk_drew ?_ | refine blk_alloc ?_ _)); exact BK145.out) hg (Kd.R_away HO_5.out (fun _ hk => hk))); have n1_ := Aside0.mk (hb); have n2_ := Aside0.mk (ho); clear BK145; clear HB; clear HO_5; have BK145 := n0_; have HB := n1_; have HO148 := n2_; clear n0_ n1_ n2_; clear ho hb hg hat))
      go_ret
      exact ⟨_, by first | rfl | (simp [*] <;> rfl), by (with_reducible repeat (first | apply Kd.R_alloc | apply Kd.R_drewN | apply Kd.R_drew)); exact Kd.R_mono HO148.out (fun _ hk => trivial), by repeat (first | (with_reducible first | exact HB.out | apply below_alloc | apply pw_below_drewN | apply below_drew1 | refine below_set ?_ GE145.out) | exact HB.out)⟩
     ·rw [if_neg c35] at H
      exact absurd H (by simp)

/-! ### hist_Fold: function 21 -/
def hist_Fold.l0 : Nat → List (S26) → Int → List (S38) → Int → Int → Option ((List (S26)))
 | 0, _, _, _, _, _ => none
 | k + 1, x0, x2, x11, x12, x13 => if x13 < x12 then (if 0 ≤ x13 then (if x13 < (x11.length : Int) then (if ((rd_T38 x11 x13).f0) > x2 then (hist_Fold.l0 k x0 x2 x11 x12 (wrap64 (x13 + 1))) else (if (rd_T38 x11 x13).f1 = true then ((hist_Take.f x0 ((rd_T38 x11 x13).f2.f0)).bind fun t168 => (hist_Fold.l0 k t168 x2 x11 x12 (wrap64 (x13 + 1)))) else ((hist_Lay.f k x0 ((rd_T38 x11 x13).f2.f0) ((rd_T38 x11 x13).f2.f1) ((rd_T38 x11 x13).f2.f2) ((rd_T38 x11 x13).f2.f3) ((rd_T38 x11 x13).f2.f4) ((rd_T38 x11 x13).f2.f5)).bind fun t171 => (hist_Fold.l0 k t171 x2 x11 x12 (wrap64 (x13 + 1)))))) else (none)) else (none)) else (some x0)
def hist_Fold.f (k : Nat) (l0 : List (S26)) (l1 : List (S38)) (a2 : Int) : Option ((List (S26))) := (api_KV_30.f l0).bind fun t163 => (hist_Fold.l0 k t163 a2 l1 (l1.length : Int) 0)
theorem hist_Fold.mono_l : ∀ k, (∀ y0 y1 y2 y3 y4, LeO (hist_Fold.l0 k y0 y1 y2 y3 y4) (hist_Fold.l0 (k + 1) y0 y1 y2 y3 y4))
 | 0 => fun _ _ _ _ _ r h => by simp [hist_Fold.l0] at h
 | k + 1 => by
  have ih0 := hist_Fold.mono_l k
  ·intro y0 y1 y2 y3 y4
   unfold hist_Fold.l0
   repeat' first
   | (with_reducible exact ih0 _ _ _ _ _)
   | (with_reducible exact hist_Lay.mono _ _ _ _ _ _ _ _)
   | (with_reducible exact LeO.refl _)
   | (with_reducible exact LeO.none _)
   | (with_reducible refine LeO.ite ?_ ?_)
   | (with_reducible refine LeO.bind ?_ (fun _ => ?_))
   | exact ih0 _ _ _ _ _
   | exact hist_Lay.mono _ _ _ _ _ _ _ _
   | exact LeO.none _
   | refine LeO.ite ?_ ?_
   | refine LeO.bind ?_ (fun _ => ?_)
theorem hist_Fold.mono : ∀ a0 a1 a2 k, LeO (hist_Fold.f k a0 a1 a2) (hist_Fold.f (k + 1) a0 a1 a2) := by
 intro a0 a1 a2 k
 have ih0 := hist_Fold.mono_l k
 unfold hist_Fold.f
 repeat' first
   | (with_reducible exact ih0 _ _ _ _ _)
   | (with_reducible exact hist_Lay.mono _ _ _ _ _ _ _ _)
   | (with_reducible exact LeO.refl _)
   | (with_reducible exact LeO.none _)
   | (with_reducible refine LeO.ite ?_ ?_)
   | (with_reducible refine LeO.bind ?_ (fun _ => ?_))
   | exact ih0 _ _ _ _ _
   | exact hist_Lay.mono _ _ _ _ _ _ _ _
   | exact LeO.none _
   | refine LeO.ite ?_ ?_
   | refine LeO.bind ?_ (fun _ => ?_)
set_option maxHeartbeats 8000000 in
set_option maxRecDepth 100000 in
theorem hist_Fold.calls (k : Nat) (A0 : Option Addr) (c0 : Nat) (l0 : List (S26)) (A1 : Option Addr) (c1 : Nat) (l1 : List (S38)) (a2 : Int) (r : List (S26)) (w : World) (hr0 : Kd.C k26 w A0 l0.length l0) (hc0 : l0.length ≤ c0) (hr1 : Kd.C k38 w A1 l1.length l1) (hc1 : l1.length ≤ c1) (h : hist_Fold.f k l0 l1 a2 = some r) :
  Calls Try.prog 21 #[.slice A0 l0.length c0, .slice A1 l1.length c1, .int .i64 a2] w fun e w' => ∃ v0_ : Value, e = .returned (v0_) ∧ Kd.R k26 26 w' w.heap.size (fun _ => True) v0_ r ∧ Below w.heap.size w w' := by
 have hu38 := Try.underlying38
 have hu26 := Try.underlying26
 have HR0 := Aside0.mk hr0
 have HC0 := Aside0.mk hc0
 clear hr0 hc0
 have HR1 := Aside0.mk hr1
 have HC1 := Aside0.mk hc1
 clear hr1 hc1
 have HB := Aside0.mk (Below.refl w.heap.size w)
 have H : ((api_KV_30.f l0).bind fun t163 => (hist_Fold.l0 k t163 a2 l1 (l1.length : Int) 0)) = some r := h
 clear h
 replace H := Option.bind_eq_some_iff.mp H
 obtain ⟨t163, A40, H⟩ := H
 replace H : (hist_Fold.l0 k t163 a2 l1 (l1.length : Int) 0) = some r := H
 have A4 := Aside0.mk A40
 clear A40
 have H' := Aside0.mk H
 clear H
 go_enter Try.func21, Try.ntmps21
 go_wp2_with (first | ((with_reducible refine gate_callee (f := 30) rfl ?_); refine goesL_ (some 10) rfl rfl Try.func30 (by kernel_rfl) rfl #[.slice A0 l0.length c0] rfl (by (try simp only [List.map_toArray, List.map_cons, List.map_nil]); first | done | rfl | (simp only [List.length_drop, List.length_take]; rfl)) ?_; (with_reducible refine (api_KV_30.calls _ _ l0 t163 _ ?side1 ?side2 A4.out).mono ?_); (case side1 => repeat (first | exact HR0.out | (with_reducible refine Kd.C_alloc ?_ _) | (with_reducible refine Kd.C_drewN ?_ _) | (with_reducible refine Kd.C_drew ?_))); (case side2 => exact HC0.out); rintro e w5 ⟨v164, rfl, ho0, hb⟩; refine ⟨_, rfl, ?_⟩; have n0_ := Aside0.mk (Kd.R_lower ho0 (below_size (by repeat (first | (with_reducible first | exact HB.out | apply below_alloc | apply pw_below_drewN | apply below_drew1) | exact HB.out)))); have n1_ := Aside0.mk (below_step (by repeat (first | (with_reducible first | exact HB.out | apply below_alloc | apply pw_below_drewN | apply below_drew1) | exact HB.out)) hb); clear HB; have HO165 := n0_; have HB := n1_; clear n0_ n1_; (try clear ho0)))
 go_loopg [0, 13] k (fun kq v0 v13 w' => ∃ (x0_1 : List (S26)) (x13_1 : Int), v13 = .int .i64 x13_1 ∧ Aside0 (hist_Fold.l0 kq x0_1 a2 l1 (l1.length : Int) x13_1 = some r) ∧ Aside0 (kq ≤ k) ∧ Aside0 (Kd.R k26 26 w' w.heap.size (fun _ => True) v0 x0_1) ∧ Aside0 (Below w.heap.size w w'))
 case atStart => exact ⟨(t163), (0), (by first | rfl | (simp; done) | (simp [*]; done)), H', ⟨Nat.le_refl _⟩, ⟨by (with_reducible repeat (first | apply Kd.R_alloc | apply Kd.R_drewN | apply Kd.R_drew)); exact HO165.out⟩, ⟨by repeat (first | (with_reducible first | exact HB.out | apply below_alloc | apply pw_below_drewN | apply below_drew1) | exact HB.out)⟩⟩
 case round =>
  clear H'
  try clear c1
  try clear c2
  try clear p2
  try clear c3
  obtain ⟨x0_1, x13_1, rfl, HA, HK1, HO_0, HB⟩ := hrel
  cases gk with
  | zero => exact absurd HA.out (by simp [hist_Fold.l0])
  | succ k1 =>
   have H := HA.out
   clear HA
   simp only [hist_Fold.l0] at H
   by_cases c6 : x13_1 < (l1.length : Int)
   ·rw [if_pos c6] at H
    have c6b0 : decide (x13_1 < (l1.length : Int)) = true := decide_eq_true c6
    clear c6
    by_cases c7 : 0 ≤ x13_1
    ·rw [if_pos c7] at H
     have c7b0 : decide (0 ≤ x13_1) = true := decide_eq_true c7
     clear c7
     by_cases c8 : x13_1 < (l1.length : Int)
     ·rw [if_pos c8] at H
      have c8b0 : decide (x13_1 < (l1.length : Int)) = true := decide_eq_true c8
      clear c8
      by_cases c9 : ((rd_T38 l1 x13_1).f0) > a2
      ·rw [if_pos c9] at H
       have c9b0 : decide (a2 < ((rd_T38 l1 x13_1).f0)) = true := decide_eq_true c9
       clear c9
       have H' := Aside0.mk H
       clear H
       have p166 : 0 ≤ (x13_1 : Int) := of_decide_eq_true (by assumption)
       have q166 : x13_1 < (l1.length : Int) := of_decide_eq_true (by assumption)
       obtain ⟨ad166, e166, hx166_0, hx166_1, hx166_2, hx166_3, hx166_4, hx166_5, hx166_6, hx166_7⟩ := at_T38 HR1.out x13_1 p166 q166
       cases e166
       replace hx166_0 := (HB.out.cell (World.block_lt_of_cell? w _ hx166_0)).trans hx166_0
       replace hx166_1 := (HB.out.cell (World.block_lt_of_cell? w _ hx166_1)).trans hx166_1
       replace hx166_2 := (HB.out.cell (World.block_lt_of_cell? w _ hx166_2)).trans hx166_2
       replace hx166_3 := (HB.out.cell (World.block_lt_of_cell? w _ hx166_3)).trans hx166_3
       replace hx166_4 := (HB.out.cell (World.block_lt_of_cell? w _ hx166_4)).trans hx166_4
       replace hx166_5 := (HB.out.cell (World.block_lt_of_cell? w _ hx166_5)).trans hx166_5
       replace hx166_6 := (HB.out.cell (World.block_lt_of_cell? w _ hx166_6)).trans hx166_6
       replace hx166_7 := (HB.out.cell (World.block_lt_of_cell? w _ hx166_7)).trans hx166_7
       replace p166 := eq_true p166
       replace q166 := eq_true q166
       go_wp2_with (first | ((with_reducible refine gate_dst (N := 8) rfl ?_); refine box_event ?hg (N := 8) ?hd (cs := #[.int .i64 0, .bool false, .string (⟨#[]⟩ : ByteArray), .string (⟨#[]⟩ : ByteArray), .int .i64 0, .int .i64 0, .int .i64 0, .int .i64 0]) (t := 38) ?hr ?_; (case hd => rfl); (case hg => rfl); (case hr => first | (go_simp; done) | (go_simp; rfl)); intro gb167 hg w10 hbox hb; have n0_ := Aside0.mk (Kd.R_below (by (with_reducible repeat (first | apply Kd.R_alloc | apply Kd.R_drewN | apply Kd.R_drew)); exact HO_0.out) hb); have n1_ := Aside0.mk (below_step (by repeat (first | (with_reducible first | exact HB.out | apply below_alloc | apply pw_below_drewN | apply below_drew1) | exact HB.out)) hb); have n2_ := Aside0.mk (hbox); have n3_ := Aside0.mk ((by rw [hg]; exact (below_size (by repeat (first | (with_reducible first | exact HB.out | apply below_alloc | apply pw_below_drewN | apply below_drew1) | exact HB.out))) : w.heap.size ≤ gb167)); have n4_ := Aside0.mk ((by rw [hg]; exact (below_size (by repeat (first | (with_reducible first | exact HB.out | apply below_alloc | apply pw_below_drewN | apply below_drew1) | exact HB.out))) : w.heap.size ≤ gb167)); clear HO_0; clear HB; have HO_0 := n0_; have HB := n1_; have BK167 := n2_; have GW167 := n3_; have GE167 := n4_; clear n0_ n1_ n2_ n3_ n4_; clear hb hbox hg; have hcz11_0 : w10.cell? ⟨gb167, 0, none⟩ = some (.int .i64 0) := (blk_cell BK167.out 0).trans rfl; have hcz11_1 : w10.cell? ⟨gb167, 1, none⟩ = some (.bool false) := (blk_cell BK167.out 1).trans rfl; have hcz11_2 : w10.cell? ⟨gb167, 2, none⟩ = some (.string (⟨#[]⟩ : ByteArray)) := (blk_cell BK167.out 2).trans rfl; have hcz11_3 : w10.cell? ⟨gb167, 3, none⟩ = some (.string (⟨#[]⟩ : ByteArray)) := (blk_cell BK167.out 3).trans rfl; have hcz11_4 : w10.cell? ⟨gb167, 4, none⟩ = some (.int .i64 0) := (blk_cell BK167.out 4).trans rfl; have hcz11_5 : w10.cell? ⟨gb167, 5, none⟩ = some (.int .i64 0) := (blk_cell BK167.out 5).trans rfl; have hcz11_6 : w10.cell? ⟨gb167, 6, none⟩ = some (.int .i64 0) := (blk_cell BK167.out 6).trans rfl; have hcz11_7 : w10.cell? ⟨gb167, 7, none⟩ = some (.int .i64 0) := (blk_cell BK167.out 7).trans rfl; have hfz11_0 := blk_frozen BK167.out 0; have hfz11_1 := blk_frozen BK167.out 1; have hfz11_2 := blk_frozen BK167.out 2; have hfz11_3 := blk_frozen BK167.out 3; have hfz11_4 := blk_frozen BK167.out 4; have hfz11_5 := blk_frozen BK167.out 5; have hfz11_6 := blk_frozen BK167.out 6; have hfz11_7 := blk_frozen BK167.out 7))
       go_roundg k1
       case measure => have := HK1.out; omega
       case rel => exact ⟨(x0_1), (wrap64 (x13_1 + 1)), (by first | rfl | (simp; done) | (simp [*]; done)), H', ⟨by have := HK1.out; omega⟩, ⟨by (with_reducible repeat (first | apply Kd.R_alloc | apply Kd.R_drewN | apply Kd.R_drew)); exact Kd.R_mono (Kd.R_far (p := ⟨gb167, 7, none⟩) (Kd.R_far (p := ⟨gb167, 6, none⟩) (Kd.R_far (p := ⟨gb167, 5, none⟩) (Kd.R_far (p := ⟨gb167, 4, none⟩) (Kd.R_far (p := ⟨gb167, 3, none⟩) (Kd.R_far (p := ⟨gb167, 2, none⟩) (Kd.R_far (p := ⟨gb167, 1, none⟩) (Kd.R_far (p := ⟨gb167, 0, none⟩) (Kd.R_types HO_0.out BK167.out (by decide)) (fun _ hk => hk.2) (.int .i64 ((rd_T38 l1 x13_1).f0))) (fun _ hk => hk.2) (.bool ((rd_T38 l1 x13_1).f1))) (fun _ hk => hk.2) (.string ((rd_T38 l1 x13_1).f2.f0))) (fun _ hk => hk.2) (.string ((rd_T38 l1 x13_1).f2.f1))) (fun _ hk => hk.2) (.int .i64 ((rd_T38 l1 x13_1).f2.f2))) (fun _ hk => hk.2) (.int .i64 ((rd_T38 l1 x13_1).f2.f3))) (fun _ hk => hk.2) (.int .i64 ((rd_T38 l1 x13_1).f2.f4))) (fun _ hk => hk.2) (.int .i64 ((rd_T38 l1 x13_1).f2.f5))) (fun _ hk => trivial)⟩, ⟨by repeat (first | (with_reducible first | exact HB.out | apply below_alloc | apply pw_below_drewN | apply below_drew1 | refine below_set ?_ GE167.out) | exact HB.out)⟩⟩
      ·rw [if_neg c9] at H
       have c9b0 : decide (a2 < ((rd_T38 l1 x13_1).f0)) = false := decide_eq_false c9
       clear c9
       obtain ⟨bq12, hbq12⟩ : ∃ b_ : Bool, b_ = ((rd_T38 l1 x13_1).f1) := ⟨_, rfl⟩
       replace H : (if bq12 = true then ((hist_Take.f x0_1 ((rd_T38 l1 x13_1).f2.f0)).bind fun t168 => (hist_Fold.l0 k1 t168 a2 l1 (l1.length : Int) (wrap64 (x13_1 + 1)))) else ((hist_Lay.f k1 x0_1 ((rd_T38 l1 x13_1).f2.f0) ((rd_T38 l1 x13_1).f2.f1) ((rd_T38 l1 x13_1).f2.f2) ((rd_T38 l1 x13_1).f2.f3) ((rd_T38 l1 x13_1).f2.f4) ((rd_T38 l1 x13_1).f2.f5)).bind fun t171 => (hist_Fold.l0 k1 t171 a2 l1 (l1.length : Int) (wrap64 (x13_1 + 1))))) = some r := by rw [← hbq12] at H; exact H
       have Nbq12 := Aside0.mk hbq12
       clear hbq12
       by_cases c13 : bq12 = true
       ·subst c13
        have H1 := H
        rw [if_pos rfl] at H1
        clear H
        have H := H1
        clear H1
        replace H := Option.bind_eq_some_iff.mp H
        obtain ⟨t168, A140, H⟩ := H
        replace H : (hist_Fold.l0 k1 t168 a2 l1 (l1.length : Int) (wrap64 (x13_1 + 1))) = some r := H
        have A14 := Aside0.mk A140
        clear A140
        have H' := Aside0.mk H
        clear H
        have p166 : 0 ≤ (x13_1 : Int) := of_decide_eq_true (by assumption)
        have q166 : x13_1 < (l1.length : Int) := of_decide_eq_true (by assumption)
        obtain ⟨ad166, e166, hx166_0, hx166_1, hx166_2, hx166_3, hx166_4, hx166_5, hx166_6, hx166_7⟩ := at_T38 HR1.out x13_1 p166 q166
        (try rw [← Nbq12.out] at hx166_1)
        cases e166
        replace hx166_0 := (HB.out.cell (World.block_lt_of_cell? w _ hx166_0)).trans hx166_0
        replace hx166_1 := (HB.out.cell (World.block_lt_of_cell? w _ hx166_1)).trans hx166_1
        replace hx166_2 := (HB.out.cell (World.block_lt_of_cell? w _ hx166_2)).trans hx166_2
        replace hx166_3 := (HB.out.cell (World.block_lt_of_cell? w _ hx166_3)).trans hx166_3
        replace hx166_4 := (HB.out.cell (World.block_lt_of_cell? w _ hx166_4)).trans hx166_4
        replace hx166_5 := (HB.out.cell (World.block_lt_of_cell? w _ hx166_5)).trans hx166_5
        replace hx166_6 := (HB.out.cell (World.block_lt_of_cell? w _ hx166_6)).trans hx166_6
        replace hx166_7 := (HB.out.cell (World.block_lt_of_cell? w _ hx166_7)).trans hx166_7
        replace p166 := eq_true p166
        replace q166 := eq_true q166
        go_wp2_with (first | ((with_reducible refine gate_dst (N := 8) rfl ?_); refine box_event ?hg (N := 8) ?hd (cs := #[.int .i64 0, .bool false, .string (⟨#[]⟩ : ByteArray), .string (⟨#[]⟩ : ByteArray), .int .i64 0, .int .i64 0, .int .i64 0, .int .i64 0]) (t := 38) ?hr ?_; (case hd => rfl); (case hg => rfl); (case hr => first | (go_simp; done) | (go_simp; rfl)); intro gb167 hg w15 hbox hb; have n0_ := Aside0.mk (Kd.R_below (by (with_reducible repeat (first | apply Kd.R_alloc | apply Kd.R_drewN | apply Kd.R_drew)); exact HO_0.out) hb); have n1_ := Aside0.mk (below_step (by repeat (first | (with_reducible first | exact HB.out | apply below_alloc | apply pw_below_drewN | apply below_drew1) | exact HB.out)) hb); have n2_ := Aside0.mk (hbox); have n3_ := Aside0.mk ((by rw [hg]; exact (below_size (by repeat (first | (with_reducible first | exact HB.out | apply below_alloc | apply pw_below_drewN | apply below_drew1) | exact HB.out))) : w.heap.size ≤ gb167)); have n4_ := Aside0.mk ((by rw [hg]; exact (below_size (by repeat (first | (with_reducible first | exact HB.out | apply below_alloc | apply pw_below_drewN | apply below_drew1) | exact HB.out))) : w.heap.size ≤ gb167)); clear HO_0; clear HB; have HO_0 := n0_; have HB := n1_; have BK167 := n2_; have GW167 := n3_; have GE167 := n4_; clear n0_ n1_ n2_ n3_ n4_; clear hb hbox hg; have hcz16_0 : w15.cell? ⟨gb167, 0, none⟩ = some (.int .i64 0) := (blk_cell BK167.out 0).trans rfl; have hcz16_1 : w15.cell? ⟨gb167, 1, none⟩ = some (.bool false) := (blk_cell BK167.out 1).trans rfl; have hcz16_2 : w15.cell? ⟨gb167, 2, none⟩ = some (.string (⟨#[]⟩ : ByteArray)) := (blk_cell BK167.out 2).trans rfl; have hcz16_3 : w15.cell? ⟨gb167, 3, none⟩ = some (.string (⟨#[]⟩ : ByteArray)) := (blk_cell BK167.out 3).trans rfl; have hcz16_4 : w15.cell? ⟨gb167, 4, none⟩ = some (.int .i64 0) := (blk_cell BK167.out 4).trans rfl; have hcz16_5 : w15.cell? ⟨gb167, 5, none⟩ = some (.int .i64 0) := (blk_cell BK167.out 5).trans rfl; have hcz16_6 : w15.cell? ⟨gb167, 6, none⟩ = some (.int .i64 0) := (blk_cell BK167.out 6).trans rfl; have hcz16_7 : w15.cell? ⟨gb167, 7, none⟩ = some (.int .i64 0) := (blk_cell BK167.out 7).trans rfl; have hfz16_0 := blk_frozen BK167.out 0; have hfz16_1 := blk_frozen BK167.out 1; have hfz16_2 := blk_frozen BK167.out 2; have hfz16_3 := blk_frozen BK167.out 3; have hfz16_4 := blk_frozen BK167.out 4; have hfz16_5 := blk_frozen BK167.out 5; have hfz16_6 := blk_frozen BK167.out 6; have hfz16_7 := blk_frozen BK167.out 7) | ((with_reducible refine gate_store (t := 38) (p := 8) rfl ?_); refine store_event (t := 38) (p := 8) (v := ?vo_w17) (w1 := ((((((((w15.setCell ⟨gb167, 0, none⟩ (.int .i64 ((rd_T38 l1 x13_1).f0))).setCell ⟨gb167, 1, none⟩ (.bool true)).setCell ⟨gb167, 2, none⟩ (.string ((rd_T38 l1 x13_1).f2.f0))).setCell ⟨gb167, 3, none⟩ (.string ((rd_T38 l1 x13_1).f2.f1))).setCell ⟨gb167, 4, none⟩ (.int .i64 ((rd_T38 l1 x13_1).f2.f2))).setCell ⟨gb167, 5, none⟩ (.int .i64 ((rd_T38 l1 x13_1).f2.f3))).setCell ⟨gb167, 6, none⟩ (.int .i64 ((rd_T38 l1 x13_1).f2.f4))).setCell ⟨gb167, 7, none⟩ (.int .i64 ((rd_T38 l1 x13_1).f2.f5)))) ?hg ?ho ?hn ?hr ?_; (case ho => rfl); (case hg => rfl); (case hn => rfl); (case hr => first | (go_simp; done) | (go_simp; rfl)); intro w17 hw; have n0_ : Aside0 (Kd.R k26 26 w17 w.heap.size (fun _ => True) u0 x0_1) := ⟨(by rw [hw]; exact (by (with_reducible repeat (first | apply Kd.R_alloc | apply Kd.R_drewN | apply Kd.R_drew)); exact Kd.R_mono (Kd.R_far (p := ⟨gb167, 7, none⟩) (Kd.R_far (p := ⟨gb167, 6, none⟩) (Kd.R_far (p := ⟨gb167, 5, none⟩) (Kd.R_far (p := ⟨gb167, 4, none⟩) (Kd.R_far (p := ⟨gb167, 3, none⟩) (Kd.R_far (p := ⟨gb167, 2, none⟩) (Kd.R_far (p := ⟨gb167, 1, none⟩) (Kd.R_far (p := ⟨gb167, 0, none⟩) (Kd.R_types HO_0.out BK167.out (by decide)) (fun _ hk => hk.2) (.int .i64 ((rd_T38 l1 x13_1).f0))) (fun _ hk => hk.2) (.bool true)) (fun _ hk => hk.2) (.string ((rd_T38 l1 x13_1).f2.f0))) (fun _ hk => hk.2) (.string ((rd_T38 l1 x13_1).f2.f1))) (fun _ hk => hk.2) (.int .i64 ((rd_T38 l1 x13_1).f2.f2))) (fun _ hk => hk.2) (.int .i64 ((rd_T38 l1 x13_1).f2.f3))) (fun _ hk => hk.2) (.int .i64 ((rd_T38 l1 x13_1).f2.f4))) (fun _ hk => hk.2) (.int .i64 ((rd_T38 l1 x13_1).f2.f5))) (fun _ hk => trivial)))⟩; have n1_ : Aside0 (w17.heap[gb167]? = some (.cells #[.int .i64 ((rd_T38 l1 x13_1).f0), .bool true, .string ((rd_T38 l1 x13_1).f2.f0), .string ((rd_T38 l1 x13_1).f2.f1), .int .i64 ((rd_T38 l1 x13_1).f2.f2), .int .i64 ((rd_T38 l1 x13_1).f2.f3), .int .i64 ((rd_T38 l1 x13_1).f2.f4), .int .i64 ((rd_T38 l1 x13_1).f2.f5)] 38 (0, 0))) := ⟨(by rw [hw]; exact (by (with_reducible repeat (first | refine blk_drewN ?_ _ | refine blk_drew ?_ | refine blk_alloc ?_ _)); refine blk_put (cs := #[.int .i64 ((rd_T38 l1 x13_1).f0), .bool true, .string ((rd_T38 l1 x13_1).f2.f0), .string ((rd_T38 l1 x13_1).f2.f1), .int .i64 ((rd_T38 l1 x13_1).f2.f2), .int .i64 ((rd_T38 l1 x13_1).f2.f3), .int .i64 ((rd_T38 l1 x13_1).f2.f4), .int .i64 0]) ?_ 7 _ rfl; (with_reducible repeat (first | refine blk_drewN ?_ _ | refine blk_drew ?_ | refine blk_alloc ?_ _)); refine blk_put (cs := #[.int .i64 ((rd_T38 l1 x13_1).f0), .bool true, .string ((rd_T38 l1 x13_1).f2.f0), .string ((rd_T38 l1 x13_1).f2.f1), .int .i64 ((rd_T38 l1 x13_1).f2.f2), .int .i64 ((rd_T38 l1 x13_1).f2.f3), .int .i64 0, .int .i64 0]) ?_ 6 _ rfl; (with_reducible repeat (first | refine blk_drewN ?_ _ | refine blk_drew ?_ | refine blk_alloc ?_ _)); refine blk_put (cs := #[.int .i64 ((rd_T38 l1 x13_1).f0), .bool true, .string ((rd_T38 l1 x13_1).f2.f0), .string ((rd_T38 l1 x13_1).f2.f1), .int .i64 ((rd_T38 l1 x13_1).f2.f2), .int .i64 0, .int .i64 0, .int .i64 0]) ?_ 5 _ rfl; (with_reducible repeat (first | refine blk_drewN ?_ _ | refine blk_drew ?_ | refine blk_alloc ?_ _)); refine blk_put (cs := #[.int .i64 ((rd_T38 l1 x13_1).f0), .bool true, .string ((rd_T38 l1 x13_1).f2.f0), .string ((rd_T38 l1 x13_1).f2.f1), .int .i64 0, .int .i64 0, .int .i64 0, .int .i64 0]) ?_ 4 _ rfl; (with_reducible repeat (first | refine blk_drewN ?_ _ | refine blk_drew ?_ | refine blk_alloc ?_ _)); refine blk_put (cs := #[.int .i64 ((rd_T38 l1 x13_1).f0), .bool true, .string ((rd_T38 l1 x13_1).f2.f0), .string (⟨#[]⟩ : ByteArray), .int .i64 0, .int .i64 0, .int .i64 0, .int .i64 0]) ?_ 3 _ rfl; (with_reducible repeat (first | refine blk_drewN ?_ _ | refine blk_drew ?_ | refine blk_alloc ?_ _)); refine blk_put (cs := #[.int .i64 ((rd_T38 l1 x13_1).f0), .bool true, .string (⟨#[]⟩ : ByteArray), .string (⟨#[]⟩ : ByteArray), .int .i64 0, .int .i64 0, .int .i64 0, .int .i64 0]) ?_ 2 _ rfl; (with_reducible repeat (first | refine blk_drewN ?_ _ | refine blk_drew ?_ | refine blk_alloc ?_ _)); refine blk_put (cs := #[.int .i64 ((rd_T38 l1 x13_1).f0), .bool false, .string (⟨#[]⟩ : ByteArray), .string (⟨#[]⟩ : ByteArray), .int .i64 0, .int .i64 0, .int .i64 0, .int .i64 0]) ?_ 1 _ rfl; (with_reducible repeat (first | refine blk_drewN ?_ _ | refine blk_drew ?_ | refine blk_alloc ?_ _)); refine blk_put (cs := #[.int .i64 0, .bool false, .string (⟨#[]⟩ : ByteArray), .string (⟨#[]⟩ : ByteArray), .int .i64 0, .int .i64 0, .int .i64 0, .int .i64 0]) ?_ 0 _ rfl; (with_reducible repeat (first | refine blk_drewN ?_ _ | refine blk_drew ?_ | refine blk_alloc ?_ _)); exact BK167.out))⟩; have n2_ : Aside0 (Below w.heap.size w w17) := ⟨(by rw [hw]; exact (by repeat (first | (with_reducible first | exact HB.out | apply below_alloc | apply pw_below_drewN | apply below_drew1 | refine below_set ?_ GE167.out) | exact HB.out)))⟩; clear hw; clear HO_0; clear BK167; clear HB; have HO_0 := n0_; have BK167 := n1_; have HB := n2_; clear n0_ n1_ n2_; have hcz18_0 : w17.cell? ⟨gb167, 0, none⟩ = some (.int .i64 ((rd_T38 l1 x13_1).f0)) := (blk_cell BK167.out 0).trans rfl; have hcz18_1 : w17.cell? ⟨gb167, 1, none⟩ = some (.bool true) := (blk_cell BK167.out 1).trans rfl; have hcz18_2 : w17.cell? ⟨gb167, 2, none⟩ = some (.string ((rd_T38 l1 x13_1).f2.f0)) := (blk_cell BK167.out 2).trans rfl; have hcz18_3 : w17.cell? ⟨gb167, 3, none⟩ = some (.string ((rd_T38 l1 x13_1).f2.f1)) := (blk_cell BK167.out 3).trans rfl; have hcz18_4 : w17.cell? ⟨gb167, 4, none⟩ = some (.int .i64 ((rd_T38 l1 x13_1).f2.f2)) := (blk_cell BK167.out 4).trans rfl; have hcz18_5 : w17.cell? ⟨gb167, 5, none⟩ = some (.int .i64 ((rd_T38 l1 x13_1).f2.f3)) := (blk_cell BK167.out 5).trans rfl; have hcz18_6 : w17.cell? ⟨gb167, 6, none⟩ = some (.int .i64 ((rd_T38 l1 x13_1).f2.f4)) := (blk_cell BK167.out 6).trans rfl; have hcz18_7 : w17.cell? ⟨gb167, 7, none⟩ = some (.int .i64 ((rd_T38 l1 x13_1).f2.f5)) := (blk_cell BK167.out 7).trans rfl; have hfz18_0 := blk_frozen BK167.out 0; have hfz18_1 := blk_frozen BK167.out 1; have hfz18_2 := blk_frozen BK167.out 2; have hfz18_3 := blk_frozen BK167.out 3; have hfz18_4 := blk_frozen BK167.out 4; have hfz18_5 := blk_frozen BK167.out 5; have hfz18_6 := blk_frozen BK167.out 6; have hfz18_7 := blk_frozen BK167.out 7; obtain ⟨Ao19, co19, eo19⟩ := Kd.R_slice HO_0.out; subst eo19) | ((with_reducible refine gate_callee (f := 16) rfl ?_); refine goesL_ (some 33) rfl rfl Try.func16 (by kernel_rfl) rfl #[.slice Ao19 x0_1.length co19, .string ((rd_T38 l1 x13_1).f2.f0)] rfl (by (try simp only [List.map_toArray, List.map_cons, List.map_nil]); first | done | rfl | (simp only [List.length_drop, List.length_take]; rfl)) ?_; (with_reducible refine (hist_Take.calls (fun k_ => some k_ = (.slice Ao19 x0_1.length co19 : Value).ownBlock) _ _ x0_1 ((rd_T38 l1 x13_1).f2.f0) t168 _ ?side1 A14.out).mono ?_); (case side1 => exact Kd.R_V (Kd.R_tight rfl (Kd.R_types (HO_0.out) BK167.out (by decide)))); rintro e w20 ⟨v169, rfl, ho0, hb⟩; refine ⟨_, rfl, ?_⟩; have n0_ := Aside0.mk (Kd.R_elder' (by (with_reducible repeat (first | apply Kd.R_alloc | apply Kd.R_drewN | apply Kd.R_drew)); exact HO_0.out) (Kd.R_base ho0) hb); have n1_ := Aside0.mk (Kd.R_lower (Kd.R_new' (Kd.R_mono (ok' := fun k_ => True) ho0 (fun _ hk_ => trivial)) (Kd.R_lt (by (with_reducible repeat (first | apply Kd.R_alloc | apply Kd.R_drewN | apply Kd.R_drew)); exact HO_0.out))) (below_size (by repeat (first | (with_reducible first | exact HB.out | apply below_alloc | apply pw_below_drewN | apply below_drew1 | refine below_set ?_ GE167.out) | exact HB.out)))); have n2_ := Aside0.mk (blk_below (g := gb167) (o := .cells #[.int .i64 ((rd_T38 l1 x13_1).f0), .bool true, .string ((rd_T38 l1 x13_1).f2.f0), .string ((rd_T38 l1 x13_1).f2.f1), .int .i64 ((rd_T38 l1 x13_1).f2.f2), .int .i64 ((rd_T38 l1 x13_1).f2.f3), .int .i64 ((rd_T38 l1 x13_1).f2.f4), .int .i64 ((rd_T38 l1 x13_1).f2.f5)] 38 (0, 0)) (by (with_reducible repeat (first | refine blk_drewN ?_ _ | refine blk_drew ?_ | refine blk_alloc ?_ _)); exact BK167.out) hb); have n3_ := Aside0.mk (below_step (by repeat (first | (with_reducible first | exact HB.out | apply below_alloc | apply pw_below_drewN | apply below_drew1 | refine below_set ?_ GE167.out) | exact HB.out)) hb); clear HO_0; clear BK167; clear HB; have HO_0 := n0_; have HO170 := n1_; have BK167 := n2_; have HB := n3_; clear n0_ n1_ n2_ n3_; (try clear ho0)))
        go_roundg k1
        case measure => have := HK1.out; omega
        case rel => exact ⟨(t168), (wrap64 (x13_1 + 1)), (by first | rfl | (simp; done) | (simp [*]; done)), H', ⟨by have := HK1.out; omega⟩, ⟨by (with_reducible repeat (first | apply Kd.R_alloc | apply Kd.R_drewN | apply Kd.R_drew)); exact Kd.R_mono HO170.out (fun _ hk => trivial)⟩, ⟨by repeat (first | (with_reducible first | exact HB.out | apply below_alloc | apply pw_below_drewN | apply below_drew1 | refine below_set ?_ GE167.out) | exact HB.out)⟩⟩
       ·replace c13 := Bool.eq_false_iff.mpr c13
        subst c13
        have H1 := H
        rw [if_neg (show ¬ (false = true) by decide)] at H1
        clear H
        have H := H1
        clear H1
        replace H := Option.bind_eq_some_iff.mp H
        obtain ⟨t171, A210, H⟩ := H
        replace H : (hist_Fold.l0 k1 t171 a2 l1 (l1.length : Int) (wrap64 (x13_1 + 1))) = some r := H
        have A21 := Aside0.mk A210
        clear A210
        have H' := Aside0.mk H
        clear H
        have p166 : 0 ≤ (x13_1 : Int) := of_decide_eq_true (by assumption)
        have q166 : x13_1 < (l1.length : Int) := of_decide_eq_true (by assumption)
        obtain ⟨ad166, e166, hx166_0, hx166_1, hx166_2, hx166_3, hx166_4, hx166_5, hx166_6, hx166_7⟩ := at_T38 HR1.out x13_1 p166 q166
        (try rw [← Nbq12.out] at hx166_1)
        cases e166
        replace hx166_0 := (HB.out.cell (World.block_lt_of_cell? w _ hx166_0)).trans hx166_0
        replace hx166_1 := (HB.out.cell (World.block_lt_of_cell? w _ hx166_1)).trans hx166_1
        replace hx166_2 := (HB.out.cell (World.block_lt_of_cell? w _ hx166_2)).trans hx166_2
        replace hx166_3 := (HB.out.cell (World.block_lt_of_cell? w _ hx166_3)).trans hx166_3
        replace hx166_4 := (HB.out.cell (World.block_lt_of_cell? w _ hx166_4)).trans hx166_4
        replace hx166_5 := (HB.out.cell (World.block_lt_of_cell? w _ hx166_5)).trans hx166_5
        replace hx166_6 := (HB.out.cell (World.block_lt_of_cell? w _ hx166_6)).trans hx166_6
        replace hx166_7 := (HB.out.cell (World.block_lt_of_cell? w _ hx166_7)).trans hx166_7
        replace p166 := eq_true p166
        replace q166 := eq_true q166
        go_wp2_with (first | ((with_reducible refine gate_dst (N := 8) rfl ?_); refine box_event ?hg (N := 8) ?hd (cs := #[.int .i64 0, .bool false, .string (⟨#[]⟩ : ByteArray), .string (⟨#[]⟩ : ByteArray), .int .i64 0, .int .i64 0, .int .i64 0, .int .i64 0]) (t := 38) ?hr ?_; (case hd => rfl); (case hg => rfl); (case hr => first | (go_simp; done) | (go_simp; rfl)); intro gb167 hg w22 hbox hb; have n0_ := Aside0.mk (Kd.R_below (by (with_reducible repeat (first | apply Kd.R_alloc | apply Kd.R_drewN | apply Kd.R_drew)); exact HO_0.out) hb); have n1_ := Aside0.mk (below_step (by repeat (first | (with_reducible first | exact HB.out | apply below_alloc | apply pw_below_drewN | apply below_drew1) | exact HB.out)) hb); have n2_ := Aside0.mk (hbox); have n3_ := Aside0.mk ((by rw [hg]; exact (below_size (by repeat (first | (with_reducible first | exact HB.out | apply below_alloc | apply pw_below_drewN | apply below_drew1) | exact HB.out))) : w.heap.size ≤ gb167)); have n4_ := Aside0.mk ((by rw [hg]; exact (below_size (by repeat (first | (with_reducible first | exact HB.out | apply below_alloc | apply pw_below_drewN | apply below_drew1) | exact HB.out))) : w.heap.size ≤ gb167)); clear HO_0; clear HB; have HO_0 := n0_; have HB := n1_; have BK167 := n2_; have GW167 := n3_; have GE167 := n4_; clear n0_ n1_ n2_ n3_ n4_; clear hb hbox hg; have hcz23_0 : w22.cell? ⟨gb167, 0, none⟩ = some (.int .i64 0) := (blk_cell BK167.out 0).trans rfl; have hcz23_1 : w22.cell? ⟨gb167, 1, none⟩ = some (.bool false) := (blk_cell BK167.out 1).trans rfl; have hcz23_2 : w22.cell? ⟨gb167, 2, none⟩ = some (.string (⟨#[]⟩ : ByteArray)) := (blk_cell BK167.out 2).trans rfl; have hcz23_3 : w22.cell? ⟨gb167, 3, none⟩ = some (.string (⟨#[]⟩ : ByteArray)) := (blk_cell BK167.out 3).trans rfl; have hcz23_4 : w22.cell? ⟨gb167, 4, none⟩ = some (.int .i64 0) := (blk_cell BK167.out 4).trans rfl; have hcz23_5 : w22.cell? ⟨gb167, 5, none⟩ = some (.int .i64 0) := (blk_cell BK167.out 5).trans rfl; have hcz23_6 : w22.cell? ⟨gb167, 6, none⟩ = some (.int .i64 0) := (blk_cell BK167.out 6).trans rfl; have hcz23_7 : w22.cell? ⟨gb167, 7, none⟩ = some (.int .i64 0) := (blk_cell BK167.out 7).trans rfl; have hfz23_0 := blk_frozen BK167.out 0; have hfz23_1 := blk_frozen BK167.out 1; have hfz23_2 := blk_frozen BK167.out 2; have hfz23_3 := blk_frozen BK167.out 3; have hfz23_4 := blk_frozen BK167.out 4; have hfz23_5 := blk_frozen BK167.out 5; have hfz23_6 := blk_frozen BK167.out 6; have hfz23_7 := blk_frozen BK167.out 7; obtain ⟨Ao24, co24, eo24⟩ := Kd.R_slice HO_0.out; subst eo24) | ((with_reducible refine gate_callee (f := 23) rfl ?_); refine goesL_ (some 20) rfl rfl Try.func23 (by kernel_rfl) rfl #[.slice Ao24 x0_1.length co24, .agg #[.string ((rd_T38 l1 x13_1).f2.f0), .string ((rd_T38 l1 x13_1).f2.f1), .int .i64 ((rd_T38 l1 x13_1).f2.f2), .int .i64 ((rd_T38 l1 x13_1).f2.f3), .int .i64 ((rd_T38 l1 x13_1).f2.f4), .int .i64 ((rd_T38 l1 x13_1).f2.f5)]] rfl (by (try simp only [List.map_toArray, List.map_cons, List.map_nil]); first | done | rfl | (simp only [List.length_drop, List.length_take]; rfl)) ?_; (with_reducible refine (hist_Lay.calls k1 _ _ x0_1 ((rd_T38 l1 x13_1).f2.f0) ((rd_T38 l1 x13_1).f2.f1) ((rd_T38 l1 x13_1).f2.f2) ((rd_T38 l1 x13_1).f2.f3) ((rd_T38 l1 x13_1).f2.f4) ((rd_T38 l1 x13_1).f2.f5) t171 _ ?side1 ?side2 A21.out).mono ?_); (case side1 => refine (Kd.R_reads' (e := 26) (base := w.heap.size) (ok := fun k_ => True) (n := x0_1.length) (c := co24) ?_).2.2; exact (by (with_reducible repeat (first | apply Kd.R_alloc | apply Kd.R_drewN | apply Kd.R_drew)); exact (Kd.R_mono (Kd.R_far (p := ⟨gb167, 7, none⟩) (Kd.R_far (p := ⟨gb167, 6, none⟩) (Kd.R_far (p := ⟨gb167, 5, none⟩) (Kd.R_far (p := ⟨gb167, 4, none⟩) (Kd.R_far (p := ⟨gb167, 3, none⟩) (Kd.R_far (p := ⟨gb167, 2, none⟩) (Kd.R_far (p := ⟨gb167, 1, none⟩) (Kd.R_far (p := ⟨gb167, 0, none⟩) (Kd.R_types HO_0.out BK167.out (by decide)) (fun _ hk => hk.2) (.int .i64 ((rd_T38 l1 x13_1).f0))) (fun _ hk => hk.2) (.bool false)) (fun _ hk => hk.2) (.string ((rd_T38 l1 x13_1).f2.f0))) (fun _ hk => hk.2) (.string ((rd_T38 l1 x13_1).f2.f1))) (fun _ hk => hk.2) (.int .i64 ((rd_T38 l1 x13_1).f2.f2))) (fun _ hk => hk.2) (.int .i64 ((rd_T38 l1 x13_1).f2.f3))) (fun _ hk => hk.2) (.int .i64 ((rd_T38 l1 x13_1).f2.f4))) (fun _ hk => hk.2) (.int .i64 ((rd_T38 l1 x13_1).f2.f5))) (fun _ h_ => h_.1)))); (case side2 => exact (Kd.R_reads' HO_0.out).2.1); rintro e w25 ⟨v172, rfl, ho0, hb⟩; refine ⟨_, rfl, ?_⟩; have n0_ := Aside0.mk (Kd.R_elder' (by (with_reducible repeat (first | apply Kd.R_alloc | apply Kd.R_drewN | apply Kd.R_drew)); exact (Kd.R_mono (Kd.R_far (p := ⟨gb167, 7, none⟩) (Kd.R_far (p := ⟨gb167, 6, none⟩) (Kd.R_far (p := ⟨gb167, 5, none⟩) (Kd.R_far (p := ⟨gb167, 4, none⟩) (Kd.R_far (p := ⟨gb167, 3, none⟩) (Kd.R_far (p := ⟨gb167, 2, none⟩) (Kd.R_far (p := ⟨gb167, 1, none⟩) (Kd.R_far (p := ⟨gb167, 0, none⟩) (Kd.R_types HO_0.out BK167.out (by decide)) (fun _ hk => hk.2) (.int .i64 ((rd_T38 l1 x13_1).f0))) (fun _ hk => hk.2) (.bool false)) (fun _ hk => hk.2) (.string ((rd_T38 l1 x13_1).f2.f0))) (fun _ hk => hk.2) (.string ((rd_T38 l1 x13_1).f2.f1))) (fun _ hk => hk.2) (.int .i64 ((rd_T38 l1 x13_1).f2.f2))) (fun _ hk => hk.2) (.int .i64 ((rd_T38 l1 x13_1).f2.f3))) (fun _ hk => hk.2) (.int .i64 ((rd_T38 l1 x13_1).f2.f4))) (fun _ hk => hk.2) (.int .i64 ((rd_T38 l1 x13_1).f2.f5))) (fun _ h_ => h_.1))) (Kd.R_base ho0) hb); have n1_ := Aside0.mk (Kd.R_lower (Kd.R_new' ho0 (Kd.R_lt (by (with_reducible repeat (first | apply Kd.R_alloc | apply Kd.R_drewN | apply Kd.R_drew)); exact (Kd.R_mono (Kd.R_far (p := ⟨gb167, 7, none⟩) (Kd.R_far (p := ⟨gb167, 6, none⟩) (Kd.R_far (p := ⟨gb167, 5, none⟩) (Kd.R_far (p := ⟨gb167, 4, none⟩) (Kd.R_far (p := ⟨gb167, 3, none⟩) (Kd.R_far (p := ⟨gb167, 2, none⟩) (Kd.R_far (p := ⟨gb167, 1, none⟩) (Kd.R_far (p := ⟨gb167, 0, none⟩) (Kd.R_types HO_0.out BK167.out (by decide)) (fun _ hk => hk.2) (.int .i64 ((rd_T38 l1 x13_1).f0))) (fun _ hk => hk.2) (.bool false)) (fun _ hk => hk.2) (.string ((rd_T38 l1 x13_1).f2.f0))) (fun _ hk => hk.2) (.string ((rd_T38 l1 x13_1).f2.f1))) (fun _ hk => hk.2) (.int .i64 ((rd_T38 l1 x13_1).f2.f2))) (fun _ hk => hk.2) (.int .i64 ((rd_T38 l1 x13_1).f2.f3))) (fun _ hk => hk.2) (.int .i64 ((rd_T38 l1 x13_1).f2.f4))) (fun _ hk => hk.2) (.int .i64 ((rd_T38 l1 x13_1).f2.f5))) (fun _ h_ => h_.1))))) (below_size (by repeat (first | (with_reducible first | exact HB.out | apply below_alloc | apply pw_below_drewN | apply below_drew1 | refine below_set ?_ GE167.out) | exact HB.out)))); have n2_ := Aside0.mk (blk_below (g := gb167) (o := .cells #[.int .i64 ((rd_T38 l1 x13_1).f0), .bool false, .string ((rd_T38 l1 x13_1).f2.f0), .string ((rd_T38 l1 x13_1).f2.f1), .int .i64 ((rd_T38 l1 x13_1).f2.f2), .int .i64 ((rd_T38 l1 x13_1).f2.f3), .int .i64 ((rd_T38 l1 x13_1).f2.f4), .int .i64 ((rd_T38 l1 x13_1).f2.f5)] 38 (0, 0)) (by (with_reducible repeat (first | refine blk_drewN ?_ _ | refine blk_drew ?_ | refine blk_alloc ?_ _)); refine blk_put (cs := #[.int .i64 ((rd_T38 l1 x13_1).f0), .bool false, .string ((rd_T38 l1 x13_1).f2.f0), .string ((rd_T38 l1 x13_1).f2.f1), .int .i64 ((rd_T38 l1 x13_1).f2.f2), .int .i64 ((rd_T38 l1 x13_1).f2.f3), .int .i64 ((rd_T38 l1 x13_1).f2.f4), .int .i64 0]) ?_ 7 _ rfl; (with_reducible repeat (first | refine blk_drewN ?_ _ | refine blk_drew ?_ | refine blk_alloc ?_ _)); refine blk_put (cs := #[.int .i64 ((rd_T38 l1 x13_1).f0), .bool false, .string ((rd_T38 l1 x13_1).f2.f0), .string ((rd_T38 l1 x13_1).f2.f1), .int .i64 ((rd_T38 l1 x13_1).f2.f2), .int .i64 ((rd_T38 l1 x13_1).f2.f3), .int .i64 0, .int .i64 0]) ?_ 6 _ rfl; (with_reducible repeat (first | refine blk_drewN ?_ _ | refine blk_drew ?_ | refine blk_alloc ?_ _)); refine blk_put (cs := #[.int .i64 ((rd_T38 l1 x13_1).f0), .bool false, .string ((rd_T38 l1 x13_1).f2.f0), .string ((rd_T38 l1 x13_1).f2.f1), .int .i64 ((rd_T38 l1 x13_1).f2.f2), .int .i64 0, .int .i64 0, .int .i64 0]) ?_ 5 _ rfl; (with_reducible repeat (first | refine blk_drewN ?_ _ | refine blk_drew ?_ | refine blk_alloc ?_ _)); refine blk_put (cs := #[.int .i64 ((rd_T38 l1 x13_1).f0), .bool false, .string ((rd_T38 l1 x13_1).f2.f0), .string ((rd_T38 l1 x13_1).f2.f1), .int .i64 0, .int .i64 0, .int .i64 0, .int .i64 0]) ?_ 4 _ rfl; (with_reducible repeat (first | refine blk_drewN ?_ _ | refine blk_drew ?_ | refine blk_alloc ?_ _)); refine blk_put (cs := #[.int .i64 ((rd_T38 l1 x13_1).f0), .bool false, .string ((rd_T38 l1 x13_1).f2.f0), .string (⟨#[]⟩ : ByteArray), .int .i64 0, .int .i64 0, .int .i64 0, .int .i64 0]) ?_ 3 _ rfl; (with_reducible repeat (first | refine blk_drewN ?_ _ | refine blk_drew ?_ | refine blk_alloc ?_ _)); refine blk_put (cs := #[.int .i64 ((rd_T38 l1 x13_1).f0), .bool false, .string (⟨#[]⟩ : ByteArray), .string (⟨#[]⟩ : ByteArray), .int .i64 0, .int .i64 0, .int .i64 0, .int .i64 0]) ?_ 2 _ rfl; (with_reducible repeat (first | refine blk_drewN ?_ _ | refine blk_drew ?_ | refine blk_alloc ?_ _)); refine blk_put (cs := #[.int .i64 ((rd_T38 l1 x13_1).f0), .bool false, .string (⟨#[]⟩ : ByteArray), .string (⟨#[]⟩ : ByteArray), .int .i64 0, .int .i64 0, .int .i64 0, .int .i64 0]) ?_ 1 _ rfl; (with_reducible repeat (first | refine blk_drewN ?_ _ | refine blk_drew ?_ | refine blk_alloc ?_ _)); refine blk_put (cs := #[.int .i64 0, .bool false, .string (⟨#[]⟩ : ByteArray), .string (⟨#[]⟩ : ByteArray), .int .i64 0, .int .i64 0, .int .i64 0, .int .i64 0]) ?_ 0 _ rfl; (with_reducible repeat (first | refine blk_drewN ?_ _ | refine blk_drew ?_ | refine blk_alloc ?_ _)); exact BK167.out) hb); have n3_ := Aside0.mk (below_step (by repeat (first | (with_reducible first | exact HB.out | apply below_alloc | apply pw_below_drewN | apply below_drew1 | refine below_set ?_ GE167.out) | exact HB.out)) hb); clear HO_0; clear BK167; clear HB; have HO_0 := n0_; have HO173 := n1_; have BK167 := n2_; have HB := n3_; clear n0_ n1_ n2_ n3_; (try clear ho0)))
        go_roundg k1
        case measure => have := HK1.out; omega
        case rel => exact ⟨(t171), (wrap64 (x13_1 + 1)), (by first | rfl | (simp; done) | (simp [*]; done)), H', ⟨by have := HK1.out; omega⟩, ⟨by (with_reducible repeat (first | apply Kd.R_alloc | apply Kd.R_drewN | apply Kd.R_drew)); exact Kd.R_mono HO173.out (fun _ hk => trivial)⟩, ⟨by repeat (first | (with_reducible first | exact HB.out | apply below_alloc | apply pw_below_drewN | apply below_drew1 | refine below_set ?_ GE167.out) | exact HB.out)⟩⟩
     ·rw [if_neg c8] at H
      exact absurd H (by simp)
    ·rw [if_neg c7] at H
     exact absurd H (by simp)
   ·rw [if_neg c6] at H
    have c6b0 : decide (x13_1 < (l1.length : Int)) = false := decide_eq_false c6
    clear c6
    obtain rfl := Option.some.inj H
    go_wp2
    go_ret
    exact ⟨_, by first | rfl | (simp [*] <;> rfl), by (with_reducible repeat (first | apply Kd.R_alloc | apply Kd.R_drewN | apply Kd.R_drew)); exact HO_0.out, by repeat (first | (with_reducible first | exact HB.out | apply below_alloc | apply pw_below_drewN | apply below_drew1) | exact HB.out)⟩

/-! ### batonlaw04_kv: function 26 -/
def batonlaw04_kv.f (a0 : ByteArray) (a1 : Int) : Option (ByteArray × ByteArray × Int × Int × Int × Int) := some (a0, (⟨#[]⟩ : ByteArray), a1, a1, 1, 0)
set_option maxHeartbeats 8000000 in
set_option maxRecDepth 100000 in
theorem batonlaw04_kv.calls (a0 : ByteArray) (a1 : Int) (r1 : ByteArray) (r2 : ByteArray) (r3 : Int) (r4 : Int) (r5 : Int) (r6 : Int) (w : World) (h : batonlaw04_kv.f a0 a1 = some (r1, r2, r3, r4, r5, r6)) :
    Calls Try.prog 26 #[.string a0, .int .i64 a1] w fun e w' => e = .returned (.agg #[.string r1, .string r2, .int .i64 r3, .int .i64 r4, .int .i64 r5, .int .i64 r6]) ∧ Below w.heap.size w w' := by
  have hu26 := Try.underlying26
  have HB := Aside0.mk (Below.refl w.heap.size w)
  have H : (some (a0, (⟨#[]⟩ : ByteArray), a1, a1, 1, 0)) = some (r1, r2, r3, r4, r5, r6) := h
  clear h
  simp only [Option.some.injEq, Prod.mk.injEq] at H
  obtain ⟨rfl, rfl, rfl, rfl, rfl, rfl⟩ := H
  go_enter Try.func26, Try.ntmps26
  go_wp2_with (first | ((with_reducible refine gate_dst (N := 4) rfl ?_); refine box_event ?hg (N := 4) ?hd (cs := #[.string (⟨#[]⟩ : ByteArray), .string (⟨#[]⟩ : ByteArray), .int .i64 0, .int .i64 0, .int .i64 0, .int .i64 0]) (t := 26) ?hr ?_; (case hd => rfl); (case hg => rfl); (case hr => first | (go_simp; done) | (go_simp; rfl)); intro gb174 hg w3 hbox hb; have n0_ := Aside0.mk (below_step (by repeat (first | (with_reducible first | exact HB.out | apply below_alloc | apply pw_below_drewN | apply below_drew1) | exact HB.out)) hb); have n1_ := Aside0.mk (hbox); have n2_ := Aside0.mk ((by rw [hg]; exact (below_size (by repeat (first | (with_reducible first | exact HB.out | apply below_alloc | apply pw_below_drewN | apply below_drew1) | exact HB.out))) : w.heap.size ≤ gb174)); have n3_ := Aside0.mk ((by rw [hg]; exact (below_size (by repeat (first | (with_reducible first | exact HB.out | apply below_alloc | apply pw_below_drewN | apply below_drew1) | exact HB.out))) : w.heap.size ≤ gb174)); clear HB; have HB := n0_; have BK174 := n1_; have GW174 := n2_; have GE174 := n3_; clear n0_ n1_ n2_ n3_; clear hb hbox hg; have hcz4_0 : w3.cell? ⟨gb174, 0, none⟩ = some (.string (⟨#[]⟩ : ByteArray)) := (blk_cell BK174.out 0).trans rfl; have hcz4_1 : w3.cell? ⟨gb174, 1, none⟩ = some (.string (⟨#[]⟩ : ByteArray)) := (blk_cell BK174.out 1).trans rfl; have hcz4_2 : w3.cell? ⟨gb174, 2, none⟩ = some (.int .i64 0) := (blk_cell BK174.out 2).trans rfl; have hcz4_3 : w3.cell? ⟨gb174, 3, none⟩ = some (.int .i64 0) := (blk_cell BK174.out 3).trans rfl; have hcz4_4 : w3.cell? ⟨gb174, 4, none⟩ = some (.int .i64 0) := (blk_cell BK174.out 4).trans rfl; have hcz4_5 : w3.cell? ⟨gb174, 5, none⟩ = some (.int .i64 0) := (blk_cell BK174.out 5).trans rfl; have hfz4_0 := blk_frozen BK174.out 0; have hfz4_1 := blk_frozen BK174.out 1; have hfz4_2 := blk_frozen BK174.out 2; have hfz4_3 := blk_frozen BK174.out 3; have hfz4_4 := blk_frozen BK174.out 4; have hfz4_5 := blk_frozen BK174.out 5))
  refine bodyPost_ret (results_cell_row rfl _ _ gb174 26 #[.string a0, .string (⟨#[]⟩ : ByteArray), .int .i64 a1, .int .i64 a1, .int .i64 1, .int .i64 0] (0, 0) _ rfl (by (with_reducible repeat (first | refine blk_drewN ?_ _ | refine blk_drew ?_ | refine blk_alloc ?_ _)); refine blk_put (cs := #[.string a0, .string (⟨#[]⟩ : ByteArray), .int .i64 a1, .int .i64 a1, .int .i64 1, .int .i64 0]) ?_ 5 _ rfl; (with_reducible repeat (first | refine blk_drewN ?_ _ | refine blk_drew ?_ | refine blk_alloc ?_ _)); refine blk_put (cs := #[.string a0, .string (⟨#[]⟩ : ByteArray), .int .i64 a1, .int .i64 a1, .int .i64 0, .int .i64 0]) ?_ 4 _ rfl; (with_reducible repeat (first | refine blk_drewN ?_ _ | refine blk_drew ?_ | refine blk_alloc ?_ _)); refine blk_put (cs := #[.string a0, .string (⟨#[]⟩ : ByteArray), .int .i64 a1, .int .i64 0, .int .i64 0, .int .i64 0]) ?_ 3 _ rfl; (with_reducible repeat (first | refine blk_drewN ?_ _ | refine blk_drew ?_ | refine blk_alloc ?_ _)); refine blk_put (cs := #[.string a0, .string (⟨#[]⟩ : ByteArray), .int .i64 0, .int .i64 0, .int .i64 0, .int .i64 0]) ?_ 2 _ rfl; (with_reducible repeat (first | refine blk_drewN ?_ _ | refine blk_drew ?_ | refine blk_alloc ?_ _)); refine blk_put (cs := #[.string a0, .string (⟨#[]⟩ : ByteArray), .int .i64 0, .int .i64 0, .int .i64 0, .int .i64 0]) ?_ 1 _ rfl; (with_reducible repeat (first | refine blk_drewN ?_ _ | refine blk_drew ?_ | refine blk_alloc ?_ _)); refine blk_put (cs := #[.string (⟨#[]⟩ : ByteArray), .string (⟨#[]⟩ : ByteArray), .int .i64 0, .int .i64 0, .int .i64 0, .int .i64 0]) ?_ 0 _ rfl; (with_reducible repeat (first | refine blk_drewN ?_ _ | refine blk_drew ?_ | refine blk_alloc ?_ _)); exact BK174.out) Try.underlying26 rfl (by kernel_rfl)) rfl ?_
  exact ⟨by first | rfl | (simp [errW_none, errW_some] <;> rfl) | (simp [*, errW_none, errW_some] <;> rfl), by repeat (first | (with_reducible first | exact HB.out | apply below_alloc | apply pw_below_drewN | apply below_drew1 | refine below_set ?_ GE174.out) | exact HB.out)⟩

end Go.Proofs.Ytldblgcbmhkmaaa.PM
