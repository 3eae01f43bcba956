-- made by a program of this session (wip/tools/myprint.py over the kit's print) out of the translation; Lean checks it
import Derived.Test.YtldblgcbmhkmaaaPM0
import Derived.Test.YtldblgcbmhkmaaaPM1
import Derived.Test.YtldblgcbmhkmaaaPM2
import Derived.Test.YtldblgcbmhkmaaaPM4
import Derived.Test.YtldblgcbmhkmaaaPM6
import Derived.Test.YtldblgcbmhkmaaaPM10
import Derived.Test.YtldblgcbmhkmaaaPM11
import Derived.Test.YtldblgcbmhkmaaaPM12
import Derived.Test.YtldblgcbmhkmaaaPM16
namespace Go.Proofs.Ytldblgcbmhkmaaa.PM
open Go.RowKit Go.Proofs.YtldblgcbmhkmaaaW.PrintWords Go.Proofs.YtldblgcbmhkmaaaW.PrintLast Go.Proofs.YtldblgcbmhkmaaaW.PrintMore
attribute [local go_sem] max2_int min2_int max_two min_two max_three min_three max_four min_four   -- for this text's walks alone
attribute [local go_sem high] Go.Proofs.Ytldblgcbmhkmaaa.My.str_leq Go.Proofs.Ytldblgcbmhkmaaa.My.str_gtr
set_option linter.unusedVariables false
set_option linter.unusedSimpArgs false

attribute [local go_sem high] eqA26
/-! ### batonlaw04_HistLaid: function 5 -/
mutual
def batonlaw04_HistLaid.j0 : Nat → List (S26) → ByteArray → Bool → ByteArray → ByteArray → Int → Int → Int → Int → Option (Bool)
 | 0, _, _, _, _, _, _, _, _, _ => none
 | k + 1, x0, x2, x51, x383000, x383001, x383002, x383003, x383004, x383005 => if x51 = true then ((batonlaw04_live.f k).bind fun t386 => (some t386)) else ((hist_Lay.f k x0 x383000 x383001 x383002 x383003 x383004 x383005).bind fun t387 => ((hist_Take.f x0 x383000).bind fun t390 => ((hist_Find.f t387 x383000).bind fun bt393 => ((hist_Find.f t390 x383000).bind fun bt401 => ((hist_Find.f x0 x383000).bind fun bt409 => ((hist_Find.f x0 x2).bind fun bt417 => ((hist_Find.f t387 x2).bind fun bt425 => ((hist_Find.f t390 x2).bind fun bt433 => (if bt393.2.2.2.2.2.2 = true then (if (!(bt393.1.toList == x383000.toList) || (!(bt393.2.1.toList == x383001.toList) || (!(bt393.2.2.1 == x383002) || (!(bt393.2.2.2.1 == x383003) || (!(bt393.2.2.2.2.1 == x383004) || (!(bt393.2.2.2.2.2.1 == x383005))))))) = true then (batonlaw04_HistLaid.j1 k x0 x2 t387 t390 bt409.2.2.2.2.2.2 bt417.2.2.2.2.2.2 bt425.2.2.2.2.2.2 bt433.2.2.2.2.2.2 true x383000 x383001 x383002 x383003 x383004 x383005 bt417.1 bt417.2.1 bt417.2.2.1 bt417.2.2.2.1 bt417.2.2.2.2.1 bt417.2.2.2.2.2.1 bt425.1 bt425.2.1 bt425.2.2.1 bt425.2.2.2.1 bt425.2.2.2.2.1 bt425.2.2.2.2.2.1 bt433.1 bt433.2.1 bt433.2.2.1 bt433.2.2.2.1 bt433.2.2.2.2.1 bt433.2.2.2.2.2.1) else (if bt401.2.2.2.2.2.2 = true then (batonlaw04_HistLaid.j1 k x0 x2 t387 t390 bt409.2.2.2.2.2.2 bt417.2.2.2.2.2.2 bt425.2.2.2.2.2.2 bt433.2.2.2.2.2.2 true x383000 x383001 x383002 x383003 x383004 x383005 bt417.1 bt417.2.1 bt417.2.2.1 bt417.2.2.2.1 bt417.2.2.2.2.1 bt417.2.2.2.2.2.1 bt425.1 bt425.2.1 bt425.2.2.1 bt425.2.2.2.1 bt425.2.2.2.2.1 bt425.2.2.2.2.2.1 bt433.1 bt433.2.1 bt433.2.2.1 bt433.2.2.2.1 bt433.2.2.2.2.1 bt433.2.2.2.2.2.1) else ((hist_May.f k t387).bind fun t441 => (if t441 = true then ((hist_May.f k t390).bind fun t442 => (batonlaw04_HistLaid.j1 k x0 x2 t387 t390 bt409.2.2.2.2.2.2 bt417.2.2.2.2.2.2 bt425.2.2.2.2.2.2 bt433.2.2.2.2.2.2 (!t442) x383000 x383001 x383002 x383003 x383004 x383005 bt417.1 bt417.2.1 bt417.2.2.1 bt417.2.2.2.1 bt417.2.2.2.2.1 bt417.2.2.2.2.2.1 bt425.1 bt425.2.1 bt425.2.2.1 bt425.2.2.2.1 bt425.2.2.2.2.1 bt425.2.2.2.2.2.1 bt433.1 bt433.2.1 bt433.2.2.1 bt433.2.2.2.1 bt433.2.2.2.2.1 bt433.2.2.2.2.2.1)) else (batonlaw04_HistLaid.j1 k x0 x2 t387 t390 bt409.2.2.2.2.2.2 bt417.2.2.2.2.2.2 bt425.2.2.2.2.2.2 bt433.2.2.2.2.2.2 true x383000 x383001 x383002 x383003 x383004 x383005 bt417.1 bt417.2.1 bt417.2.2.1 bt417.2.2.2.1 bt417.2.2.2.2.1 bt417.2.2.2.2.2.1 bt425.1 bt425.2.1 bt425.2.2.1 bt425.2.2.2.1 bt425.2.2.2.2.1 bt425.2.2.2.2.2.1 bt433.1 bt433.2.1 bt433.2.2.1 bt433.2.2.2.1 bt433.2.2.2.2.1 bt433.2.2.2.2.2.1))))) else (batonlaw04_HistLaid.j1 k x0 x2 t387 t390 bt409.2.2.2.2.2.2 bt417.2.2.2.2.2.2 bt425.2.2.2.2.2.2 bt433.2.2.2.2.2.2 true x383000 x383001 x383002 x383003 x383004 x383005 bt417.1 bt417.2.1 bt417.2.2.1 bt417.2.2.2.1 bt417.2.2.2.2.1 bt417.2.2.2.2.2.1 bt425.1 bt425.2.1 bt425.2.2.1 bt425.2.2.2.1 bt425.2.2.2.2.1 bt425.2.2.2.2.2.1 bt433.1 bt433.2.1 bt433.2.2.1 bt433.2.2.2.1 bt433.2.2.2.2.1 bt433.2.2.2.2.2.1))))))))))
def batonlaw04_HistLaid.j1 : Nat → List (S26) → ByteArray → List (S26) → List (S26) → Bool → Bool → Bool → Bool → Bool → ByteArray → ByteArray → Int → Int → Int → Int → ByteArray → ByteArray → Int → Int → Int → Int → ByteArray → ByteArray → Int → Int → Int → Int → ByteArray → ByteArray → Int → Int → Int → Int → Option (Bool)
 | 0, _, _, _, _, _, _, _, _, _, _, _, _, _, _, _, _, _, _, _, _, _, _, _, _, _, _, _, _, _, _, _, _, _ => none
 | k + 1, x0, x2, x7, x8, x14, x16, x18, x20, x118, x383000, x383001, x383002, x383003, x383004, x383005, x425000, x425001, x425002, x425003, x425004, x425005, x433000, x433001, x433002, x433003, x433004, x433005, x441000, x441001, x441002, x441003, x441004, x441005 => if x118 = true then (none) else (if x2.toList = x383000.toList then (batonlaw04_HistLaid.j2 k x0 x7 x8 x14 false) else (if (!(x425000.toList == x433000.toList) || (!(x425001.toList == x433001.toList) || (!(x425002 == x433002) || (!(x425003 == x433003) || (!(x425004 == x433004) || (!(x425005 == x433005))))))) = true then (batonlaw04_HistLaid.j2 k x0 x7 x8 x14 true) else (if (x16 != x18) = true then (batonlaw04_HistLaid.j2 k x0 x7 x8 x14 true) else (if (!(x425000.toList == x441000.toList) || (!(x425001.toList == x441001.toList) || (!(x425002 == x441002) || (!(x425003 == x441003) || (!(x425004 == x441004) || (!(x425005 == x441005))))))) = true then (batonlaw04_HistLaid.j2 k x0 x7 x8 x14 true) else (batonlaw04_HistLaid.j2 k x0 x7 x8 x14 (x16 != x20))))))
def batonlaw04_HistLaid.j2 : Nat → List (S26) → List (S26) → List (S26) → Bool → Bool → Option (Bool)
 | 0, _, _, _, _, _ => none
 | k + 1, x0, x7, x8, x14, x142 => if x142 = true then (none) else (if x14 = true then (if (x7.length : Int) = (wrap64 ((x0.length : Int) + 0)) then (if (x8.length : Int) = (wrap64 ((wrap64 ((x0.length : Int) + 0)) - 1)) then ((batonlaw04_live.f k).bind fun t443 => (some t443)) else (none)) else (none)) else (if (x7.length : Int) = (wrap64 ((x0.length : Int) + 1)) then (if (x8.length : Int) = (wrap64 ((wrap64 ((x0.length : Int) + 1)) - 1)) then ((batonlaw04_live.f k).bind fun t444 => (some t444)) else (none)) else (none)))
end
def batonlaw04_HistLaid.f (k : Nat) (l0 : List (S26)) (a1_0 : ByteArray) (a1_1 : ByteArray) (a1_2 : Int) (a1_3 : Int) (a1_4 : Int) (a1_5 : Int) (a2 : ByteArray) : Option (Bool) := (batonref03_Few.f k l0 40).bind fun t383 => (if t383 = true then (if (a1_0.size : Int) > 60 then (batonlaw04_HistLaid.j0 k l0 a2 true a1_0 a1_1 a1_2 a1_3 a1_4 a1_5) else (if (a1_1.size : Int) > 60 then (batonlaw04_HistLaid.j0 k l0 a2 true a1_0 a1_1 a1_2 a1_3 a1_4 a1_5) else (if (a2.size : Int) > 60 then (batonlaw04_HistLaid.j0 k l0 a2 true a1_0 a1_1 a1_2 a1_3 a1_4 a1_5) else ((hist_May.f k l0).bind fun t384 => (if t384 = true then ((batonref04_One.f k a1_0 a1_1 a1_2 a1_3 a1_4 a1_5).bind fun t385 => (batonlaw04_HistLaid.j0 k l0 a2 (!t385) a1_0 a1_1 a1_2 a1_3 a1_4 a1_5)) else (batonlaw04_HistLaid.j0 k l0 a2 true a1_0 a1_1 a1_2 a1_3 a1_4 a1_5)))))) else (batonlaw04_HistLaid.j0 k l0 a2 true a1_0 a1_1 a1_2 a1_3 a1_4 a1_5))
theorem batonlaw04_HistLaid.mono_l : ∀ k, (∀ y0 y1 y2 y3 y4 y5 y6 y7 y8, LeO (batonlaw04_HistLaid.j0 k y0 y1 y2 y3 y4 y5 y6 y7 y8) (batonlaw04_HistLaid.j0 (k + 1) y0 y1 y2 y3 y4 y5 y6 y7 y8)) ∧ (∀ y0 y1 y2 y3 y4 y5 y6 y7 y8 y9 y10 y11 y12 y13 y14 y15 y16 y17 y18 y19 y20 y21 y22 y23 y24 y25 y26 y27 y28 y29 y30 y31 y32, LeO (batonlaw04_HistLaid.j1 k y0 y1 y2 y3 y4 y5 y6 y7 y8 y9 y10 y11 y12 y13 y14 y15 y16 y17 y18 y19 y20 y21 y22 y23 y24 y25 y26 y27 y28 y29 y30 y31 y32) (batonlaw04_HistLaid.j1 (k + 1) y0 y1 y2 y3 y4 y5 y6 y7 y8 y9 y10 y11 y12 y13 y14 y15 y16 y17 y18 y19 y20 y21 y22 y23 y24 y25 y26 y27 y28 y29 y30 y31 y32)) ∧ (∀ y0 y1 y2 y3 y4, LeO (batonlaw04_HistLaid.j2 k y0 y1 y2 y3 y4) (batonlaw04_HistLaid.j2 (k + 1) y0 y1 y2 y3 y4))
 | 0 => ⟨fun _ _ _ _ _ _ _ _ _ r h => by simp [batonlaw04_HistLaid.j0] at h, fun _ _ _ _ _ _ _ _ _ _ _ _ _ _ _ _ _ _ _ _ _ _ _ _ _ _ _ _ _ _ _ _ _ r h => by simp [batonlaw04_HistLaid.j1] at h, fun _ _ _ _ _ r h => by simp [batonlaw04_HistLaid.j2] at h⟩
 | k + 1 => by
  obtain ⟨ih0, ih1, ih2⟩ := batonlaw04_HistLaid.mono_l k
  refine ⟨?_, ?_, ?_⟩
  ·intro y0 y1 y2 y3 y4 y5 y6 y7 y8
   unfold batonlaw04_HistLaid.j0
   repeat' first
   | (with_reducible exact ih0 _ _ _ _ _ _ _ _ _)
   | (with_reducible exact ih1 _ _ _ _ _ _ _ _ _ _ _ _ _ _ _ _ _ _ _ _ _ _ _ _ _ _ _ _ _ _ _ _ _)
   | (with_reducible exact ih2 _ _ _ _ _)
   | (with_reducible exact batonlaw04_live.mono _)
   | (with_reducible exact batonref03_Few.mono _ _ _)
   | (with_reducible exact batonref04_One.mono _ _ _ _ _ _ _)
   | (with_reducible exact hist_Lay.mono _ _ _ _ _ _ _ _)
   | (with_reducible exact hist_May.mono _ _)
   | (with_reducible exact LeO.refl _)
   | (with_reducible exact LeO.none _)
   | (with_reducible refine LeO.ite ?_ ?_)
   | (with_reducible refine LeO.bind ?_ (fun _ => ?_))
   | exact ih0 _ _ _ _ _ _ _ _ _
   | exact ih1 _ _ _ _ _ _ _ _ _ _ _ _ _ _ _ _ _ _ _ _ _ _ _ _ _ _ _ _ _ _ _ _ _
   | exact ih2 _ _ _ _ _
   | exact batonlaw04_live.mono _
   | exact batonref03_Few.mono _ _ _
   | exact batonref04_One.mono _ _ _ _ _ _ _
   | exact hist_Lay.mono _ _ _ _ _ _ _ _
   | exact hist_May.mono _ _
   | exact LeO.none _
   | refine LeO.ite ?_ ?_
   | refine LeO.bind ?_ (fun _ => ?_)
  ·intro y0 y1 y2 y3 y4 y5 y6 y7 y8 y9 y10 y11 y12 y13 y14 y15 y16 y17 y18 y19 y20 y21 y22 y23 y24 y25 y26 y27 y28 y29 y30 y31 y32
   unfold batonlaw04_HistLaid.j1
   repeat' first
   | (with_reducible exact ih0 _ _ _ _ _ _ _ _ _)
   | (with_reducible exact ih1 _ _ _ _ _ _ _ _ _ _ _ _ _ _ _ _ _ _ _ _ _ _ _ _ _ _ _ _ _ _ _ _ _)
   | (with_reducible exact ih2 _ _ _ _ _)
   | (with_reducible exact batonlaw04_live.mono _)
   | (with_reducible exact batonref03_Few.mono _ _ _)
   | (with_reducible exact batonref04_One.mono _ _ _ _ _ _ _)
   | (with_reducible exact hist_Lay.mono _ _ _ _ _ _ _ _)
   | (with_reducible exact hist_May.mono _ _)
   | (with_reducible exact LeO.refl _)
   | (with_reducible exact LeO.none _)
   | (with_reducible refine LeO.ite ?_ ?_)
   | (with_reducible refine LeO.bind ?_ (fun _ => ?_))
   | exact ih0 _ _ _ _ _ _ _ _ _
   | exact ih1 _ _ _ _ _ _ _ _ _ _ _ _ _ _ _ _ _ _ _ _ _ _ _ _ _ _ _ _ _ _ _ _ _
   | exact ih2 _ _ _ _ _
   | exact batonlaw04_live.mono _
   | exact batonref03_Few.mono _ _ _
   | exact batonref04_One.mono _ _ _ _ _ _ _
   | exact hist_Lay.mono _ _ _ _ _ _ _ _
   | exact hist_May.mono _ _
   | exact LeO.none _
   | refine LeO.ite ?_ ?_
   | refine LeO.bind ?_ (fun _ => ?_)
  ·intro y0 y1 y2 y3 y4
   unfold batonlaw04_HistLaid.j2
   repeat' first
   | (with_reducible exact ih0 _ _ _ _ _ _ _ _ _)
   | (with_reducible exact ih1 _ _ _ _ _ _ _ _ _ _ _ _ _ _ _ _ _ _ _ _ _ _ _ _ _ _ _ _ _ _ _ _ _)
   | (with_reducible exact ih2 _ _ _ _ _)
   | (with_reducible exact batonlaw04_live.mono _)
   | (with_reducible exact batonref03_Few.mono _ _ _)
   | (with_reducible exact batonref04_One.mono _ _ _ _ _ _ _)
   | (with_reducible exact hist_Lay.mono _ _ _ _ _ _ _ _)
   | (with_reducible exact hist_May.mono _ _)
   | (with_reducible exact LeO.refl _)
   | (with_reducible exact LeO.none _)
   | (with_reducible refine LeO.ite ?_ ?_)
   | (with_reducible refine LeO.bind ?_ (fun _ => ?_))
   | exact ih0 _ _ _ _ _ _ _ _ _
   | exact ih1 _ _ _ _ _ _ _ _ _ _ _ _ _ _ _ _ _ _ _ _ _ _ _ _ _ _ _ _ _ _ _ _ _
   | exact ih2 _ _ _ _ _
   | exact batonlaw04_live.mono _
   | exact batonref03_Few.mono _ _ _
   | exact batonref04_One.mono _ _ _ _ _ _ _
   | exact hist_Lay.mono _ _ _ _ _ _ _ _
   | exact hist_May.mono _ _
   | exact LeO.none _
   | refine LeO.ite ?_ ?_
   | refine LeO.bind ?_ (fun _ => ?_)
theorem batonlaw04_HistLaid.mono : ∀ a0 a1 a2 a3 a4 a5 a6 a7 k, LeO (batonlaw04_HistLaid.f k a0 a1 a2 a3 a4 a5 a6 a7) (batonlaw04_HistLaid.f (k + 1) a0 a1 a2 a3 a4 a5 a6 a7) := by
 intro a0 a1 a2 a3 a4 a5 a6 a7 k
 obtain ⟨ih0, ih1, ih2⟩ := batonlaw04_HistLaid.mono_l k
 unfold batonlaw04_HistLaid.f
 repeat' first
   | (with_reducible exact ih0 _ _ _ _ _ _ _ _ _)
   | (with_reducible exact ih1 _ _ _ _ _ _ _ _ _ _ _ _ _ _ _ _ _ _ _ _ _ _ _ _ _ _ _ _ _ _ _ _ _)
   | (with_reducible exact ih2 _ _ _ _ _)
   | (with_reducible exact batonlaw04_live.mono _)
   | (with_reducible exact batonref03_Few.mono _ _ _)
   | (with_reducible exact batonref04_One.mono _ _ _ _ _ _ _)
   | (with_reducible exact hist_Lay.mono _ _ _ _ _ _ _ _)
   | (with_reducible exact hist_May.mono _ _)
   | (with_reducible exact LeO.refl _)
   | (with_reducible exact LeO.none _)
   | (with_reducible refine LeO.ite ?_ ?_)
   | (with_reducible refine LeO.bind ?_ (fun _ => ?_))
   | exact ih0 _ _ _ _ _ _ _ _ _
   | exact ih1 _ _ _ _ _ _ _ _ _ _ _ _ _ _ _ _ _ _ _ _ _ _ _ _ _ _ _ _ _ _ _ _ _
   | exact ih2 _ _ _ _ _
   | exact batonlaw04_live.mono _
   | exact batonref03_Few.mono _ _ _
   | exact batonref04_One.mono _ _ _ _ _ _ _
   | exact hist_Lay.mono _ _ _ _ _ _ _ _
   | exact hist_May.mono _ _
   | exact LeO.none _
   | refine LeO.ite ?_ ?_
   | refine LeO.bind ?_ (fun _ => ?_)
set_option maxHeartbeats 8000000 in
set_option maxRecDepth 100000 in
theorem batonlaw04_HistLaid.calls (k : Nat) (A0 : Option Addr) (c0 : Nat) (l0 : List (S26)) (a1_0 : ByteArray) (a1_1 : ByteArray) (a1_2 : Int) (a1_3 : Int) (a1_4 : Int) (a1_5 : Int) (a2 : ByteArray) (r : Bool) (w : World) (hr0 : Kd.C k26 w A0 l0.length l0) (hc0 : l0.length ≤ c0) (h : batonlaw04_HistLaid.f k l0 a1_0 a1_1 a1_2 a1_3 a1_4 a1_5 a2 = some r) :
  Calls Try.prog 5 #[.slice A0 l0.length c0, .agg #[.string a1_0, .string a1_1, .int .i64 a1_2, .int .i64 a1_3, .int .i64 a1_4, .int .i64 a1_5], .string a2] w fun e w' => e = .returned (.bool r) ∧ Below w.heap.size w w' := by
 have hu26 := Try.underlying26
 have HR0 := Aside0.mk hr0
 have HC0 := Aside0.mk hc0
 clear hr0 hc0
 have HB := Aside0.mk (Below.refl w.heap.size w)
 have H : ((batonref03_Few.f k l0 40).bind fun t383 => (if t383 = true then (if (a1_0.size : Int) > 60 then (batonlaw04_HistLaid.j0 k l0 a2 true a1_0 a1_1 a1_2 a1_3 a1_4 a1_5) else (if (a1_1.size : Int) > 60 then (batonlaw04_HistLaid.j0 k l0 a2 true a1_0 a1_1 a1_2 a1_3 a1_4 a1_5) else (if (a2.size : Int) > 60 then (batonlaw04_HistLaid.j0 k l0 a2 true a1_0 a1_1 a1_2 a1_3 a1_4 a1_5) else ((hist_May.f k l0).bind fun t384 => (if t384 = true then ((batonref04_One.f k a1_0 a1_1 a1_2 a1_3 a1_4 a1_5).bind fun t385 => (batonlaw04_HistLaid.j0 k l0 a2 (!t385) a1_0 a1_1 a1_2 a1_3 a1_4 a1_5)) else (batonlaw04_HistLaid.j0 k l0 a2 true a1_0 a1_1 a1_2 a1_3 a1_4 a1_5)))))) else (batonlaw04_HistLaid.j0 k l0 a2 true a1_0 a1_1 a1_2 a1_3 a1_4 a1_5))) = some r := h
 clear h
 have HC4 := Aside0.mk H
 clear H
 go_enter Try.func5, Try.ntmps5
 go_upto_region 1 with (first | ((with_reducible refine gate_dst (N := 4) rfl ?_); (try (refine gate_guard (by rfl) ?_; dsimp only)); refine box_event ?hg (N := 4) ?hd (cs := #[.string a1_0, .string a1_1, .int .i64 a1_2, .int .i64 a1_3, .int .i64 a1_4, .int .i64 a1_5]) (t := 26) ?hr ?_; (case hd => rfl); (case hg => rfl); (case hr => first | (go_simp; done) | (go_simp; rfl)); intro gb382 hg w5 hbox hb; have n0_ := Aside0.mk (below_step (by repeat (first | (with_reducible first | exact HB.out | apply below_alloc | apply pw_below_drewN | apply below_drew1) | exact HB.out)) hb); have n1_ := Aside0.mk (hbox); have n2_ := Aside0.mk ((by rw [hg]; exact (below_size (by repeat (first | (with_reducible first | exact HB.out | apply below_alloc | apply pw_below_drewN | apply below_drew1) | exact HB.out))) : w.heap.size ≤ gb382)); have n3_ := Aside0.mk ((by rw [hg]; exact (below_size (by repeat (first | (with_reducible first | exact HB.out | apply below_alloc | apply pw_below_drewN | apply below_drew1) | exact HB.out))) : w.heap.size ≤ gb382)); clear HB; have HB := n0_; have BK382 := n1_; have GW382 := n2_; have GE382 := n3_; clear n0_ n1_ n2_ n3_; clear hb hbox hg))
 (try simp only [Act.put, List.setIfInBounds_toArray, List.set_cons_zero, List.set_cons_succ])
 go_cut [51] (fun v51 wc => ∃ (kq : Nat) (x51_3 : Bool), v51 = .bool x51_3 ∧ Aside0 (batonlaw04_HistLaid.j0 kq l0 a2 x51_3 a1_0 a1_1 a1_2 a1_3 a1_4 a1_5 = some r) ∧ Aside0 (kq ≤ k) ∧ Aside0 (wc.heap[gb382]? = some (.cells #[.string a1_0, .string a1_1, .int .i64 a1_2, .int .i64 a1_3, .int .i64 a1_4, .int .i64 a1_5] 26 (0, 0))) ∧ Aside0 (Below w.heap.size w wc))
 case first =>
  have H := HC4.out
  clear HC4
  replace H := Option.bind_eq_some_iff.mp H
  obtain ⟨t383, A60, H⟩ := H
  have A6 := Aside0.mk A60
  clear A60
  by_cases c7 : t383 = true
  ·subst c7
   have H1 := H
   rw [if_pos rfl] at H1
   clear H
   have H := H1
   clear H1
   by_cases c8 : (a1_0.size : Int) > 60
   ·rw [if_pos c8] at H
    have c8b0 : decide (60 < (a1_0.size : Int)) = true := decide_eq_true c8
    have c8b1 : decide (60 < a1_0.size) = true := decide_eq_true (by omega)
    clear c8
    (first | rw [c8b0] | (simp only [i64_w, i32_w]; rw [c8b0]) | skip)
    have H' := Aside0.mk H
    clear H
    go_wp2_with (first | ((with_reducible refine gate_callee (f := 9) rfl ?_); refine goesL_ (some 23) rfl rfl Try.func9 (by kernel_rfl) rfl #[.slice A0 l0.length c0, .int .i64 40] rfl (by (try simp only [List.map_toArray, List.map_cons, List.map_nil]); first | done | rfl | (simp only [List.length_drop, List.length_take]; rfl)) ?_; (with_reducible refine (batonref03_Few.calls k _ _ l0 40 true _ ?side1 ?side2 A6.out).mono ?_); (case side1 => repeat (first | exact (Kd.C_below HR0.out HB.out) | (with_reducible refine Kd.C_alloc ?_ _) | (with_reducible refine Kd.C_drewN ?_ _) | (with_reducible refine Kd.C_drew ?_))); (case side2 => exact HC0.out); rintro e w' ⟨rfl, ⟨nd, rfl⟩⟩; refine ⟨_, rfl, ?_⟩; have hcz9_0 : w5.cell? ⟨gb382, 0, none⟩ = some (.string a1_0) := (blk_cell BK382.out 0).trans rfl; have hcz9_1 : w5.cell? ⟨gb382, 1, none⟩ = some (.string a1_1) := (blk_cell BK382.out 1).trans rfl; have hcz9_2 : w5.cell? ⟨gb382, 2, none⟩ = some (.int .i64 a1_2) := (blk_cell BK382.out 2).trans rfl; have hcz9_3 : w5.cell? ⟨gb382, 3, none⟩ = some (.int .i64 a1_3) := (blk_cell BK382.out 3).trans rfl; have hcz9_4 : w5.cell? ⟨gb382, 4, none⟩ = some (.int .i64 a1_4) := (blk_cell BK382.out 4).trans rfl; have hcz9_5 : w5.cell? ⟨gb382, 5, none⟩ = some (.int .i64 a1_5) := (blk_cell BK382.out 5).trans rfl; have hfz9_0 := blk_frozen BK382.out 0; have hfz9_1 := blk_frozen BK382.out 1; have hfz9_2 := blk_frozen BK382.out 2; have hfz9_3 := blk_frozen BK382.out 3; have hfz9_4 := blk_frozen BK382.out 4; have hfz9_5 := blk_frozen BK382.out 5))
    go_meet
    case rel => exact ⟨_, (true), (by first | rfl | (simp; done) | (simp [*]; done)), H', ⟨by first | omega | exact Nat.le_refl _⟩, ⟨by (with_reducible repeat (first | refine blk_drewN ?_ _ | refine blk_drew ?_ | refine blk_alloc ?_ _)); exact BK382.out⟩, ⟨by repeat (first | (with_reducible first | exact HB.out | apply below_alloc | apply pw_below_drewN | apply below_drew1 | refine below_set ?_ GE382.out) | exact HB.out)⟩⟩
   ·rw [if_neg c8] at H
    have c8b0 : decide (60 < (a1_0.size : Int)) = false := decide_eq_false c8
    have c8b1 : decide (60 < a1_0.size) = false := decide_eq_false (by omega)
    clear c8
    (first | rw [c8b0] | (simp only [i64_w, i32_w]; rw [c8b0]) | skip)
    by_cases c10 : (a1_1.size : Int) > 60
    ·rw [if_pos c10] at H
     have c10b0 : decide (60 < (a1_1.size : Int)) = true := decide_eq_true c10
     have c10b1 : decide (60 < a1_1.size) = true := decide_eq_true (by omega)
     clear c10
     have H' := Aside0.mk H
     clear H
     go_wp2_with (first | ((with_reducible refine gate_callee (f := 9) rfl ?_); refine goesL_ (some 23) rfl rfl Try.func9 (by kernel_rfl) rfl #[.slice A0 l0.length c0, .int .i64 40] rfl (by (try simp only [List.map_toArray, List.map_cons, List.map_nil]); first | done | rfl | (simp only [List.length_drop, List.length_take]; rfl)) ?_; (with_reducible refine (batonref03_Few.calls k _ _ l0 40 true _ ?side1 ?side2 A6.out).mono ?_); (case side1 => repeat (first | exact (Kd.C_below HR0.out HB.out) | (with_reducible refine Kd.C_alloc ?_ _) | (with_reducible refine Kd.C_drewN ?_ _) | (with_reducible refine Kd.C_drew ?_))); (case side2 => exact HC0.out); rintro e w' ⟨rfl, ⟨nd, rfl⟩⟩; refine ⟨_, rfl, ?_⟩; have hcz11_0 : w5.cell? ⟨gb382, 0, none⟩ = some (.string a1_0) := (blk_cell BK382.out 0).trans rfl; have hcz11_1 : w5.cell? ⟨gb382, 1, none⟩ = some (.string a1_1) := (blk_cell BK382.out 1).trans rfl; have hcz11_2 : w5.cell? ⟨gb382, 2, none⟩ = some (.int .i64 a1_2) := (blk_cell BK382.out 2).trans rfl; have hcz11_3 : w5.cell? ⟨gb382, 3, none⟩ = some (.int .i64 a1_3) := (blk_cell BK382.out 3).trans rfl; have hcz11_4 : w5.cell? ⟨gb382, 4, none⟩ = some (.int .i64 a1_4) := (blk_cell BK382.out 4).trans rfl; have hcz11_5 : w5.cell? ⟨gb382, 5, none⟩ = some (.int .i64 a1_5) := (blk_cell BK382.out 5).trans rfl; have hfz11_0 := blk_frozen BK382.out 0; have hfz11_1 := blk_frozen BK382.out 1; have hfz11_2 := blk_frozen BK382.out 2; have hfz11_3 := blk_frozen BK382.out 3; have hfz11_4 := blk_frozen BK382.out 4; have hfz11_5 := blk_frozen BK382.out 5))
     go_meet
     case rel => exact ⟨_, (true), (by first | rfl | (simp; done) | (simp [*]; done)), H', ⟨by first | omega | exact Nat.le_refl _⟩, ⟨by (with_reducible repeat (first | refine blk_drewN ?_ _ | refine blk_drew ?_ | refine blk_alloc ?_ _)); exact BK382.out⟩, ⟨by repeat (first | (with_reducible first | exact HB.out | apply below_alloc | apply pw_below_drewN | apply below_drew1 | refine below_set ?_ GE382.out) | exact HB.out)⟩⟩
    ·rw [if_neg c10] at H
     have c10b0 : decide (60 < (a1_1.size : Int)) = false := decide_eq_false c10
     have c10b1 : decide (60 < a1_1.size) = false := decide_eq_false (by omega)
     clear c10
     by_cases c12 : (a2.size : Int) > 60
     ·rw [if_pos c12] at H
      have c12b0 : decide (60 < (a2.size : Int)) = true := decide_eq_true c12
      have c12b1 : decide (60 < a2.size) = true := decide_eq_true (by omega)
      clear c12
      have H' := Aside0.mk H
      clear H
      go_wp2_with (first | ((with_reducible refine gate_callee (f := 9) rfl ?_); refine goesL_ (some 23) rfl rfl Try.func9 (by kernel_rfl) rfl #[.slice A0 l0.length c0, .int .i64 40] rfl (by (try simp only [List.map_toArray, List.map_cons, List.map_nil]); first | done | rfl | (simp only [List.length_drop, List.length_take]; rfl)) ?_; (with_reducible refine (batonref03_Few.calls k _ _ l0 40 true _ ?side1 ?side2 A6.out).mono ?_); (case side1 => repeat (first | exact (Kd.C_below HR0.out HB.out) | (with_reducible refine Kd.C_alloc ?_ _) | (with_reducible refine Kd.C_drewN ?_ _) | (with_reducible refine Kd.C_drew ?_))); (case side2 => exact HC0.out); rintro e w' ⟨rfl, ⟨nd, rfl⟩⟩; refine ⟨_, rfl, ?_⟩; have hcz13_0 : w5.cell? ⟨gb382, 0, none⟩ = some (.string a1_0) := (blk_cell BK382.out 0).trans rfl; have hcz13_1 : w5.cell? ⟨gb382, 1, none⟩ = some (.string a1_1) := (blk_cell BK382.out 1).trans rfl; have hcz13_2 : w5.cell? ⟨gb382, 2, none⟩ = some (.int .i64 a1_2) := (blk_cell BK382.out 2).trans rfl; have hcz13_3 : w5.cell? ⟨gb382, 3, none⟩ = some (.int .i64 a1_3) := (blk_cell BK382.out 3).trans rfl; have hcz13_4 : w5.cell? ⟨gb382, 4, none⟩ = some (.int .i64 a1_4) := (blk_cell BK382.out 4).trans rfl; have hcz13_5 : w5.cell? ⟨gb382, 5, none⟩ = some (.int .i64 a1_5) := (blk_cell BK382.out 5).trans rfl; have hfz13_0 := blk_frozen BK382.out 0; have hfz13_1 := blk_frozen BK382.out 1; have hfz13_2 := blk_frozen BK382.out 2; have hfz13_3 := blk_frozen BK382.out 3; have hfz13_4 := blk_frozen BK382.out 4; have hfz13_5 := blk_frozen BK382.out 5))
      go_meet
      case rel => exact ⟨_, (true), (by first | rfl | (simp; done) | (simp [*]; done)), H', ⟨by first | omega | exact Nat.le_refl _⟩, ⟨by (with_reducible repeat (first | refine blk_drewN ?_ _ | refine blk_drew ?_ | refine blk_alloc ?_ _)); exact BK382.out⟩, ⟨by repeat (first | (with_reducible first | exact HB.out | apply below_alloc | apply pw_below_drewN | apply below_drew1 | refine below_set ?_ GE382.out) | exact HB.out)⟩⟩
     ·rw [if_neg c12] at H
      have c12b0 : decide (60 < (a2.size : Int)) = false := decide_eq_false c12
      have c12b1 : decide (60 < a2.size) = false := decide_eq_false (by omega)
      clear c12
      replace H := Option.bind_eq_some_iff.mp H
      obtain ⟨t384, A140, H⟩ := H
      have A14 := Aside0.mk A140
      clear A140
      by_cases c15 : t384 = true
      ·subst c15
       have H1 := H
       rw [if_pos rfl] at H1
       clear H
       have H := H1
       clear H1
       replace H := Option.bind_eq_some_iff.mp H
       obtain ⟨t385, A160, H⟩ := H
       replace H : (batonlaw04_HistLaid.j0 k l0 a2 (!t385) a1_0 a1_1 a1_2 a1_3 a1_4 a1_5) = some r := H
       have A16 := Aside0.mk A160
       clear A160
       have H' := Aside0.mk H
       clear H
       go_wp2_with (first | ((with_reducible refine gate_callee (f := 9) rfl ?_); refine goesL_ (some 23) rfl rfl Try.func9 (by kernel_rfl) rfl #[.slice A0 l0.length c0, .int .i64 40] rfl (by (try simp only [List.map_toArray, List.map_cons, List.map_nil]); first | done | rfl | (simp only [List.length_drop, List.length_take]; rfl)) ?_; (with_reducible refine (batonref03_Few.calls k _ _ l0 40 true _ ?side1 ?side2 A6.out).mono ?_); (case side1 => repeat (first | exact (Kd.C_below HR0.out HB.out) | (with_reducible refine Kd.C_alloc ?_ _) | (with_reducible refine Kd.C_drewN ?_ _) | (with_reducible refine Kd.C_drew ?_))); (case side2 => exact HC0.out); rintro e w' ⟨rfl, ⟨nd, rfl⟩⟩; refine ⟨_, rfl, ?_⟩; have hcz17_0 : w5.cell? ⟨gb382, 0, none⟩ = some (.string a1_0) := (blk_cell BK382.out 0).trans rfl; have hcz17_1 : w5.cell? ⟨gb382, 1, none⟩ = some (.string a1_1) := (blk_cell BK382.out 1).trans rfl; have hcz17_2 : w5.cell? ⟨gb382, 2, none⟩ = some (.int .i64 a1_2) := (blk_cell BK382.out 2).trans rfl; have hcz17_3 : w5.cell? ⟨gb382, 3, none⟩ = some (.int .i64 a1_3) := (blk_cell BK382.out 3).trans rfl; have hcz17_4 : w5.cell? ⟨gb382, 4, none⟩ = some (.int .i64 a1_4) := (blk_cell BK382.out 4).trans rfl; have hcz17_5 : w5.cell? ⟨gb382, 5, none⟩ = some (.int .i64 a1_5) := (blk_cell BK382.out 5).trans rfl; have hfz17_0 := blk_frozen BK382.out 0; have hfz17_1 := blk_frozen BK382.out 1; have hfz17_2 := blk_frozen BK382.out 2; have hfz17_3 := blk_frozen BK382.out 3; have hfz17_4 := blk_frozen BK382.out 4; have hfz17_5 := blk_frozen BK382.out 5) | (go_at_call 13; (with_reducible refine (hist_May.calls k _ _ l0 true _ ?side1 ?side2 A14.out).mono ?_); (case side1 => repeat (first | exact (Kd.C_below HR0.out (by repeat (first | (with_reducible first | exact HB.out | apply below_alloc | apply pw_below_drewN | apply below_drew1 | refine below_set ?_ GE382.out) | exact HB.out))) | (with_reducible refine Kd.C_alloc ?_ _) | (with_reducible refine Kd.C_drewN ?_ _) | (with_reducible refine Kd.C_drew ?_))); (case side2 => exact HC0.out); rintro e w18 ⟨rfl, hb⟩; have n0_ := Aside0.mk (blk_below (g := gb382) (o := .cells #[.string a1_0, .string a1_1, .int .i64 a1_2, .int .i64 a1_3, .int .i64 a1_4, .int .i64 a1_5] 26 (0, 0)) (by (with_reducible repeat (first | refine blk_drewN ?_ _ | refine blk_drew ?_ | refine blk_alloc ?_ _)); exact BK382.out) hb); have n1_ := Aside0.mk (below_step (by repeat (first | (with_reducible first | exact HB.out | apply below_alloc | apply pw_below_drewN | apply below_drew1 | refine below_set ?_ GE382.out) | exact HB.out)) hb); clear BK382; clear HB; have BK382 := n0_; have HB := n1_; clear n0_ n1_; have hcz19_0 : w18.cell? ⟨gb382, 0, none⟩ = some (.string a1_0) := (blk_cell BK382.out 0).trans rfl; have hcz19_1 : w18.cell? ⟨gb382, 1, none⟩ = some (.string a1_1) := (blk_cell BK382.out 1).trans rfl; have hcz19_2 : w18.cell? ⟨gb382, 2, none⟩ = some (.int .i64 a1_2) := (blk_cell BK382.out 2).trans rfl; have hcz19_3 : w18.cell? ⟨gb382, 3, none⟩ = some (.int .i64 a1_3) := (blk_cell BK382.out 3).trans rfl; have hcz19_4 : w18.cell? ⟨gb382, 4, none⟩ = some (.int .i64 a1_4) := (blk_cell BK382.out 4).trans rfl; have hcz19_5 : w18.cell? ⟨gb382, 5, none⟩ = some (.int .i64 a1_5) := (blk_cell BK382.out 5).trans rfl; have hfz19_0 := blk_frozen BK382.out 0; have hfz19_1 := blk_frozen BK382.out 1; have hfz19_2 := blk_frozen BK382.out 2; have hfz19_3 := blk_frozen BK382.out 3; have hfz19_4 := blk_frozen BK382.out 4; have hfz19_5 := blk_frozen BK382.out 5) | (go_at_call 25; (with_reducible refine (batonref04_One.calls k a1_0 a1_1 a1_2 a1_3 a1_4 a1_5 t385 _ A16.out).mono ?_); rintro e w20 ⟨rfl, hb⟩; have n0_ := Aside0.mk (blk_below (g := gb382) (o := .cells #[.string a1_0, .string a1_1, .int .i64 a1_2, .int .i64 a1_3, .int .i64 a1_4, .int .i64 a1_5] 26 (0, 0)) (by (with_reducible repeat (first | refine blk_drewN ?_ _ | refine blk_drew ?_ | refine blk_alloc ?_ _)); exact BK382.out) hb); have n1_ := Aside0.mk (below_step (by repeat (first | (with_reducible first | exact HB.out | apply below_alloc | apply pw_below_drewN | apply below_drew1 | refine below_set ?_ GE382.out) | exact HB.out)) hb); clear BK382; clear HB; have BK382 := n0_; have HB := n1_; clear n0_ n1_))
       go_meet
       case rel => exact ⟨_, (!t385), (by first | rfl | (simp; done) | (simp [*]; done)), H', ⟨by first | omega | exact Nat.le_refl _⟩, ⟨by (with_reducible repeat (first | refine blk_drewN ?_ _ | refine blk_drew ?_ | refine blk_alloc ?_ _)); exact BK382.out⟩, ⟨by repeat (first | (with_reducible first | exact HB.out | apply below_alloc | apply pw_below_drewN | apply below_drew1 | refine below_set ?_ GE382.out) | exact HB.out)⟩⟩
      ·replace c15 := Bool.eq_false_iff.mpr c15
       subst c15
       have H1 : (batonlaw04_HistLaid.j0 k l0 a2 true a1_0 a1_1 a1_2 a1_3 a1_4 a1_5) = some r := by rw [if_neg (show ¬ (false = true) by decide)] at H; exact H
       clear H
       have H := H1
       clear H1
       have H' := Aside0.mk H
       clear H
       go_wp2_with (first | ((with_reducible refine gate_callee (f := 9) rfl ?_); refine goesL_ (some 23) rfl rfl Try.func9 (by kernel_rfl) rfl #[.slice A0 l0.length c0, .int .i64 40] rfl (by (try simp only [List.map_toArray, List.map_cons, List.map_nil]); first | done | rfl | (simp only [List.length_drop, List.length_take]; rfl)) ?_; (with_reducible refine (batonref03_Few.calls k _ _ l0 40 true _ ?side1 ?side2 A6.out).mono ?_); (case side1 => repeat (first | exact (Kd.C_below HR0.out HB.out) | (with_reducible refine Kd.C_alloc ?_ _) | (with_reducible refine Kd.C_drewN ?_ _) | (with_reducible refine Kd.C_drew ?_))); (case side2 => exact HC0.out); rintro e w' ⟨rfl, ⟨nd, rfl⟩⟩; refine ⟨_, rfl, ?_⟩; have hcz21_0 : w5.cell? ⟨gb382, 0, none⟩ = some (.string a1_0) := (blk_cell BK382.out 0).trans rfl; have hcz21_1 : w5.cell? ⟨gb382, 1, none⟩ = some (.string a1_1) := (blk_cell BK382.out 1).trans rfl; have hcz21_2 : w5.cell? ⟨gb382, 2, none⟩ = some (.int .i64 a1_2) := (blk_cell BK382.out 2).trans rfl; have hcz21_3 : w5.cell? ⟨gb382, 3, none⟩ = some (.int .i64 a1_3) := (blk_cell BK382.out 3).trans rfl; have hcz21_4 : w5.cell? ⟨gb382, 4, none⟩ = some (.int .i64 a1_4) := (blk_cell BK382.out 4).trans rfl; have hcz21_5 : w5.cell? ⟨gb382, 5, none⟩ = some (.int .i64 a1_5) := (blk_cell BK382.out 5).trans rfl; have hfz21_0 := blk_frozen BK382.out 0; have hfz21_1 := blk_frozen BK382.out 1; have hfz21_2 := blk_frozen BK382.out 2; have hfz21_3 := blk_frozen BK382.out 3; have hfz21_4 := blk_frozen BK382.out 4; have hfz21_5 := blk_frozen BK382.out 5) | (go_at_call 13; (with_reducible refine (hist_May.calls k _ _ l0 false _ ?side1 ?side2 A14.out).mono ?_); (case side1 => repeat (first | exact (Kd.C_below HR0.out (by repeat (first | (with_reducible first | exact HB.out | apply below_alloc | apply pw_below_drewN | apply below_drew1 | refine below_set ?_ GE382.out) | exact HB.out))) | (with_reducible refine Kd.C_alloc ?_ _) | (with_reducible refine Kd.C_drewN ?_ _) | (with_reducible refine Kd.C_drew ?_))); (case side2 => exact HC0.out); rintro e w22 ⟨rfl, hb⟩; have n0_ := Aside0.mk (blk_below (g := gb382) (o := .cells #[.string a1_0, .string a1_1, .int .i64 a1_2, .int .i64 a1_3, .int .i64 a1_4, .int .i64 a1_5] 26 (0, 0)) (by (with_reducible repeat (first | refine blk_drewN ?_ _ | refine blk_drew ?_ | refine blk_alloc ?_ _)); exact BK382.out) hb); have n1_ := Aside0.mk (below_step (by repeat (first | (with_reducible first | exact HB.out | apply below_alloc | apply pw_below_drewN | apply below_drew1 | refine below_set ?_ GE382.out) | exact HB.out)) hb); clear BK382; clear HB; have BK382 := n0_; have HB := n1_; clear n0_ n1_))
       go_meet
       case rel => exact ⟨_, (true), (by first | rfl | (simp; done) | (simp [*]; done)), H', ⟨by first | omega | exact Nat.le_refl _⟩, ⟨by (with_reducible repeat (first | refine blk_drewN ?_ _ | refine blk_drew ?_ | refine blk_alloc ?_ _)); exact BK382.out⟩, ⟨by repeat (first | (with_reducible first | exact HB.out | apply below_alloc | apply pw_below_drewN | apply below_drew1 | refine below_set ?_ GE382.out) | exact HB.out)⟩⟩
  ·replace c7 := Bool.eq_false_iff.mpr c7
   subst c7
   have H1 : (batonlaw04_HistLaid.j0 k l0 a2 true a1_0 a1_1 a1_2 a1_3 a1_4 a1_5) = some r := by rw [if_neg (show ¬ (false = true) by decide)] at H; exact H
   clear H
   have H := H1
   clear H1
   have H' := Aside0.mk H
   clear H
   go_wp2_with (first | ((with_reducible refine gate_callee (f := 9) rfl ?_); refine goesL_ (some 23) rfl rfl Try.func9 (by kernel_rfl) rfl #[.slice A0 l0.length c0, .int .i64 40] rfl (by (try simp only [List.map_toArray, List.map_cons, List.map_nil]); first | done | rfl | (simp only [List.length_drop, List.length_take]; rfl)) ?_; (with_reducible refine (batonref03_Few.calls k _ _ l0 40 false _ ?side1 ?side2 A6.out).mono ?_); (case side1 => repeat (first | exact (Kd.C_below HR0.out HB.out) | (with_reducible refine Kd.C_alloc ?_ _) | (with_reducible refine Kd.C_drewN ?_ _) | (with_reducible refine Kd.C_drew ?_))); (case side2 => exact HC0.out); rintro e w' ⟨rfl, ⟨nd, rfl⟩⟩; refine ⟨_, rfl, ?_⟩))
   go_meet
   case rel => exact ⟨_, (true), (by first | rfl | (simp; done) | (simp [*]; done)), H', ⟨by first | omega | exact Nat.le_refl _⟩, ⟨by (with_reducible repeat (first | refine blk_drewN ?_ _ | refine blk_drew ?_ | refine blk_alloc ?_ _)); exact BK382.out⟩, ⟨by repeat (first | (with_reducible first | exact HB.out | apply below_alloc | apply pw_below_drewN | apply below_drew1 | refine below_set ?_ GE382.out) | exact HB.out)⟩⟩
 case rest =>
  clear HC4
  try clear c1
  try clear p2
  try clear c5
  try clear c7
  try clear c8
  try clear c8b0
  try clear c8b1
  try clear c9
  try clear c10
  try clear c10b0
  try clear c10b1
  try clear c12
  try clear c12b0
  try clear c12b1
  try clear c15
  try clear hcz11_0
  try clear hcz11_1
  try clear hcz11_2
  try clear hcz11_3
  try clear hcz11_4
  try clear hcz11_5
  try clear hcz13_0
  try clear hcz13_1
  try clear hcz13_2
  try clear hcz13_3
  try clear hcz13_4
  try clear hcz13_5
  try clear hcz17_0
  try clear hcz17_1
  try clear hcz17_2
  try clear hcz17_3
  try clear hcz17_4
  try clear hcz17_5
  try clear hcz19_0
  try clear hcz19_1
  try clear hcz19_2
  try clear hcz19_3
  try clear hcz19_4
  try clear hcz19_5
  try clear hcz21_0
  try clear hcz21_1
  try clear hcz21_2
  try clear hcz21_3
  try clear hcz21_4
  try clear hcz21_5
  try clear hcz9_0
  try clear hcz9_1
  try clear hcz9_2
  try clear hcz9_3
  try clear hcz9_4
  try clear hcz9_5
  try clear hfz11_0
  try clear hfz11_1
  try clear hfz11_2
  try clear hfz11_3
  try clear hfz11_4
  try clear hfz11_5
  try clear hfz13_0
  try clear hfz13_1
  try clear hfz13_2
  try clear hfz13_3
  try clear hfz13_4
  try clear hfz13_5
  try clear hfz17_0
  try clear hfz17_1
  try clear hfz17_2
  try clear hfz17_3
  try clear hfz17_4
  try clear hfz17_5
  try clear hfz19_0
  try clear hfz19_1
  try clear hfz19_2
  try clear hfz19_3
  try clear hfz19_4
  try clear hfz19_5
  try clear hfz21_0
  try clear hfz21_1
  try clear hfz21_2
  try clear hfz21_3
  try clear hfz21_4
  try clear hfz21_5
  try clear hfz9_0
  try clear hfz9_1
  try clear hfz9_2
  try clear hfz9_3
  try clear hfz9_4
  try clear hfz9_5
  obtain ⟨kq, x51_3, rfl, HA, HJ3, BK382, HB⟩ := hcut
  cases kq with
  | zero => exact absurd HA.out (by simp [batonlaw04_HistLaid.j0])
  | succ kj3 =>
   have H := HA.out
   clear HA
   simp only [batonlaw04_HistLaid.j0] at H
   by_cases c23 : x51_3 = true
   ·subst c23
    have H1 : ((batonlaw04_live.f kj3).bind fun t386 => (some t386)) = some r := by rw [if_pos rfl] at H; exact H
    clear H
    have H := H1
    clear H1
    replace H := Option.bind_eq_some_iff.mp H
    obtain ⟨t386, A240, H⟩ := H
    have A24 := Aside0.mk A240
    clear A240
    obtain rfl := Option.some.inj H
    go_wp2_with (first | ((with_reducible refine gate_callee (f := 10) rfl ?_); refine goesL_ (some 52) rfl rfl Try.func10 (by kernel_rfl) rfl #[] rfl (by (try simp only [List.map_toArray, List.map_cons, List.map_nil]); first | done | rfl | (simp only [List.length_drop, List.length_take]; rfl)) ?_; (with_reducible refine (batonlaw04_live.calls kj3  t386 _ A24.out).mono ?_); rintro e w25 ⟨rfl, hb⟩; refine ⟨_, rfl, ?_⟩; have n0_ := Aside0.mk (blk_below (g := gb382) (o := .cells #[.string a1_0, .string a1_1, .int .i64 a1_2, .int .i64 a1_3, .int .i64 a1_4, .int .i64 a1_5] 26 (0, 0)) (by (with_reducible repeat (first | refine blk_drewN ?_ _ | refine blk_drew ?_ | refine blk_alloc ?_ _)); exact BK382.out) hb); have n1_ := Aside0.mk (below_step (by repeat (first | (with_reducible first | exact HB.out | apply below_alloc | apply pw_below_drewN | apply below_drew1 | refine below_set ?_ GE382.out) | exact HB.out)) hb); clear BK382; clear HB; have BK382 := n0_; have HB := n1_; clear n0_ n1_))
    go_ret
    exact ⟨by first | rfl | (simp [*] <;> rfl), by repeat (first | (with_reducible first | exact HB.out | apply below_alloc | apply pw_below_drewN | apply below_drew1 | refine below_set ?_ GE382.out) | exact HB.out)⟩
   ·replace c23 := Bool.eq_false_iff.mpr c23
    subst c23
    have H1 := H
    rw [if_neg (show ¬ (false = true) by decide)] at H1
    clear H
    have H := H1
    clear H1
    replace H := Option.bind_eq_some_iff.mp H
    obtain ⟨t387, A260, H⟩ := H
    have A26 := Aside0.mk A260
    clear A260
    replace H := Option.bind_eq_some_iff.mp H
    obtain ⟨t390, A270, H⟩ := H
    have A27 := Aside0.mk A270
    clear A270
    replace H := Option.bind_eq_some_iff.mp H
    obtain ⟨⟨t393, t394, t395, t396, t397, t398, t399⟩, A280, H⟩ := H
    have A28 := Aside0.mk A280
    clear A280
    replace H := Option.bind_eq_some_iff.mp H
    obtain ⟨⟨t401, t402, t403, t404, t405, t406, t407⟩, A290, H⟩ := H
    have A29 := Aside0.mk A290
    clear A290
    replace H := Option.bind_eq_some_iff.mp H
    obtain ⟨⟨t409, t410, t411, t412, t413, t414, t415⟩, A300, H⟩ := H
    have A30 := Aside0.mk A300
    clear A300
    replace H := Option.bind_eq_some_iff.mp H
    obtain ⟨⟨t417, t418, t419, t420, t421, t422, t423⟩, A310, H⟩ := H
    have A31 := Aside0.mk A310
    clear A310
    replace H := Option.bind_eq_some_iff.mp H
    obtain ⟨⟨t425, t426, t427, t428, t429, t430, t431⟩, A320, H⟩ := H
    have A32 := Aside0.mk A320
    clear A320
    replace H := Option.bind_eq_some_iff.mp H
    obtain ⟨⟨t433, t434, t435, t436, t437, t438, t439⟩, A330, H⟩ := H
    have A33 := Aside0.mk A330
    clear A330
    have HC34 := Aside0.mk H
    clear H
    have hcz35_0 : wc.cell? ⟨gb382, 0, none⟩ = some (.string a1_0) := (blk_cell BK382.out 0).trans rfl
    have hcz35_1 : wc.cell? ⟨gb382, 1, none⟩ = some (.string a1_1) := (blk_cell BK382.out 1).trans rfl
    have hcz35_2 : wc.cell? ⟨gb382, 2, none⟩ = some (.int .i64 a1_2) := (blk_cell BK382.out 2).trans rfl
    have hcz35_3 : wc.cell? ⟨gb382, 3, none⟩ = some (.int .i64 a1_3) := (blk_cell BK382.out 3).trans rfl
    have hcz35_4 : wc.cell? ⟨gb382, 4, none⟩ = some (.int .i64 a1_4) := (blk_cell BK382.out 4).trans rfl
    have hcz35_5 : wc.cell? ⟨gb382, 5, none⟩ = some (.int .i64 a1_5) := (blk_cell BK382.out 5).trans rfl
    have hfz35_0 := blk_frozen BK382.out 0
    have hfz35_1 := blk_frozen BK382.out 1
    have hfz35_2 := blk_frozen BK382.out 2
    have hfz35_3 := blk_frozen BK382.out 3
    have hfz35_4 := blk_frozen BK382.out 4
    have hfz35_5 := blk_frozen BK382.out 5
    go_upto_region 11 with (first | ((with_reducible refine gate_callee (f := 23) rfl ?_); refine goesL_ (some 55) rfl rfl Try.func23 (by kernel_rfl) rfl #[.slice A0 l0.length c0, .agg #[.string a1_0, .string a1_1, .int .i64 a1_2, .int .i64 a1_3, .int .i64 a1_4, .int .i64 a1_5]] rfl (by (try simp only [List.map_toArray, List.map_cons, List.map_nil]); first | done | rfl | (simp only [List.length_drop, List.length_take]; rfl)) ?_; (with_reducible refine (hist_Lay.calls kj3 _ _ l0 a1_0 a1_1 a1_2 a1_3 a1_4 a1_5 t387 _ ?side1 ?side2 A26.out).mono ?_); (case side1 => repeat (first | exact (Kd.C_below HR0.out HB.out) | (with_reducible refine Kd.C_alloc ?_ _) | (with_reducible refine Kd.C_drewN ?_ _) | (with_reducible refine Kd.C_drew ?_))); (case side2 => exact HC0.out); rintro e w36 ⟨v388, rfl, ho0, hb⟩; refine ⟨_, rfl, ?_⟩; have n0_ := Aside0.mk (Kd.R_lower (Kd.R_newB ho0 (g := gb382) (o := .cells #[.string a1_0, .string a1_1, .int .i64 a1_2, .int .i64 a1_3, .int .i64 a1_4, .int .i64 a1_5] 26 (0, 0)) (by (with_reducible repeat (first | refine blk_drewN ?_ _ | refine blk_drew ?_ | refine blk_alloc ?_ _)); exact BK382.out)) (below_size (by repeat (first | (with_reducible first | exact HB.out | apply below_alloc | apply pw_below_drewN | apply below_drew1 | refine below_set ?_ GE382.out) | exact HB.out)))); have n1_ := Aside0.mk (blk_below (g := gb382) (o := .cells #[.string a1_0, .string a1_1, .int .i64 a1_2, .int .i64 a1_3, .int .i64 a1_4, .int .i64 a1_5] 26 (0, 0)) (by (with_reducible repeat (first | refine blk_drewN ?_ _ | refine blk_drew ?_ | refine blk_alloc ?_ _)); exact BK382.out) hb); have n2_ := Aside0.mk (below_step (by repeat (first | (with_reducible first | exact HB.out | apply below_alloc | apply pw_below_drewN | apply below_drew1 | refine below_set ?_ GE382.out) | exact HB.out)) hb); clear BK382; clear HB; have HO389 := n0_; have BK382 := n1_; have HB := n2_; clear n0_ n1_ n2_; (try clear ho0); have hcz37_0 : w36.cell? ⟨gb382, 0, none⟩ = some (.string a1_0) := (blk_cell BK382.out 0).trans rfl; have hcz37_1 : w36.cell? ⟨gb382, 1, none⟩ = some (.string a1_1) := (blk_cell BK382.out 1).trans rfl; have hcz37_2 : w36.cell? ⟨gb382, 2, none⟩ = some (.int .i64 a1_2) := (blk_cell BK382.out 2).trans rfl; have hcz37_3 : w36.cell? ⟨gb382, 3, none⟩ = some (.int .i64 a1_3) := (blk_cell BK382.out 3).trans rfl; have hcz37_4 : w36.cell? ⟨gb382, 4, none⟩ = some (.int .i64 a1_4) := (blk_cell BK382.out 4).trans rfl; have hcz37_5 : w36.cell? ⟨gb382, 5, none⟩ = some (.int .i64 a1_5) := (blk_cell BK382.out 5).trans rfl; have hfz37_0 := blk_frozen BK382.out 0; have hfz37_1 := blk_frozen BK382.out 1; have hfz37_2 := blk_frozen BK382.out 2; have hfz37_3 := blk_frozen BK382.out 3; have hfz37_4 := blk_frozen BK382.out 4; have hfz37_5 := blk_frozen BK382.out 5) | ((with_reducible refine gate_callee (f := 16) rfl ?_); refine goesL_ (some 59) rfl rfl Try.func16 (by kernel_rfl) rfl #[.slice A0 l0.length c0, .string a1_0] rfl (by (try simp only [List.map_toArray, List.map_cons, List.map_nil]); first | done | rfl | (simp only [List.length_drop, List.length_take]; rfl)) ?_; (with_reducible refine (hist_Take.calls (fun k_ => k_ < w.heap.size) _ _ l0 a1_0 t390 _ ?side1 A27.out).mono ?_); (case side1 => exact Kd.V_mk HC0.out (Kd.F_below (Kd.C_F k26_heap HR0.out) (by repeat (first | (with_reducible first | exact HB.out | apply below_alloc | apply pw_below_drewN | apply below_drew1 | refine below_set ?_ GE382.out) | exact HB.out)))); rintro e w38 ⟨v391, rfl, ho0, hb⟩; refine ⟨_, rfl, ?_⟩; have n0_ := Aside0.mk (Kd.R_elder' (by (with_reducible repeat (first | apply Kd.R_alloc | apply Kd.R_drewN | apply Kd.R_drew)); exact HO389.out) (Kd.R_base ho0) hb); have n1_ := Aside0.mk (Kd.R_lower (Kd.R_newB (Kd.R_new' (Kd.R_mono (ok' := fun k_ => True) ho0 (fun _ hk_ => trivial)) (Kd.R_lt (by (with_reducible repeat (first | apply Kd.R_alloc | apply Kd.R_drewN | apply Kd.R_drew)); exact HO389.out))) (g := gb382) (o := .cells #[.string a1_0, .string a1_1, .int .i64 a1_2, .int .i64 a1_3, .int .i64 a1_4, .int .i64 a1_5] 26 (0, 0)) (by (with_reducible repeat (first | refine blk_drewN ?_ _ | refine blk_drew ?_ | refine blk_alloc ?_ _)); exact BK382.out)) (below_size (by repeat (first | (with_reducible first | exact HB.out | apply below_alloc | apply pw_below_drewN | apply below_drew1 | refine below_set ?_ GE382.out) | exact HB.out)))); have n2_ := Aside0.mk (blk_below (g := gb382) (o := .cells #[.string a1_0, .string a1_1, .int .i64 a1_2, .int .i64 a1_3, .int .i64 a1_4, .int .i64 a1_5] 26 (0, 0)) (by (with_reducible repeat (first | refine blk_drewN ?_ _ | refine blk_drew ?_ | refine blk_alloc ?_ _)); exact BK382.out) hb); have n3_ := Aside0.mk (below_step (by repeat (first | (with_reducible first | exact HB.out | apply below_alloc | apply pw_below_drewN | apply below_drew1 | refine below_set ?_ GE382.out) | exact HB.out)) hb); clear HO389; clear BK382; clear HB; have HO389 := n0_; have HO392 := n1_; have BK382 := n2_; have HB := n3_; clear n0_ n1_ n2_ n3_; (try clear ho0); have hcz39_0 : w38.cell? ⟨gb382, 0, none⟩ = some (.string a1_0) := (blk_cell BK382.out 0).trans rfl; have hcz39_1 : w38.cell? ⟨gb382, 1, none⟩ = some (.string a1_1) := (blk_cell BK382.out 1).trans rfl; have hcz39_2 : w38.cell? ⟨gb382, 2, none⟩ = some (.int .i64 a1_2) := (blk_cell BK382.out 2).trans rfl; have hcz39_3 : w38.cell? ⟨gb382, 3, none⟩ = some (.int .i64 a1_3) := (blk_cell BK382.out 3).trans rfl; have hcz39_4 : w38.cell? ⟨gb382, 4, none⟩ = some (.int .i64 a1_4) := (blk_cell BK382.out 4).trans rfl; have hcz39_5 : w38.cell? ⟨gb382, 5, none⟩ = some (.int .i64 a1_5) := (blk_cell BK382.out 5).trans rfl; have hfz39_0 := blk_frozen BK382.out 0; have hfz39_1 := blk_frozen BK382.out 1; have hfz39_2 := blk_frozen BK382.out 2; have hfz39_3 := blk_frozen BK382.out 3; have hfz39_4 := blk_frozen BK382.out 4; have hfz39_5 := blk_frozen BK382.out 5; obtain ⟨Ao40, co40, eo40⟩ := Kd.R_slice HO389.out; subst eo40) | ((with_reducible refine gate_callee (f := 11) rfl ?_); refine goesL_ (some 64) rfl rfl Try.func11 (by kernel_rfl) rfl #[.slice Ao40 t387.length co40, .string a1_0] rfl (by (try simp only [List.map_toArray, List.map_cons, List.map_nil]); first | done | rfl | (simp only [List.length_drop, List.length_take]; rfl)) ?_; (with_reducible refine (hist_Find.calls _ _ t387 a1_0 t393 t394 t395 t396 t397 t398 t399 _ ?side1 ?side2 A28.out).mono ?_); (case side1 => repeat (first | exact (Kd.R_reads' HO389.out).2.2 | (with_reducible refine Kd.C_alloc ?_ _) | (with_reducible refine Kd.C_drewN ?_ _) | (with_reducible refine Kd.C_drew ?_))); (case side2 => exact (Kd.R_reads' HO389.out).2.1); rintro e w41 ⟨rfl, hb⟩; refine ⟨_, rfl, ?_⟩; have n0_ := Aside0.mk (Kd.R_below (by (with_reducible repeat (first | apply Kd.R_alloc | apply Kd.R_drewN | apply Kd.R_drew)); exact HO389.out) hb); have n1_ := Aside0.mk (Kd.R_below (by (with_reducible repeat (first | apply Kd.R_alloc | apply Kd.R_drewN | apply Kd.R_drew)); exact HO392.out) hb); have n2_ := Aside0.mk (blk_below (g := gb382) (o := .cells #[.string a1_0, .string a1_1, .int .i64 a1_2, .int .i64 a1_3, .int .i64 a1_4, .int .i64 a1_5] 26 (0, 0)) (by (with_reducible repeat (first | refine blk_drewN ?_ _ | refine blk_drew ?_ | refine blk_alloc ?_ _)); exact BK382.out) hb); have n3_ := Aside0.mk (below_step (by repeat (first | (with_reducible first | exact HB.out | apply below_alloc | apply pw_below_drewN | apply below_drew1 | refine below_set ?_ GE382.out) | exact HB.out)) hb); clear HO389; clear HO392; clear BK382; clear HB; have HO389 := n0_; have HO392 := n1_; have BK382 := n2_; have HB := n3_; clear n0_ n1_ n2_ n3_) | ((with_reducible refine gate_dst (N := 9) rfl ?_); (try (refine gate_guard (by rfl) ?_; dsimp only)); refine box_event ?hg (N := 9) ?hd (cs := #[.string (⟨#[]⟩ : ByteArray), .string (⟨#[]⟩ : ByteArray), .int .i64 0, .int .i64 0, .int .i64 0, .int .i64 0]) (t := 26) ?hr ?_; (case hd => rfl); (case hg => rfl); (case hr => first | (go_simp; done) | (go_simp; rfl)); intro gb400 hg w42 hbox hb; have n0_ := Aside0.mk (Kd.R_below (Kd.R_elderB (by (with_reducible repeat (first | apply Kd.R_alloc | apply Kd.R_drewN | apply Kd.R_drew)); exact HO389.out) gb400 (Nat.le_of_eq hg.symm)) hb); have n1_ := Aside0.mk (Kd.R_below (Kd.R_elderB (by (with_reducible repeat (first | apply Kd.R_alloc | apply Kd.R_drewN | apply Kd.R_drew)); exact HO392.out) gb400 (Nat.le_of_eq hg.symm)) hb); have n2_ := Aside0.mk (blk_below (g := gb382) (o := .cells #[.string a1_0, .string a1_1, .int .i64 a1_2, .int .i64 a1_3, .int .i64 a1_4, .int .i64 a1_5] 26 (0, 0)) (by (with_reducible repeat (first | refine blk_drewN ?_ _ | refine blk_drew ?_ | refine blk_alloc ?_ _)); exact BK382.out) hb); have n3_ := Aside0.mk (below_step (by repeat (first | (with_reducible first | exact HB.out | apply below_alloc | apply pw_below_drewN | apply below_drew1 | refine below_set ?_ GE382.out) | exact HB.out)) hb); have n4_ := Aside0.mk (hbox); have n5_ := Aside0.mk ((by rw [hg]; exact (below_size (by repeat (first | (with_reducible first | exact HB.out | apply below_alloc | apply pw_below_drewN | apply below_drew1 | refine below_set ?_ GE382.out) | exact HB.out))) : w.heap.size ≤ gb400)); have n6_ := Aside0.mk ((by rw [hg]; exact (below_size (by repeat (first | (with_reducible first | exact HB.out | apply below_alloc | apply pw_below_drewN | apply below_drew1 | refine below_set ?_ GE382.out) | exact HB.out))) : w.heap.size ≤ gb400)); have n7_ := Aside0.mk ((by rw [hg]; exact Nat.ne_of_lt (blk_lt (g := gb382) (o := .cells #[.string a1_0, .string a1_1, .int .i64 a1_2, .int .i64 a1_3, .int .i64 a1_4, .int .i64 a1_5] 26 (0, 0)) (by (with_reducible repeat (first | refine blk_drewN ?_ _ | refine blk_drew ?_ | refine blk_alloc ?_ _)); exact BK382.out)) : gb382 ≠ gb400)); have n8_ := Aside0.mk ((by rw [hg]; exact Nat.ne_of_gt (blk_lt (g := gb382) (o := .cells #[.string a1_0, .string a1_1, .int .i64 a1_2, .int .i64 a1_3, .int .i64 a1_4, .int .i64 a1_5] 26 (0, 0)) (by (with_reducible repeat (first | refine blk_drewN ?_ _ | refine blk_drew ?_ | refine blk_alloc ?_ _)); exact BK382.out)) : gb400 ≠ gb382)); clear HO389; clear HO392; clear BK382; clear HB; have HO389 := n0_; have HO392 := n1_; have BK382 := n2_; have HB := n3_; have BK400 := n4_; have GW400 := n5_; have GE400 := n6_; have NB382_400 := n7_; have NB400_382 := n8_; clear n0_ n1_ n2_ n3_ n4_ n5_ n6_ n7_ n8_; clear hb hbox hg; have hnb43 := NB400_382.out; have hnc43 := NB382_400.out; have hcz44_0 : w42.cell? ⟨gb400, 0, none⟩ = some (.string (⟨#[]⟩ : ByteArray)) := (blk_cell BK400.out 0).trans rfl; have hcz44_1 : w42.cell? ⟨gb400, 1, none⟩ = some (.string (⟨#[]⟩ : ByteArray)) := (blk_cell BK400.out 1).trans rfl; have hcz44_2 : w42.cell? ⟨gb400, 2, none⟩ = some (.int .i64 0) := (blk_cell BK400.out 2).trans rfl; have hcz44_3 : w42.cell? ⟨gb400, 3, none⟩ = some (.int .i64 0) := (blk_cell BK400.out 3).trans rfl; have hcz44_4 : w42.cell? ⟨gb400, 4, none⟩ = some (.int .i64 0) := (blk_cell BK400.out 4).trans rfl; have hcz44_5 : w42.cell? ⟨gb400, 5, none⟩ = some (.int .i64 0) := (blk_cell BK400.out 5).trans rfl; have hfz44_0 := blk_frozen BK400.out 0; have hfz44_1 := blk_frozen BK400.out 1; have hfz44_2 := blk_frozen BK400.out 2; have hfz44_3 := blk_frozen BK400.out 3; have hfz44_4 := blk_frozen BK400.out 4; have hfz44_5 := blk_frozen BK400.out 5; have hcz45_0 : w42.cell? ⟨gb382, 0, none⟩ = some (.string a1_0) := (blk_cell BK382.out 0).trans rfl; have hcz45_1 : w42.cell? ⟨gb382, 1, none⟩ = some (.string a1_1) := (blk_cell BK382.out 1).trans rfl; have hcz45_2 : w42.cell? ⟨gb382, 2, none⟩ = some (.int .i64 a1_2) := (blk_cell BK382.out 2).trans rfl; have hcz45_3 : w42.cell? ⟨gb382, 3, none⟩ = some (.int .i64 a1_3) := (blk_cell BK382.out 3).trans rfl; have hcz45_4 : w42.cell? ⟨gb382, 4, none⟩ = some (.int .i64 a1_4) := (blk_cell BK382.out 4).trans rfl; have hcz45_5 : w42.cell? ⟨gb382, 5, none⟩ = some (.int .i64 a1_5) := (blk_cell BK382.out 5).trans rfl; have hfz45_0 := blk_frozen BK382.out 0; have hfz45_1 := blk_frozen BK382.out 1; have hfz45_2 := blk_frozen BK382.out 2; have hfz45_3 := blk_frozen BK382.out 3; have hfz45_4 := blk_frozen BK382.out 4; have hfz45_5 := blk_frozen BK382.out 5; obtain ⟨Ao46, co46, eo46⟩ := Kd.R_slice HO392.out; subst eo46) | ((with_reducible refine gate_callee (f := 11) rfl ?_); refine goesL_ (some 71) rfl rfl Try.func11 (by kernel_rfl) rfl #[.slice Ao46 t390.length co46, .string a1_0] rfl (by (try simp only [List.map_toArray, List.map_cons, List.map_nil]); first | done | rfl | (simp only [List.length_drop, List.length_take]; rfl)) ?_; (with_reducible refine (hist_Find.calls _ _ t390 a1_0 t401 t402 t403 t404 t405 t406 t407 _ ?side1 ?side2 A29.out).mono ?_); (case side1 => refine (Kd.R_reads' (e := 26) (base := w.heap.size) (ok := fun k_ => (((True ∧ some k_ ≠ (.slice Ao40 t387.length co40 : Value).ownBlock) ∧ k_ ≠ gb382) ∧ k_ ≠ gb400)) (n := t390.length) (c := co46) ?_).2.2; exact (by (with_reducible repeat (first | apply Kd.R_alloc | apply Kd.R_drewN | apply Kd.R_drew)); exact (Kd.R_mono (Kd.R_far (p := ⟨gb400, 5, none⟩) (Kd.R_far (p := ⟨gb400, 4, none⟩) (Kd.R_far (p := ⟨gb400, 3, none⟩) (Kd.R_far (p := ⟨gb400, 2, none⟩) (Kd.R_far (p := ⟨gb400, 1, none⟩) (Kd.R_far (p := ⟨gb400, 0, none⟩) (Kd.R_mono HO392.out (fun k_ hk => (⟨hk, hk.2⟩ : _ ∧ k_ ≠ gb400))) (fun _ hk => hk.2) (.string t393)) (fun _ hk => hk.2) (.string t394)) (fun _ hk => hk.2) (.int .i64 t395)) (fun _ hk => hk.2) (.int .i64 t396)) (fun _ hk => hk.2) (.int .i64 t397)) (fun _ hk => hk.2) (.int .i64 t398)) (fun _ h_ => h_.1)))); (case side2 => exact (Kd.R_reads' HO392.out).2.1); rintro e w47 ⟨rfl, hb⟩; refine ⟨_, rfl, ?_⟩; have n0_ := Aside0.mk (Kd.R_below (by (with_reducible repeat (first | apply Kd.R_alloc | apply Kd.R_drewN | apply Kd.R_drew)); exact (Kd.R_mono (Kd.R_far (p := ⟨gb400, 5, none⟩) (Kd.R_far (p := ⟨gb400, 4, none⟩) (Kd.R_far (p := ⟨gb400, 3, none⟩) (Kd.R_far (p := ⟨gb400, 2, none⟩) (Kd.R_far (p := ⟨gb400, 1, none⟩) (Kd.R_far (p := ⟨gb400, 0, none⟩) (Kd.R_mono HO389.out (fun k_ hk => (⟨hk, hk.2⟩ : _ ∧ k_ ≠ gb400))) (fun _ hk => hk.2) (.string t393)) (fun _ hk => hk.2) (.string t394)) (fun _ hk => hk.2) (.int .i64 t395)) (fun _ hk => hk.2) (.int .i64 t396)) (fun _ hk => hk.2) (.int .i64 t397)) (fun _ hk => hk.2) (.int .i64 t398)) (fun _ h_ => h_.1))) hb); have n1_ := Aside0.mk (Kd.R_below (by (with_reducible repeat (first | apply Kd.R_alloc | apply Kd.R_drewN | apply Kd.R_drew)); exact (Kd.R_mono (Kd.R_far (p := ⟨gb400, 5, none⟩) (Kd.R_far (p := ⟨gb400, 4, none⟩) (Kd.R_far (p := ⟨gb400, 3, none⟩) (Kd.R_far (p := ⟨gb400, 2, none⟩) (Kd.R_far (p := ⟨gb400, 1, none⟩) (Kd.R_far (p := ⟨gb400, 0, none⟩) (Kd.R_mono HO392.out (fun k_ hk => (⟨hk, hk.2⟩ : _ ∧ k_ ≠ gb400))) (fun _ hk => hk.2) (.string t393)) (fun _ hk => hk.2) (.string t394)) (fun _ hk => hk.2) (.int .i64 t395)) (fun _ hk => hk.2) (.int .i64 t396)) (fun _ hk => hk.2) (.int .i64 t397)) (fun _ hk => hk.2) (.int .i64 t398)) (fun _ h_ => h_.1))) hb); have n2_ := Aside0.mk (blk_below (g := gb382) (o := .cells #[.string a1_0, .string a1_1, .int .i64 a1_2, .int .i64 a1_3, .int .i64 a1_4, .int .i64 a1_5] 26 (0, 0)) (by (with_reducible repeat (first | refine blk_drewN ?_ _ | refine blk_drew ?_ | refine blk_alloc ?_ _)); refine blk_far ?_ NB382_400.out _; (with_reducible repeat (first | refine blk_drewN ?_ _ | refine blk_drew ?_ | refine blk_alloc ?_ _)); refine blk_far ?_ NB382_400.out _; (with_reducible repeat (first | refine blk_drewN ?_ _ | refine blk_drew ?_ | refine blk_alloc ?_ _)); refine blk_far ?_ NB382_400.out _; (with_reducible repeat (first | refine blk_drewN ?_ _ | refine blk_drew ?_ | refine blk_alloc ?_ _)); refine blk_far ?_ NB382_400.out _; (with_reducible repeat (first | refine blk_drewN ?_ _ | refine blk_drew ?_ | refine blk_alloc ?_ _)); refine blk_far ?_ NB382_400.out _; (with_reducible repeat (first | refine blk_drewN ?_ _ | refine blk_drew ?_ | refine blk_alloc ?_ _)); refine blk_far ?_ NB382_400.out _; (with_reducible repeat (first | refine blk_drewN ?_ _ | refine blk_drew ?_ | refine blk_alloc ?_ _)); exact BK382.out) hb); have n3_ := Aside0.mk (blk_below (g := gb400) (o := .cells #[.string t393, .string t394, .int .i64 t395, .int .i64 t396, .int .i64 t397, .int .i64 t398] 26 (0, 0)) (by (with_reducible repeat (first | refine blk_drewN ?_ _ | refine blk_drew ?_ | refine blk_alloc ?_ _)); refine blk_put (cs := #[.string t393, .string t394, .int .i64 t395, .int .i64 t396, .int .i64 t397, .int .i64 0]) ?_ 5 _ rfl; (with_reducible repeat (first | refine blk_drewN ?_ _ | refine blk_drew ?_ | refine blk_alloc ?_ _)); refine blk_put (cs := #[.string t393, .string t394, .int .i64 t395, .int .i64 t396, .int .i64 0, .int .i64 0]) ?_ 4 _ rfl; (with_reducible repeat (first | refine blk_drewN ?_ _ | refine blk_drew ?_ | refine blk_alloc ?_ _)); refine blk_put (cs := #[.string t393, .string t394, .int .i64 t395, .int .i64 0, .int .i64 0, .int .i64 0]) ?_ 3 _ rfl; (with_reducible repeat (first | refine blk_drewN ?_ _ | refine blk_drew ?_ | refine blk_alloc ?_ _)); refine blk_put (cs := #[.string t393, .string t394, .int .i64 0, .int .i64 0, .int .i64 0, .int .i64 0]) ?_ 2 _ rfl; (with_reducible repeat (first | refine blk_drewN ?_ _ | refine blk_drew ?_ | refine blk_alloc ?_ _)); refine blk_put (cs := #[.string t393, .string (⟨#[]⟩ : ByteArray), .int .i64 0, .int .i64 0, .int .i64 0, .int .i64 0]) ?_ 1 _ rfl; (with_reducible repeat (first | refine blk_drewN ?_ _ | refine blk_drew ?_ | refine blk_alloc ?_ _)); refine blk_put (cs := #[.string (⟨#[]⟩ : ByteArray), .string (⟨#[]⟩ : ByteArray), .int .i64 0, .int .i64 0, .int .i64 0, .int .i64 0]) ?_ 0 _ rfl; (with_reducible repeat (first | refine blk_drewN ?_ _ | refine blk_drew ?_ | refine blk_alloc ?_ _)); exact BK400.out) hb); have n4_ := Aside0.mk (below_step (by repeat (first | (with_reducible first | exact HB.out | apply below_alloc | apply pw_below_drewN | apply below_drew1 | refine below_set ?_ GE382.out | refine below_set ?_ GE400.out) | exact HB.out)) hb); clear HO389; clear HO392; clear BK382; clear BK400; clear HB; have HO389 := n0_; have HO392 := n1_; have BK382 := n2_; have BK400 := n3_; have HB := n4_; clear n0_ n1_ n2_ n3_ n4_) | ((with_reducible refine gate_dst (N := 11) rfl ?_); (try (refine gate_guard (by rfl) ?_; dsimp only)); refine box_event ?hg (N := 11) ?hd (cs := #[.string (⟨#[]⟩ : ByteArray), .string (⟨#[]⟩ : ByteArray), .int .i64 0, .int .i64 0, .int .i64 0, .int .i64 0]) (t := 26) ?hr ?_; (case hd => rfl); (case hg => rfl); (case hr => first | (go_simp; done) | (go_simp; rfl)); intro gb408 hg w48 hbox hb; have n0_ := Aside0.mk (Kd.R_below (Kd.R_elderB (by (with_reducible repeat (first | apply Kd.R_alloc | apply Kd.R_drewN | apply Kd.R_drew)); exact HO389.out) gb408 (Nat.le_of_eq hg.symm)) hb); have n1_ := Aside0.mk (Kd.R_below (Kd.R_elderB (by (with_reducible repeat (first | apply Kd.R_alloc | apply Kd.R_drewN | apply Kd.R_drew)); exact HO392.out) gb408 (Nat.le_of_eq hg.symm)) hb); have n2_ := Aside0.mk (blk_below (g := gb382) (o := .cells #[.string a1_0, .string a1_1, .int .i64 a1_2, .int .i64 a1_3, .int .i64 a1_4, .int .i64 a1_5] 26 (0, 0)) (by (with_reducible repeat (first | refine blk_drewN ?_ _ | refine blk_drew ?_ | refine blk_alloc ?_ _)); exact BK382.out) hb); have n3_ := Aside0.mk (blk_below (g := gb400) (o := .cells #[.string t393, .string t394, .int .i64 t395, .int .i64 t396, .int .i64 t397, .int .i64 t398] 26 (0, 0)) (by (with_reducible repeat (first | refine blk_drewN ?_ _ | refine blk_drew ?_ | refine blk_alloc ?_ _)); exact BK400.out) hb); have n4_ := Aside0.mk (below_step (by repeat (first | (with_reducible first | exact HB.out | apply below_alloc | apply pw_below_drewN | apply below_drew1 | refine below_set ?_ GE382.out | refine below_set ?_ GE400.out) | exact HB.out)) hb); have n5_ := Aside0.mk (hbox); have n6_ := Aside0.mk ((by rw [hg]; exact (below_size (by repeat (first | (with_reducible first | exact HB.out | apply below_alloc | apply pw_below_drewN | apply below_drew1 | refine below_set ?_ GE382.out | refine below_set ?_ GE400.out) | exact HB.out))) : w.heap.size ≤ gb408)); have n7_ := Aside0.mk ((by rw [hg]; exact (below_size (by repeat (first | (with_reducible first | exact HB.out | apply below_alloc | apply pw_below_drewN | apply below_drew1 | refine below_set ?_ GE382.out | refine below_set ?_ GE400.out) | exact HB.out))) : w.heap.size ≤ gb408)); have n8_ := Aside0.mk ((by rw [hg]; exact Nat.ne_of_lt (blk_lt (g := gb382) (o := .cells #[.string a1_0, .string a1_1, .int .i64 a1_2, .int .i64 a1_3, .int .i64 a1_4, .int .i64 a1_5] 26 (0, 0)) (by (with_reducible repeat (first | refine blk_drewN ?_ _ | refine blk_drew ?_ | refine blk_alloc ?_ _)); exact BK382.out)) : gb382 ≠ gb408)); have n9_ := Aside0.mk ((by rw [hg]; exact Nat.ne_of_gt (blk_lt (g := gb382) (o := .cells #[.string a1_0, .string a1_1, .int .i64 a1_2, .int .i64 a1_3, .int .i64 a1_4, .int .i64 a1_5] 26 (0, 0)) (by (with_reducible repeat (first | refine blk_drewN ?_ _ | refine blk_drew ?_ | refine blk_alloc ?_ _)); exact BK382.out)) : gb408 ≠ gb382)); have n10_ := Aside0.mk ((by rw [hg]; exact Nat.ne_of_lt (blk_lt (g := gb400) (o := .cells #[.string t393, .string t394, .int .i64 t395, .int .i64 t396, .int .i64 t397, .int .i64 t398] 26 (0, 0)) (by (with_reducible repeat (first | refine blk_drewN ?_ _ | refine blk_drew ?_ | refine blk_alloc ?_ _)); exact BK400.out)) : gb400 ≠ gb408)); have n11_ := Aside0.mk ((by rw [hg]; exact Nat.ne_of_gt (blk_lt (g := gb400) (o := .cells #[.string t393, .string t394, .int .i64 t395, .int .i64 t396, .int .i64 t397, .int .i64 t398] 26 (0, 0)) (by (with_reducible repeat (first | refine blk_drewN ?_ _ | refine blk_drew ?_ | refine blk_alloc ?_ _)); exact BK400.out)) : gb408 ≠ gb400)); clear HO389; clear HO392; clear BK382; clear BK400; clear HB; have HO389 := n0_; have HO392 := n1_; have BK382 := n2_; have BK400 := n3_; have HB := n4_; have BK408 := n5_; have GW408 := n6_; have GE408 := n7_; have NB382_408 := n8_; have NB408_382 := n9_; have NB400_408 := n10_; have NB408_400 := n11_; clear n0_ n1_ n2_ n3_ n4_ n5_ n6_ n7_ n8_ n9_ n10_ n11_; clear hb hbox hg; have hnb49 := NB408_382.out; have hnc49 := NB382_408.out; have hnb50 := NB408_400.out; have hnc50 := NB400_408.out; have hcz51_0 : w48.cell? ⟨gb408, 0, none⟩ = some (.string (⟨#[]⟩ : ByteArray)) := (blk_cell BK408.out 0).trans rfl; have hcz51_1 : w48.cell? ⟨gb408, 1, none⟩ = some (.string (⟨#[]⟩ : ByteArray)) := (blk_cell BK408.out 1).trans rfl; have hcz51_2 : w48.cell? ⟨gb408, 2, none⟩ = some (.int .i64 0) := (blk_cell BK408.out 2).trans rfl; have hcz51_3 : w48.cell? ⟨gb408, 3, none⟩ = some (.int .i64 0) := (blk_cell BK408.out 3).trans rfl; have hcz51_4 : w48.cell? ⟨gb408, 4, none⟩ = some (.int .i64 0) := (blk_cell BK408.out 4).trans rfl; have hcz51_5 : w48.cell? ⟨gb408, 5, none⟩ = some (.int .i64 0) := (blk_cell BK408.out 5).trans rfl; have hfz51_0 := blk_frozen BK408.out 0; have hfz51_1 := blk_frozen BK408.out 1; have hfz51_2 := blk_frozen BK408.out 2; have hfz51_3 := blk_frozen BK408.out 3; have hfz51_4 := blk_frozen BK408.out 4; have hfz51_5 := blk_frozen BK408.out 5; have hcz52_0 : w48.cell? ⟨gb382, 0, none⟩ = some (.string a1_0) := (blk_cell BK382.out 0).trans rfl; have hcz52_1 : w48.cell? ⟨gb382, 1, none⟩ = some (.string a1_1) := (blk_cell BK382.out 1).trans rfl; have hcz52_2 : w48.cell? ⟨gb382, 2, none⟩ = some (.int .i64 a1_2) := (blk_cell BK382.out 2).trans rfl; have hcz52_3 : w48.cell? ⟨gb382, 3, none⟩ = some (.int .i64 a1_3) := (blk_cell BK382.out 3).trans rfl; have hcz52_4 : w48.cell? ⟨gb382, 4, none⟩ = some (.int .i64 a1_4) := (blk_cell BK382.out 4).trans rfl; have hcz52_5 : w48.cell? ⟨gb382, 5, none⟩ = some (.int .i64 a1_5) := (blk_cell BK382.out 5).trans rfl; have hfz52_0 := blk_frozen BK382.out 0; have hfz52_1 := blk_frozen BK382.out 1; have hfz52_2 := blk_frozen BK382.out 2; have hfz52_3 := blk_frozen BK382.out 3; have hfz52_4 := blk_frozen BK382.out 4; have hfz52_5 := blk_frozen BK382.out 5) | ((with_reducible refine gate_callee (f := 11) rfl ?_); refine goesL_ (some 78) rfl rfl Try.func11 (by kernel_rfl) rfl #[.slice A0 l0.length c0, .string a1_0] rfl (by (try simp only [List.map_toArray, List.map_cons, List.map_nil]); first | done | rfl | (simp only [List.length_drop, List.length_take]; rfl)) ?_; (with_reducible refine (hist_Find.calls _ _ l0 a1_0 t409 t410 t411 t412 t413 t414 t415 _ ?side1 ?side2 A30.out).mono ?_); (case side1 => exact Kd.C_below HR0.out (by repeat (first | (with_reducible first | exact HB.out | apply below_alloc | apply pw_below_drewN | apply below_drew1 | refine below_set ?_ GE382.out | refine below_set ?_ GE400.out | refine below_set ?_ GE408.out) | exact HB.out))); (case side2 => exact HC0.out); rintro e w53 ⟨rfl, hb⟩; refine ⟨_, rfl, ?_⟩; have n0_ := Aside0.mk (Kd.R_below (by (with_reducible repeat (first | apply Kd.R_alloc | apply Kd.R_drewN | apply Kd.R_drew)); exact (Kd.R_mono (Kd.R_far (p := ⟨gb408, 5, none⟩) (Kd.R_far (p := ⟨gb408, 4, none⟩) (Kd.R_far (p := ⟨gb408, 3, none⟩) (Kd.R_far (p := ⟨gb408, 2, none⟩) (Kd.R_far (p := ⟨gb408, 1, none⟩) (Kd.R_far (p := ⟨gb408, 0, none⟩) (Kd.R_mono HO389.out (fun k_ hk => (⟨hk, hk.2⟩ : _ ∧ k_ ≠ gb408))) (fun _ hk => hk.2) (.string t401)) (fun _ hk => hk.2) (.string t402)) (fun _ hk => hk.2) (.int .i64 t403)) (fun _ hk => hk.2) (.int .i64 t404)) (fun _ hk => hk.2) (.int .i64 t405)) (fun _ hk => hk.2) (.int .i64 t406)) (fun _ h_ => h_.1))) hb); have n1_ := Aside0.mk (Kd.R_below (by (with_reducible repeat (first | apply Kd.R_alloc | apply Kd.R_drewN | apply Kd.R_drew)); exact (Kd.R_mono (Kd.R_far (p := ⟨gb408, 5, none⟩) (Kd.R_far (p := ⟨gb408, 4, none⟩) (Kd.R_far (p := ⟨gb408, 3, none⟩) (Kd.R_far (p := ⟨gb408, 2, none⟩) (Kd.R_far (p := ⟨gb408, 1, none⟩) (Kd.R_far (p := ⟨gb408, 0, none⟩) (Kd.R_mono HO392.out (fun k_ hk => (⟨hk, hk.2⟩ : _ ∧ k_ ≠ gb408))) (fun _ hk => hk.2) (.string t401)) (fun _ hk => hk.2) (.string t402)) (fun _ hk => hk.2) (.int .i64 t403)) (fun _ hk => hk.2) (.int .i64 t404)) (fun _ hk => hk.2) (.int .i64 t405)) (fun _ hk => hk.2) (.int .i64 t406)) (fun _ h_ => h_.1))) hb); have n2_ := Aside0.mk (blk_below (g := gb382) (o := .cells #[.string a1_0, .string a1_1, .int .i64 a1_2, .int .i64 a1_3, .int .i64 a1_4, .int .i64 a1_5] 26 (0, 0)) (by (with_reducible repeat (first | refine blk_drewN ?_ _ | refine blk_drew ?_ | refine blk_alloc ?_ _)); refine blk_far ?_ NB382_408.out _; (with_reducible repeat (first | refine blk_drewN ?_ _ | refine blk_drew ?_ | refine blk_alloc ?_ _)); refine blk_far ?_ NB382_408.out _; (with_reducible repeat (first | refine blk_drewN ?_ _ | refine blk_drew ?_ | refine blk_alloc ?_ _)); refine blk_far ?_ NB382_408.out _; (with_reducible repeat (first | refine blk_drewN ?_ _ | refine blk_drew ?_ | refine blk_alloc ?_ _)); refine blk_far ?_ NB382_408.out _; (with_reducible repeat (first | refine blk_drewN ?_ _ | refine blk_drew ?_ | refine blk_alloc ?_ _)); refine blk_far ?_ NB382_408.out _; (with_reducible repeat (first | refine blk_drewN ?_ _ | refine blk_drew ?_ | refine blk_alloc ?_ _)); refine blk_far ?_ NB382_408.out _; (with_reducible repeat (first | refine blk_drewN ?_ _ | refine blk_drew ?_ | refine blk_alloc ?_ _)); exact BK382.out) hb); have n3_ := Aside0.mk (blk_below (g := gb400) (o := .cells #[.string t393, .string t394, .int .i64 t395, .int .i64 t396, .int .i64 t397, .int .i64 t398] 26 (0, 0)) (by (with_reducible repeat (first | refine blk_drewN ?_ _ | refine blk_drew ?_ | refine blk_alloc ?_ _)); refine blk_far ?_ NB400_408.out _; (with_reducible repeat (first | refine blk_drewN ?_ _ | refine blk_drew ?_ | refine blk_alloc ?_ _)); refine blk_far ?_ NB400_408.out _; (with_reducible repeat (first | refine blk_drewN ?_ _ | refine blk_drew ?_ | refine blk_alloc ?_ _)); refine blk_far ?_ NB400_408.out _; (with_reducible repeat (first | refine blk_drewN ?_ _ | refine blk_drew ?_ | refine blk_alloc ?_ _)); refine blk_far ?_ NB400_408.out _; (with_reducible repeat (first | refine blk_drewN ?_ _ | refine blk_drew ?_ | refine blk_alloc ?_ _)); refine blk_far ?_ NB400_408.out _; (with_reducible repeat (first | refine blk_drewN ?_ _ | refine blk_drew ?_ | refine blk_alloc ?_ _)); refine blk_far ?_ NB400_408.out _; (with_reducible repeat (first | refine blk_drewN ?_ _ | refine blk_drew ?_ | refine blk_alloc ?_ _)); exact BK400.out) hb); have n4_ := Aside0.mk (blk_below (g := gb408) (o := .cells #[.string t401, .string t402, .int .i64 t403, .int .i64 t404, .int .i64 t405, .int .i64 t406] 26 (0, 0)) (by (with_reducible repeat (first | refine blk_drewN ?_ _ | refine blk_drew ?_ | refine blk_alloc ?_ _)); refine blk_put (cs := #[.string t401, .string t402, .int .i64 t403, .int .i64 t404, .int .i64 t405, .int .i64 0]) ?_ 5 _ rfl; (with_reducible repeat (first | refine blk_drewN ?_ _ | refine blk_drew ?_ | refine blk_alloc ?_ _)); refine blk_put (cs := #[.string t401, .string t402, .int .i64 t403, .int .i64 t404, .int .i64 0, .int .i64 0]) ?_ 4 _ rfl; (with_reducible repeat (first | refine blk_drewN ?_ _ | refine blk_drew ?_ | refine blk_alloc ?_ _)); refine blk_put (cs := #[.string t401, .string t402, .int .i64 t403, .int .i64 0, .int .i64 0, .int .i64 0]) ?_ 3 _ rfl; (with_reducible repeat (first | refine blk_drewN ?_ _ | refine blk_drew ?_ | refine blk_alloc ?_ _)); refine blk_put (cs := #[.string t401, .string t402, .int .i64 0, .int .i64 0, .int .i64 0, .int .i64 0]) ?_ 2 _ rfl; (with_reducible repeat (first | refine blk_drewN ?_ _ | refine blk_drew ?_ | refine blk_alloc ?_ _)); refine blk_put (cs := #[.string t401, .string (⟨#[]⟩ : ByteArray), .int .i64 0, .int .i64 0, .int .i64 0, .int .i64 0]) ?_ 1 _ rfl; (with_reducible repeat (first | refine blk_drewN ?_ _ | refine blk_drew ?_ | refine blk_alloc ?_ _)); refine blk_put (cs := #[.string (⟨#[]⟩ : ByteArray), .string (⟨#[]⟩ : ByteArray), .int .i64 0, .int .i64 0, .int .i64 0, .int .i64 0]) ?_ 0 _ rfl; (with_reducible repeat (first | refine blk_drewN ?_ _ | refine blk_drew ?_ | refine blk_alloc ?_ _)); exact BK408.out) hb); have n5_ := Aside0.mk (below_step (by repeat (first | (with_reducible first | exact HB.out | apply below_alloc | apply pw_below_drewN | apply below_drew1 | refine below_set ?_ GE382.out | refine below_set ?_ GE400.out | refine below_set ?_ GE408.out) | exact HB.out)) hb); clear HO389; clear HO392; clear BK382; clear BK400; clear BK408; clear HB; have HO389 := n0_; have HO392 := n1_; have BK382 := n2_; have BK400 := n3_; have BK408 := n4_; have HB := n5_; clear n0_ n1_ n2_ n3_ n4_ n5_) | ((with_reducible refine gate_dst (N := 13) rfl ?_); (try (refine gate_guard (by rfl) ?_; dsimp only)); refine box_event ?hg (N := 13) ?hd (cs := #[.string (⟨#[]⟩ : ByteArray), .string (⟨#[]⟩ : ByteArray), .int .i64 0, .int .i64 0, .int .i64 0, .int .i64 0]) (t := 26) ?hr ?_; (case hd => rfl); (case hg => rfl); (case hr => first | (go_simp; done) | (go_simp; rfl)); intro gb416 hg w54 hbox hb; have n0_ := Aside0.mk (Kd.R_below (Kd.R_elderB (by (with_reducible repeat (first | apply Kd.R_alloc | apply Kd.R_drewN | apply Kd.R_drew)); exact HO389.out) gb416 (Nat.le_of_eq hg.symm)) hb); have n1_ := Aside0.mk (Kd.R_below (Kd.R_elderB (by (with_reducible repeat (first | apply Kd.R_alloc | apply Kd.R_drewN | apply Kd.R_drew)); exact HO392.out) gb416 (Nat.le_of_eq hg.symm)) hb); have n2_ := Aside0.mk (blk_below (g := gb382) (o := .cells #[.string a1_0, .string a1_1, .int .i64 a1_2, .int .i64 a1_3, .int .i64 a1_4, .int .i64 a1_5] 26 (0, 0)) (by (with_reducible repeat (first | refine blk_drewN ?_ _ | refine blk_drew ?_ | refine blk_alloc ?_ _)); exact BK382.out) hb); have n3_ := Aside0.mk (blk_below (g := gb400) (o := .cells #[.string t393, .string t394, .int .i64 t395, .int .i64 t396, .int .i64 t397, .int .i64 t398] 26 (0, 0)) (by (with_reducible repeat (first | refine blk_drewN ?_ _ | refine blk_drew ?_ | refine blk_alloc ?_ _)); exact BK400.out) hb); have n4_ := Aside0.mk (blk_below (g := gb408) (o := .cells #[.string t401, .string t402, .int .i64 t403, .int .i64 t404, .int .i64 t405, .int .i64 t406] 26 (0, 0)) (by (with_reducible repeat (first | refine blk_drewN ?_ _ | refine blk_drew ?_ | refine blk_alloc ?_ _)); exact BK408.out) hb); have n5_ := Aside0.mk (below_step (by repeat (first | (with_reducible first | exact HB.out | apply below_alloc | apply pw_below_drewN | apply below_drew1 | refine below_set ?_ GE382.out | refine below_set ?_ GE400.out | refine below_set ?_ GE408.out) | exact HB.out)) hb); have n6_ := Aside0.mk (hbox); have n7_ := Aside0.mk ((by rw [hg]; exact (below_size (by repeat (first | (with_reducible first | exact HB.out | apply below_alloc | apply pw_below_drewN | apply below_drew1 | refine below_set ?_ GE382.out | refine below_set ?_ GE400.out | refine below_set ?_ GE408.out) | exact HB.out))) : w.heap.size ≤ gb416)); have n8_ := Aside0.mk ((by rw [hg]; exact (below_size (by repeat (first | (with_reducible first | exact HB.out | apply below_alloc | apply pw_below_drewN | apply below_drew1 | refine below_set ?_ GE382.out | refine below_set ?_ GE400.out | refine below_set ?_ GE408.out) | exact HB.out))) : w.heap.size ≤ gb416)); have n9_ := Aside0.mk ((by rw [hg]; exact Nat.ne_of_lt (blk_lt (g := gb382) (o := .cells #[.string a1_0, .string a1_1, .int .i64 a1_2, .int .i64 a1_3, .int .i64 a1_4, .int .i64 a1_5] 26 (0, 0)) (by (with_reducible repeat (first | refine blk_drewN ?_ _ | refine blk_drew ?_ | refine blk_alloc ?_ _)); exact BK382.out)) : gb382 ≠ gb416)); have n10_ := Aside0.mk ((by rw [hg]; exact Nat.ne_of_gt (blk_lt (g := gb382) (o := .cells #[.string a1_0, .string a1_1, .int .i64 a1_2, .int .i64 a1_3, .int .i64 a1_4, .int .i64 a1_5] 26 (0, 0)) (by (with_reducible repeat (first | refine blk_drewN ?_ _ | refine blk_drew ?_ | refine blk_alloc ?_ _)); exact BK382.out)) : gb416 ≠ gb382)); have n11_ := Aside0.mk ((by rw [hg]; exact Nat.ne_of_lt (blk_lt (g := gb400) (o := .cells #[.string t393, .string t394, .int .i64 t395, .int .i64 t396, .int .i64 t397, .int .i64 t398] 26 (0, 0)) (by (with_reducible repeat (first | refine blk_drewN ?_ _ | refine blk_drew ?_ | refine blk_alloc ?_ _)); exact BK400.out)) : gb400 ≠ gb416)); have n12_ := Aside0.mk ((by rw [hg]; exact Nat.ne_of_gt (blk_lt (g := gb400) (o := .cells #[.string t393, .string t394, .int .i64 t395, .int .i64 t396, .int .i64 t397, .int .i64 t398] 26 (0, 0)) (by (with_reducible repeat (first | refine blk_drewN ?_ _ | refine blk_drew ?_ | refine blk_alloc ?_ _)); exact BK400.out)) : gb416 ≠ gb400)); have n13_ := Aside0.mk ((by rw [hg]; exact Nat.ne_of_lt (blk_lt (g := gb408) (o := .cells #[.string t401, .string t402, .int .i64 t403, .int .i64 t404, .int .i64 t405, .int .i64 t406] 26 (0, 0)) (by (with_reducible repeat (first | refine blk_drewN ?_ _ | refine blk_drew ?_ | refine blk_alloc ?_ _)); exact BK408.out)) : gb408 ≠ gb416)); have n14_ := Aside0.mk ((by rw [hg]; exact Nat.ne_of_gt (blk_lt (g := gb408) (o := .cells #[.string t401, .string t402, .int .i64 t403, .int .i64 t404, .int .i64 t405, .int .i64 t406] 26 (0, 0)) (by (with_reducible repeat (first | refine blk_drewN ?_ _ | refine blk_drew ?_ | refine blk_alloc ?_ _)); exact BK408.out)) : gb416 ≠ gb408)); clear HO389; clear HO392; clear BK382; clear BK400; clear BK408; clear HB; have HO389 := n0_; have HO392 := n1_; have BK382 := n2_; have BK400 := n3_; have BK408 := n4_; have HB := n5_; have BK416 := n6_; have GW416 := n7_; have GE416 := n8_; have NB382_416 := n9_; have NB416_382 := n10_; have NB400_416 := n11_; have NB416_400 := n12_; have NB408_416 := n13_; have NB416_408 := n14_; clear n0_ n1_ n2_ n3_ n4_ n5_ n6_ n7_ n8_ n9_ n10_ n11_ n12_ n13_ n14_; clear hb hbox hg; have hnb55 := NB416_382.out; have hnc55 := NB382_416.out; have hnb56 := NB416_400.out; have hnc56 := NB400_416.out; have hnb57 := NB416_408.out; have hnc57 := NB408_416.out; have hcz58_0 : w54.cell? ⟨gb416, 0, none⟩ = some (.string (⟨#[]⟩ : ByteArray)) := (blk_cell BK416.out 0).trans rfl; have hcz58_1 : w54.cell? ⟨gb416, 1, none⟩ = some (.string (⟨#[]⟩ : ByteArray)) := (blk_cell BK416.out 1).trans rfl; have hcz58_2 : w54.cell? ⟨gb416, 2, none⟩ = some (.int .i64 0) := (blk_cell BK416.out 2).trans rfl; have hcz58_3 : w54.cell? ⟨gb416, 3, none⟩ = some (.int .i64 0) := (blk_cell BK416.out 3).trans rfl; have hcz58_4 : w54.cell? ⟨gb416, 4, none⟩ = some (.int .i64 0) := (blk_cell BK416.out 4).trans rfl; have hcz58_5 : w54.cell? ⟨gb416, 5, none⟩ = some (.int .i64 0) := (blk_cell BK416.out 5).trans rfl; have hfz58_0 := blk_frozen BK416.out 0; have hfz58_1 := blk_frozen BK416.out 1; have hfz58_2 := blk_frozen BK416.out 2; have hfz58_3 := blk_frozen BK416.out 3; have hfz58_4 := blk_frozen BK416.out 4; have hfz58_5 := blk_frozen BK416.out 5) | ((with_reducible refine gate_callee (f := 11) rfl ?_); refine goesL_ (some 84) rfl rfl Try.func11 (by kernel_rfl) rfl #[.slice A0 l0.length c0, .string a2] rfl (by (try simp only [List.map_toArray, List.map_cons, List.map_nil]); first | done | rfl | (simp only [List.length_drop, List.length_take]; rfl)) ?_; (with_reducible refine (hist_Find.calls _ _ l0 a2 t417 t418 t419 t420 t421 t422 t423 _ ?side1 ?side2 A31.out).mono ?_); (case side1 => exact Kd.C_below HR0.out (by repeat (first | (with_reducible first | exact HB.out | apply below_alloc | apply pw_below_drewN | apply below_drew1 | refine below_set ?_ GE382.out | refine below_set ?_ GE400.out | refine below_set ?_ GE408.out | refine below_set ?_ GE416.out) | exact HB.out))); (case side2 => exact HC0.out); rintro e w59 ⟨rfl, hb⟩; refine ⟨_, rfl, ?_⟩; have n0_ := Aside0.mk (Kd.R_below (by (with_reducible repeat (first | apply Kd.R_alloc | apply Kd.R_drewN | apply Kd.R_drew)); exact (Kd.R_mono (Kd.R_far (p := ⟨gb416, 5, none⟩) (Kd.R_far (p := ⟨gb416, 4, none⟩) (Kd.R_far (p := ⟨gb416, 3, none⟩) (Kd.R_far (p := ⟨gb416, 2, none⟩) (Kd.R_far (p := ⟨gb416, 1, none⟩) (Kd.R_far (p := ⟨gb416, 0, none⟩) (Kd.R_mono HO389.out (fun k_ hk => (⟨hk, hk.2⟩ : _ ∧ k_ ≠ gb416))) (fun _ hk => hk.2) (.string t409)) (fun _ hk => hk.2) (.string t410)) (fun _ hk => hk.2) (.int .i64 t411)) (fun _ hk => hk.2) (.int .i64 t412)) (fun _ hk => hk.2) (.int .i64 t413)) (fun _ hk => hk.2) (.int .i64 t414)) (fun _ h_ => h_.1))) hb); have n1_ := Aside0.mk (Kd.R_below (by (with_reducible repeat (first | apply Kd.R_alloc | apply Kd.R_drewN | apply Kd.R_drew)); exact (Kd.R_mono (Kd.R_far (p := ⟨gb416, 5, none⟩) (Kd.R_far (p := ⟨gb416, 4, none⟩) (Kd.R_far (p := ⟨gb416, 3, none⟩) (Kd.R_far (p := ⟨gb416, 2, none⟩) (Kd.R_far (p := ⟨gb416, 1, none⟩) (Kd.R_far (p := ⟨gb416, 0, none⟩) (Kd.R_mono HO392.out (fun k_ hk => (⟨hk, hk.2⟩ : _ ∧ k_ ≠ gb416))) (fun _ hk => hk.2) (.string t409)) (fun _ hk => hk.2) (.string t410)) (fun _ hk => hk.2) (.int .i64 t411)) (fun _ hk => hk.2) (.int .i64 t412)) (fun _ hk => hk.2) (.int .i64 t413)) (fun _ hk => hk.2) (.int .i64 t414)) (fun _ h_ => h_.1))) hb); have n2_ := Aside0.mk (blk_below (g := gb382) (o := .cells #[.string a1_0, .string a1_1, .int .i64 a1_2, .int .i64 a1_3, .int .i64 a1_4, .int .i64 a1_5] 26 (0, 0)) (by (with_reducible repeat (first | refine blk_drewN ?_ _ | refine blk_drew ?_ | refine blk_alloc ?_ _)); refine blk_far ?_ NB382_416.out _; (with_reducible repeat (first | refine blk_drewN ?_ _ | refine blk_drew ?_ | refine blk_alloc ?_ _)); refine blk_far ?_ NB382_416.out _; (with_reducible repeat (first | refine blk_drewN ?_ _ | refine blk_drew ?_ | refine blk_alloc ?_ _)); refine blk_far ?_ NB382_416.out _; (with_reducible repeat (first | refine blk_drewN ?_ _ | refine blk_drew ?_ | refine blk_alloc ?_ _)); refine blk_far ?_ NB382_416.out _; (with_reducible repeat (first | refine blk_drewN ?_ _ | refine blk_drew ?_ | refine blk_alloc ?_ _)); refine blk_far ?_ NB382_416.out _; (with_reducible repeat (first | refine blk_drewN ?_ _ | refine blk_drew ?_ | refine blk_alloc ?_ _)); refine blk_far ?_ NB382_416.out _; (with_reducible repeat (first | refine blk_drewN ?_ _ | refine blk_drew ?_ | refine blk_alloc ?_ _)); exact BK382.out) hb); have n3_ := Aside0.mk (blk_below (g := gb400) (o := .cells #[.string t393, .string t394, .int .i64 t395, .int .i64 t396, .int .i64 t397, .int .i64 t398] 26 (0, 0)) (by (with_reducible repeat (first | refine blk_drewN ?_ _ | refine blk_drew ?_ | refine blk_alloc ?_ _)); refine blk_far ?_ NB400_416.out _; (with_reducible repeat (first | refine blk_drewN ?_ _ | refine blk_drew ?_ | refine blk_alloc ?_ _)); refine blk_far ?_ NB400_416.out _; (with_reducible repeat (first | refine blk_drewN ?_ _ | refine blk_drew ?_ | refine blk_alloc ?_ _)); refine blk_far ?_ NB400_416.out _; (with_reducible repeat (first | refine blk_drewN ?_ _ | refine blk_drew ?_ | refine blk_alloc ?_ _)); refine blk_far ?_ NB400_416.out _; (with_reducible repeat (first | refine blk_drewN ?_ _ | refine blk_drew ?_ | refine blk_alloc ?_ _)); refine blk_far ?_ NB400_416.out _; (with_reducible repeat (first | refine blk_drewN ?_ _ | refine blk_drew ?_ | refine blk_alloc ?_ _)); refine blk_far ?_ NB400_416.out _; (with_reducible repeat (first | refine blk_drewN ?_ _ | refine blk_drew ?_ | refine blk_alloc ?_ _)); exact BK400.out) hb); have n4_ := Aside0.mk (blk_below (g := gb408) (o := .cells #[.string t401, .string t402, .int .i64 t403, .int .i64 t404, .int .i64 t405, .int .i64 t406] 26 (0, 0)) (by (with_reducible repeat (first | refine blk_drewN ?_ _ | refine blk_drew ?_ | refine blk_alloc ?_ _)); refine blk_far ?_ NB408_416.out _; (with_reducible repeat (first | refine blk_drewN ?_ _ | refine blk_drew ?_ | refine blk_alloc ?_ _)); refine blk_far ?_ NB408_416.out _; (with_reducible repeat (first | refine blk_drewN ?_ _ | refine blk_drew ?_ | refine blk_alloc ?_ _)); refine blk_far ?_ NB408_416.out _; (with_reducible repeat (first | refine blk_drewN ?_ _ | refine blk_drew ?_ | refine blk_alloc ?_ _)); refine blk_far ?_ NB408_416.out _; (with_reducible repeat (first | refine blk_drewN ?_ _ | refine blk_drew ?_ | refine blk_alloc ?_ _)); refine blk_far ?_ NB408_416.out _; (with_reducible repeat (first | refine blk_drewN ?_ _ | refine blk_drew ?_ | refine blk_alloc ?_ _)); refine blk_far ?_ NB408_416.out _; (with_reducible repeat (first | refine blk_drewN ?_ _ | refine blk_drew ?_ | refine blk_alloc ?_ _)); exact BK408.out) hb); have n5_ := Aside0.mk (blk_below (g := gb416) (o := .cells #[.string t409, .string t410, .int .i64 t411, .int .i64 t412, .int .i64 t413, .int .i64 t414] 26 (0, 0)) (by (with_reducible repeat (first | refine blk_drewN ?_ _ | refine blk_drew ?_ | refine blk_alloc ?_ _)); refine blk_put (cs := #[.string t409, .string t410, .int .i64 t411, .int .i64 t412, .int .i64 t413, .int .i64 0]) ?_ 5 _ rfl; (with_reducible repeat (first | refine blk_drewN ?_ _ | refine blk_drew ?_ | refine blk_alloc ?_ _)); refine blk_put (cs := #[.string t409, .string t410, .int .i64 t411, .int .i64 t412, .int .i64 0, .int .i64 0]) ?_ 4 _ rfl; (with_reducible repeat (first | refine blk_drewN ?_ _ | refine blk_drew ?_ | refine blk_alloc ?_ _)); refine blk_put (cs := #[.string t409, .string t410, .int .i64 t411, .int .i64 0, .int .i64 0, .int .i64 0]) ?_ 3 _ rfl; (with_reducible repeat (first | refine blk_drewN ?_ _ | refine blk_drew ?_ | refine blk_alloc ?_ _)); refine blk_put (cs := #[.string t409, .string t410, .int .i64 0, .int .i64 0, .int .i64 0, .int .i64 0]) ?_ 2 _ rfl; (with_reducible repeat (first | refine blk_drewN ?_ _ | refine blk_drew ?_ | refine blk_alloc ?_ _)); refine blk_put (cs := #[.string t409, .string (⟨#[]⟩ : ByteArray), .int .i64 0, .int .i64 0, .int .i64 0, .int .i64 0]) ?_ 1 _ rfl; (with_reducible repeat (first | refine blk_drewN ?_ _ | refine blk_drew ?_ | refine blk_alloc ?_ _)); refine blk_put (cs := #[.string (⟨#[]⟩ : ByteArray), .string (⟨#[]⟩ : ByteArray), .int .i64 0, .int .i64 0, .int .i64 0, .int .i64 0]) ?_ 0 _ rfl; (with_reducible repeat (first | refine blk_drewN ?_ _ | refine blk_drew ?_ | refine blk_alloc ?_ _)); exact BK416.out) hb); have n6_ := Aside0.mk (below_step (by repeat (first | (with_reducible first | exact HB.out | apply below_alloc | apply pw_below_drewN | apply below_drew1 | refine below_set ?_ GE382.out | refine below_set ?_ GE400.out | refine below_set ?_ GE408.out | refine below_set ?_ GE416.out) | exact HB.out)) hb); clear HO389; clear HO392; clear BK382; clear BK400; clear BK408; clear BK416; clear HB; have HO389 := n0_; have HO392 := n1_; have BK382 := n2_; have BK400 := n3_; have BK408 := n4_; have BK416 := n5_; have HB := n6_; clear n0_ n1_ n2_ n3_ n4_ n5_ n6_) | ((with_reducible refine gate_dst (N := 15) rfl ?_); (try (refine gate_guard (by rfl) ?_; dsimp only)); refine box_event ?hg (N := 15) ?hd (cs := #[.string (⟨#[]⟩ : ByteArray), .string (⟨#[]⟩ : ByteArray), .int .i64 0, .int .i64 0, .int .i64 0, .int .i64 0]) (t := 26) ?hr ?_; (case hd => rfl); (case hg => rfl); (case hr => first | (go_simp; done) | (go_simp; rfl)); intro gb424 hg w60 hbox hb; have n0_ := Aside0.mk (Kd.R_below (Kd.R_elderB (by (with_reducible repeat (first | apply Kd.R_alloc | apply Kd.R_drewN | apply Kd.R_drew)); exact HO389.out) gb424 (Nat.le_of_eq hg.symm)) hb); have n1_ := Aside0.mk (Kd.R_below (Kd.R_elderB (by (with_reducible repeat (first | apply Kd.R_alloc | apply Kd.R_drewN | apply Kd.R_drew)); exact HO392.out) gb424 (Nat.le_of_eq hg.symm)) hb); have n2_ := Aside0.mk (blk_below (g := gb382) (o := .cells #[.string a1_0, .string a1_1, .int .i64 a1_2, .int .i64 a1_3, .int .i64 a1_4, .int .i64 a1_5] 26 (0, 0)) (by (with_reducible repeat (first | refine blk_drewN ?_ _ | refine blk_drew ?_ | refine blk_alloc ?_ _)); exact BK382.out) hb); have n3_ := Aside0.mk (blk_below (g := gb400) (o := .cells #[.string t393, .string t394, .int .i64 t395, .int .i64 t396, .int .i64 t397, .int .i64 t398] 26 (0, 0)) (by (with_reducible repeat (first | refine blk_drewN ?_ _ | refine blk_drew ?_ | refine blk_alloc ?_ _)); exact BK400.out) hb); have n4_ := Aside0.mk (blk_below (g := gb408) (o := .cells #[.string t401, .string t402, .int .i64 t403, .int .i64 t404, .int .i64 t405, .int .i64 t406] 26 (0, 0)) (by (with_reducible repeat (first | refine blk_drewN ?_ _ | refine blk_drew ?_ | refine blk_alloc ?_ _)); exact BK408.out) hb); have n5_ := Aside0.mk (blk_below (g := gb416) (o := .cells #[.string t409, .string t410, .int .i64 t411, .int .i64 t412, .int .i64 t413, .int .i64 t414] 26 (0, 0)) (by (with_reducible repeat (first | refine blk_drewN ?_ _ | refine blk_drew ?_ | refine blk_alloc ?_ _)); exact BK416.out) hb); have n6_ := Aside0.mk (below_step (by repeat (first | (with_reducible first | exact HB.out | apply below_alloc | apply pw_below_drewN | apply below_drew1 | refine below_set ?_ GE382.out | refine below_set ?_ GE400.out | refine below_set ?_ GE408.out | refine below_set ?_ GE416.out) | exact HB.out)) hb); have n7_ := Aside0.mk (hbox); have n8_ := Aside0.mk ((by rw [hg]; exact (below_size (by repeat (first | (with_reducible first | exact HB.out | apply below_alloc | apply pw_below_drewN | apply below_drew1 | refine below_set ?_ GE382.out | refine below_set ?_ GE400.out | refine below_set ?_ GE408.out | refine below_set ?_ GE416.out) | exact HB.out))) : w.heap.size ≤ gb424)); have n9_ := Aside0.mk ((by rw [hg]; exact (below_size (by repeat (first | (with_reducible first | exact HB.out | apply below_alloc | apply pw_below_drewN | apply below_drew1 | refine below_set ?_ GE382.out | refine below_set ?_ GE400.out | refine below_set ?_ GE408.out | refine below_set ?_ GE416.out) | exact HB.out))) : w.heap.size ≤ gb424)); have n10_ := Aside0.mk ((by rw [hg]; exact Nat.ne_of_lt (blk_lt (g := gb382) (o := .cells #[.string a1_0, .string a1_1, .int .i64 a1_2, .int .i64 a1_3, .int .i64 a1_4, .int .i64 a1_5] 26 (0, 0)) (by (with_reducible repeat (first | refine blk_drewN ?_ _ | refine blk_drew ?_ | refine blk_alloc ?_ _)); exact BK382.out)) : gb382 ≠ gb424)); have n11_ := Aside0.mk ((by rw [hg]; exact Nat.ne_of_gt (blk_lt (g := gb382) (o := .cells #[.string a1_0, .string a1_1, .int .i64 a1_2, .int .i64 a1_3, .int .i64 a1_4, .int .i64 a1_5] 26 (0, 0)) (by (with_reducible repeat (first | refine blk_drewN ?_ _ | refine blk_drew ?_ | refine blk_alloc ?_ _)); exact BK382.out)) : gb424 ≠ gb382)); have n12_ := Aside0.mk ((by rw [hg]; exact Nat.ne_of_lt (blk_lt (g := gb400) (o := .cells #[.string t393, .string t394, .int .i64 t395, .int .i64 t396, .int .i64 t397, .int .i64 t398] 26 (0, 0)) (by (with_reducible repeat (first | refine blk_drewN ?_ _ | refine blk_drew ?_ | refine blk_alloc ?_ _)); exact BK400.out)) : gb400 ≠ gb424)); have n13_ := Aside0.mk ((by rw [hg]; exact Nat.ne_of_gt (blk_lt (g := gb400) (o := .cells #[.string t393, .string t394, .int .i64 t395, .int .i64 t396, .int .i64 t397, .int .i64 t398] 26 (0, 0)) (by (with_reducible repeat (first | refine blk_drewN ?_ _ | refine blk_drew ?_ | refine blk_alloc ?_ _)); exact BK400.out)) : gb424 ≠ gb400)); have n14_ := Aside0.mk ((by rw [hg]; exact Nat.ne_of_lt (blk_lt (g := gb408) (o := .cells #[.string t401, .string t402, .int .i64 t403, .int .i64 t404, .int .i64 t405, .int .i64 t406] 26 (0, 0)) (by (with_reducible repeat (first | refine blk_drewN ?_ _ | refine blk_drew ?_ | refine blk_alloc ?_ _)); exact BK408.out)) : gb408 ≠ gb424)); have n15_ := Aside0.mk ((by rw [hg]; exact Nat.ne_of_gt (blk_lt (g := gb408) (o := .cells #[.string t401, .string t402, .int .i64 t403, .int .i64 t404, .int .i64 t405, .int .i64 t406] 26 (0, 0)) (by (with_reducible repeat (first | refine blk_drewN ?_ _ | refine blk_drew ?_ | refine blk_alloc ?_ _)); exact BK408.out)) : gb424 ≠ gb408)); have n16_ := Aside0.mk ((by rw [hg]; exact Nat.ne_of_lt (blk_lt (g := gb416) (o := .cells #[.string t409, .string t410, .int .i64 t411, .int .i64 t412, .int .i64 t413, .int .i64 t414] 26 (0, 0)) (by (with_reducible repeat (first | refine blk_drewN ?_ _ | refine blk_drew ?_ | refine blk_alloc ?_ _)); exact BK416.out)) : gb416 ≠ gb424)); have n17_ := Aside0.mk ((by rw [hg]; exact Nat.ne_of_gt (blk_lt (g := gb416) (o := .cells #[.string t409, .string t410, .int .i64 t411, .int .i64 t412, .int .i64 t413, .int .i64 t414] 26 (0, 0)) (by (with_reducible repeat (first | refine blk_drewN ?_ _ | refine blk_drew ?_ | refine blk_alloc ?_ _)); exact BK416.out)) : gb424 ≠ gb416)); clear HO389; clear HO392; clear BK382; clear BK400; clear BK408; clear BK416; clear HB; have HO389 := n0_; have HO392 := n1_; have BK382 := n2_; have BK400 := n3_; have BK408 := n4_; have BK416 := n5_; have HB := n6_; have BK424 := n7_; have GW424 := n8_; have GE424 := n9_; have NB382_424 := n10_; have NB424_382 := n11_; have NB400_424 := n12_; have NB424_400 := n13_; have NB408_424 := n14_; have NB424_408 := n15_; have NB416_424 := n16_; have NB424_416 := n17_; clear n0_ n1_ n2_ n3_ n4_ n5_ n6_ n7_ n8_ n9_ n10_ n11_ n12_ n13_ n14_ n15_ n16_ n17_; clear hb hbox hg; have hnb61 := NB424_382.out; have hnc61 := NB382_424.out; have hnb62 := NB424_400.out; have hnc62 := NB400_424.out; have hnb63 := NB424_408.out; have hnc63 := NB408_424.out; have hnb64 := NB424_416.out; have hnc64 := NB416_424.out; have hcz65_0 : w60.cell? ⟨gb424, 0, none⟩ = some (.string (⟨#[]⟩ : ByteArray)) := (blk_cell BK424.out 0).trans rfl; have hcz65_1 : w60.cell? ⟨gb424, 1, none⟩ = some (.string (⟨#[]⟩ : ByteArray)) := (blk_cell BK424.out 1).trans rfl; have hcz65_2 : w60.cell? ⟨gb424, 2, none⟩ = some (.int .i64 0) := (blk_cell BK424.out 2).trans rfl; have hcz65_3 : w60.cell? ⟨gb424, 3, none⟩ = some (.int .i64 0) := (blk_cell BK424.out 3).trans rfl; have hcz65_4 : w60.cell? ⟨gb424, 4, none⟩ = some (.int .i64 0) := (blk_cell BK424.out 4).trans rfl; have hcz65_5 : w60.cell? ⟨gb424, 5, none⟩ = some (.int .i64 0) := (blk_cell BK424.out 5).trans rfl; have hfz65_0 := blk_frozen BK424.out 0; have hfz65_1 := blk_frozen BK424.out 1; have hfz65_2 := blk_frozen BK424.out 2; have hfz65_3 := blk_frozen BK424.out 3; have hfz65_4 := blk_frozen BK424.out 4; have hfz65_5 := blk_frozen BK424.out 5) | ((with_reducible refine gate_callee (f := 11) rfl ?_); refine goesL_ (some 90) rfl rfl Try.func11 (by kernel_rfl) rfl #[.slice Ao40 t387.length co40, .string a2] rfl (by (try simp only [List.map_toArray, List.map_cons, List.map_nil]); first | done | rfl | (simp only [List.length_drop, List.length_take]; rfl)) ?_; (with_reducible refine (hist_Find.calls _ _ t387 a2 t425 t426 t427 t428 t429 t430 t431 _ ?side1 ?side2 A32.out).mono ?_); (case side1 => refine (Kd.R_reads' (e := 26) (base := w.heap.size) (ok := fun k_ => ((((((True ∧ k_ ≠ gb382) ∧ some k_ ≠ (.slice Ao46 t390.length co46 : Value).ownBlock) ∧ k_ ≠ gb400) ∧ k_ ≠ gb408) ∧ k_ ≠ gb416) ∧ k_ ≠ gb424)) (n := t387.length) (c := co40) ?_).2.2; exact (by (with_reducible repeat (first | apply Kd.R_alloc | apply Kd.R_drewN | apply Kd.R_drew)); exact (Kd.R_mono (Kd.R_far (p := ⟨gb424, 5, none⟩) (Kd.R_far (p := ⟨gb424, 4, none⟩) (Kd.R_far (p := ⟨gb424, 3, none⟩) (Kd.R_far (p := ⟨gb424, 2, none⟩) (Kd.R_far (p := ⟨gb424, 1, none⟩) (Kd.R_far (p := ⟨gb424, 0, none⟩) (Kd.R_mono HO389.out (fun k_ hk => (⟨hk, hk.2⟩ : _ ∧ k_ ≠ gb424))) (fun _ hk => hk.2) (.string t417)) (fun _ hk => hk.2) (.string t418)) (fun _ hk => hk.2) (.int .i64 t419)) (fun _ hk => hk.2) (.int .i64 t420)) (fun _ hk => hk.2) (.int .i64 t421)) (fun _ hk => hk.2) (.int .i64 t422)) (fun _ h_ => h_.1)))); (case side2 => exact (Kd.R_reads' HO389.out).2.1); rintro e w66 ⟨rfl, hb⟩; refine ⟨_, rfl, ?_⟩; have n0_ := Aside0.mk (Kd.R_below (by (with_reducible repeat (first | apply Kd.R_alloc | apply Kd.R_drewN | apply Kd.R_drew)); exact (Kd.R_mono (Kd.R_far (p := ⟨gb424, 5, none⟩) (Kd.R_far (p := ⟨gb424, 4, none⟩) (Kd.R_far (p := ⟨gb424, 3, none⟩) (Kd.R_far (p := ⟨gb424, 2, none⟩) (Kd.R_far (p := ⟨gb424, 1, none⟩) (Kd.R_far (p := ⟨gb424, 0, none⟩) (Kd.R_mono HO389.out (fun k_ hk => (⟨hk, hk.2⟩ : _ ∧ k_ ≠ gb424))) (fun _ hk => hk.2) (.string t417)) (fun _ hk => hk.2) (.string t418)) (fun _ hk => hk.2) (.int .i64 t419)) (fun _ hk => hk.2) (.int .i64 t420)) (fun _ hk => hk.2) (.int .i64 t421)) (fun _ hk => hk.2) (.int .i64 t422)) (fun _ h_ => h_.1))) hb); have n1_ := Aside0.mk (Kd.R_below (by (with_reducible repeat (first | apply Kd.R_alloc | apply Kd.R_drewN | apply Kd.R_drew)); exact (Kd.R_mono (Kd.R_far (p := ⟨gb424, 5, none⟩) (Kd.R_far (p := ⟨gb424, 4, none⟩) (Kd.R_far (p := ⟨gb424, 3, none⟩) (Kd.R_far (p := ⟨gb424, 2, none⟩) (Kd.R_far (p := ⟨gb424, 1, none⟩) (Kd.R_far (p := ⟨gb424, 0, none⟩) (Kd.R_mono HO392.out (fun k_ hk => (⟨hk, hk.2⟩ : _ ∧ k_ ≠ gb424))) (fun _ hk => hk.2) (.string t417)) (fun _ hk => hk.2) (.string t418)) (fun _ hk => hk.2) (.int .i64 t419)) (fun _ hk => hk.2) (.int .i64 t420)) (fun _ hk => hk.2) (.int .i64 t421)) (fun _ hk => hk.2) (.int .i64 t422)) (fun _ h_ => h_.1))) hb); have n2_ := Aside0.mk (blk_below (g := gb382) (o := .cells #[.string a1_0, .string a1_1, .int .i64 a1_2, .int .i64 a1_3, .int .i64 a1_4, .int .i64 a1_5] 26 (0, 0)) (by (with_reducible repeat (first | refine blk_drewN ?_ _ | refine blk_drew ?_ | refine blk_alloc ?_ _)); refine blk_far ?_ NB382_424.out _; (with_reducible repeat (first | refine blk_drewN ?_ _ | refine blk_drew ?_ | refine blk_alloc ?_ _)); refine blk_far ?_ NB382_424.out _; (with_reducible repeat (first | refine blk_drewN ?_ _ | refine blk_drew ?_ | refine blk_alloc ?_ _)); refine blk_far ?_ NB382_424.out _; (with_reducible repeat (first | refine blk_drewN ?_ _ | refine blk_drew ?_ | refine blk_alloc ?_ _)); refine blk_far ?_ NB382_424.out _; (with_reducible repeat (first | refine blk_drewN ?_ _ | refine blk_drew ?_ | refine blk_alloc ?_ _)); refine blk_far ?_ NB382_424.out _; (with_reducible repeat (first | refine blk_drewN ?_ _ | refine blk_drew ?_ | refine blk_alloc ?_ _)); refine blk_far ?_ NB382_424.out _; (with_reducible repeat (first | refine blk_drewN ?_ _ | refine blk_drew ?_ | refine blk_alloc ?_ _)); exact BK382.out) hb); have n3_ := Aside0.mk (blk_below (g := gb400) (o := .cells #[.string t393, .string t394, .int .i64 t395, .int .i64 t396, .int .i64 t397, .int .i64 t398] 26 (0, 0)) (by (with_reducible repeat (first | refine blk_drewN ?_ _ | refine blk_drew ?_ | refine blk_alloc ?_ _)); refine blk_far ?_ NB400_424.out _; (with_reducible repeat (first | refine blk_drewN ?_ _ | refine blk_drew ?_ | refine blk_alloc ?_ _)); refine blk_far ?_ NB400_424.out _; (with_reducible repeat (first | refine blk_drewN ?_ _ | refine blk_drew ?_ | refine blk_alloc ?_ _)); refine blk_far ?_ NB400_424.out _; (with_reducible repeat (first | refine blk_drewN ?_ _ | refine blk_drew ?_ | refine blk_alloc ?_ _)); refine blk_far ?_ NB400_424.out _; (with_reducible repeat (first | refine blk_drewN ?_ _ | refine blk_drew ?_ | refine blk_alloc ?_ _)); refine blk_far ?_ NB400_424.out _; (with_reducible repeat (first | refine blk_drewN ?_ _ | refine blk_drew ?_ | refine blk_alloc ?_ _)); refine blk_far ?_ NB400_424.out _; (with_reducible repeat (first | refine blk_drewN ?_ _ | refine blk_drew ?_ | refine blk_alloc ?_ _)); exact BK400.out) hb); have n4_ := Aside0.mk (blk_below (g := gb408) (o := .cells #[.string t401, .string t402, .int .i64 t403, .int .i64 t404, .int .i64 t405, .int .i64 t406] 26 (0, 0)) (by (with_reducible repeat (first | refine blk_drewN ?_ _ | refine blk_drew ?_ | refine blk_alloc ?_ _)); refine blk_far ?_ NB408_424.out _; (with_reducible repeat (first | refine blk_drewN ?_ _ | refine blk_drew ?_ | refine blk_alloc ?_ _)); refine blk_far ?_ NB408_424.out _; (with_reducible repeat (first | refine blk_drewN ?_ _ | refine blk_drew ?_ | refine blk_alloc ?_ _)); refine blk_far ?_ NB408_424.out _; (with_reducible repeat (first | refine blk_drewN ?_ _ | refine blk_drew ?_ | refine blk_alloc ?_ _)); refine blk_far ?_ NB408_424.out _; (with_reducible repeat (first | refine blk_drewN ?_ _ | refine blk_drew ?_ | refine blk_alloc ?_ _)); refine blk_far ?_ NB408_424.out _; (with_reducible repeat (first | refine blk_drewN ?_ _ | refine blk_drew ?_ | refine blk_alloc ?_ _)); refine blk_far ?_ NB408_424.out _; (with_reducible repeat (first | refine blk_drewN ?_ _ | refine blk_drew ?_ | refine blk_alloc ?_ _)); exact BK408.out) hb); have n5_ := Aside0.mk (blk_below (g := gb416) (o := .cells #[.string t409, .string t410, .int .i64 t411, .int .i64 t412, .int .i64 t413, .int .i64 t414] 26 (0, 0)) (by (with_reducible repeat (first | refine blk_drewN ?_ _ | refine blk_drew ?_ | refine blk_alloc ?_ _)); refine blk_far ?_ NB416_424.out _; (with_reducible repeat (first | refine blk_drewN ?_ _ | refine blk_drew ?_ | refine blk_alloc ?_ _)); refine blk_far ?_ NB416_424.out _; (with_reducible repeat (first | refine blk_drewN ?_ _ | refine blk_drew ?_ | refine blk_alloc ?_ _)); refine blk_far ?_ NB416_424.out _; (with_reducible repeat (first | refine blk_drewN ?_ _ | refine blk_drew ?_ | refine blk_alloc ?_ _)); refine blk_far ?_ NB416_424.out _; (with_reducible repeat (first | refine blk_drewN ?_ _ | refine blk_drew ?_ | refine blk_alloc ?_ _)); refine blk_far ?_ NB416_424.out _; (with_reducible repeat (first | refine blk_drewN ?_ _ | refine blk_drew ?_ | refine blk_alloc ?_ _)); refine blk_far ?_ NB416_424.out _; (with_reducible repeat (first | refine blk_drewN ?_ _ | refine blk_drew ?_ | refine blk_alloc ?_ _)); exact BK416.out) hb); have n6_ := Aside0.mk (blk_below (g := gb424) (o := .cells #[.string t417, .string t418, .int .i64 t419, .int .i64 t420, .int .i64 t421, .int .i64 t422] 26 (0, 0)) (by (with_reducible repeat (first | refine blk_drewN ?_ _ | refine blk_drew ?_ | refine blk_alloc ?_ _)); refine blk_put (cs := #[.string t417, .string t418, .int .i64 t419, .int .i64 t420, .int .i64 t421, .int .i64 0]) ?_ 5 _ rfl; (with_reducible repeat (first | refine blk_drewN ?_ _ | refine blk_drew ?_ | refine blk_alloc ?_ _)); refine blk_put (cs := #[.string t417, .string t418, .int .i64 t419, .int .i64 t420, .int .i64 0, .int .i64 0]) ?_ 4 _ rfl; (with_reducible repeat (first | refine blk_drewN ?_ _ | refine blk_drew ?_ | refine blk_alloc ?_ _)); refine blk_put (cs := #[.string t417, .string t418, .int .i64 t419, .int .i64 0, .int .i64 0, .int .i64 0]) ?_ 3 _ rfl; (with_reducible repeat (first | refine blk_drewN ?_ _ | refine blk_drew ?_ | refine blk_alloc ?_ _)); refine blk_put (cs := #[.string t417, .string t418, .int .i64 0, .int .i64 0, .int .i64 0, .int .i64 0]) ?_ 2 _ rfl; (with_reducible repeat (first | refine blk_drewN ?_ _ | refine blk_drew ?_ | refine blk_alloc ?_ _)); refine blk_put (cs := #[.string t417, .string (⟨#[]⟩ : ByteArray), .int .i64 0, .int .i64 0, .int .i64 0, .int .i64 0]) ?_ 1 _ rfl; (with_reducible repeat (first | refine blk_drewN ?_ _ | refine blk_drew ?_ | refine blk_alloc ?_ _)); refine blk_put (cs := #[.string (⟨#[]⟩ : ByteArray), .string (⟨#[]⟩ : ByteArray), .int .i64 0, .int .i64 0, .int .i64 0, .int .i64 0]) ?_ 0 _ rfl; (with_reducible repeat (first | refine blk_drewN ?_ _ | refine blk_drew ?_ | refine blk_alloc ?_ _)); exact BK424.out) hb); have n7_ := Aside0.mk (below_step (by repeat (first | (with_reducible first | exact HB.out | apply below_alloc | apply pw_below_drewN | apply below_drew1 | refine below_set ?_ GE382.out | refine below_set ?_ GE400.out | refine below_set ?_ GE408.out | refine below_set ?_ GE416.out | refine below_set ?_ GE424.out) | exact HB.out)) hb); clear HO389; clear HO392; clear BK382; clear BK400; clear BK408; clear BK416; clear BK424; clear HB; have HO389 := n0_; have HO392 := n1_; have BK382 := n2_; have BK400 := n3_; have BK408 := n4_; have BK416 := n5_; have BK424 := n6_; have HB := n7_; clear n0_ n1_ n2_ n3_ n4_ n5_ n6_ n7_) | ((with_reducible refine gate_dst (N := 17) rfl ?_); (try (refine gate_guard (by rfl) ?_; dsimp only)); refine box_event ?hg (N := 17) ?hd (cs := #[.string (⟨#[]⟩ : ByteArray), .string (⟨#[]⟩ : ByteArray), .int .i64 0, .int .i64 0, .int .i64 0, .int .i64 0]) (t := 26) ?hr ?_; (case hd => rfl); (case hg => rfl); (case hr => first | (go_simp; done) | (go_simp; rfl)); intro gb432 hg w67 hbox hb; have n0_ := Aside0.mk (Kd.R_below (Kd.R_elderB (by (with_reducible repeat (first | apply Kd.R_alloc | apply Kd.R_drewN | apply Kd.R_drew)); exact HO389.out) gb432 (Nat.le_of_eq hg.symm)) hb); have n1_ := Aside0.mk (Kd.R_below (Kd.R_elderB (by (with_reducible repeat (first | apply Kd.R_alloc | apply Kd.R_drewN | apply Kd.R_drew)); exact HO392.out) gb432 (Nat.le_of_eq hg.symm)) hb); have n2_ := Aside0.mk (blk_below (g := gb382) (o := .cells #[.string a1_0, .string a1_1, .int .i64 a1_2, .int .i64 a1_3, .int .i64 a1_4, .int .i64 a1_5] 26 (0, 0)) (by (with_reducible repeat (first | refine blk_drewN ?_ _ | refine blk_drew ?_ | refine blk_alloc ?_ _)); exact BK382.out) hb); have n3_ := Aside0.mk (blk_below (g := gb400) (o := .cells #[.string t393, .string t394, .int .i64 t395, .int .i64 t396, .int .i64 t397, .int .i64 t398] 26 (0, 0)) (by (with_reducible repeat (first | refine blk_drewN ?_ _ | refine blk_drew ?_ | refine blk_alloc ?_ _)); exact BK400.out) hb); have n4_ := Aside0.mk (blk_below (g := gb408) (o := .cells #[.string t401, .string t402, .int .i64 t403, .int .i64 t404, .int .i64 t405, .int .i64 t406] 26 (0, 0)) (by (with_reducible repeat (first | refine blk_drewN ?_ _ | refine blk_drew ?_ | refine blk_alloc ?_ _)); exact BK408.out) hb); have n5_ := Aside0.mk (blk_below (g := gb416) (o := .cells #[.string t409, .string t410, .int .i64 t411, .int .i64 t412, .int .i64 t413, .int .i64 t414] 26 (0, 0)) (by (with_reducible repeat (first | refine blk_drewN ?_ _ | refine blk_drew ?_ | refine blk_alloc ?_ _)); exact BK416.out) hb); have n6_ := Aside0.mk (blk_below (g := gb424) (o := .cells #[.string t417, .string t418, .int .i64 t419, .int .i64 t420, .int .i64 t421, .int .i64 t422] 26 (0, 0)) (by (with_reducible repeat (first | refine blk_drewN ?_ _ | refine blk_drew ?_ | refine blk_alloc ?_ _)); exact BK424.out) hb); have n7_ := Aside0.mk (below_step (by repeat (first | (with_reducible first | exact HB.out | apply below_alloc | apply pw_below_drewN | apply below_drew1 | refine below_set ?_ GE382.out | refine below_set ?_ GE400.out | refine below_set ?_ GE408.out | refine below_set ?_ GE416.out | refine below_set ?_ GE424.out) | exact HB.out)) hb); have n8_ := Aside0.mk (hbox); have n9_ := Aside0.mk ((by rw [hg]; exact (below_size (by repeat (first | (with_reducible first | exact HB.out | apply below_alloc | apply pw_below_drewN | apply below_drew1 | refine below_set ?_ GE382.out | refine below_set ?_ GE400.out | refine below_set ?_ GE408.out | refine below_set ?_ GE416.out | refine below_set ?_ GE424.out) | exact HB.out))) : w.heap.size ≤ gb432)); have n10_ := Aside0.mk ((by rw [hg]; exact (below_size (by repeat (first | (with_reducible first | exact HB.out | apply below_alloc | apply pw_below_drewN | apply below_drew1 | refine below_set ?_ GE382.out | refine below_set ?_ GE400.out | refine below_set ?_ GE408.out | refine below_set ?_ GE416.out | refine below_set ?_ GE424.out) | exact HB.out))) : w.heap.size ≤ gb432)); have n11_ := Aside0.mk ((by rw [hg]; exact Nat.ne_of_lt (blk_lt (g := gb382) (o := .cells #[.string a1_0, .string a1_1, .int .i64 a1_2, .int .i64 a1_3, .int .i64 a1_4, .int .i64 a1_5] 26 (0, 0)) (by (with_reducible repeat (first | refine blk_drewN ?_ _ | refine blk_drew ?_ | refine blk_alloc ?_ _)); exact BK382.out)) : gb382 ≠ gb432)); have n12_ := Aside0.mk ((by rw [hg]; exact Nat.ne_of_gt (blk_lt (g := gb382) (o := .cells #[.string a1_0, .string a1_1, .int .i64 a1_2, .int .i64 a1_3, .int .i64 a1_4, .int .i64 a1_5] 26 (0, 0)) (by (with_reducible repeat (first | refine blk_drewN ?_ _ | refine blk_drew ?_ | refine blk_alloc ?_ _)); exact BK382.out)) : gb432 ≠ gb382)); have n13_ := Aside0.mk ((by rw [hg]; exact Nat.ne_of_lt (blk_lt (g := gb400) (o := .cells #[.string t393, .string t394, .int .i64 t395, .int .i64 t396, .int .i64 t397, .int .i64 t398] 26 (0, 0)) (by (with_reducible repeat (first | refine blk_drewN ?_ _ | refine blk_drew ?_ | refine blk_alloc ?_ _)); exact BK400.out)) : gb400 ≠ gb432)); have n14_ := Aside0.mk ((by rw [hg]; exact Nat.ne_of_gt (blk_lt (g := gb400) (o := .cells #[.string t393, .string t394, .int .i64 t395, .int .i64 t396, .int .i64 t397, .int .i64 t398] 26 (0, 0)) (by (with_reducible repeat (first | refine blk_drewN ?_ _ | refine blk_drew ?_ | refine blk_alloc ?_ _)); exact BK400.out)) : gb432 ≠ gb400)); have n15_ := Aside0.mk ((by rw [hg]; exact Nat.ne_of_lt (blk_lt (g := gb408) (o := .cells #[.string t401, .string t402, .int .i64 t403, .int .i64 t404, .int .i64 t405, .int .i64 t406] 26 (0, 0)) (by (with_reducible repeat (first | refine blk_drewN ?_ _ | refine blk_drew ?_ | refine blk_alloc ?_ _)); exact BK408.out)) : gb408 ≠ gb432)); have n16_ := Aside0.mk ((by rw [hg]; exact Nat.ne_of_gt (blk_lt (g := gb408) (o := .cells #[.string t401, .string t402, .int .i64 t403, .int .i64 t404, .int .i64 t405, .int .i64 t406] 26 (0, 0)) (by (with_reducible repeat (first | refine blk_drewN ?_ _ | refine blk_drew ?_ | refine blk_alloc ?_ _)); exact BK408.out)) : gb432 ≠ gb408)); have n17_ := Aside0.mk ((by rw [hg]; exact Nat.ne_of_lt (blk_lt (g := gb416) (o := .cells #[.string t409, .string t410, .int .i64 t411, .int .i64 t412, .int .i64 t413, .int .i64 t414] 26 (0, 0)) (by (with_reducible repeat (first | refine blk_drewN ?_ _ | refine blk_drew ?_ | refine blk_alloc ?_ _)); exact BK416.out)) : gb416 ≠ gb432)); have n18_ := Aside0.mk ((by rw [hg]; exact Nat.ne_of_gt (blk_lt (g := gb416) (o := .cells #[.string t409, .string t410, .int .i64 t411, .int .i64 t412, .int .i64 t413, .int .i64 t414] 26 (0, 0)) (by (with_reducible repeat (first | refine blk_drewN ?_ _ | refine blk_drew ?_ | refine blk_alloc ?_ _)); exact BK416.out)) : gb432 ≠ gb416)); have n19_ := Aside0.mk ((by rw [hg]; exact Nat.ne_of_lt (blk_lt (g := gb424) (o := .cells #[.string t417, .string t418, .int .i64 t419, .int .i64 t420, .int .i64 t421, .int .i64 t422] 26 (0, 0)) (by (with_reducible repeat (first | refine blk_drewN ?_ _ | refine blk_drew ?_ | refine blk_alloc ?_ _)); exact BK424.out)) : gb424 ≠ gb432)); have n20_ := Aside0.mk ((by rw [hg]; exact Nat.ne_of_gt (blk_lt (g := gb424) (o := .cells #[.string t417, .string t418, .int .i64 t419, .int .i64 t420, .int .i64 t421, .int .i64 t422] 26 (0, 0)) (by (with_reducible repeat (first | refine blk_drewN ?_ _ | refine blk_drew ?_ | refine blk_alloc ?_ _)); exact BK424.out)) : gb432 ≠ gb424)); clear HO389; clear HO392; clear BK382; clear BK400; clear BK408; clear BK416; clear BK424; clear HB; have HO389 := n0_; have HO392 := n1_; have BK382 := n2_; have BK400 := n3_; have BK408 := n4_; have BK416 := n5_; have BK424 := n6_; have HB := n7_; have BK432 := n8_; have GW432 := n9_; have GE432 := n10_; have NB382_432 := n11_; have NB432_382 := n12_; have NB400_432 := n13_; have NB432_400 := n14_; have NB408_432 := n15_; have NB432_408 := n16_; have NB416_432 := n17_; have NB432_416 := n18_; have NB424_432 := n19_; have NB432_424 := n20_; clear n0_ n1_ n2_ n3_ n4_ n5_ n6_ n7_ n8_ n9_ n10_ n11_ n12_ n13_ n14_ n15_ n16_ n17_ n18_ n19_ n20_; clear hb hbox hg; have hnb68 := NB432_382.out; have hnc68 := NB382_432.out; have hnb69 := NB432_400.out; have hnc69 := NB400_432.out; have hnb70 := NB432_408.out; have hnc70 := NB408_432.out; have hnb71 := NB432_416.out; have hnc71 := NB416_432.out; have hnb72 := NB432_424.out; have hnc72 := NB424_432.out; have hcz73_0 : w67.cell? ⟨gb432, 0, none⟩ = some (.string (⟨#[]⟩ : ByteArray)) := (blk_cell BK432.out 0).trans rfl; have hcz73_1 : w67.cell? ⟨gb432, 1, none⟩ = some (.string (⟨#[]⟩ : ByteArray)) := (blk_cell BK432.out 1).trans rfl; have hcz73_2 : w67.cell? ⟨gb432, 2, none⟩ = some (.int .i64 0) := (blk_cell BK432.out 2).trans rfl; have hcz73_3 : w67.cell? ⟨gb432, 3, none⟩ = some (.int .i64 0) := (blk_cell BK432.out 3).trans rfl; have hcz73_4 : w67.cell? ⟨gb432, 4, none⟩ = some (.int .i64 0) := (blk_cell BK432.out 4).trans rfl; have hcz73_5 : w67.cell? ⟨gb432, 5, none⟩ = some (.int .i64 0) := (blk_cell BK432.out 5).trans rfl; have hfz73_0 := blk_frozen BK432.out 0; have hfz73_1 := blk_frozen BK432.out 1; have hfz73_2 := blk_frozen BK432.out 2; have hfz73_3 := blk_frozen BK432.out 3; have hfz73_4 := blk_frozen BK432.out 4; have hfz73_5 := blk_frozen BK432.out 5) | ((with_reducible refine gate_callee (f := 11) rfl ?_); refine goesL_ (some 96) rfl rfl Try.func11 (by kernel_rfl) rfl #[.slice Ao46 t390.length co46, .string a2] rfl (by (try simp only [List.map_toArray, List.map_cons, List.map_nil]); first | done | rfl | (simp only [List.length_drop, List.length_take]; rfl)) ?_; (with_reducible refine (hist_Find.calls _ _ t390 a2 t433 t434 t435 t436 t437 t438 t439 _ ?side1 ?side2 A33.out).mono ?_); (case side1 => refine (Kd.R_reads' (e := 26) (base := w.heap.size) (ok := fun k_ => (((((((True ∧ some k_ ≠ (.slice Ao40 t387.length co40 : Value).ownBlock) ∧ k_ ≠ gb382) ∧ k_ ≠ gb400) ∧ k_ ≠ gb408) ∧ k_ ≠ gb416) ∧ k_ ≠ gb424) ∧ k_ ≠ gb432)) (n := t390.length) (c := co46) ?_).2.2; exact (by (with_reducible repeat (first | apply Kd.R_alloc | apply Kd.R_drewN | apply Kd.R_drew)); exact (Kd.R_mono (Kd.R_far (p := ⟨gb432, 5, none⟩) (Kd.R_far (p := ⟨gb432, 4, none⟩) (Kd.R_far (p := ⟨gb432, 3, none⟩) (Kd.R_far (p := ⟨gb432, 2, none⟩) (Kd.R_far (p := ⟨gb432, 1, none⟩) (Kd.R_far (p := ⟨gb432, 0, none⟩) (Kd.R_mono HO392.out (fun k_ hk => (⟨hk, hk.2⟩ : _ ∧ k_ ≠ gb432))) (fun _ hk => hk.2) (.string t425)) (fun _ hk => hk.2) (.string t426)) (fun _ hk => hk.2) (.int .i64 t427)) (fun _ hk => hk.2) (.int .i64 t428)) (fun _ hk => hk.2) (.int .i64 t429)) (fun _ hk => hk.2) (.int .i64 t430)) (fun _ h_ => h_.1)))); (case side2 => exact (Kd.R_reads' HO392.out).2.1); rintro e w74 ⟨rfl, hb⟩; refine ⟨_, rfl, ?_⟩; have n0_ := Aside0.mk (Kd.R_below (by (with_reducible repeat (first | apply Kd.R_alloc | apply Kd.R_drewN | apply Kd.R_drew)); exact (Kd.R_mono (Kd.R_far (p := ⟨gb432, 5, none⟩) (Kd.R_far (p := ⟨gb432, 4, none⟩) (Kd.R_far (p := ⟨gb432, 3, none⟩) (Kd.R_far (p := ⟨gb432, 2, none⟩) (Kd.R_far (p := ⟨gb432, 1, none⟩) (Kd.R_far (p := ⟨gb432, 0, none⟩) (Kd.R_mono HO389.out (fun k_ hk => (⟨hk, hk.2⟩ : _ ∧ k_ ≠ gb432))) (fun _ hk => hk.2) (.string t425)) (fun _ hk => hk.2) (.string t426)) (fun _ hk => hk.2) (.int .i64 t427)) (fun _ hk => hk.2) (.int .i64 t428)) (fun _ hk => hk.2) (.int .i64 t429)) (fun _ hk => hk.2) (.int .i64 t430)) (fun _ h_ => h_.1))) hb); have n1_ := Aside0.mk (Kd.R_below (by (with_reducible repeat (first | apply Kd.R_alloc | apply Kd.R_drewN | apply Kd.R_drew)); exact (Kd.R_mono (Kd.R_far (p := ⟨gb432, 5, none⟩) (Kd.R_far (p := ⟨gb432, 4, none⟩) (Kd.R_far (p := ⟨gb432, 3, none⟩) (Kd.R_far (p := ⟨gb432, 2, none⟩) (Kd.R_far (p := ⟨gb432, 1, none⟩) (Kd.R_far (p := ⟨gb432, 0, none⟩) (Kd.R_mono HO392.out (fun k_ hk => (⟨hk, hk.2⟩ : _ ∧ k_ ≠ gb432))) (fun _ hk => hk.2) (.string t425)) (fun _ hk => hk.2) (.string t426)) (fun _ hk => hk.2) (.int .i64 t427)) (fun _ hk => hk.2) (.int .i64 t428)) (fun _ hk => hk.2) (.int .i64 t429)) (fun _ hk => hk.2) (.int .i64 t430)) (fun _ h_ => h_.1))) hb); have n2_ := Aside0.mk (blk_below (g := gb382) (o := .cells #[.string a1_0, .string a1_1, .int .i64 a1_2, .int .i64 a1_3, .int .i64 a1_4, .int .i64 a1_5] 26 (0, 0)) (by (with_reducible repeat (first | refine blk_drewN ?_ _ | refine blk_drew ?_ | refine blk_alloc ?_ _)); refine blk_far ?_ NB382_432.out _; (with_reducible repeat (first | refine blk_drewN ?_ _ | refine blk_drew ?_ | refine blk_alloc ?_ _)); refine blk_far ?_ NB382_432.out _; (with_reducible repeat (first | refine blk_drewN ?_ _ | refine blk_drew ?_ | refine blk_alloc ?_ _)); refine blk_far ?_ NB382_432.out _; (with_reducible repeat (first | refine blk_drewN ?_ _ | refine blk_drew ?_ | refine blk_alloc ?_ _)); refine blk_far ?_ NB382_432.out _; (with_reducible repeat (first | refine blk_drewN ?_ _ | refine blk_drew ?_ | refine blk_alloc ?_ _)); refine blk_far ?_ NB382_432.out _; (with_reducible repeat (first | refine blk_drewN ?_ _ | refine blk_drew ?_ | refine blk_alloc ?_ _)); refine blk_far ?_ NB382_432.out _; (with_reducible repeat (first | refine blk_drewN ?_ _ | refine blk_drew ?_ | refine blk_alloc ?_ _)); exact BK382.out) hb); have n3_ := Aside0.mk (blk_below (g := gb400) (o := .cells #[.string t393, .string t394, .int .i64 t395, .int .i64 t396, .int .i64 t397, .int .i64 t398] 26 (0, 0)) (by (with_reducible repeat (first | refine blk_drewN ?_ _ | refine blk_drew ?_ | refine blk_alloc ?_ _)); refine blk_far ?_ NB400_432.out _; (with_reducible repeat (first | refine blk_drewN ?_ _ | refine blk_drew ?_ | refine blk_alloc ?_ _)); refine blk_far ?_ NB400_432.out _; (with_reducible repeat (first | refine blk_drewN ?_ _ | refine blk_drew ?_ | refine blk_alloc ?_ _)); refine blk_far ?_ NB400_432.out _; (with_reducible repeat (first | refine blk_drewN ?_ _ | refine blk_drew ?_ | refine blk_alloc ?_ _)); refine blk_far ?_ NB400_432.out _; (with_reducible repeat (first | refine blk_drewN ?_ _ | refine blk_drew ?_ | refine blk_alloc ?_ _)); refine blk_far ?_ NB400_432.out _; (with_reducible repeat (first | refine blk_drewN ?_ _ | refine blk_drew ?_ | refine blk_alloc ?_ _)); refine blk_far ?_ NB400_432.out _; (with_reducible repeat (first | refine blk_drewN ?_ _ | refine blk_drew ?_ | refine blk_alloc ?_ _)); exact BK400.out) hb); have n4_ := Aside0.mk (blk_below (g := gb408) (o := .cells #[.string t401, .string t402, .int .i64 t403, .int .i64 t404, .int .i64 t405, .int .i64 t406] 26 (0, 0)) (by (with_reducible repeat (first | refine blk_drewN ?_ _ | refine blk_drew ?_ | refine blk_alloc ?_ _)); refine blk_far ?_ NB408_432.out _; (with_reducible repeat (first | refine blk_drewN ?_ _ | refine blk_drew ?_ | refine blk_alloc ?_ _)); refine blk_far ?_ NB408_432.out _; (with_reducible repeat (first | refine blk_drewN ?_ _ | refine blk_drew ?_ | refine blk_alloc ?_ _)); refine blk_far ?_ NB408_432.out _; (with_reducible repeat (first | refine blk_drewN ?_ _ | refine blk_drew ?_ | refine blk_alloc ?_ _)); refine blk_far ?_ NB408_432.out _; (with_reducible repeat (first | refine blk_drewN ?_ _ | refine blk_drew ?_ | refine blk_alloc ?_ _)); refine blk_far ?_ NB408_432.out _; (with_reducible repeat (first | refine blk_drewN ?_ _ | refine blk_drew ?_ | refine blk_alloc ?_ _)); refine blk_far ?_ NB408_432.out _; (with_reducible repeat (first | refine blk_drewN ?_ _ | refine blk_drew ?_ | refine blk_alloc ?_ _)); exact BK408.out) hb); have n5_ := Aside0.mk (blk_below (g := gb416) (o := .cells #[.string t409, .string t410, .int .i64 t411, .int .i64 t412, .int .i64 t413, .int .i64 t414] 26 (0, 0)) (by (with_reducible repeat (first | refine blk_drewN ?_ _ | refine blk_drew ?_ | refine blk_alloc ?_ _)); refine blk_far ?_ NB416_432.out _; (with_reducible repeat (first | refine blk_drewN ?_ _ | refine blk_drew ?_ | refine blk_alloc ?_ _)); refine blk_far ?_ NB416_432.out _; (with_reducible repeat (first | refine blk_drewN ?_ _ | refine blk_drew ?_ | refine blk_alloc ?_ _)); refine blk_far ?_ NB416_432.out _; (with_reducible repeat (first | refine blk_drewN ?_ _ | refine blk_drew ?_ | refine blk_alloc ?_ _)); refine blk_far ?_ NB416_432.out _; (with_reducible repeat (first | refine blk_drewN ?_ _ | refine blk_drew ?_ | refine blk_alloc ?_ _)); refine blk_far ?_ NB416_432.out _; (with_reducible repeat (first | refine blk_drewN ?_ _ | refine blk_drew ?_ | refine blk_alloc ?_ _)); refine blk_far ?_ NB416_432.out _; (with_reducible repeat (first | refine blk_drewN ?_ _ | refine blk_drew ?_ | refine blk_alloc ?_ _)); exact BK416.out) hb); have n6_ := Aside0.mk (blk_below (g := gb424) (o := .cells #[.string t417, .string t418, .int .i64 t419, .int .i64 t420, .int .i64 t421, .int .i64 t422] 26 (0, 0)) (by (with_reducible repeat (first | refine blk_drewN ?_ _ | refine blk_drew ?_ | refine blk_alloc ?_ _)); refine blk_far ?_ NB424_432.out _; (with_reducible repeat (first | refine blk_drewN ?_ _ | refine blk_drew ?_ | refine blk_alloc ?_ _)); refine blk_far ?_ NB424_432.out _; (with_reducible repeat (first | refine blk_drewN ?_ _ | refine blk_drew ?_ | refine blk_alloc ?_ _)); refine blk_far ?_ NB424_432.out _; (with_reducible repeat (first | refine blk_drewN ?_ _ | refine blk_drew ?_ | refine blk_alloc ?_ _)); refine blk_far ?_ NB424_432.out _; (with_reducible repeat (first | refine blk_drewN ?_ _ | refine blk_drew ?_ | refine blk_alloc ?_ _)); refine blk_far ?_ NB424_432.out _; (with_reducible repeat (first | refine blk_drewN ?_ _ | refine blk_drew ?_ | refine blk_alloc ?_ _)); refine blk_far ?_ NB424_432.out _; (with_reducible repeat (first | refine blk_drewN ?_ _ | refine blk_drew ?_ | refine blk_alloc ?_ _)); exact BK424.out) hb); have n7_ := Aside0.mk (blk_below (g := gb432) (o := .cells #[.string t425, .string t426, .int .i64 t427, .int .i64 t428, .int .i64 t429, .int .i64 t430] 26 (0, 0)) (by (with_reducible repeat (first | refine blk_drewN ?_ _ | refine blk_drew ?_ | refine blk_alloc ?_ _)); refine blk_put (cs := #[.string t425, .string t426, .int .i64 t427, .int .i64 t428, .int .i64 t429, .int .i64 0]) ?_ 5 _ rfl; (with_reducible repeat (first | refine blk_drewN ?_ _ | refine blk_drew ?_ | refine blk_alloc ?_ _)); refine blk_put (cs := #[.string t425, .string t426, .int .i64 t427, .int .i64 t428, .int .i64 0, .int .i64 0]) ?_ 4 _ rfl; (with_reducible repeat (first | refine blk_drewN ?_ _ | refine blk_drew ?_ | refine blk_alloc ?_ _)); refine blk_put (cs := #[.string t425, .string t426, .int .i64 t427, .int .i64 0, .int .i64 0, .int .i64 0]) ?_ 3 _ rfl; (with_reducible repeat (first | refine blk_drewN ?_ _ | refine blk_drew ?_ | refine blk_alloc ?_ _)); refine blk_put (cs := #[.string t425, .string t426, .int .i64 0, .int .i64 0, .int .i64 0, .int .i64 0]) ?_ 2 _ rfl; (with_reducible repeat (first | refine blk_drewN ?_ _ | refine blk_drew ?_ | refine blk_alloc ?_ _)); refine blk_put (cs := #[.string t425, .string (⟨#[]⟩ : ByteArray), .int .i64 0, .int .i64 0, .int .i64 0, .int .i64 0]) ?_ 1 _ rfl; (with_reducible repeat (first | refine blk_drewN ?_ _ | refine blk_drew ?_ | refine blk_alloc ?_ _)); refine blk_put (cs := #[.string (⟨#[]⟩ : ByteArray), .string (⟨#[]⟩ : ByteArray), .int .i64 0, .int .i64 0, .int .i64 0, .int .i64 0]) ?_ 0 _ rfl; (with_reducible repeat (first | refine blk_drewN ?_ _ | refine blk_drew ?_ | refine blk_alloc ?_ _)); exact BK432.out) hb); have n8_ := Aside0.mk (below_step (by repeat (first | (with_reducible first | exact HB.out | apply below_alloc | apply pw_below_drewN | apply below_drew1 | refine below_set ?_ GE382.out | refine below_set ?_ GE400.out | refine below_set ?_ GE408.out | refine below_set ?_ GE416.out | refine below_set ?_ GE424.out | refine below_set ?_ GE432.out) | exact HB.out)) hb); clear HO389; clear HO392; clear BK382; clear BK400; clear BK408; clear BK416; clear BK424; clear BK432; clear HB; have HO389 := n0_; have HO392 := n1_; have BK382 := n2_; have BK400 := n3_; have BK408 := n4_; have BK416 := n5_; have BK424 := n6_; have BK432 := n7_; have HB := n8_; clear n0_ n1_ n2_ n3_ n4_ n5_ n6_ n7_ n8_) | ((with_reducible refine gate_dst (N := 19) rfl ?_); (try (refine gate_guard (by rfl) ?_; dsimp only)); refine box_event ?hg (N := 19) ?hd (cs := #[.string (⟨#[]⟩ : ByteArray), .string (⟨#[]⟩ : ByteArray), .int .i64 0, .int .i64 0, .int .i64 0, .int .i64 0]) (t := 26) ?hr ?_; (case hd => rfl); (case hg => rfl); (case hr => first | (go_simp; done) | (go_simp; rfl)); intro gb440 hg w75 hbox hb; have n0_ := Aside0.mk (Kd.R_below (Kd.R_elderB (by (with_reducible repeat (first | apply Kd.R_alloc | apply Kd.R_drewN | apply Kd.R_drew)); exact HO389.out) gb440 (Nat.le_of_eq hg.symm)) hb); have n1_ := Aside0.mk (Kd.R_below (Kd.R_elderB (by (with_reducible repeat (first | apply Kd.R_alloc | apply Kd.R_drewN | apply Kd.R_drew)); exact HO392.out) gb440 (Nat.le_of_eq hg.symm)) hb); have n2_ := Aside0.mk (blk_below (g := gb382) (o := .cells #[.string a1_0, .string a1_1, .int .i64 a1_2, .int .i64 a1_3, .int .i64 a1_4, .int .i64 a1_5] 26 (0, 0)) (by (with_reducible repeat (first | refine blk_drewN ?_ _ | refine blk_drew ?_ | refine blk_alloc ?_ _)); exact BK382.out) hb); have n3_ := Aside0.mk (blk_below (g := gb400) (o := .cells #[.string t393, .string t394, .int .i64 t395, .int .i64 t396, .int .i64 t397, .int .i64 t398] 26 (0, 0)) (by (with_reducible repeat (first | refine blk_drewN ?_ _ | refine blk_drew ?_ | refine blk_alloc ?_ _)); exact BK400.out) hb); have n4_ := Aside0.mk (blk_below (g := gb408) (o := .cells #[.string t401, .string t402, .int .i64 t403, .int .i64 t404, .int .i64 t405, .int .i64 t406] 26 (0, 0)) (by (with_reducible repeat (first | refine blk_drewN ?_ _ | refine blk_drew ?_ | refine blk_alloc ?_ _)); exact BK408.out) hb); have n5_ := Aside0.mk (blk_below (g := gb416) (o := .cells #[.string t409, .string t410, .int .i64 t411, .int .i64 t412, .int .i64 t413, .int .i64 t414] 26 (0, 0)) (by (with_reducible repeat (first | refine blk_drewN ?_ _ | refine blk_drew ?_ | refine blk_alloc ?_ _)); exact BK416.out) hb); have n6_ := Aside0.mk (blk_below (g := gb424) (o := .cells #[.string t417, .string t418, .int .i64 t419, .int .i64 t420, .int .i64 t421, .int .i64 t422] 26 (0, 0)) (by (with_reducible repeat (first | refine blk_drewN ?_ _ | refine blk_drew ?_ | refine blk_alloc ?_ _)); exact BK424.out) hb); have n7_ := Aside0.mk (blk_below (g := gb432) (o := .cells #[.string t425, .string t426, .int .i64 t427, .int .i64 t428, .int .i64 t429, .int .i64 t430] 26 (0, 0)) (by (with_reducible repeat (first | refine blk_drewN ?_ _ | refine blk_drew ?_ | refine blk_alloc ?_ _)); exact BK432.out) hb); have n8_ := Aside0.mk (below_step (by repeat (first | (with_reducible first | exact HB.out | apply below_alloc | apply pw_below_drewN | apply below_drew1 | refine below_set ?_ GE382.out | refine below_set ?_ GE400.out | refine below_set ?_ GE408.out | refine below_set ?_ GE416.out | refine below_set ?_ GE424.out | refine below_set ?_ GE432.out) | exact HB.out)) hb); have n9_ := Aside0.mk (hbox); have n10_ := Aside0.mk ((by rw [hg]; exact (below_size (by repeat (first | (with_reducible first | exact HB.out | apply below_alloc | apply pw_below_drewN | apply below_drew1 | refine below_set ?_ GE382.out | refine below_set ?_ GE400.out | refine below_set ?_ GE408.out | refine below_set ?_ GE416.out | refine below_set ?_ GE424.out | refine below_set ?_ GE432.out) | exact HB.out))) : w.heap.size ≤ gb440)); have n11_ := Aside0.mk ((by rw [hg]; exact (below_size (by repeat (first | (with_reducible first | exact HB.out | apply below_alloc | apply pw_below_drewN | apply below_drew1 | refine below_set ?_ GE382.out | refine below_set ?_ GE400.out | refine below_set ?_ GE408.out | refine below_set ?_ GE416.out | refine below_set ?_ GE424.out | refine below_set ?_ GE432.out) | exact HB.out))) : w.heap.size ≤ gb440)); have n12_ := Aside0.mk ((by rw [hg]; exact Nat.ne_of_lt (blk_lt (g := gb382) (o := .cells #[.string a1_0, .string a1_1, .int .i64 a1_2, .int .i64 a1_3, .int .i64 a1_4, .int .i64 a1_5] 26 (0, 0)) (by (with_reducible repeat (first | refine blk_drewN ?_ _ | refine blk_drew ?_ | refine blk_alloc ?_ _)); exact BK382.out)) : gb382 ≠ gb440)); have n13_ := Aside0.mk ((by rw [hg]; exact Nat.ne_of_gt (blk_lt (g := gb382) (o := .cells #[.string a1_0, .string a1_1, .int .i64 a1_2, .int .i64 a1_3, .int .i64 a1_4, .int .i64 a1_5] 26 (0, 0)) (by (with_reducible repeat (first | refine blk_drewN ?_ _ | refine blk_drew ?_ | refine blk_alloc ?_ _)); exact BK382.out)) : gb440 ≠ gb382)); have n14_ := Aside0.mk ((by rw [hg]; exact Nat.ne_of_lt (blk_lt (g := gb400) (o := .cells #[.string t393, .string t394, .int .i64 t395, .int .i64 t396, .int .i64 t397, .int .i64 t398] 26 (0, 0)) (by (with_reducible repeat (first | refine blk_drewN ?_ _ | refine blk_drew ?_ | refine blk_alloc ?_ _)); exact BK400.out)) : gb400 ≠ gb440)); have n15_ := Aside0.mk ((by rw [hg]; exact Nat.ne_of_gt (blk_lt (g := gb400) (o := .cells #[.string t393, .string t394, .int .i64 t395, .int .i64 t396, .int .i64 t397, .int .i64 t398] 26 (0, 0)) (by (with_reducible repeat (first | refine blk_drewN ?_ _ | refine blk_drew ?_ | refine blk_alloc ?_ _)); exact BK400.out)) : gb440 ≠ gb400)); have n16_ := Aside0.mk ((by rw [hg]; exact Nat.ne_of_lt (blk_lt (g := gb408) (o := .cells #[.string t401, .string t402, .int .i64 t403, .int .i64 t404, .int .i64 t405, .int .i64 t406] 26 (0, 0)) (by (with_reducible repeat (first | refine blk_drewN ?_ _ | refine blk_drew ?_ | refine blk_alloc ?_ _)); exact BK408.out)) : gb408 ≠ gb440)); have n17_ := Aside0.mk ((by rw [hg]; exact Nat.ne_of_gt (blk_lt (g := gb408) (o := .cells #[.string t401, .string t402, .int .i64 t403, .int .i64 t404, .int .i64 t405, .int .i64 t406] 26 (0, 0)) (by (with_reducible repeat (first | refine blk_drewN ?_ _ | refine blk_drew ?_ | refine blk_alloc ?_ _)); exact BK408.out)) : gb440 ≠ gb408)); have n18_ := Aside0.mk ((by rw [hg]; exact Nat.ne_of_lt (blk_lt (g := gb416) (o := .cells #[.string t409, .string t410, .int .i64 t411, .int .i64 t412, .int .i64 t413, .int .i64 t414] 26 (0, 0)) (by (with_reducible repeat (first | refine blk_drewN ?_ _ | refine blk_drew ?_ | refine blk_alloc ?_ _)); exact BK416.out)) : gb416 ≠ gb440)); have n19_ := Aside0.mk ((by rw [hg]; exact Nat.ne_of_gt (blk_lt (g := gb416) (o := .cells #[.string t409, .string t410, .int .i64 t411, .int .i64 t412, .int .i64 t413, .int .i64 t414] 26 (0, 0)) (by (with_reducible repeat (first | refine blk_drewN ?_ _ | refine blk_drew ?_ | refine blk_alloc ?_ _)); exact BK416.out)) : gb440 ≠ gb416)); have n20_ := Aside0.mk ((by rw [hg]; exact Nat.ne_of_lt (blk_lt (g := gb424) (o := .cells #[.string t417, .string t418, .int .i64 t419, .int .i64 t420, .int .i64 t421, .int .i64 t422] 26 (0, 0)) (by (with_reducible repeat (first | refine blk_drewN ?_ _ | refine blk_drew ?_ | refine blk_alloc ?_ _)); exact BK424.out)) : gb424 ≠ gb440)); have n21_ := Aside0.mk ((by rw [hg]; exact Nat.ne_of_gt (blk_lt (g := gb424) (o := .cells #[.string t417, .string t418, .int .i64 t419, .int .i64 t420, .int .i64 t421, .int .i64 t422] 26 (0, 0)) (by (with_reducible repeat (first | refine blk_drewN ?_ _ | refine blk_drew ?_ | refine blk_alloc ?_ _)); exact BK424.out)) : gb440 ≠ gb424)); have n22_ := Aside0.mk ((by rw [hg]; exact Nat.ne_of_lt (blk_lt (g := gb432) (o := .cells #[.string t425, .string t426, .int .i64 t427, .int .i64 t428, .int .i64 t429, .int .i64 t430] 26 (0, 0)) (by (with_reducible repeat (first | refine blk_drewN ?_ _ | refine blk_drew ?_ | refine blk_alloc ?_ _)); exact BK432.out)) : gb432 ≠ gb440)); have n23_ := Aside0.mk ((by rw [hg]; exact Nat.ne_of_gt (blk_lt (g := gb432) (o := .cells #[.string t425, .string t426, .int .i64 t427, .int .i64 t428, .int .i64 t429, .int .i64 t430] 26 (0, 0)) (by (with_reducible repeat (first | refine blk_drewN ?_ _ | refine blk_drew ?_ | refine blk_alloc ?_ _)); exact BK432.out)) : gb440 ≠ gb432)); clear HO389; clear HO392; clear BK382; clear BK400; clear BK408; clear BK416; clear BK424; clear BK432; clear HB; have HO389 := n0_; have HO392 := n1_; have BK382 := n2_; have BK400 := n3_; have BK408 := n4_; have BK416 := n5_; have BK424 := n6_; have BK432 := n7_; have HB := n8_; have BK440 := n9_; have GW440 := n10_; have GE440 := n11_; have NB382_440 := n12_; have NB440_382 := n13_; have NB400_440 := n14_; have NB440_400 := n15_; have NB408_440 := n16_; have NB440_408 := n17_; have NB416_440 := n18_; have NB440_416 := n19_; have NB424_440 := n20_; have NB440_424 := n21_; have NB432_440 := n22_; have NB440_432 := n23_; clear n0_ n1_ n2_ n3_ n4_ n5_ n6_ n7_ n8_ n9_ n10_ n11_ n12_ n13_ n14_ n15_ n16_ n17_ n18_ n19_ n20_ n21_ n22_ n23_; clear hb hbox hg; have hnb76 := NB440_382.out; have hnc76 := NB382_440.out; have hnb77 := NB440_400.out; have hnc77 := NB400_440.out; have hnb78 := NB440_408.out; have hnc78 := NB408_440.out; have hnb79 := NB440_416.out; have hnc79 := NB416_440.out; have hnb80 := NB440_424.out; have hnc80 := NB424_440.out; have hnb81 := NB440_432.out; have hnc81 := NB432_440.out; have hcz82_0 : w75.cell? ⟨gb440, 0, none⟩ = some (.string (⟨#[]⟩ : ByteArray)) := (blk_cell BK440.out 0).trans rfl; have hcz82_1 : w75.cell? ⟨gb440, 1, none⟩ = some (.string (⟨#[]⟩ : ByteArray)) := (blk_cell BK440.out 1).trans rfl; have hcz82_2 : w75.cell? ⟨gb440, 2, none⟩ = some (.int .i64 0) := (blk_cell BK440.out 2).trans rfl; have hcz82_3 : w75.cell? ⟨gb440, 3, none⟩ = some (.int .i64 0) := (blk_cell BK440.out 3).trans rfl; have hcz82_4 : w75.cell? ⟨gb440, 4, none⟩ = some (.int .i64 0) := (blk_cell BK440.out 4).trans rfl; have hcz82_5 : w75.cell? ⟨gb440, 5, none⟩ = some (.int .i64 0) := (blk_cell BK440.out 5).trans rfl; have hfz82_0 := blk_frozen BK440.out 0; have hfz82_1 := blk_frozen BK440.out 1; have hfz82_2 := blk_frozen BK440.out 2; have hfz82_3 := blk_frozen BK440.out 3; have hfz82_4 := blk_frozen BK440.out 4; have hfz82_5 := blk_frozen BK440.out 5))
    (try simp only [Act.put, List.setIfInBounds_toArray, List.set_cons_zero, List.set_cons_succ])
    go_cut [118] (fun v118 wc => ∃ (kq : Nat) (x118_33 : Bool), v118 = .bool x118_33 ∧ Aside0 (batonlaw04_HistLaid.j1 kq l0 a2 t387 t390 t415 t423 t431 t439 x118_33 a1_0 a1_1 a1_2 a1_3 a1_4 a1_5 t417 t418 t419 t420 t421 t422 t425 t426 t427 t428 t429 t430 t433 t434 t435 t436 t437 t438 = some r) ∧ Aside0 (kq ≤ kj3) ∧ Aside0 (Kd.R k26 26 wc w.heap.size (fun k_ => some k_ ≠ ((.slice Ao46 t390.length co46) : Value).ownBlock ∧ k_ ≠ gb382 ∧ k_ ≠ gb400 ∧ k_ ≠ gb408 ∧ k_ ≠ gb416 ∧ k_ ≠ gb424 ∧ k_ ≠ gb432 ∧ k_ ≠ gb440) (.slice Ao40 t387.length co40) t387) ∧ Aside0 (Kd.R k26 26 wc w.heap.size (fun k_ => some k_ ≠ ((.slice Ao40 t387.length co40) : Value).ownBlock ∧ k_ ≠ gb382 ∧ k_ ≠ gb400 ∧ k_ ≠ gb408 ∧ k_ ≠ gb416 ∧ k_ ≠ gb424 ∧ k_ ≠ gb432 ∧ k_ ≠ gb440) (.slice Ao46 t390.length co46) t390) ∧ Aside0 (wc.heap[gb382]? = some (.cells #[.string a1_0, .string a1_1, .int .i64 a1_2, .int .i64 a1_3, .int .i64 a1_4, .int .i64 a1_5] 26 (0, 0))) ∧ Aside0 (wc.heap[gb400]? = some (.cells #[.string t393, .string t394, .int .i64 t395, .int .i64 t396, .int .i64 t397, .int .i64 t398] 26 (0, 0))) ∧ Aside0 (wc.heap[gb408]? = some (.cells #[.string t401, .string t402, .int .i64 t403, .int .i64 t404, .int .i64 t405, .int .i64 t406] 26 (0, 0))) ∧ Aside0 (wc.heap[gb416]? = some (.cells #[.string t409, .string t410, .int .i64 t411, .int .i64 t412, .int .i64 t413, .int .i64 t414] 26 (0, 0))) ∧ Aside0 (wc.heap[gb424]? = some (.cells #[.string t417, .string t418, .int .i64 t419, .int .i64 t420, .int .i64 t421, .int .i64 t422] 26 (0, 0))) ∧ Aside0 (wc.heap[gb432]? = some (.cells #[.string t425, .string t426, .int .i64 t427, .int .i64 t428, .int .i64 t429, .int .i64 t430] 26 (0, 0))) ∧ Aside0 (wc.heap[gb440]? = some (.cells #[.string t433, .string t434, .int .i64 t435, .int .i64 t436, .int .i64 t437, .int .i64 t438] 26 (0, 0))) ∧ Aside0 (Below w.heap.size w wc))
    case first =>
     have H := HC34.out
     clear HC34
     by_cases c83 : t399 = true
     ·subst c83
      have H1 := H
      rw [if_pos rfl] at H1
      clear H
      have H := H1
      clear H1
      by_cases c84 : (!(t393.toList == a1_0.toList) || (!(t394.toList == a1_1.toList) || (!(t395 == a1_2) || (!(t396 == a1_3) || (!(t397 == a1_4) || (!(t398 == a1_5))))))) = true
      ·rw [if_pos c84] at H
       have c84b0 : (!(t393.toList == a1_0.toList) || (!(t394.toList == a1_1.toList) || (!(t395 == a1_2) || (!(t396 == a1_3) || (!(t397 == a1_4) || (!(t398 == a1_5))))))) = true := c84
       clear c84
       (first | rw [c84b0] | (simp only [i64_w, i32_w]; rw [c84b0]) | skip)
       have H' := Aside0.mk H
       clear H
       have hnb85 := NB400_382.out
       have hnc85 := NB382_400.out
       have hnb86 := NB400_408.out
       have hnc86 := NB408_400.out
       have hnb87 := NB400_416.out
       have hnc87 := NB416_400.out
       have hnb88 := NB400_424.out
       have hnc88 := NB424_400.out
       have hnb89 := NB400_432.out
       have hnc89 := NB432_400.out
       have hnb90 := NB400_440.out
       have hnc90 := NB440_400.out
       have hcz91_0 : w75.cell? ⟨gb400, 0, none⟩ = some (.string t393) := (blk_cell BK400.out 0).trans rfl
       have hcz91_1 : w75.cell? ⟨gb400, 1, none⟩ = some (.string t394) := (blk_cell BK400.out 1).trans rfl
       have hcz91_2 : w75.cell? ⟨gb400, 2, none⟩ = some (.int .i64 t395) := (blk_cell BK400.out 2).trans rfl
       have hcz91_3 : w75.cell? ⟨gb400, 3, none⟩ = some (.int .i64 t396) := (blk_cell BK400.out 3).trans rfl
       have hcz91_4 : w75.cell? ⟨gb400, 4, none⟩ = some (.int .i64 t397) := (blk_cell BK400.out 4).trans rfl
       have hcz91_5 : w75.cell? ⟨gb400, 5, none⟩ = some (.int .i64 t398) := (blk_cell BK400.out 5).trans rfl
       have hfz91_0 := blk_frozen BK400.out 0
       have hfz91_1 := blk_frozen BK400.out 1
       have hfz91_2 := blk_frozen BK400.out 2
       have hfz91_3 := blk_frozen BK400.out 3
       have hfz91_4 := blk_frozen BK400.out 4
       have hfz91_5 := blk_frozen BK400.out 5
       have hnb92 := NB382_408.out
       have hnc92 := NB408_382.out
       have hnb93 := NB382_416.out
       have hnc93 := NB416_382.out
       have hnb94 := NB382_424.out
       have hnc94 := NB424_382.out
       have hnb95 := NB382_432.out
       have hnc95 := NB432_382.out
       have hnb96 := NB382_440.out
       have hnc96 := NB440_382.out
       have hcz97_0 : w75.cell? ⟨gb382, 0, none⟩ = some (.string a1_0) := (blk_cell BK382.out 0).trans rfl
       have hcz97_1 : w75.cell? ⟨gb382, 1, none⟩ = some (.string a1_1) := (blk_cell BK382.out 1).trans rfl
       have hcz97_2 : w75.cell? ⟨gb382, 2, none⟩ = some (.int .i64 a1_2) := (blk_cell BK382.out 2).trans rfl
       have hcz97_3 : w75.cell? ⟨gb382, 3, none⟩ = some (.int .i64 a1_3) := (blk_cell BK382.out 3).trans rfl
       have hcz97_4 : w75.cell? ⟨gb382, 4, none⟩ = some (.int .i64 a1_4) := (blk_cell BK382.out 4).trans rfl
       have hcz97_5 : w75.cell? ⟨gb382, 5, none⟩ = some (.int .i64 a1_5) := (blk_cell BK382.out 5).trans rfl
       have hfz97_0 := blk_frozen BK382.out 0
       have hfz97_1 := blk_frozen BK382.out 1
       have hfz97_2 := blk_frozen BK382.out 2
       have hfz97_3 := blk_frozen BK382.out 3
       have hfz97_4 := blk_frozen BK382.out 4
       have hfz97_5 := blk_frozen BK382.out 5
       go_wp2
       go_meet
       case rel => exact ⟨_, (true), (by first | rfl | (simp; done) | (simp [*]; done)), H', ⟨by have := HJ3.out; first | omega | exact Nat.le_refl _⟩, ⟨by (with_reducible repeat (first | apply Kd.R_alloc | apply Kd.R_drewN | apply Kd.R_drew)); exact Kd.R_mono (Kd.R_far (p := ⟨gb440, 5, none⟩) (Kd.R_far (p := ⟨gb440, 4, none⟩) (Kd.R_far (p := ⟨gb440, 3, none⟩) (Kd.R_far (p := ⟨gb440, 2, none⟩) (Kd.R_far (p := ⟨gb440, 1, none⟩) (Kd.R_far (p := ⟨gb440, 0, none⟩) (Kd.R_mono HO389.out (fun k_ hk => (⟨hk, hk.2⟩ : _ ∧ k_ ≠ gb440))) (fun _ hk => hk.2) (.string t433)) (fun _ hk => hk.2) (.string t434)) (fun _ hk => hk.2) (.int .i64 t435)) (fun _ hk => hk.2) (.int .i64 t436)) (fun _ hk => hk.2) (.int .i64 t437)) (fun _ hk => hk.2) (.int .i64 t438)) (fun _ hk => ⟨hk.1.1.1.1.1.1.1.2, ⟨hk.1.1.1.1.1.1.1.1.2, ⟨hk.1.1.1.1.1.1.2, ⟨hk.1.1.1.1.1.2, ⟨hk.1.1.1.1.2, ⟨hk.1.1.1.2, ⟨hk.1.1.2, hk.1.2⟩⟩⟩⟩⟩⟩⟩)⟩, ⟨by (with_reducible repeat (first | apply Kd.R_alloc | apply Kd.R_drewN | apply Kd.R_drew)); exact Kd.R_mono (Kd.R_far (p := ⟨gb440, 5, none⟩) (Kd.R_far (p := ⟨gb440, 4, none⟩) (Kd.R_far (p := ⟨gb440, 3, none⟩) (Kd.R_far (p := ⟨gb440, 2, none⟩) (Kd.R_far (p := ⟨gb440, 1, none⟩) (Kd.R_far (p := ⟨gb440, 0, none⟩) (Kd.R_mono HO392.out (fun k_ hk => (⟨hk, hk.2⟩ : _ ∧ k_ ≠ gb440))) (fun _ hk => hk.2) (.string t433)) (fun _ hk => hk.2) (.string t434)) (fun _ hk => hk.2) (.int .i64 t435)) (fun _ hk => hk.2) (.int .i64 t436)) (fun _ hk => hk.2) (.int .i64 t437)) (fun _ hk => hk.2) (.int .i64 t438)) (fun _ hk => ⟨hk.1.1.1.1.1.1.1.1.2, ⟨hk.1.1.1.1.1.1.1.2, ⟨hk.1.1.1.1.1.1.2, ⟨hk.1.1.1.1.1.2, ⟨hk.1.1.1.1.2, ⟨hk.1.1.1.2, ⟨hk.1.1.2, hk.1.2⟩⟩⟩⟩⟩⟩⟩)⟩, ⟨by (with_reducible repeat (first | refine blk_drewN ?_ _ | refine blk_drew ?_ | refine blk_alloc ?_ _)); refine blk_far ?_ NB382_440.out _; (with_reducible repeat (first | refine blk_drewN ?_ _ | refine blk_drew ?_ | refine blk_alloc ?_ _)); refine blk_far ?_ NB382_440.out _; (with_reducible repeat (first | refine blk_drewN ?_ _ | refine blk_drew ?_ | refine blk_alloc ?_ _)); refine blk_far ?_ NB382_440.out _; (with_reducible repeat (first | refine blk_drewN ?_ _ | refine blk_drew ?_ | refine blk_alloc ?_ _)); refine blk_far ?_ NB382_440.out _; (with_reducible repeat (first | refine blk_drewN ?_ _ | refine blk_drew ?_ | refine blk_alloc ?_ _)); refine blk_far ?_ NB382_440.out _; (with_reducible repeat (first | refine blk_drewN ?_ _ | refine blk_drew ?_ | refine blk_alloc ?_ _)); refine blk_far ?_ NB382_440.out _; (with_reducible repeat (first | refine blk_drewN ?_ _ | refine blk_drew ?_ | refine blk_alloc ?_ _)); exact BK382.out⟩, ⟨by (with_reducible repeat (first | refine blk_drewN ?_ _ | refine blk_drew ?_ | refine blk_alloc ?_ _)); refine blk_far ?_ NB400_440.out _; (with_reducible repeat (first | refine blk_drewN ?_ _ | refine blk_drew ?_ | refine blk_alloc ?_ _)); refine blk_far ?_ NB400_440.out _; (with_reducible repeat (first | refine blk_drewN ?_ _ | refine blk_drew ?_ | refine blk_alloc ?_ _)); refine blk_far ?_ NB400_440.out _; (with_reducible repeat (first | refine blk_drewN ?_ _ | refine blk_drew ?_ | refine blk_alloc ?_ _)); refine blk_far ?_ NB400_440.out _; (with_reducible repeat (first | refine blk_drewN ?_ _ | refine blk_drew ?_ | refine blk_alloc ?_ _)); refine blk_far ?_ NB400_440.out _; (with_reducible repeat (first | refine blk_drewN ?_ _ | refine blk_drew ?_ | refine blk_alloc ?_ _)); refine blk_far ?_ NB400_440.out _; (with_reducible repeat (first | refine blk_drewN ?_ _ | refine blk_drew ?_ | refine blk_alloc ?_ _)); exact BK400.out⟩, ⟨by (with_reducible repeat (first | refine blk_drewN ?_ _ | refine blk_drew ?_ | refine blk_alloc ?_ _)); refine blk_far ?_ NB408_440.out _; (with_reducible repeat (first | refine blk_drewN ?_ _ | refine blk_drew ?_ | refine blk_alloc ?_ _)); refine blk_far ?_ NB408_440.out _; (with_reducible repeat (first | refine blk_drewN ?_ _ | refine blk_drew ?_ | refine blk_alloc ?_ _)); refine blk_far ?_ NB408_440.out _; (with_reducible repeat (first | refine blk_drewN ?_ _ | refine blk_drew ?_ | refine blk_alloc ?_ _)); refine blk_far ?_ NB408_440.out _; (with_reducible repeat (first | refine blk_drewN ?_ _ | refine blk_drew ?_ | refine blk_alloc ?_ _)); refine blk_far ?_ NB408_440.out _; (with_reducible repeat (first | refine blk_drewN ?_ _ | refine blk_drew ?_ | refine blk_alloc ?_ _)); refine blk_far ?_ NB408_440.out _; (with_reducible repeat (first | refine blk_drewN ?_ _ | refine blk_drew ?_ | refine blk_alloc ?_ _)); exact BK408.out⟩, ⟨by (with_reducible repeat (first | refine blk_drewN ?_ _ | refine blk_drew ?_ | refine blk_alloc ?_ _)); refine blk_far ?_ NB416_440.out _; (with_reducible repeat (first | refine blk_drewN ?_ _ | refine blk_drew ?_ | refine blk_alloc ?_ _)); refine blk_far ?_ NB416_440.out _; (with_reducible repeat (first | refine blk_drewN ?_ _ | refine blk_drew ?_ | refine blk_alloc ?_ _)); refine blk_far ?_ NB416_440.out _; (with_reducible repeat (first | refine blk_drewN ?_ _ | refine blk_drew ?_ | refine blk_alloc ?_ _)); refine blk_far ?_ NB416_440.out _; (with_reducible repeat (first | refine blk_drewN ?_ _ | refine blk_drew ?_ | refine blk_alloc ?_ _)); refine blk_far ?_ NB416_440.out _; (with_reducible repeat (first | refine blk_drewN ?_ _ | refine blk_drew ?_ | refine blk_alloc ?_ _)); refine blk_far ?_ NB416_440.out _; (with_reducible repeat (first | refine blk_drewN ?_ _ | refine blk_drew ?_ | refine blk_alloc ?_ _)); exact BK416.out⟩, ⟨by (with_reducible repeat (first | refine blk_drewN ?_ _ | refine blk_drew ?_ | refine blk_alloc ?_ _)); refine blk_far ?_ NB424_440.out _; (with_reducible repeat (first | refine blk_drewN ?_ _ | refine blk_drew ?_ | refine blk_alloc ?_ _)); refine blk_far ?_ NB424_440.out _; (with_reducible repeat (first | refine blk_drewN ?_ _ | refine blk_drew ?_ | refine blk_alloc ?_ _)); refine blk_far ?_ NB424_440.out _; (with_reducible repeat (first | refine blk_drewN ?_ _ | refine blk_drew ?_ | refine blk_alloc ?_ _)); refine blk_far ?_ NB424_440.out _; (with_reducible repeat (first | refine blk_drewN ?_ _ | refine blk_drew ?_ | refine blk_alloc ?_ _)); refine blk_far ?_ NB424_440.out _; (with_reducible repeat (first | refine blk_drewN ?_ _ | refine blk_drew ?_ | refine blk_alloc ?_ _)); refine blk_far ?_ NB424_440.out _; (with_reducible repeat (first | refine blk_drewN ?_ _ | refine blk_drew ?_ | refine blk_alloc ?_ _)); exact BK424.out⟩, ⟨by (with_reducible repeat (first | refine blk_drewN ?_ _ | refine blk_drew ?_ | refine blk_alloc ?_ _)); refine blk_far ?_ NB432_440.out _; (with_reducible repeat (first | refine blk_drewN ?_ _ | refine blk_drew ?_ | refine blk_alloc ?_ _)); refine blk_far ?_ NB432_440.out _; (with_reducible repeat (first | refine blk_drewN ?_ _ | refine blk_drew ?_ | refine blk_alloc ?_ _)); refine blk_far ?_ NB432_440.out _; (with_reducible repeat (first | refine blk_drewN ?_ _ | refine blk_drew ?_ | refine blk_alloc ?_ _)); refine blk_far ?_ NB432_440.out _; (with_reducible repeat (first | refine blk_drewN ?_ _ | refine blk_drew ?_ | refine blk_alloc ?_ _)); refine blk_far ?_ NB432_440.out _; (with_reducible repeat (first | refine blk_drewN ?_ _ | refine blk_drew ?_ | refine blk_alloc ?_ _)); refine blk_far ?_ NB432_440.out _; (with_reducible repeat (first | refine blk_drewN ?_ _ | refine blk_drew ?_ | refine blk_alloc ?_ _)); exact BK432.out⟩, ⟨by (with_reducible repeat (first | refine blk_drewN ?_ _ | refine blk_drew ?_ | refine blk_alloc ?_ _)); refine blk_put (cs := #[.string t433, .string t434, .int .i64 t435, .int .i64 t436, .int .i64 t437, .int .i64 0]) ?_ 5 _ rfl; (with_reducible repeat (first | refine blk_drewN ?_ _ | refine blk_drew ?_ | refine blk_alloc ?_ _)); refine blk_put (cs := #[.string t433, .string t434, .int .i64 t435, .int .i64 t436, .int .i64 0, .int .i64 0]) ?_ 4 _ rfl; (with_reducible repeat (first | refine blk_drewN ?_ _ | refine blk_drew ?_ | refine blk_alloc ?_ _)); refine blk_put (cs := #[.string t433, .string t434, .int .i64 t435, .int .i64 0, .int .i64 0, .int .i64 0]) ?_ 3 _ rfl; (with_reducible repeat (first | refine blk_drewN ?_ _ | refine blk_drew ?_ | refine blk_alloc ?_ _)); refine blk_put (cs := #[.string t433, .string t434, .int .i64 0, .int .i64 0, .int .i64 0, .int .i64 0]) ?_ 2 _ rfl; (with_reducible repeat (first | refine blk_drewN ?_ _ | refine blk_drew ?_ | refine blk_alloc ?_ _)); refine blk_put (cs := #[.string t433, .string (⟨#[]⟩ : ByteArray), .int .i64 0, .int .i64 0, .int .i64 0, .int .i64 0]) ?_ 1 _ rfl; (with_reducible repeat (first | refine blk_drewN ?_ _ | refine blk_drew ?_ | refine blk_alloc ?_ _)); refine blk_put (cs := #[.string (⟨#[]⟩ : ByteArray), .string (⟨#[]⟩ : ByteArray), .int .i64 0, .int .i64 0, .int .i64 0, .int .i64 0]) ?_ 0 _ rfl; (with_reducible repeat (first | refine blk_drewN ?_ _ | refine blk_drew ?_ | refine blk_alloc ?_ _)); exact BK440.out⟩, ⟨by repeat (first | (with_reducible first | exact HB.out | apply below_alloc | apply pw_below_drewN | apply below_drew1 | refine below_set ?_ GE382.out | refine below_set ?_ GE400.out | refine below_set ?_ GE408.out | refine below_set ?_ GE416.out | refine below_set ?_ GE424.out | refine below_set ?_ GE432.out | refine below_set ?_ GE440.out) | exact HB.out)⟩⟩
      ·rw [if_neg c84] at H
       have c84b0 : (!(t393.toList == a1_0.toList) || (!(t394.toList == a1_1.toList) || (!(t395 == a1_2) || (!(t396 == a1_3) || (!(t397 == a1_4) || (!(t398 == a1_5))))))) = false := by simpa using c84
       clear c84
       (first | rw [c84b0] | (simp only [i64_w, i32_w]; rw [c84b0]) | skip)
       by_cases c98 : t407 = true
       ·subst c98
        have H1 := H
        rw [if_pos rfl] at H1
        clear H
        have H := H1
        clear H1
        have H' := Aside0.mk H
        clear H
        have hnb99 := NB400_382.out
        have hnc99 := NB382_400.out
        have hnb100 := NB400_408.out
        have hnc100 := NB408_400.out
        have hnb101 := NB400_416.out
        have hnc101 := NB416_400.out
        have hnb102 := NB400_424.out
        have hnc102 := NB424_400.out
        have hnb103 := NB400_432.out
        have hnc103 := NB432_400.out
        have hnb104 := NB400_440.out
        have hnc104 := NB440_400.out
        have hcz105_0 : w75.cell? ⟨gb400, 0, none⟩ = some (.string t393) := (blk_cell BK400.out 0).trans rfl
        have hcz105_1 : w75.cell? ⟨gb400, 1, none⟩ = some (.string t394) := (blk_cell BK400.out 1).trans rfl
        have hcz105_2 : w75.cell? ⟨gb400, 2, none⟩ = some (.int .i64 t395) := (blk_cell BK400.out 2).trans rfl
        have hcz105_3 : w75.cell? ⟨gb400, 3, none⟩ = some (.int .i64 t396) := (blk_cell BK400.out 3).trans rfl
        have hcz105_4 : w75.cell? ⟨gb400, 4, none⟩ = some (.int .i64 t397) := (blk_cell BK400.out 4).trans rfl
        have hcz105_5 : w75.cell? ⟨gb400, 5, none⟩ = some (.int .i64 t398) := (blk_cell BK400.out 5).trans rfl
        have hfz105_0 := blk_frozen BK400.out 0
        have hfz105_1 := blk_frozen BK400.out 1
        have hfz105_2 := blk_frozen BK400.out 2
        have hfz105_3 := blk_frozen BK400.out 3
        have hfz105_4 := blk_frozen BK400.out 4
        have hfz105_5 := blk_frozen BK400.out 5
        have hnb106 := NB382_408.out
        have hnc106 := NB408_382.out
        have hnb107 := NB382_416.out
        have hnc107 := NB416_382.out
        have hnb108 := NB382_424.out
        have hnc108 := NB424_382.out
        have hnb109 := NB382_432.out
        have hnc109 := NB432_382.out
        have hnb110 := NB382_440.out
        have hnc110 := NB440_382.out
        have hcz111_0 : w75.cell? ⟨gb382, 0, none⟩ = some (.string a1_0) := (blk_cell BK382.out 0).trans rfl
        have hcz111_1 : w75.cell? ⟨gb382, 1, none⟩ = some (.string a1_1) := (blk_cell BK382.out 1).trans rfl
        have hcz111_2 : w75.cell? ⟨gb382, 2, none⟩ = some (.int .i64 a1_2) := (blk_cell BK382.out 2).trans rfl
        have hcz111_3 : w75.cell? ⟨gb382, 3, none⟩ = some (.int .i64 a1_3) := (blk_cell BK382.out 3).trans rfl
        have hcz111_4 : w75.cell? ⟨gb382, 4, none⟩ = some (.int .i64 a1_4) := (blk_cell BK382.out 4).trans rfl
        have hcz111_5 : w75.cell? ⟨gb382, 5, none⟩ = some (.int .i64 a1_5) := (blk_cell BK382.out 5).trans rfl
        have hfz111_0 := blk_frozen BK382.out 0
        have hfz111_1 := blk_frozen BK382.out 1
        have hfz111_2 := blk_frozen BK382.out 2
        have hfz111_3 := blk_frozen BK382.out 3
        have hfz111_4 := blk_frozen BK382.out 4
        have hfz111_5 := blk_frozen BK382.out 5
        go_wp2
        go_meet
        case rel => exact ⟨_, (true), (by first | rfl | (simp; done) | (simp [*]; done)), H', ⟨by have := HJ3.out; first | omega | exact Nat.le_refl _⟩, ⟨by (with_reducible repeat (first | apply Kd.R_alloc | apply Kd.R_drewN | apply Kd.R_drew)); exact Kd.R_mono (Kd.R_far (p := ⟨gb440, 5, none⟩) (Kd.R_far (p := ⟨gb440, 4, none⟩) (Kd.R_far (p := ⟨gb440, 3, none⟩) (Kd.R_far (p := ⟨gb440, 2, none⟩) (Kd.R_far (p := ⟨gb440, 1, none⟩) (Kd.R_far (p := ⟨gb440, 0, none⟩) (Kd.R_mono HO389.out (fun k_ hk => (⟨hk, hk.2⟩ : _ ∧ k_ ≠ gb440))) (fun _ hk => hk.2) (.string t433)) (fun _ hk => hk.2) (.string t434)) (fun _ hk => hk.2) (.int .i64 t435)) (fun _ hk => hk.2) (.int .i64 t436)) (fun _ hk => hk.2) (.int .i64 t437)) (fun _ hk => hk.2) (.int .i64 t438)) (fun _ hk => ⟨hk.1.1.1.1.1.1.1.2, ⟨hk.1.1.1.1.1.1.1.1.2, ⟨hk.1.1.1.1.1.1.2, ⟨hk.1.1.1.1.1.2, ⟨hk.1.1.1.1.2, ⟨hk.1.1.1.2, ⟨hk.1.1.2, hk.1.2⟩⟩⟩⟩⟩⟩⟩)⟩, ⟨by (with_reducible repeat (first | apply Kd.R_alloc | apply Kd.R_drewN | apply Kd.R_drew)); exact Kd.R_mono (Kd.R_far (p := ⟨gb440, 5, none⟩) (Kd.R_far (p := ⟨gb440, 4, none⟩) (Kd.R_far (p := ⟨gb440, 3, none⟩) (Kd.R_far (p := ⟨gb440, 2, none⟩) (Kd.R_far (p := ⟨gb440, 1, none⟩) (Kd.R_far (p := ⟨gb440, 0, none⟩) (Kd.R_mono HO392.out (fun k_ hk => (⟨hk, hk.2⟩ : _ ∧ k_ ≠ gb440))) (fun _ hk => hk.2) (.string t433)) (fun _ hk => hk.2) (.string t434)) (fun _ hk => hk.2) (.int .i64 t435)) (fun _ hk => hk.2) (.int .i64 t436)) (fun _ hk => hk.2) (.int .i64 t437)) (fun _ hk => hk.2) (.int .i64 t438)) (fun _ hk => ⟨hk.1.1.1.1.1.1.1.1.2, ⟨hk.1.1.1.1.1.1.1.2, ⟨hk.1.1.1.1.1.1.2, ⟨hk.1.1.1.1.1.2, ⟨hk.1.1.1.1.2, ⟨hk.1.1.1.2, ⟨hk.1.1.2, hk.1.2⟩⟩⟩⟩⟩⟩⟩)⟩, ⟨by (with_reducible repeat (first | refine blk_drewN ?_ _ | refine blk_drew ?_ | refine blk_alloc ?_ _)); refine blk_far ?_ NB382_440.out _; (with_reducible repeat (first | refine blk_drewN ?_ _ | refine blk_drew ?_ | refine blk_alloc ?_ _)); refine blk_far ?_ NB382_440.out _; (with_reducible repeat (first | refine blk_drewN ?_ _ | refine blk_drew ?_ | refine blk_alloc ?_ _)); refine blk_far ?_ NB382_440.out _; (with_reducible repeat (first | refine blk_drewN ?_ _ | refine blk_drew ?_ | refine blk_alloc ?_ _)); refine blk_far ?_ NB382_440.out _; (with_reducible repeat (first | refine blk_drewN ?_ _ | refine blk_drew ?_ | refine blk_alloc ?_ _)); refine blk_far ?_ NB382_440.out _; (with_reducible repeat (first | refine blk_drewN ?_ _ | refine blk_drew ?_ | refine blk_alloc ?_ _)); refine blk_far ?_ NB382_440.out _; (with_reducible repeat (first | refine blk_drewN ?_ _ | refine blk_drew ?_ | refine blk_alloc ?_ _)); exact BK382.out⟩, ⟨by (with_reducible repeat (first | refine blk_drewN ?_ _ | refine blk_drew ?_ | refine blk_alloc ?_ _)); refine blk_far ?_ NB400_440.out _; (with_reducible repeat (first | refine blk_drewN ?_ _ | refine blk_drew ?_ | refine blk_alloc ?_ _)); refine blk_far ?_ NB400_440.out _; (with_reducible repeat (first | refine blk_drewN ?_ _ | refine blk_drew ?_ | refine blk_alloc ?_ _)); refine blk_far ?_ NB400_440.out _; (with_reducible repeat (first | refine blk_drewN ?_ _ | refine blk_drew ?_ | refine blk_alloc ?_ _)); refine blk_far ?_ NB400_440.out _; (with_reducible repeat (first | refine blk_drewN ?_ _ | refine blk_drew ?_ | refine blk_alloc ?_ _)); refine blk_far ?_ NB400_440.out _; (with_reducible repeat (first | refine blk_drewN ?_ _ | refine blk_drew ?_ | refine blk_alloc ?_ _)); refine blk_far ?_ NB400_440.out _; (with_reducible repeat (first | refine blk_drewN ?_ _ | refine blk_drew ?_ | refine blk_alloc ?_ _)); exact BK400.out⟩, ⟨by (with_reducible repeat (first | refine blk_drewN ?_ _ | refine blk_drew ?_ | refine blk_alloc ?_ _)); refine blk_far ?_ NB408_440.out _; (with_reducible repeat (first | refine blk_drewN ?_ _ | refine blk_drew ?_ | refine blk_alloc ?_ _)); refine blk_far ?_ NB408_440.out _; (with_reducible repeat (first | refine blk_drewN ?_ _ | refine blk_drew ?_ | refine blk_alloc ?_ _)); refine blk_far ?_ NB408_440.out _; (with_reducible repeat (first | refine blk_drewN ?_ _ | refine blk_drew ?_ | refine blk_alloc ?_ _)); refine blk_far ?_ NB408_440.out _; (with_reducible repeat (first | refine blk_drewN ?_ _ | refine blk_drew ?_ | refine blk_alloc ?_ _)); refine blk_far ?_ NB408_440.out _; (with_reducible repeat (first | refine blk_drewN ?_ _ | refine blk_drew ?_ | refine blk_alloc ?_ _)); refine blk_far ?_ NB408_440.out _; (with_reducible repeat (first | refine blk_drewN ?_ _ | refine blk_drew ?_ | refine blk_alloc ?_ _)); exact BK408.out⟩, ⟨by (with_reducible repeat (first | refine blk_drewN ?_ _ | refine blk_drew ?_ | refine blk_alloc ?_ _)); refine blk_far ?_ NB416_440.out _; (with_reducible repeat (first | refine blk_drewN ?_ _ | refine blk_drew ?_ | refine blk_alloc ?_ _)); refine blk_far ?_ NB416_440.out _; (with_reducible repeat (first | refine blk_drewN ?_ _ | refine blk_drew ?_ | refine blk_alloc ?_ _)); refine blk_far ?_ NB416_440.out _; (with_reducible repeat (first | refine blk_drewN ?_ _ | refine blk_drew ?_ | refine blk_alloc ?_ _)); refine blk_far ?_ NB416_440.out _; (with_reducible repeat (first | refine blk_drewN ?_ _ | refine blk_drew ?_ | refine blk_alloc ?_ _)); refine blk_far ?_ NB416_440.out _; (with_reducible repeat (first | refine blk_drewN ?_ _ | refine blk_drew ?_ | refine blk_alloc ?_ _)); refine blk_far ?_ NB416_440.out _; (with_reducible repeat (first | refine blk_drewN ?_ _ | refine blk_drew ?_ | refine blk_alloc ?_ _)); exact BK416.out⟩, ⟨by (with_reducible repeat (first | refine blk_drewN ?_ _ | refine blk_drew ?_ | refine blk_alloc ?_ _)); refine blk_far ?_ NB424_440.out _; (with_reducible repeat (first | refine blk_drewN ?_ _ | refine blk_drew ?_ | refine blk_alloc ?_ _)); refine blk_far ?_ NB424_440.out _; (with_reducible repeat (first | refine blk_drewN ?_ _ | refine blk_drew ?_ | refine blk_alloc ?_ _)); refine blk_far ?_ NB424_440.out _; (with_reducible repeat (first | refine blk_drewN ?_ _ | refine blk_drew ?_ | refine blk_alloc ?_ _)); refine blk_far ?_ NB424_440.out _; (with_reducible repeat (first | refine blk_drewN ?_ _ | refine blk_drew ?_ | refine blk_alloc ?_ _)); refine blk_far ?_ NB424_440.out _; (with_reducible repeat (first | refine blk_drewN ?_ _ | refine blk_drew ?_ | refine blk_alloc ?_ _)); refine blk_far ?_ NB424_440.out _; (with_reducible repeat (first | refine blk_drewN ?_ _ | refine blk_drew ?_ | refine blk_alloc ?_ _)); exact BK424.out⟩, ⟨by (with_reducible repeat (first | refine blk_drewN ?_ _ | refine blk_drew ?_ | refine blk_alloc ?_ _)); refine blk_far ?_ NB432_440.out _; (with_reducible repeat (first | refine blk_drewN ?_ _ | refine blk_drew ?_ | refine blk_alloc ?_ _)); refine blk_far ?_ NB432_440.out _; (with_reducible repeat (first | refine blk_drewN ?_ _ | refine blk_drew ?_ | refine blk_alloc ?_ _)); refine blk_far ?_ NB432_440.out _; (with_reducible repeat (first | refine blk_drewN ?_ _ | refine blk_drew ?_ | refine blk_alloc ?_ _)); refine blk_far ?_ NB432_440.out _; (with_reducible repeat (first | refine blk_drewN ?_ _ | refine blk_drew ?_ | refine blk_alloc ?_ _)); refine blk_far ?_ NB432_440.out _; (with_reducible repeat (first | refine blk_drewN ?_ _ | refine blk_drew ?_ | refine blk_alloc ?_ _)); refine blk_far ?_ NB432_440.out _; (with_reducible repeat (first | refine blk_drewN ?_ _ | refine blk_drew ?_ | refine blk_alloc ?_ _)); exact BK432.out⟩, ⟨by (with_reducible repeat (first | refine blk_drewN ?_ _ | refine blk_drew ?_ | refine blk_alloc ?_ _)); refine blk_put (cs := #[.string t433, .string t434, .int .i64 t435, .int .i64 t436, .int .i64 t437, .int .i64 0]) ?_ 5 _ rfl; (with_reducible repeat (first | refine blk_drewN ?_ _ | refine blk_drew ?_ | refine blk_alloc ?_ _)); refine blk_put (cs := #[.string t433, .string t434, .int .i64 t435, .int .i64 t436, .int .i64 0, .int .i64 0]) ?_ 4 _ rfl; (with_reducible repeat (first | refine blk_drewN ?_ _ | refine blk_drew ?_ | refine blk_alloc ?_ _)); refine blk_put (cs := #[.string t433, .string t434, .int .i64 t435, .int .i64 0, .int .i64 0, .int .i64 0]) ?_ 3 _ rfl; (with_reducible repeat (first | refine blk_drewN ?_ _ | refine blk_drew ?_ | refine blk_alloc ?_ _)); refine blk_put (cs := #[.string t433, .string t434, .int .i64 0, .int .i64 0, .int .i64 0, .int .i64 0]) ?_ 2 _ rfl; (with_reducible repeat (first | refine blk_drewN ?_ _ | refine blk_drew ?_ | refine blk_alloc ?_ _)); refine blk_put (cs := #[.string t433, .string (⟨#[]⟩ : ByteArray), .int .i64 0, .int .i64 0, .int .i64 0, .int .i64 0]) ?_ 1 _ rfl; (with_reducible repeat (first | refine blk_drewN ?_ _ | refine blk_drew ?_ | refine blk_alloc ?_ _)); refine blk_put (cs := #[.string (⟨#[]⟩ : ByteArray), .string (⟨#[]⟩ : ByteArray), .int .i64 0, .int .i64 0, .int .i64 0, .int .i64 0]) ?_ 0 _ rfl; (with_reducible repeat (first | refine blk_drewN ?_ _ | refine blk_drew ?_ | refine blk_alloc ?_ _)); exact BK440.out⟩, ⟨by repeat (first | (with_reducible first | exact HB.out | apply below_alloc | apply pw_below_drewN | apply below_drew1 | refine below_set ?_ GE382.out | refine below_set ?_ GE400.out | refine below_set ?_ GE408.out | refine below_set ?_ GE416.out | refine below_set ?_ GE424.out | refine below_set ?_ GE432.out | refine below_set ?_ GE440.out) | exact HB.out)⟩⟩
       ·replace c98 := Bool.eq_false_iff.mpr c98
        subst c98
        have H1 := H
        rw [if_neg (show ¬ (false = true) by decide)] at H1
        clear H
        have H := H1
        clear H1
        replace H := Option.bind_eq_some_iff.mp H
        obtain ⟨t441, A1120, H⟩ := H
        have A112 := Aside0.mk A1120
        clear A1120
        by_cases c113 : t441 = true
        ·subst c113
         have H1 := H
         rw [if_pos rfl] at H1
         clear H
         have H := H1
         clear H1
         replace H := Option.bind_eq_some_iff.mp H
         obtain ⟨t442, A1140, H⟩ := H
         have A114 := Aside0.mk A1140
         clear A1140
         have H' := Aside0.mk H
         clear H
         have hnb115 := NB400_382.out
         have hnc115 := NB382_400.out
         have hnb116 := NB400_408.out
         have hnc116 := NB408_400.out
         have hnb117 := NB400_416.out
         have hnc117 := NB416_400.out
         have hnb118 := NB400_424.out
         have hnc118 := NB424_400.out
         have hnb119 := NB400_432.out
         have hnc119 := NB432_400.out
         have hnb120 := NB400_440.out
         have hnc120 := NB440_400.out
         have hcz121_0 : w75.cell? ⟨gb400, 0, none⟩ = some (.string t393) := (blk_cell BK400.out 0).trans rfl
         have hcz121_1 : w75.cell? ⟨gb400, 1, none⟩ = some (.string t394) := (blk_cell BK400.out 1).trans rfl
         have hcz121_2 : w75.cell? ⟨gb400, 2, none⟩ = some (.int .i64 t395) := (blk_cell BK400.out 2).trans rfl
         have hcz121_3 : w75.cell? ⟨gb400, 3, none⟩ = some (.int .i64 t396) := (blk_cell BK400.out 3).trans rfl
         have hcz121_4 : w75.cell? ⟨gb400, 4, none⟩ = some (.int .i64 t397) := (blk_cell BK400.out 4).trans rfl
         have hcz121_5 : w75.cell? ⟨gb400, 5, none⟩ = some (.int .i64 t398) := (blk_cell BK400.out 5).trans rfl
         have hfz121_0 := blk_frozen BK400.out 0
         have hfz121_1 := blk_frozen BK400.out 1
         have hfz121_2 := blk_frozen BK400.out 2
         have hfz121_3 := blk_frozen BK400.out 3
         have hfz121_4 := blk_frozen BK400.out 4
         have hfz121_5 := blk_frozen BK400.out 5
         have hnb122 := NB382_408.out
         have hnc122 := NB408_382.out
         have hnb123 := NB382_416.out
         have hnc123 := NB416_382.out
         have hnb124 := NB382_424.out
         have hnc124 := NB424_382.out
         have hnb125 := NB382_432.out
         have hnc125 := NB432_382.out
         have hnb126 := NB382_440.out
         have hnc126 := NB440_382.out
         have hcz127_0 : w75.cell? ⟨gb382, 0, none⟩ = some (.string a1_0) := (blk_cell BK382.out 0).trans rfl
         have hcz127_1 : w75.cell? ⟨gb382, 1, none⟩ = some (.string a1_1) := (blk_cell BK382.out 1).trans rfl
         have hcz127_2 : w75.cell? ⟨gb382, 2, none⟩ = some (.int .i64 a1_2) := (blk_cell BK382.out 2).trans rfl
         have hcz127_3 : w75.cell? ⟨gb382, 3, none⟩ = some (.int .i64 a1_3) := (blk_cell BK382.out 3).trans rfl
         have hcz127_4 : w75.cell? ⟨gb382, 4, none⟩ = some (.int .i64 a1_4) := (blk_cell BK382.out 4).trans rfl
         have hcz127_5 : w75.cell? ⟨gb382, 5, none⟩ = some (.int .i64 a1_5) := (blk_cell BK382.out 5).trans rfl
         have hfz127_0 := blk_frozen BK382.out 0
         have hfz127_1 := blk_frozen BK382.out 1
         have hfz127_2 := blk_frozen BK382.out 2
         have hfz127_3 := blk_frozen BK382.out 3
         have hfz127_4 := blk_frozen BK382.out 4
         have hfz127_5 := blk_frozen BK382.out 5
         go_wp2_with (first | (go_at_call 13; (with_reducible refine (hist_May.calls kj3 _ _ t387 true _ ?side1 ?side2 A112.out).mono ?_); (case side1 => refine (Kd.R_reads' (e := 26) (base := w.heap.size) (ok := fun k_ => ((((((((True ∧ k_ ≠ gb382) ∧ some k_ ≠ (.slice Ao46 t390.length co46 : Value).ownBlock) ∧ k_ ≠ gb400) ∧ k_ ≠ gb408) ∧ k_ ≠ gb416) ∧ k_ ≠ gb424) ∧ k_ ≠ gb432) ∧ k_ ≠ gb440)) (n := t387.length) (c := co40) ?_).2.2; exact (by (with_reducible repeat (first | apply Kd.R_alloc | apply Kd.R_drewN | apply Kd.R_drew)); exact (Kd.R_mono (Kd.R_far (p := ⟨gb440, 5, none⟩) (Kd.R_far (p := ⟨gb440, 4, none⟩) (Kd.R_far (p := ⟨gb440, 3, none⟩) (Kd.R_far (p := ⟨gb440, 2, none⟩) (Kd.R_far (p := ⟨gb440, 1, none⟩) (Kd.R_far (p := ⟨gb440, 0, none⟩) (Kd.R_mono HO389.out (fun k_ hk => (⟨hk, hk.2⟩ : _ ∧ k_ ≠ gb440))) (fun _ hk => hk.2) (.string t433)) (fun _ hk => hk.2) (.string t434)) (fun _ hk => hk.2) (.int .i64 t435)) (fun _ hk => hk.2) (.int .i64 t436)) (fun _ hk => hk.2) (.int .i64 t437)) (fun _ hk => hk.2) (.int .i64 t438)) (fun _ h_ => h_.1)))); (case side2 => exact (Kd.R_reads' HO389.out).2.1); rintro e w128 ⟨rfl, hb⟩; have n0_ := Aside0.mk (Kd.R_below (by (with_reducible repeat (first | apply Kd.R_alloc | apply Kd.R_drewN | apply Kd.R_drew)); exact (Kd.R_mono (Kd.R_far (p := ⟨gb440, 5, none⟩) (Kd.R_far (p := ⟨gb440, 4, none⟩) (Kd.R_far (p := ⟨gb440, 3, none⟩) (Kd.R_far (p := ⟨gb440, 2, none⟩) (Kd.R_far (p := ⟨gb440, 1, none⟩) (Kd.R_far (p := ⟨gb440, 0, none⟩) (Kd.R_mono HO389.out (fun k_ hk => (⟨hk, hk.2⟩ : _ ∧ k_ ≠ gb440))) (fun _ hk => hk.2) (.string t433)) (fun _ hk => hk.2) (.string t434)) (fun _ hk => hk.2) (.int .i64 t435)) (fun _ hk => hk.2) (.int .i64 t436)) (fun _ hk => hk.2) (.int .i64 t437)) (fun _ hk => hk.2) (.int .i64 t438)) (fun _ h_ => h_.1))) hb); have n1_ := Aside0.mk (Kd.R_below (by (with_reducible repeat (first | apply Kd.R_alloc | apply Kd.R_drewN | apply Kd.R_drew)); exact (Kd.R_mono (Kd.R_far (p := ⟨gb440, 5, none⟩) (Kd.R_far (p := ⟨gb440, 4, none⟩) (Kd.R_far (p := ⟨gb440, 3, none⟩) (Kd.R_far (p := ⟨gb440, 2, none⟩) (Kd.R_far (p := ⟨gb440, 1, none⟩) (Kd.R_far (p := ⟨gb440, 0, none⟩) (Kd.R_mono HO392.out (fun k_ hk => (⟨hk, hk.2⟩ : _ ∧ k_ ≠ gb440))) (fun _ hk => hk.2) (.string t433)) (fun _ hk => hk.2) (.string t434)) (fun _ hk => hk.2) (.int .i64 t435)) (fun _ hk => hk.2) (.int .i64 t436)) (fun _ hk => hk.2) (.int .i64 t437)) (fun _ hk => hk.2) (.int .i64 t438)) (fun _ h_ => h_.1))) hb); have n2_ := Aside0.mk (blk_below (g := gb382) (o := .cells #[.string a1_0, .string a1_1, .int .i64 a1_2, .int .i64 a1_3, .int .i64 a1_4, .int .i64 a1_5] 26 (0, 0)) (by (with_reducible repeat (first | refine blk_drewN ?_ _ | refine blk_drew ?_ | refine blk_alloc ?_ _)); refine blk_far ?_ NB382_440.out _; (with_reducible repeat (first | refine blk_drewN ?_ _ | refine blk_drew ?_ | refine blk_alloc ?_ _)); refine blk_far ?_ NB382_440.out _; (with_reducible repeat (first | refine blk_drewN ?_ _ | refine blk_drew ?_ | refine blk_alloc ?_ _)); refine blk_far ?_ NB382_440.out _; (with_reducible repeat (first | refine blk_drewN ?_ _ | refine blk_drew ?_ | refine blk_alloc ?_ _)); refine blk_far ?_ NB382_440.out _; (with_reducible repeat (first | refine blk_drewN ?_ _ | refine blk_drew ?_ | refine blk_alloc ?_ _)); refine blk_far ?_ NB382_440.out _; (with_reducible repeat (first | refine blk_drewN ?_ _ | refine blk_drew ?_ | refine blk_alloc ?_ _)); refine blk_far ?_ NB382_440.out _; (with_reducible repeat (first | refine blk_drewN ?_ _ | refine blk_drew ?_ | refine blk_alloc ?_ _)); exact BK382.out) hb); have n3_ := Aside0.mk (blk_below (g := gb400) (o := .cells #[.string t393, .string t394, .int .i64 t395, .int .i64 t396, .int .i64 t397, .int .i64 t398] 26 (0, 0)) (by (with_reducible repeat (first | refine blk_drewN ?_ _ | refine blk_drew ?_ | refine blk_alloc ?_ _)); refine blk_far ?_ NB400_440.out _; (with_reducible repeat (first | refine blk_drewN ?_ _ | refine blk_drew ?_ | refine blk_alloc ?_ _)); refine blk_far ?_ NB400_440.out _; (with_reducible repeat (first | refine blk_drewN ?_ _ | refine blk_drew ?_ | refine blk_alloc ?_ _)); refine blk_far ?_ NB400_440.out _; (with_reducible repeat (first | refine blk_drewN ?_ _ | refine blk_drew ?_ | refine blk_alloc ?_ _)); refine blk_far ?_ NB400_440.out _; (with_reducible repeat (first | refine blk_drewN ?_ _ | refine blk_drew ?_ | refine blk_alloc ?_ _)); refine blk_far ?_ NB400_440.out _; (with_reducible repeat (first | refine blk_drewN ?_ _ | refine blk_drew ?_ | refine blk_alloc ?_ _)); refine blk_far ?_ NB400_440.out _; (with_reducible repeat (first | refine blk_drewN ?_ _ | refine blk_drew ?_ | refine blk_alloc ?_ _)); exact BK400.out) hb); have n4_ := Aside0.mk (blk_below (g := gb408) (o := .cells #[.string t401, .string t402, .int .i64 t403, .int .i64 t404, .int .i64 t405, .int .i64 t406] 26 (0, 0)) (by (with_reducible repeat (first | refine blk_drewN ?_ _ | refine blk_drew ?_ | refine blk_alloc ?_ _)); refine blk_far ?_ NB408_440.out _; (with_reducible repeat (first | refine blk_drewN ?_ _ | refine blk_drew ?_ | refine blk_alloc ?_ _)); refine blk_far ?_ NB408_440.out _; (with_reducible repeat (first | refine blk_drewN ?_ _ | refine blk_drew ?_ | refine blk_alloc ?_ _)); refine blk_far ?_ NB408_440.out _; (with_reducible repeat (first | refine blk_drewN ?_ _ | refine blk_drew ?_ | refine blk_alloc ?_ _)); refine blk_far ?_ NB408_440.out _; (with_reducible repeat (first | refine blk_drewN ?_ _ | refine blk_drew ?_ | refine blk_alloc ?_ _)); refine blk_far ?_ NB408_440.out _; (with_reducible repeat (first | refine blk_drewN ?_ _ | refine blk_drew ?_ | refine blk_alloc ?_ _)); refine blk_far ?_ NB408_440.out _; (with_reducible repeat (first | refine blk_drewN ?_ _ | refine blk_drew ?_ | refine blk_alloc ?_ _)); exact BK408.out) hb); have n5_ := Aside0.mk (blk_below (g := gb416) (o := .cells #[.string t409, .string t410, .int .i64 t411, .int .i64 t412, .int .i64 t413, .int .i64 t414] 26 (0, 0)) (by (with_reducible repeat (first | refine blk_drewN ?_ _ | refine blk_drew ?_ | refine blk_alloc ?_ _)); refine blk_far ?_ NB416_440.out _; (with_reducible repeat (first | refine blk_drewN ?_ _ | refine blk_drew ?_ | refine blk_alloc ?_ _)); refine blk_far ?_ NB416_440.out _; (with_reducible repeat (first | refine blk_drewN ?_ _ | refine blk_drew ?_ | refine blk_alloc ?_ _)); refine blk_far ?_ NB416_440.out _; (with_reducible repeat (first | refine blk_drewN ?_ _ | refine blk_drew ?_ | refine blk_alloc ?_ _)); refine blk_far ?_ NB416_440.out _; (with_reducible repeat (first | refine blk_drewN ?_ _ | refine blk_drew ?_ | refine blk_alloc ?_ _)); refine blk_far ?_ NB416_440.out _; (with_reducible repeat (first | refine blk_drewN ?_ _ | refine blk_drew ?_ | refine blk_alloc ?_ _)); refine blk_far ?_ NB416_440.out _; (with_reducible repeat (first | refine blk_drewN ?_ _ | refine blk_drew ?_ | refine blk_alloc ?_ _)); exact BK416.out) hb); have n6_ := Aside0.mk (blk_below (g := gb424) (o := .cells #[.string t417, .string t418, .int .i64 t419, .int .i64 t420, .int .i64 t421, .int .i64 t422] 26 (0, 0)) (by (with_reducible repeat (first | refine blk_drewN ?_ _ | refine blk_drew ?_ | refine blk_alloc ?_ _)); refine blk_far ?_ NB424_440.out _; (with_reducible repeat (first | refine blk_drewN ?_ _ | refine blk_drew ?_ | refine blk_alloc ?_ _)); refine blk_far ?_ NB424_440.out _; (with_reducible repeat (first | refine blk_drewN ?_ _ | refine blk_drew ?_ | refine blk_alloc ?_ _)); refine blk_far ?_ NB424_440.out _; (with_reducible repeat (first | refine blk_drewN ?_ _ | refine blk_drew ?_ | refine blk_alloc ?_ _)); refine blk_far ?_ NB424_440.out _; (with_reducible repeat (first | refine blk_drewN ?_ _ | refine blk_drew ?_ | refine blk_alloc ?_ _)); refine blk_far ?_ NB424_440.out _; (with_reducible repeat (first | refine blk_drewN ?_ _ | refine blk_drew ?_ | refine blk_alloc ?_ _)); refine blk_far ?_ NB424_440.out _; (with_reducible repeat (first | refine blk_drewN ?_ _ | refine blk_drew ?_ | refine blk_alloc ?_ _)); exact BK424.out) hb); have n7_ := Aside0.mk (blk_below (g := gb432) (o := .cells #[.string t425, .string t426, .int .i64 t427, .int .i64 t428, .int .i64 t429, .int .i64 t430] 26 (0, 0)) (by (with_reducible repeat (first | refine blk_drewN ?_ _ | refine blk_drew ?_ | refine blk_alloc ?_ _)); refine blk_far ?_ NB432_440.out _; (with_reducible repeat (first | refine blk_drewN ?_ _ | refine blk_drew ?_ | refine blk_alloc ?_ _)); refine blk_far ?_ NB432_440.out _; (with_reducible repeat (first | refine blk_drewN ?_ _ | refine blk_drew ?_ | refine blk_alloc ?_ _)); refine blk_far ?_ NB432_440.out _; (with_reducible repeat (first | refine blk_drewN ?_ _ | refine blk_drew ?_ | refine blk_alloc ?_ _)); refine blk_far ?_ NB432_440.out _; (with_reducible repeat (first | refine blk_drewN ?_ _ | refine blk_drew ?_ | refine blk_alloc ?_ _)); refine blk_far ?_ NB432_440.out _; (with_reducible repeat (first | refine blk_drewN ?_ _ | refine blk_drew ?_ | refine blk_alloc ?_ _)); refine blk_far ?_ NB432_440.out _; (with_reducible repeat (first | refine blk_drewN ?_ _ | refine blk_drew ?_ | refine blk_alloc ?_ _)); exact BK432.out) hb); have n8_ := Aside0.mk (blk_below (g := gb440) (o := .cells #[.string t433, .string t434, .int .i64 t435, .int .i64 t436, .int .i64 t437, .int .i64 t438] 26 (0, 0)) (by (with_reducible repeat (first | refine blk_drewN ?_ _ | refine blk_drew ?_ | refine blk_alloc ?_ _)); refine blk_put (cs := #[.string t433, .string t434, .int .i64 t435, .int .i64 t436, .int .i64 t437, .int .i64 0]) ?_ 5 _ rfl; (with_reducible repeat (first | refine blk_drewN ?_ _ | refine blk_drew ?_ | refine blk_alloc ?_ _)); refine blk_put (cs := #[.string t433, .string t434, .int .i64 t435, .int .i64 t436, .int .i64 0, .int .i64 0]) ?_ 4 _ rfl; (with_reducible repeat (first | refine blk_drewN ?_ _ | refine blk_drew ?_ | refine blk_alloc ?_ _)); refine blk_put (cs := #[.string t433, .string t434, .int .i64 t435, .int .i64 0, .int .i64 0, .int .i64 0]) ?_ 3 _ rfl; (with_reducible repeat (first | refine blk_drewN ?_ _ | refine blk_drew ?_ | refine blk_alloc ?_ _)); refine blk_put (cs := #[.string t433, .string t434, .int .i64 0, .int .i64 0, .int .i64 0, .int .i64 0]) ?_ 2 _ rfl; (with_reducible repeat (first | refine blk_drewN ?_ _ | refine blk_drew ?_ | refine blk_alloc ?_ _)); refine blk_put (cs := #[.string t433, .string (⟨#[]⟩ : ByteArray), .int .i64 0, .int .i64 0, .int .i64 0, .int .i64 0]) ?_ 1 _ rfl; (with_reducible repeat (first | refine blk_drewN ?_ _ | refine blk_drew ?_ | refine blk_alloc ?_ _)); refine blk_put (cs := #[.string (⟨#[]⟩ : ByteArray), .string (⟨#[]⟩ : ByteArray), .int .i64 0, .int .i64 0, .int .i64 0, .int .i64 0]) ?_ 0 _ rfl; (with_reducible repeat (first | refine blk_drewN ?_ _ | refine blk_drew ?_ | refine blk_alloc ?_ _)); exact BK440.out) hb); have n9_ := Aside0.mk (below_step (by repeat (first | (with_reducible first | exact HB.out | apply below_alloc | apply pw_below_drewN | apply below_drew1 | refine below_set ?_ GE382.out | refine below_set ?_ GE400.out | refine below_set ?_ GE408.out | refine below_set ?_ GE416.out | refine below_set ?_ GE424.out | refine below_set ?_ GE432.out | refine below_set ?_ GE440.out) | exact HB.out)) hb); clear HO389; clear HO392; clear BK382; clear BK400; clear BK408; clear BK416; clear BK424; clear BK432; clear BK440; clear HB; have HO389 := n0_; have HO392 := n1_; have BK382 := n2_; have BK400 := n3_; have BK408 := n4_; have BK416 := n5_; have BK424 := n6_; have BK432 := n7_; have BK440 := n8_; have HB := n9_; clear n0_ n1_ n2_ n3_ n4_ n5_ n6_ n7_ n8_ n9_) | (go_at_call 13; (with_reducible refine (hist_May.calls kj3 _ _ t390 t442 _ ?side1 ?side2 A114.out).mono ?_); (case side1 => repeat (first | exact (Kd.R_reads' HO392.out).2.2 | (with_reducible refine Kd.C_alloc ?_ _) | (with_reducible refine Kd.C_drewN ?_ _) | (with_reducible refine Kd.C_drew ?_))); (case side2 => exact (Kd.R_reads' HO392.out).2.1); rintro e w129 ⟨rfl, hb⟩; have n0_ := Aside0.mk (Kd.R_below (by (with_reducible repeat (first | apply Kd.R_alloc | apply Kd.R_drewN | apply Kd.R_drew)); exact HO389.out) hb); have n1_ := Aside0.mk (Kd.R_below (by (with_reducible repeat (first | apply Kd.R_alloc | apply Kd.R_drewN | apply Kd.R_drew)); exact HO392.out) hb); have n2_ := Aside0.mk (blk_below (g := gb382) (o := .cells #[.string a1_0, .string a1_1, .int .i64 a1_2, .int .i64 a1_3, .int .i64 a1_4, .int .i64 a1_5] 26 (0, 0)) (by (with_reducible repeat (first | refine blk_drewN ?_ _ | refine blk_drew ?_ | refine blk_alloc ?_ _)); exact BK382.out) hb); have n3_ := Aside0.mk (blk_below (g := gb400) (o := .cells #[.string t393, .string t394, .int .i64 t395, .int .i64 t396, .int .i64 t397, .int .i64 t398] 26 (0, 0)) (by (with_reducible repeat (first | refine blk_drewN ?_ _ | refine blk_drew ?_ | refine blk_alloc ?_ _)); exact BK400.out) hb); have n4_ := Aside0.mk (blk_below (g := gb408) (o := .cells #[.string t401, .string t402, .int .i64 t403, .int .i64 t404, .int .i64 t405, .int .i64 t406] 26 (0, 0)) (by (with_reducible repeat (first | refine blk_drewN ?_ _ | refine blk_drew ?_ | refine blk_alloc ?_ _)); exact BK408.out) hb); have n5_ := Aside0.mk (blk_below (g := gb416) (o := .cells #[.string t409, .string t410, .int .i64 t411, .int .i64 t412, .int .i64 t413, .int .i64 t414] 26 (0, 0)) (by (with_reducible repeat (first | refine blk_drewN ?_ _ | refine blk_drew ?_ | refine blk_alloc ?_ _)); exact BK416.out) hb); have n6_ := Aside0.mk (blk_below (g := gb424) (o := .cells #[.string t417, .string t418, .int .i64 t419, .int .i64 t420, .int .i64 t421, .int .i64 t422] 26 (0, 0)) (by (with_reducible repeat (first | refine blk_drewN ?_ _ | refine blk_drew ?_ | refine blk_alloc ?_ _)); exact BK424.out) hb); have n7_ := Aside0.mk (blk_below (g := gb432) (o := .cells #[.string t425, .string t426, .int .i64 t427, .int .i64 t428, .int .i64 t429, .int .i64 t430] 26 (0, 0)) (by (with_reducible repeat (first | refine blk_drewN ?_ _ | refine blk_drew ?_ | refine blk_alloc ?_ _)); exact BK432.out) hb); have n8_ := Aside0.mk (blk_below (g := gb440) (o := .cells #[.string t433, .string t434, .int .i64 t435, .int .i64 t436, .int .i64 t437, .int .i64 t438] 26 (0, 0)) (by (with_reducible repeat (first | refine blk_drewN ?_ _ | refine blk_drew ?_ | refine blk_alloc ?_ _)); exact BK440.out) hb); have n9_ := Aside0.mk (below_step (by repeat (first | (with_reducible first | exact HB.out | apply below_alloc | apply pw_below_drewN | apply below_drew1 | refine below_set ?_ GE382.out | refine below_set ?_ GE400.out | refine below_set ?_ GE408.out | refine below_set ?_ GE416.out | refine below_set ?_ GE424.out | refine below_set ?_ GE432.out | refine below_set ?_ GE440.out) | exact HB.out)) hb); clear HO389; clear HO392; clear BK382; clear BK400; clear BK408; clear BK416; clear BK424; clear BK432; clear BK440; clear HB; have HO389 := n0_; have HO392 := n1_; have BK382 := n2_; have BK400 := n3_; have BK408 := n4_; have BK416 := n5_; have BK424 := n6_; have BK432 := n7_; have BK440 := n8_; have HB := n9_; clear n0_ n1_ n2_ n3_ n4_ n5_ n6_ n7_ n8_ n9_))
         go_meet
         case rel => exact ⟨_, (!t442), (by first | rfl | (simp; done) | (simp [*]; done)), H', ⟨by have := HJ3.out; first | omega | exact Nat.le_refl _⟩, ⟨by (with_reducible repeat (first | apply Kd.R_alloc | apply Kd.R_drewN | apply Kd.R_drew)); exact Kd.R_mono HO389.out (fun _ hk => ⟨hk.1.1.1.1.1.1.2, ⟨hk.1.1.1.1.1.1.1.2, ⟨hk.1.1.1.1.1.2, ⟨hk.1.1.1.1.2, ⟨hk.1.1.1.2, ⟨hk.1.1.2, ⟨hk.1.2, hk.2⟩⟩⟩⟩⟩⟩⟩)⟩, ⟨by (with_reducible repeat (first | apply Kd.R_alloc | apply Kd.R_drewN | apply Kd.R_drew)); exact Kd.R_mono HO392.out (fun _ hk => ⟨hk.1.1.1.1.1.1.1.2, ⟨hk.1.1.1.1.1.1.2, ⟨hk.1.1.1.1.1.2, ⟨hk.1.1.1.1.2, ⟨hk.1.1.1.2, ⟨hk.1.1.2, ⟨hk.1.2, hk.2⟩⟩⟩⟩⟩⟩⟩)⟩, ⟨by (with_reducible repeat (first | refine blk_drewN ?_ _ | refine blk_drew ?_ | refine blk_alloc ?_ _)); exact BK382.out⟩, ⟨by (with_reducible repeat (first | refine blk_drewN ?_ _ | refine blk_drew ?_ | refine blk_alloc ?_ _)); exact BK400.out⟩, ⟨by (with_reducible repeat (first | refine blk_drewN ?_ _ | refine blk_drew ?_ | refine blk_alloc ?_ _)); exact BK408.out⟩, ⟨by (with_reducible repeat (first | refine blk_drewN ?_ _ | refine blk_drew ?_ | refine blk_alloc ?_ _)); exact BK416.out⟩, ⟨by (with_reducible repeat (first | refine blk_drewN ?_ _ | refine blk_drew ?_ | refine blk_alloc ?_ _)); exact BK424.out⟩, ⟨by (with_reducible repeat (first | refine blk_drewN ?_ _ | refine blk_drew ?_ | refine blk_alloc ?_ _)); exact BK432.out⟩, ⟨by (with_reducible repeat (first | refine blk_drewN ?_ _ | refine blk_drew ?_ | refine blk_alloc ?_ _)); exact BK440.out⟩, ⟨by repeat (first | (with_reducible first | exact HB.out | apply below_alloc | apply pw_below_drewN | apply below_drew1 | refine below_set ?_ GE382.out | refine below_set ?_ GE400.out | refine below_set ?_ GE408.out | refine below_set ?_ GE416.out | refine below_set ?_ GE424.out | refine below_set ?_ GE432.out | refine below_set ?_ GE440.out) | exact HB.out)⟩⟩
        ·replace c113 := Bool.eq_false_iff.mpr c113
         subst c113
         have H1 := H
         rw [if_neg (show ¬ (false = true) by decide)] at H1
         clear H
         have H := H1
         clear H1
         have H' := Aside0.mk H
         clear H
         have hnb130 := NB400_382.out
         have hnc130 := NB382_400.out
         have hnb131 := NB400_408.out
         have hnc131 := NB408_400.out
         have hnb132 := NB400_416.out
         have hnc132 := NB416_400.out
         have hnb133 := NB400_424.out
         have hnc133 := NB424_400.out
         have hnb134 := NB400_432.out
         have hnc134 := NB432_400.out
         have hnb135 := NB400_440.out
         have hnc135 := NB440_400.out
         have hcz136_0 : w75.cell? ⟨gb400, 0, none⟩ = some (.string t393) := (blk_cell BK400.out 0).trans rfl
         have hcz136_1 : w75.cell? ⟨gb400, 1, none⟩ = some (.string t394) := (blk_cell BK400.out 1).trans rfl
         have hcz136_2 : w75.cell? ⟨gb400, 2, none⟩ = some (.int .i64 t395) := (blk_cell BK400.out 2).trans rfl
         have hcz136_3 : w75.cell? ⟨gb400, 3, none⟩ = some (.int .i64 t396) := (blk_cell BK400.out 3).trans rfl
         have hcz136_4 : w75.cell? ⟨gb400, 4, none⟩ = some (.int .i64 t397) := (blk_cell BK400.out 4).trans rfl
         have hcz136_5 : w75.cell? ⟨gb400, 5, none⟩ = some (.int .i64 t398) := (blk_cell BK400.out 5).trans rfl
         have hfz136_0 := blk_frozen BK400.out 0
         have hfz136_1 := blk_frozen BK400.out 1
         have hfz136_2 := blk_frozen BK400.out 2
         have hfz136_3 := blk_frozen BK400.out 3
         have hfz136_4 := blk_frozen BK400.out 4
         have hfz136_5 := blk_frozen BK400.out 5
         have hnb137 := NB382_408.out
         have hnc137 := NB408_382.out
         have hnb138 := NB382_416.out
         have hnc138 := NB416_382.out
         have hnb139 := NB382_424.out
         have hnc139 := NB424_382.out
         have hnb140 := NB382_432.out
         have hnc140 := NB432_382.out
         have hnb141 := NB382_440.out
         have hnc141 := NB440_382.out
         have hcz142_0 : w75.cell? ⟨gb382, 0, none⟩ = some (.string a1_0) := (blk_cell BK382.out 0).trans rfl
         have hcz142_1 : w75.cell? ⟨gb382, 1, none⟩ = some (.string a1_1) := (blk_cell BK382.out 1).trans rfl
         have hcz142_2 : w75.cell? ⟨gb382, 2, none⟩ = some (.int .i64 a1_2) := (blk_cell BK382.out 2).trans rfl
         have hcz142_3 : w75.cell? ⟨gb382, 3, none⟩ = some (.int .i64 a1_3) := (blk_cell BK382.out 3).trans rfl
         have hcz142_4 : w75.cell? ⟨gb382, 4, none⟩ = some (.int .i64 a1_4) := (blk_cell BK382.out 4).trans rfl
         have hcz142_5 : w75.cell? ⟨gb382, 5, none⟩ = some (.int .i64 a1_5) := (blk_cell BK382.out 5).trans rfl
         have hfz142_0 := blk_frozen BK382.out 0
         have hfz142_1 := blk_frozen BK382.out 1
         have hfz142_2 := blk_frozen BK382.out 2
         have hfz142_3 := blk_frozen BK382.out 3
         have hfz142_4 := blk_frozen BK382.out 4
         have hfz142_5 := blk_frozen BK382.out 5
         go_wp2_with (first | (go_at_call 13; (with_reducible refine (hist_May.calls kj3 _ _ t387 false _ ?side1 ?side2 A112.out).mono ?_); (case side1 => refine (Kd.R_reads' (e := 26) (base := w.heap.size) (ok := fun k_ => ((((((((True ∧ k_ ≠ gb382) ∧ some k_ ≠ (.slice Ao46 t390.length co46 : Value).ownBlock) ∧ k_ ≠ gb400) ∧ k_ ≠ gb408) ∧ k_ ≠ gb416) ∧ k_ ≠ gb424) ∧ k_ ≠ gb432) ∧ k_ ≠ gb440)) (n := t387.length) (c := co40) ?_).2.2; exact (by (with_reducible repeat (first | apply Kd.R_alloc | apply Kd.R_drewN | apply Kd.R_drew)); exact (Kd.R_mono (Kd.R_far (p := ⟨gb440, 5, none⟩) (Kd.R_far (p := ⟨gb440, 4, none⟩) (Kd.R_far (p := ⟨gb440, 3, none⟩) (Kd.R_far (p := ⟨gb440, 2, none⟩) (Kd.R_far (p := ⟨gb440, 1, none⟩) (Kd.R_far (p := ⟨gb440, 0, none⟩) (Kd.R_mono HO389.out (fun k_ hk => (⟨hk, hk.2⟩ : _ ∧ k_ ≠ gb440))) (fun _ hk => hk.2) (.string t433)) (fun _ hk => hk.2) (.string t434)) (fun _ hk => hk.2) (.int .i64 t435)) (fun _ hk => hk.2) (.int .i64 t436)) (fun _ hk => hk.2) (.int .i64 t437)) (fun _ hk => hk.2) (.int .i64 t438)) (fun _ h_ => h_.1)))); (case side2 => exact (Kd.R_reads' HO389.out).2.1); rintro e w143 ⟨rfl, hb⟩; have n0_ := Aside0.mk (Kd.R_below (by (with_reducible repeat (first | apply Kd.R_alloc | apply Kd.R_drewN | apply Kd.R_drew)); exact (Kd.R_mono (Kd.R_far (p := ⟨gb440, 5, none⟩) (Kd.R_far (p := ⟨gb440, 4, none⟩) (Kd.R_far (p := ⟨gb440, 3, none⟩) (Kd.R_far (p := ⟨gb440, 2, none⟩) (Kd.R_far (p := ⟨gb440, 1, none⟩) (Kd.R_far (p := ⟨gb440, 0, none⟩) (Kd.R_mono HO389.out (fun k_ hk => (⟨hk, hk.2⟩ : _ ∧ k_ ≠ gb440))) (fun _ hk => hk.2) (.string t433)) (fun _ hk => hk.2) (.string t434)) (fun _ hk => hk.2) (.int .i64 t435)) (fun _ hk => hk.2) (.int .i64 t436)) (fun _ hk => hk.2) (.int .i64 t437)) (fun _ hk => hk.2) (.int .i64 t438)) (fun _ h_ => h_.1))) hb); have n1_ := Aside0.mk (Kd.R_below (by (with_reducible repeat (first | apply Kd.R_alloc | apply Kd.R_drewN | apply Kd.R_drew)); exact (Kd.R_mono (Kd.R_far (p := ⟨gb440, 5, none⟩) (Kd.R_far (p := ⟨gb440, 4, none⟩) (Kd.R_far (p := ⟨gb440, 3, none⟩) (Kd.R_far (p := ⟨gb440, 2, none⟩) (Kd.R_far (p := ⟨gb440, 1, none⟩) (Kd.R_far (p := ⟨gb440, 0, none⟩) (Kd.R_mono HO392.out (fun k_ hk => (⟨hk, hk.2⟩ : _ ∧ k_ ≠ gb440))) (fun _ hk => hk.2) (.string t433)) (fun _ hk => hk.2) (.string t434)) (fun _ hk => hk.2) (.int .i64 t435)) (fun _ hk => hk.2) (.int .i64 t436)) (fun _ hk => hk.2) (.int .i64 t437)) (fun _ hk => hk.2) (.int .i64 t438)) (fun _ h_ => h_.1))) hb); have n2_ := Aside0.mk (blk_below (g := gb382) (o := .cells #[.string a1_0, .string a1_1, .int .i64 a1_2, .int .i64 a1_3, .int .i64 a1_4, .int .i64 a1_5] 26 (0, 0)) (by (with_reducible repeat (first | refine blk_drewN ?_ _ | refine blk_drew ?_ | refine blk_alloc ?_ _)); refine blk_far ?_ NB382_440.out _; (with_reducible repeat (first | refine blk_drewN ?_ _ | refine blk_drew ?_ | refine blk_alloc ?_ _)); refine blk_far ?_ NB382_440.out _; (with_reducible repeat (first | refine blk_drewN ?_ _ | refine blk_drew ?_ | refine blk_alloc ?_ _)); refine blk_far ?_ NB382_440.out _; (with_reducible repeat (first | refine blk_drewN ?_ _ | refine blk_drew ?_ | refine blk_alloc ?_ _)); refine blk_far ?_ NB382_440.out _; (with_reducible repeat (first | refine blk_drewN ?_ _ | refine blk_drew ?_ | refine blk_alloc ?_ _)); refine blk_far ?_ NB382_440.out _; (with_reducible repeat (first | refine blk_drewN ?_ _ | refine blk_drew ?_ | refine blk_alloc ?_ _)); refine blk_far ?_ NB382_440.out _; (with_reducible repeat (first | refine blk_drewN ?_ _ | refine blk_drew ?_ | refine blk_alloc ?_ _)); exact BK382.out) hb); have n3_ := Aside0.mk (blk_below (g := gb400) (o := .cells #[.string t393, .string t394, .int .i64 t395, .int .i64 t396, .int .i64 t397, .int .i64 t398] 26 (0, 0)) (by (with_reducible repeat (first | refine blk_drewN ?_ _ | refine blk_drew ?_ | refine blk_alloc ?_ _)); refine blk_far ?_ NB400_440.out _; (with_reducible repeat (first | refine blk_drewN ?_ _ | refine blk_drew ?_ | refine blk_alloc ?_ _)); refine blk_far ?_ NB400_440.out _; (with_reducible repeat (first | refine blk_drewN ?_ _ | refine blk_drew ?_ | refine blk_alloc ?_ _)); refine blk_far ?_ NB400_440.out _; (with_reducible repeat (first | refine blk_drewN ?_ _ | refine blk_drew ?_ | refine blk_alloc ?_ _)); refine blk_far ?_ NB400_440.out _; (with_reducible repeat (first | refine blk_drewN ?_ _ | refine blk_drew ?_ | refine blk_alloc ?_ _)); refine blk_far ?_ NB400_440.out _; (with_reducible repeat (first | refine blk_drewN ?_ _ | refine blk_drew ?_ | refine blk_alloc ?_ _)); refine blk_far ?_ NB400_440.out _; (with_reducible repeat (first | refine blk_drewN ?_ _ | refine blk_drew ?_ | refine blk_alloc ?_ _)); exact BK400.out) hb); have n4_ := Aside0.mk (blk_below (g := gb408) (o := .cells #[.string t401, .string t402, .int .i64 t403, .int .i64 t404, .int .i64 t405, .int .i64 t406] 26 (0, 0)) (by (with_reducible repeat (first | refine blk_drewN ?_ _ | refine blk_drew ?_ | refine blk_alloc ?_ _)); refine blk_far ?_ NB408_440.out _; (with_reducible repeat (first | refine blk_drewN ?_ _ | refine blk_drew ?_ | refine blk_alloc ?_ _)); refine blk_far ?_ NB408_440.out _; (with_reducible repeat (first | refine blk_drewN ?_ _ | refine blk_drew ?_ | refine blk_alloc ?_ _)); refine blk_far ?_ NB408_440.out _; (with_reducible repeat (first | refine blk_drewN ?_ _ | refine blk_drew ?_ | refine blk_alloc ?_ _)); refine blk_far ?_ NB408_440.out _; (with_reducible repeat (first | refine blk_drewN ?_ _ | refine blk_drew ?_ | refine blk_alloc ?_ _)); refine blk_far ?_ NB408_440.out _; (with_reducible repeat (first | refine blk_drewN ?_ _ | refine blk_drew ?_ | refine blk_alloc ?_ _)); refine blk_far ?_ NB408_440.out _; (with_reducible repeat (first | refine blk_drewN ?_ _ | refine blk_drew ?_ | refine blk_alloc ?_ _)); exact BK408.out) hb); have n5_ := Aside0.mk (blk_below (g := gb416) (o := .cells #[.string t409, .string t410, .int .i64 t411, .int .i64 t412, .int .i64 t413, .int .i64 t414] 26 (0, 0)) (by (with_reducible repeat (first | refine blk_drewN ?_ _ | refine blk_drew ?_ | refine blk_alloc ?_ _)); refine blk_far ?_ NB416_440.out _; (with_reducible repeat (first | refine blk_drewN ?_ _ | refine blk_drew ?_ | refine blk_alloc ?_ _)); refine blk_far ?_ NB416_440.out _; (with_reducible repeat (first | refine blk_drewN ?_ _ | refine blk_drew ?_ | refine blk_alloc ?_ _)); refine blk_far ?_ NB416_440.out _; (with_reducible repeat (first | refine blk_drewN ?_ _ | refine blk_drew ?_ | refine blk_alloc ?_ _)); refine blk_far ?_ NB416_440.out _; (with_reducible repeat (first | refine blk_drewN ?_ _ | refine blk_drew ?_ | refine blk_alloc ?_ _)); refine blk_far ?_ NB416_440.out _; (with_reducible repeat (first | refine blk_drewN ?_ _ | refine blk_drew ?_ | refine blk_alloc ?_ _)); refine blk_far ?_ NB416_440.out _; (with_reducible repeat (first | refine blk_drewN ?_ _ | refine blk_drew ?_ | refine blk_alloc ?_ _)); exact BK416.out) hb); have n6_ := Aside0.mk (blk_below (g := gb424) (o := .cells #[.string t417, .string t418, .int .i64 t419, .int .i64 t420, .int .i64 t421, .int .i64 t422] 26 (0, 0)) (by (with_reducible repeat (first | refine blk_drewN ?_ _ | refine blk_drew ?_ | refine blk_alloc ?_ _)); refine blk_far ?_ NB424_440.out _; (with_reducible repeat (first | refine blk_drewN ?_ _ | refine blk_drew ?_ | refine blk_alloc ?_ _)); refine blk_far ?_ NB424_440.out _; (with_reducible repeat (first | refine blk_drewN ?_ _ | refine blk_drew ?_ | refine blk_alloc ?_ _)); refine blk_far ?_ NB424_440.out _; (with_reducible repeat (first | refine blk_drewN ?_ _ | refine blk_drew ?_ | refine blk_alloc ?_ _)); refine blk_far ?_ NB424_440.out _; (with_reducible repeat (first | refine blk_drewN ?_ _ | refine blk_drew ?_ | refine blk_alloc ?_ _)); refine blk_far ?_ NB424_440.out _; (with_reducible repeat (first | refine blk_drewN ?_ _ | refine blk_drew ?_ | refine blk_alloc ?_ _)); refine blk_far ?_ NB424_440.out _; (with_reducible repeat (first | refine blk_drewN ?_ _ | refine blk_drew ?_ | refine blk_alloc ?_ _)); exact BK424.out) hb); have n7_ := Aside0.mk (blk_below (g := gb432) (o := .cells #[.string t425, .string t426, .int .i64 t427, .int .i64 t428, .int .i64 t429, .int .i64 t430] 26 (0, 0)) (by (with_reducible repeat (first | refine blk_drewN ?_ _ | refine blk_drew ?_ | refine blk_alloc ?_ _)); refine blk_far ?_ NB432_440.out _; (with_reducible repeat (first | refine blk_drewN ?_ _ | refine blk_drew ?_ | refine blk_alloc ?_ _)); refine blk_far ?_ NB432_440.out _; (with_reducible repeat (first | refine blk_drewN ?_ _ | refine blk_drew ?_ | refine blk_alloc ?_ _)); refine blk_far ?_ NB432_440.out _; (with_reducible repeat (first | refine blk_drewN ?_ _ | refine blk_drew ?_ | refine blk_alloc ?_ _)); refine blk_far ?_ NB432_440.out _; (with_reducible repeat (first | refine blk_drewN ?_ _ | refine blk_drew ?_ | refine blk_alloc ?_ _)); refine blk_far ?_ NB432_440.out _; (with_reducible repeat (first | refine blk_drewN ?_ _ | refine blk_drew ?_ | refine blk_alloc ?_ _)); refine blk_far ?_ NB432_440.out _; (with_reducible repeat (first | refine blk_drewN ?_ _ | refine blk_drew ?_ | refine blk_alloc ?_ _)); exact BK432.out) hb); have n8_ := Aside0.mk (blk_below (g := gb440) (o := .cells #[.string t433, .string t434, .int .i64 t435, .int .i64 t436, .int .i64 t437, .int .i64 t438] 26 (0, 0)) (by (with_reducible repeat (first | refine blk_drewN ?_ _ | refine blk_drew ?_ | refine blk_alloc ?_ _)); refine blk_put (cs := #[.string t433, .string t434, .int .i64 t435, .int .i64 t436, .int .i64 t437, .int .i64 0]) ?_ 5 _ rfl; (with_reducible repeat (first | refine blk_drewN ?_ _ | refine blk_drew ?_ | refine blk_alloc ?_ _)); refine blk_put (cs := #[.string t433, .string t434, .int .i64 t435, .int .i64 t436, .int .i64 0, .int .i64 0]) ?_ 4 _ rfl; (with_reducible repeat (first | refine blk_drewN ?_ _ | refine blk_drew ?_ | refine blk_alloc ?_ _)); refine blk_put (cs := #[.string t433, .string t434, .int .i64 t435, .int .i64 0, .int .i64 0, .int .i64 0]) ?_ 3 _ rfl; (with_reducible repeat (first | refine blk_drewN ?_ _ | refine blk_drew ?_ | refine blk_alloc ?_ _)); refine blk_put (cs := #[.string t433, .string t434, .int .i64 0, .int .i64 0, .int .i64 0, .int .i64 0]) ?_ 2 _ rfl; (with_reducible repeat (first | refine blk_drewN ?_ _ | refine blk_drew ?_ | refine blk_alloc ?_ _)); refine blk_put (cs := #[.string t433, .string (⟨#[]⟩ : ByteArray), .int .i64 0, .int .i64 0, .int .i64 0, .int .i64 0]) ?_ 1 _ rfl; (with_reducible repeat (first | refine blk_drewN ?_ _ | refine blk_drew ?_ | refine blk_alloc ?_ _)); refine blk_put (cs := #[.string (⟨#[]⟩ : ByteArray), .string (⟨#[]⟩ : ByteArray), .int .i64 0, .int .i64 0, .int .i64 0, .int .i64 0]) ?_ 0 _ rfl; (with_reducible repeat (first | refine blk_drewN ?_ _ | refine blk_drew ?_ | refine blk_alloc ?_ _)); exact BK440.out) hb); have n9_ := Aside0.mk (below_step (by repeat (first | (with_reducible first | exact HB.out | apply below_alloc | apply pw_below_drewN | apply below_drew1 | refine below_set ?_ GE382.out | refine below_set ?_ GE400.out | refine below_set ?_ GE408.out | refine below_set ?_ GE416.out | refine below_set ?_ GE424.out | refine below_set ?_ GE432.out | refine below_set ?_ GE440.out) | exact HB.out)) hb); clear HO389; clear HO392; clear BK382; clear BK400; clear BK408; clear BK416; clear BK424; clear BK432; clear BK440; clear HB; have HO389 := n0_; have HO392 := n1_; have BK382 := n2_; have BK400 := n3_; have BK408 := n4_; have BK416 := n5_; have BK424 := n6_; have BK432 := n7_; have BK440 := n8_; have HB := n9_; clear n0_ n1_ n2_ n3_ n4_ n5_ n6_ n7_ n8_ n9_))
         go_meet
         case rel => exact ⟨_, (true), (by first | rfl | (simp; done) | (simp [*]; done)), H', ⟨by have := HJ3.out; first | omega | exact Nat.le_refl _⟩, ⟨by (with_reducible repeat (first | apply Kd.R_alloc | apply Kd.R_drewN | apply Kd.R_drew)); exact Kd.R_mono HO389.out (fun _ hk => ⟨hk.1.1.1.1.1.1.2, ⟨hk.1.1.1.1.1.1.1.2, ⟨hk.1.1.1.1.1.2, ⟨hk.1.1.1.1.2, ⟨hk.1.1.1.2, ⟨hk.1.1.2, ⟨hk.1.2, hk.2⟩⟩⟩⟩⟩⟩⟩)⟩, ⟨by (with_reducible repeat (first | apply Kd.R_alloc | apply Kd.R_drewN | apply Kd.R_drew)); exact Kd.R_mono HO392.out (fun _ hk => ⟨hk.1.1.1.1.1.1.1.2, ⟨hk.1.1.1.1.1.1.2, ⟨hk.1.1.1.1.1.2, ⟨hk.1.1.1.1.2, ⟨hk.1.1.1.2, ⟨hk.1.1.2, ⟨hk.1.2, hk.2⟩⟩⟩⟩⟩⟩⟩)⟩, ⟨by (with_reducible repeat (first | refine blk_drewN ?_ _ | refine blk_drew ?_ | refine blk_alloc ?_ _)); exact BK382.out⟩, ⟨by (with_reducible repeat (first | refine blk_drewN ?_ _ | refine blk_drew ?_ | refine blk_alloc ?_ _)); exact BK400.out⟩, ⟨by (with_reducible repeat (first | refine blk_drewN ?_ _ | refine blk_drew ?_ | refine blk_alloc ?_ _)); exact BK408.out⟩, ⟨by (with_reducible repeat (first | refine blk_drewN ?_ _ | refine blk_drew ?_ | refine blk_alloc ?_ _)); exact BK416.out⟩, ⟨by (with_reducible repeat (first | refine blk_drewN ?_ _ | refine blk_drew ?_ | refine blk_alloc ?_ _)); exact BK424.out⟩, ⟨by (with_reducible repeat (first | refine blk_drewN ?_ _ | refine blk_drew ?_ | refine blk_alloc ?_ _)); exact BK432.out⟩, ⟨by (with_reducible repeat (first | refine blk_drewN ?_ _ | refine blk_drew ?_ | refine blk_alloc ?_ _)); exact BK440.out⟩, ⟨by repeat (first | (with_reducible first | exact HB.out | apply below_alloc | apply pw_below_drewN | apply below_drew1 | refine below_set ?_ GE382.out | refine below_set ?_ GE400.out | refine below_set ?_ GE408.out | refine below_set ?_ GE416.out | refine below_set ?_ GE424.out | refine below_set ?_ GE432.out | refine below_set ?_ GE440.out) | exact HB.out)⟩⟩
     ·replace c83 := Bool.eq_false_iff.mpr c83
      subst c83
      have H1 := H
      rw [if_neg (show ¬ (false = true) by decide)] at H1
      clear H
      have H := H1
      clear H1
      have H' := Aside0.mk H
      clear H
      go_wp2
      go_meet
      case rel => exact ⟨_, (true), (by first | rfl | (simp; done) | (simp [*]; done)), H', ⟨by have := HJ3.out; first | omega | exact Nat.le_refl _⟩, ⟨by (with_reducible repeat (first | apply Kd.R_alloc | apply Kd.R_drewN | apply Kd.R_drew)); exact Kd.R_mono (Kd.R_far (p := ⟨gb440, 5, none⟩) (Kd.R_far (p := ⟨gb440, 4, none⟩) (Kd.R_far (p := ⟨gb440, 3, none⟩) (Kd.R_far (p := ⟨gb440, 2, none⟩) (Kd.R_far (p := ⟨gb440, 1, none⟩) (Kd.R_far (p := ⟨gb440, 0, none⟩) (Kd.R_mono HO389.out (fun k_ hk => (⟨hk, hk.2⟩ : _ ∧ k_ ≠ gb440))) (fun _ hk => hk.2) (.string t433)) (fun _ hk => hk.2) (.string t434)) (fun _ hk => hk.2) (.int .i64 t435)) (fun _ hk => hk.2) (.int .i64 t436)) (fun _ hk => hk.2) (.int .i64 t437)) (fun _ hk => hk.2) (.int .i64 t438)) (fun _ hk => ⟨hk.1.1.1.1.1.1.1.2, ⟨hk.1.1.1.1.1.1.1.1.2, ⟨hk.1.1.1.1.1.1.2, ⟨hk.1.1.1.1.1.2, ⟨hk.1.1.1.1.2, ⟨hk.1.1.1.2, ⟨hk.1.1.2, hk.1.2⟩⟩⟩⟩⟩⟩⟩)⟩, ⟨by (with_reducible repeat (first | apply Kd.R_alloc | apply Kd.R_drewN | apply Kd.R_drew)); exact Kd.R_mono (Kd.R_far (p := ⟨gb440, 5, none⟩) (Kd.R_far (p := ⟨gb440, 4, none⟩) (Kd.R_far (p := ⟨gb440, 3, none⟩) (Kd.R_far (p := ⟨gb440, 2, none⟩) (Kd.R_far (p := ⟨gb440, 1, none⟩) (Kd.R_far (p := ⟨gb440, 0, none⟩) (Kd.R_mono HO392.out (fun k_ hk => (⟨hk, hk.2⟩ : _ ∧ k_ ≠ gb440))) (fun _ hk => hk.2) (.string t433)) (fun _ hk => hk.2) (.string t434)) (fun _ hk => hk.2) (.int .i64 t435)) (fun _ hk => hk.2) (.int .i64 t436)) (fun _ hk => hk.2) (.int .i64 t437)) (fun _ hk => hk.2) (.int .i64 t438)) (fun _ hk => ⟨hk.1.1.1.1.1.1.1.1.2, ⟨hk.1.1.1.1.1.1.1.2, ⟨hk.1.1.1.1.1.1.2, ⟨hk.1.1.1.1.1.2, ⟨hk.1.1.1.1.2, ⟨hk.1.1.1.2, ⟨hk.1.1.2, hk.1.2⟩⟩⟩⟩⟩⟩⟩)⟩, ⟨by (with_reducible repeat (first | refine blk_drewN ?_ _ | refine blk_drew ?_ | refine blk_alloc ?_ _)); refine blk_far ?_ NB382_440.out _; (with_reducible repeat (first | refine blk_drewN ?_ _ | refine blk_drew ?_ | refine blk_alloc ?_ _)); refine blk_far ?_ NB382_440.out _; (with_reducible repeat (first | refine blk_drewN ?_ _ | refine blk_drew ?_ | refine blk_alloc ?_ _)); refine blk_far ?_ NB382_440.out _; (with_reducible repeat (first | refine blk_drewN ?_ _ | refine blk_drew ?_ | refine blk_alloc ?_ _)); refine blk_far ?_ NB382_440.out _; (with_reducible repeat (first | refine blk_drewN ?_ _ | refine blk_drew ?_ | refine blk_alloc ?_ _)); refine blk_far ?_ NB382_440.out _; (with_reducible repeat (first | refine blk_drewN ?_ _ | refine blk_drew ?_ | refine blk_alloc ?_ _)); refine blk_far ?_ NB382_440.out _; (with_reducible repeat (first | refine blk_drewN ?_ _ | refine blk_drew ?_ | refine blk_alloc ?_ _)); exact BK382.out⟩, ⟨by (with_reducible repeat (first | refine blk_drewN ?_ _ | refine blk_drew ?_ | refine blk_alloc ?_ _)); refine blk_far ?_ NB400_440.out _; (with_reducible repeat (first | refine blk_drewN ?_ _ | refine blk_drew ?_ | refine blk_alloc ?_ _)); refine blk_far ?_ NB400_440.out _; (with_reducible repeat (first | refine blk_drewN ?_ _ | refine blk_drew ?_ | refine blk_alloc ?_ _)); refine blk_far ?_ NB400_440.out _; (with_reducible repeat (first | refine blk_drewN ?_ _ | refine blk_drew ?_ | refine blk_alloc ?_ _)); refine blk_far ?_ NB400_440.out _; (with_reducible repeat (first | refine blk_drewN ?_ _ | refine blk_drew ?_ | refine blk_alloc ?_ _)); refine blk_far ?_ NB400_440.out _; (with_reducible repeat (first | refine blk_drewN ?_ _ | refine blk_drew ?_ | refine blk_alloc ?_ _)); refine blk_far ?_ NB400_440.out _; (with_reducible repeat (first | refine blk_drewN ?_ _ | refine blk_drew ?_ | refine blk_alloc ?_ _)); exact BK400.out⟩, ⟨by (with_reducible repeat (first | refine blk_drewN ?_ _ | refine blk_drew ?_ | refine blk_alloc ?_ _)); refine blk_far ?_ NB408_440.out _; (with_reducible repeat (first | refine blk_drewN ?_ _ | refine blk_drew ?_ | refine blk_alloc ?_ _)); refine blk_far ?_ NB408_440.out _; (with_reducible repeat (first | refine blk_drewN ?_ _ | refine blk_drew ?_ | refine blk_alloc ?_ _)); refine blk_far ?_ NB408_440.out _; (with_reducible repeat (first | refine blk_drewN ?_ _ | refine blk_drew ?_ | refine blk_alloc ?_ _)); refine blk_far ?_ NB408_440.out _; (with_reducible repeat (first | refine blk_drewN ?_ _ | refine blk_drew ?_ | refine blk_alloc ?_ _)); refine blk_far ?_ NB408_440.out _; (with_reducible repeat (first | refine blk_drewN ?_ _ | refine blk_drew ?_ | refine blk_alloc ?_ _)); refine blk_far ?_ NB408_440.out _; (with_reducible repeat (first | refine blk_drewN ?_ _ | refine blk_drew ?_ | refine blk_alloc ?_ _)); exact BK408.out⟩, ⟨by (with_reducible repeat (first | refine blk_drewN ?_ _ | refine blk_drew ?_ | refine blk_alloc ?_ _)); refine blk_far ?_ NB416_440.out _; (with_reducible repeat (first | refine blk_drewN ?_ _ | refine blk_drew ?_ | refine blk_alloc ?_ _)); refine blk_far ?_ NB416_440.out _; (with_reducible repeat (first | refine blk_drewN ?_ _ | refine blk_drew ?_ | refine blk_alloc ?_ _)); refine blk_far ?_ NB416_440.out _; (with_reducible repeat (first | refine blk_drewN ?_ _ | refine blk_drew ?_ | refine blk_alloc ?_ _)); refine blk_far ?_ NB416_440.out _; (with_reducible repeat (first | refine blk_drewN ?_ _ | refine blk_drew ?_ | refine blk_alloc ?_ _)); refine blk_far ?_ NB416_440.out _; (with_reducible repeat (first | refine blk_drewN ?_ _ | refine blk_drew ?_ | refine blk_alloc ?_ _)); refine blk_far ?_ NB416_440.out _; (with_reducible repeat (first | refine blk_drewN ?_ _ | refine blk_drew ?_ | refine blk_alloc ?_ _)); exact BK416.out⟩, ⟨by (with_reducible repeat (first | refine blk_drewN ?_ _ | refine blk_drew ?_ | refine blk_alloc ?_ _)); refine blk_far ?_ NB424_440.out _; (with_reducible repeat (first | refine blk_drewN ?_ _ | refine blk_drew ?_ | refine blk_alloc ?_ _)); refine blk_far ?_ NB424_440.out _; (with_reducible repeat (first | refine blk_drewN ?_ _ | refine blk_drew ?_ | refine blk_alloc ?_ _)); refine blk_far ?_ NB424_440.out _; (with_reducible repeat (first | refine blk_drewN ?_ _ | refine blk_drew ?_ | refine blk_alloc ?_ _)); refine blk_far ?_ NB424_440.out _; (with_reducible repeat (first | refine blk_drewN ?_ _ | refine blk_drew ?_ | refine blk_alloc ?_ _)); refine blk_far ?_ NB424_440.out _; (with_reducible repeat (first | refine blk_drewN ?_ _ | refine blk_drew ?_ | refine blk_alloc ?_ _)); refine blk_far ?_ NB424_440.out _; (with_reducible repeat (first | refine blk_drewN ?_ _ | refine blk_drew ?_ | refine blk_alloc ?_ _)); exact BK424.out⟩, ⟨by (with_reducible repeat (first | refine blk_drewN ?_ _ | refine blk_drew ?_ | refine blk_alloc ?_ _)); refine blk_far ?_ NB432_440.out _; (with_reducible repeat (first | refine blk_drewN ?_ _ | refine blk_drew ?_ | refine blk_alloc ?_ _)); refine blk_far ?_ NB432_440.out _; (with_reducible repeat (first | refine blk_drewN ?_ _ | refine blk_drew ?_ | refine blk_alloc ?_ _)); refine blk_far ?_ NB432_440.out _; (with_reducible repeat (first | refine blk_drewN ?_ _ | refine blk_drew ?_ | refine blk_alloc ?_ _)); refine blk_far ?_ NB432_440.out _; (with_reducible repeat (first | refine blk_drewN ?_ _ | refine blk_drew ?_ | refine blk_alloc ?_ _)); refine blk_far ?_ NB432_440.out _; (with_reducible repeat (first | refine blk_drewN ?_ _ | refine blk_drew ?_ | refine blk_alloc ?_ _)); refine blk_far ?_ NB432_440.out _; (with_reducible repeat (first | refine blk_drewN ?_ _ | refine blk_drew ?_ | refine blk_alloc ?_ _)); exact BK432.out⟩, ⟨by (with_reducible repeat (first | refine blk_drewN ?_ _ | refine blk_drew ?_ | refine blk_alloc ?_ _)); refine blk_put (cs := #[.string t433, .string t434, .int .i64 t435, .int .i64 t436, .int .i64 t437, .int .i64 0]) ?_ 5 _ rfl; (with_reducible repeat (first | refine blk_drewN ?_ _ | refine blk_drew ?_ | refine blk_alloc ?_ _)); refine blk_put (cs := #[.string t433, .string t434, .int .i64 t435, .int .i64 t436, .int .i64 0, .int .i64 0]) ?_ 4 _ rfl; (with_reducible repeat (first | refine blk_drewN ?_ _ | refine blk_drew ?_ | refine blk_alloc ?_ _)); refine blk_put (cs := #[.string t433, .string t434, .int .i64 t435, .int .i64 0, .int .i64 0, .int .i64 0]) ?_ 3 _ rfl; (with_reducible repeat (first | refine blk_drewN ?_ _ | refine blk_drew ?_ | refine blk_alloc ?_ _)); refine blk_put (cs := #[.string t433, .string t434, .int .i64 0, .int .i64 0, .int .i64 0, .int .i64 0]) ?_ 2 _ rfl; (with_reducible repeat (first | refine blk_drewN ?_ _ | refine blk_drew ?_ | refine blk_alloc ?_ _)); refine blk_put (cs := #[.string t433, .string (⟨#[]⟩ : ByteArray), .int .i64 0, .int .i64 0, .int .i64 0, .int .i64 0]) ?_ 1 _ rfl; (with_reducible repeat (first | refine blk_drewN ?_ _ | refine blk_drew ?_ | refine blk_alloc ?_ _)); refine blk_put (cs := #[.string (⟨#[]⟩ : ByteArray), .string (⟨#[]⟩ : ByteArray), .int .i64 0, .int .i64 0, .int .i64 0, .int .i64 0]) ?_ 0 _ rfl; (with_reducible repeat (first | refine blk_drewN ?_ _ | refine blk_drew ?_ | refine blk_alloc ?_ _)); exact BK440.out⟩, ⟨by repeat (first | (with_reducible first | exact HB.out | apply below_alloc | apply pw_below_drewN | apply below_drew1 | refine below_set ?_ GE382.out | refine below_set ?_ GE400.out | refine below_set ?_ GE408.out | refine below_set ?_ GE416.out | refine below_set ?_ GE424.out | refine below_set ?_ GE432.out | refine below_set ?_ GE440.out) | exact HB.out)⟩⟩
    case rest =>
     clear HC34
     try clear c1
     try clear c2
     try clear p2
     try clear c4
     try clear c5
     try clear c6
     try clear c7
     try clear c8
     try clear c8b0
     try clear c8b1
     try clear c9
     try clear c10
     try clear c10b0
     try clear c10b1
     try clear c11
     try clear c12
     try clear c12b0
     try clear c12b1
     try clear c13
     try clear c14
     try clear c15
     try clear c16
     try clear c23
     try clear c43
     try clear c49
     try clear c50
     try clear c55
     try clear c56
     try clear c57
     try clear c61
     try clear c62
     try clear c63
     try clear c64
     try clear c68
     try clear c69
     try clear c70
     try clear c71
     try clear c72
     try clear c76
     try clear c77
     try clear c78
     try clear c79
     try clear c80
     try clear c81
     try clear c83
     try clear c84
     try clear c84b0
     try clear c85
     try clear c86
     try clear c87
     try clear c88
     try clear c89
     try clear c90
     try clear c92
     try clear c93
     try clear c94
     try clear c95
     try clear c96
     try clear c98
     try clear c99
     try clear c100
     try clear c101
     try clear c102
     try clear c103
     try clear c104
     try clear c106
     try clear c107
     try clear c108
     try clear c109
     try clear c110
     try clear c113
     try clear c115
     try clear c116
     try clear c117
     try clear c118
     try clear c119
     try clear c120
     try clear c122
     try clear c123
     try clear c124
     try clear c125
     try clear c126
     try clear c130
     try clear c131
     try clear c132
     try clear c133
     try clear c134
     try clear c135
     try clear c137
     try clear c138
     try clear c139
     try clear c140
     try clear c141
     try clear hcz105_0
     try clear hcz105_1
     try clear hcz105_2
     try clear hcz105_3
     try clear hcz105_4
     try clear hcz105_5
     try clear hcz111_0
     try clear hcz111_1
     try clear hcz111_2
     try clear hcz111_3
     try clear hcz111_4
     try clear hcz111_5
     try clear hcz11_0
     try clear hcz11_1
     try clear hcz11_2
     try clear hcz11_3
     try clear hcz11_4
     try clear hcz11_5
     try clear hcz121_0
     try clear hcz121_1
     try clear hcz121_2
     try clear hcz121_3
     try clear hcz121_4
     try clear hcz121_5
     try clear hcz127_0
     try clear hcz127_1
     try clear hcz127_2
     try clear hcz127_3
     try clear hcz127_4
     try clear hcz127_5
     try clear hcz136_0
     try clear hcz136_1
     try clear hcz136_2
     try clear hcz136_3
     try clear hcz136_4
     try clear hcz136_5
     try clear hcz13_0
     try clear hcz13_1
     try clear hcz13_2
     try clear hcz13_3
     try clear hcz13_4
     try clear hcz13_5
     try clear hcz142_0
     try clear hcz142_1
     try clear hcz142_2
     try clear hcz142_3
     try clear hcz142_4
     try clear hcz142_5
     try clear hcz17_0
     try clear hcz17_1
     try clear hcz17_2
     try clear hcz17_3
     try clear hcz17_4
     try clear hcz17_5
     try clear hcz19_0
     try clear hcz19_1
     try clear hcz19_2
     try clear hcz19_3
     try clear hcz19_4
     try clear hcz19_5
     try clear hcz21_0
     try clear hcz21_1
     try clear hcz21_2
     try clear hcz21_3
     try clear hcz21_4
     try clear hcz21_5
     try clear hcz35_0
     try clear hcz35_1
     try clear hcz35_2
     try clear hcz35_3
     try clear hcz35_4
     try clear hcz35_5
     try clear hcz37_0
     try clear hcz37_1
     try clear hcz37_2
     try clear hcz37_3
     try clear hcz37_4
     try clear hcz37_5
     try clear hcz39_0
     try clear hcz39_1
     try clear hcz39_2
     try clear hcz39_3
     try clear hcz39_4
     try clear hcz39_5
     try clear hcz44_0
     try clear hcz44_1
     try clear hcz44_2
     try clear hcz44_3
     try clear hcz44_4
     try clear hcz44_5
     try clear hcz45_0
     try clear hcz45_1
     try clear hcz45_2
     try clear hcz45_3
     try clear hcz45_4
     try clear hcz45_5
     try clear hcz51_0
     try clear hcz51_1
     try clear hcz51_2
     try clear hcz51_3
     try clear hcz51_4
     try clear hcz51_5
     try clear hcz52_0
     try clear hcz52_1
     try clear hcz52_2
     try clear hcz52_3
     try clear hcz52_4
     try clear hcz52_5
     try clear hcz58_0
     try clear hcz58_1
     try clear hcz58_2
     try clear hcz58_3
     try clear hcz58_4
     try clear hcz58_5
     try clear hcz65_0
     try clear hcz65_1
     try clear hcz65_2
     try clear hcz65_3
     try clear hcz65_4
     try clear hcz65_5
     try clear hcz73_0
     try clear hcz73_1
     try clear hcz73_2
     try clear hcz73_3
     try clear hcz73_4
     try clear hcz73_5
     try clear hcz82_0
     try clear hcz82_1
     try clear hcz82_2
     try clear hcz82_3
     try clear hcz82_4
     try clear hcz82_5
     try clear hcz91_0
     try clear hcz91_1
     try clear hcz91_2
     try clear hcz91_3
     try clear hcz91_4
     try clear hcz91_5
     try clear hcz97_0
     try clear hcz97_1
     try clear hcz97_2
     try clear hcz97_3
     try clear hcz97_4
     try clear hcz97_5
     try clear hcz9_0
     try clear hcz9_1
     try clear hcz9_2
     try clear hcz9_3
     try clear hcz9_4
     try clear hcz9_5
     try clear hfz105_0
     try clear hfz105_1
     try clear hfz105_2
     try clear hfz105_3
     try clear hfz105_4
     try clear hfz105_5
     try clear hfz111_0
     try clear hfz111_1
     try clear hfz111_2
     try clear hfz111_3
     try clear hfz111_4
     try clear hfz111_5
     try clear hfz11_0
     try clear hfz11_1
     try clear hfz11_2
     try clear hfz11_3
     try clear hfz11_4
     try clear hfz11_5
     try clear hfz121_0
     try clear hfz121_1
     try clear hfz121_2
     try clear hfz121_3
     try clear hfz121_4
     try clear hfz121_5
     try clear hfz127_0
     try clear hfz127_1
     try clear hfz127_2
     try clear hfz127_3
     try clear hfz127_4
     try clear hfz127_5
     try clear hfz136_0
     try clear hfz136_1
     try clear hfz136_2
     try clear hfz136_3
     try clear hfz136_4
     try clear hfz136_5
     try clear hfz13_0
     try clear hfz13_1
     try clear hfz13_2
     try clear hfz13_3
     try clear hfz13_4
     try clear hfz13_5
     try clear hfz142_0
     try clear hfz142_1
     try clear hfz142_2
     try clear hfz142_3
     try clear hfz142_4
     try clear hfz142_5
     try clear hfz17_0
     try clear hfz17_1
     try clear hfz17_2
     try clear hfz17_3
     try clear hfz17_4
     try clear hfz17_5
     try clear hfz19_0
     try clear hfz19_1
     try clear hfz19_2
     try clear hfz19_3
     try clear hfz19_4
     try clear hfz19_5
     try clear hfz21_0
     try clear hfz21_1
     try clear hfz21_2
     try clear hfz21_3
     try clear hfz21_4
     try clear hfz21_5
     try clear hfz35_0
     try clear hfz35_1
     try clear hfz35_2
     try clear hfz35_3
     try clear hfz35_4
     try clear hfz35_5
     try clear hfz37_0
     try clear hfz37_1
     try clear hfz37_2
     try clear hfz37_3
     try clear hfz37_4
     try clear hfz37_5
     try clear hfz39_0
     try clear hfz39_1
     try clear hfz39_2
     try clear hfz39_3
     try clear hfz39_4
     try clear hfz39_5
     try clear hfz44_0
     try clear hfz44_1
     try clear hfz44_2
     try clear hfz44_3
     try clear hfz44_4
     try clear hfz44_5
     try clear hfz45_0
     try clear hfz45_1
     try clear hfz45_2
     try clear hfz45_3
     try clear hfz45_4
     try clear hfz45_5
     try clear hfz51_0
     try clear hfz51_1
     try clear hfz51_2
     try clear hfz51_3
     try clear hfz51_4
     try clear hfz51_5
     try clear hfz52_0
     try clear hfz52_1
     try clear hfz52_2
     try clear hfz52_3
     try clear hfz52_4
     try clear hfz52_5
     try clear hfz58_0
     try clear hfz58_1
     try clear hfz58_2
     try clear hfz58_3
     try clear hfz58_4
     try clear hfz58_5
     try clear hfz65_0
     try clear hfz65_1
     try clear hfz65_2
     try clear hfz65_3
     try clear hfz65_4
     try clear hfz65_5
     try clear hfz73_0
     try clear hfz73_1
     try clear hfz73_2
     try clear hfz73_3
     try clear hfz73_4
     try clear hfz73_5
     try clear hfz82_0
     try clear hfz82_1
     try clear hfz82_2
     try clear hfz82_3
     try clear hfz82_4
     try clear hfz82_5
     try clear hfz91_0
     try clear hfz91_1
     try clear hfz91_2
     try clear hfz91_3
     try clear hfz91_4
     try clear hfz91_5
     try clear hfz97_0
     try clear hfz97_1
     try clear hfz97_2
     try clear hfz97_3
     try clear hfz97_4
     try clear hfz97_5
     try clear hfz9_0
     try clear hfz9_1
     try clear hfz9_2
     try clear hfz9_3
     try clear hfz9_4
     try clear hfz9_5
     try clear p2
     obtain ⟨kq, x118_33, rfl, HA, HJ33, HO_7, HO_8, BK382, BK400, BK408, BK416, BK424, BK432, BK440, HB⟩ := hcut
     cases kq with
     | zero => exact absurd HA.out (by simp [batonlaw04_HistLaid.j1])
     | succ kj33 =>
      have H := HA.out
      clear HA
      simp only [batonlaw04_HistLaid.j1] at H
      by_cases c144 : x118_33 = true
      ·subst c144
       have H1 : (none) = some r := by rw [if_pos rfl] at H; exact H
       clear H
       have H := H1
       clear H1
       exact absurd H (by simp)
      ·replace c144 := Bool.eq_false_iff.mpr c144
       subst c144
       have H1 := H
       rw [if_neg (show ¬ (false = true) by decide)] at H1
       clear H
       have H := H1
       clear H1
       have HC145 := Aside0.mk H
       clear H
       go_upto_region 13 with (fail)
       go_cut [142] (fun v142 wc => ∃ (kq : Nat) (x142_144 : Bool), v142 = .bool x142_144 ∧ Aside0 (batonlaw04_HistLaid.j2 kq l0 t387 t390 t415 x142_144 = some r) ∧ Aside0 (kq ≤ kj33) ∧ Aside0 (Kd.R k26 26 wc w.heap.size (fun k_ => some k_ ≠ ((.slice Ao46 t390.length co46) : Value).ownBlock ∧ k_ ≠ gb382 ∧ k_ ≠ gb400 ∧ k_ ≠ gb408 ∧ k_ ≠ gb416 ∧ k_ ≠ gb424 ∧ k_ ≠ gb432 ∧ k_ ≠ gb440) (.slice Ao40 t387.length co40) t387) ∧ Aside0 (Kd.R k26 26 wc w.heap.size (fun k_ => some k_ ≠ ((.slice Ao40 t387.length co40) : Value).ownBlock ∧ k_ ≠ gb382 ∧ k_ ≠ gb400 ∧ k_ ≠ gb408 ∧ k_ ≠ gb416 ∧ k_ ≠ gb424 ∧ k_ ≠ gb432 ∧ k_ ≠ gb440) (.slice Ao46 t390.length co46) t390) ∧ Aside0 (wc.heap[gb382]? = some (.cells #[.string a1_0, .string a1_1, .int .i64 a1_2, .int .i64 a1_3, .int .i64 a1_4, .int .i64 a1_5] 26 (0, 0))) ∧ Aside0 (wc.heap[gb400]? = some (.cells #[.string t393, .string t394, .int .i64 t395, .int .i64 t396, .int .i64 t397, .int .i64 t398] 26 (0, 0))) ∧ Aside0 (wc.heap[gb408]? = some (.cells #[.string t401, .string t402, .int .i64 t403, .int .i64 t404, .int .i64 t405, .int .i64 t406] 26 (0, 0))) ∧ Aside0 (wc.heap[gb416]? = some (.cells #[.string t409, .string t410, .int .i64 t411, .int .i64 t412, .int .i64 t413, .int .i64 t414] 26 (0, 0))) ∧ Aside0 (wc.heap[gb424]? = some (.cells #[.string t417, .string t418, .int .i64 t419, .int .i64 t420, .int .i64 t421, .int .i64 t422] 26 (0, 0))) ∧ Aside0 (wc.heap[gb432]? = some (.cells #[.string t425, .string t426, .int .i64 t427, .int .i64 t428, .int .i64 t429, .int .i64 t430] 26 (0, 0))) ∧ Aside0 (wc.heap[gb440]? = some (.cells #[.string t433, .string t434, .int .i64 t435, .int .i64 t436, .int .i64 t437, .int .i64 t438] 26 (0, 0))) ∧ Aside0 (Below w.heap.size w wc))
       case first =>
        have H := HC145.out
        clear HC145
        by_cases c146 : a2.toList = a1_0.toList
        ·rw [if_pos c146] at H
         have c146b0 : (a2.toList == a1_0.toList) = true := beq_iff_eq.mpr c146
         have c146b1 : (a2.toList != a1_0.toList) = false := bne_eq_false_iff_eq.mpr c146
         clear c146
         (first | rw [c146b0] | (simp only [i64_w, i32_w]; rw [c146b0]) | skip)
         have H' := Aside0.mk H
         clear H
         have hnb147 := NB382_400.out
         have hnc147 := NB400_382.out
         have hnb148 := NB382_408.out
         have hnc148 := NB408_382.out
         have hnb149 := NB382_416.out
         have hnc149 := NB416_382.out
         have hnb150 := NB382_424.out
         have hnc150 := NB424_382.out
         have hnb151 := NB382_432.out
         have hnc151 := NB432_382.out
         have hnb152 := NB382_440.out
         have hnc152 := NB440_382.out
         have hcz153_0 : wc.cell? ⟨gb382, 0, none⟩ = some (.string a1_0) := (blk_cell BK382.out 0).trans rfl
         have hcz153_1 : wc.cell? ⟨gb382, 1, none⟩ = some (.string a1_1) := (blk_cell BK382.out 1).trans rfl
         have hcz153_2 : wc.cell? ⟨gb382, 2, none⟩ = some (.int .i64 a1_2) := (blk_cell BK382.out 2).trans rfl
         have hcz153_3 : wc.cell? ⟨gb382, 3, none⟩ = some (.int .i64 a1_3) := (blk_cell BK382.out 3).trans rfl
         have hcz153_4 : wc.cell? ⟨gb382, 4, none⟩ = some (.int .i64 a1_4) := (blk_cell BK382.out 4).trans rfl
         have hcz153_5 : wc.cell? ⟨gb382, 5, none⟩ = some (.int .i64 a1_5) := (blk_cell BK382.out 5).trans rfl
         have hfz153_0 := blk_frozen BK382.out 0
         have hfz153_1 := blk_frozen BK382.out 1
         have hfz153_2 := blk_frozen BK382.out 2
         have hfz153_3 := blk_frozen BK382.out 3
         have hfz153_4 := blk_frozen BK382.out 4
         have hfz153_5 := blk_frozen BK382.out 5
         go_wp2
         go_meet
         case rel => exact ⟨_, (false), (by first | rfl | (simp; done) | (simp [*]; done)), H', ⟨by have := HJ3.out; have := HJ33.out; first | omega | exact Nat.le_refl _⟩, ⟨by (with_reducible repeat (first | apply Kd.R_alloc | apply Kd.R_drewN | apply Kd.R_drew)); exact HO_7.out⟩, ⟨by (with_reducible repeat (first | apply Kd.R_alloc | apply Kd.R_drewN | apply Kd.R_drew)); exact HO_8.out⟩, ⟨by (with_reducible repeat (first | refine blk_drewN ?_ _ | refine blk_drew ?_ | refine blk_alloc ?_ _)); exact BK382.out⟩, ⟨by (with_reducible repeat (first | refine blk_drewN ?_ _ | refine blk_drew ?_ | refine blk_alloc ?_ _)); exact BK400.out⟩, ⟨by (with_reducible repeat (first | refine blk_drewN ?_ _ | refine blk_drew ?_ | refine blk_alloc ?_ _)); exact BK408.out⟩, ⟨by (with_reducible repeat (first | refine blk_drewN ?_ _ | refine blk_drew ?_ | refine blk_alloc ?_ _)); exact BK416.out⟩, ⟨by (with_reducible repeat (first | refine blk_drewN ?_ _ | refine blk_drew ?_ | refine blk_alloc ?_ _)); exact BK424.out⟩, ⟨by (with_reducible repeat (first | refine blk_drewN ?_ _ | refine blk_drew ?_ | refine blk_alloc ?_ _)); exact BK432.out⟩, ⟨by (with_reducible repeat (first | refine blk_drewN ?_ _ | refine blk_drew ?_ | refine blk_alloc ?_ _)); exact BK440.out⟩, ⟨by repeat (first | (with_reducible first | exact HB.out | apply below_alloc | apply pw_below_drewN | apply below_drew1 | refine below_set ?_ GE382.out | refine below_set ?_ GE400.out | refine below_set ?_ GE408.out | refine below_set ?_ GE416.out | refine below_set ?_ GE424.out | refine below_set ?_ GE432.out | refine below_set ?_ GE440.out) | exact HB.out)⟩⟩
        ·rw [if_neg c146] at H
         have c146b0 : (a2.toList == a1_0.toList) = false := beq_eq_false_iff_ne.mpr c146
         have c146b1 : (a2.toList != a1_0.toList) = true := bne_iff_ne.mpr c146
         (first | rw [c146b0] | (simp only [i64_w, i32_w]; rw [c146b0]) | skip)
         by_cases c154 : (!(t417.toList == t425.toList) || (!(t418.toList == t426.toList) || (!(t419 == t427) || (!(t420 == t428) || (!(t421 == t429) || (!(t422 == t430))))))) = true
         ·rw [if_pos c154] at H
          have c154b0 : (!(t417.toList == t425.toList) || (!(t418.toList == t426.toList) || (!(t419 == t427) || (!(t420 == t428) || (!(t421 == t429) || (!(t422 == t430))))))) = true := c154
          clear c154
          have H' := Aside0.mk H
          clear H
          have hnb155 := NB382_400.out
          have hnc155 := NB400_382.out
          have hnb156 := NB382_408.out
          have hnc156 := NB408_382.out
          have hnb157 := NB382_416.out
          have hnc157 := NB416_382.out
          have hnb158 := NB382_424.out
          have hnc158 := NB424_382.out
          have hnb159 := NB382_432.out
          have hnc159 := NB432_382.out
          have hnb160 := NB382_440.out
          have hnc160 := NB440_382.out
          have hcz161_0 : wc.cell? ⟨gb382, 0, none⟩ = some (.string a1_0) := (blk_cell BK382.out 0).trans rfl
          have hcz161_1 : wc.cell? ⟨gb382, 1, none⟩ = some (.string a1_1) := (blk_cell BK382.out 1).trans rfl
          have hcz161_2 : wc.cell? ⟨gb382, 2, none⟩ = some (.int .i64 a1_2) := (blk_cell BK382.out 2).trans rfl
          have hcz161_3 : wc.cell? ⟨gb382, 3, none⟩ = some (.int .i64 a1_3) := (blk_cell BK382.out 3).trans rfl
          have hcz161_4 : wc.cell? ⟨gb382, 4, none⟩ = some (.int .i64 a1_4) := (blk_cell BK382.out 4).trans rfl
          have hcz161_5 : wc.cell? ⟨gb382, 5, none⟩ = some (.int .i64 a1_5) := (blk_cell BK382.out 5).trans rfl
          have hfz161_0 := blk_frozen BK382.out 0
          have hfz161_1 := blk_frozen BK382.out 1
          have hfz161_2 := blk_frozen BK382.out 2
          have hfz161_3 := blk_frozen BK382.out 3
          have hfz161_4 := blk_frozen BK382.out 4
          have hfz161_5 := blk_frozen BK382.out 5
          have hnb162 := NB424_400.out
          have hnc162 := NB400_424.out
          have hnb163 := NB424_408.out
          have hnc163 := NB408_424.out
          have hnb164 := NB424_416.out
          have hnc164 := NB416_424.out
          have hnb165 := NB424_432.out
          have hnc165 := NB432_424.out
          have hnb166 := NB424_440.out
          have hnc166 := NB440_424.out
          have hcz167_0 : wc.cell? ⟨gb424, 0, none⟩ = some (.string t417) := (blk_cell BK424.out 0).trans rfl
          have hcz167_1 : wc.cell? ⟨gb424, 1, none⟩ = some (.string t418) := (blk_cell BK424.out 1).trans rfl
          have hcz167_2 : wc.cell? ⟨gb424, 2, none⟩ = some (.int .i64 t419) := (blk_cell BK424.out 2).trans rfl
          have hcz167_3 : wc.cell? ⟨gb424, 3, none⟩ = some (.int .i64 t420) := (blk_cell BK424.out 3).trans rfl
          have hcz167_4 : wc.cell? ⟨gb424, 4, none⟩ = some (.int .i64 t421) := (blk_cell BK424.out 4).trans rfl
          have hcz167_5 : wc.cell? ⟨gb424, 5, none⟩ = some (.int .i64 t422) := (blk_cell BK424.out 5).trans rfl
          have hfz167_0 := blk_frozen BK424.out 0
          have hfz167_1 := blk_frozen BK424.out 1
          have hfz167_2 := blk_frozen BK424.out 2
          have hfz167_3 := blk_frozen BK424.out 3
          have hfz167_4 := blk_frozen BK424.out 4
          have hfz167_5 := blk_frozen BK424.out 5
          have hnb168 := NB432_400.out
          have hnc168 := NB400_432.out
          have hnb169 := NB432_408.out
          have hnc169 := NB408_432.out
          have hnb170 := NB432_416.out
          have hnc170 := NB416_432.out
          have hnb171 := NB432_440.out
          have hnc171 := NB440_432.out
          have hcz172_0 : wc.cell? ⟨gb432, 0, none⟩ = some (.string t425) := (blk_cell BK432.out 0).trans rfl
          have hcz172_1 : wc.cell? ⟨gb432, 1, none⟩ = some (.string t426) := (blk_cell BK432.out 1).trans rfl
          have hcz172_2 : wc.cell? ⟨gb432, 2, none⟩ = some (.int .i64 t427) := (blk_cell BK432.out 2).trans rfl
          have hcz172_3 : wc.cell? ⟨gb432, 3, none⟩ = some (.int .i64 t428) := (blk_cell BK432.out 3).trans rfl
          have hcz172_4 : wc.cell? ⟨gb432, 4, none⟩ = some (.int .i64 t429) := (blk_cell BK432.out 4).trans rfl
          have hcz172_5 : wc.cell? ⟨gb432, 5, none⟩ = some (.int .i64 t430) := (blk_cell BK432.out 5).trans rfl
          have hfz172_0 := blk_frozen BK432.out 0
          have hfz172_1 := blk_frozen BK432.out 1
          have hfz172_2 := blk_frozen BK432.out 2
          have hfz172_3 := blk_frozen BK432.out 3
          have hfz172_4 := blk_frozen BK432.out 4
          have hfz172_5 := blk_frozen BK432.out 5
          go_wp2
          go_meet
          case rel => exact ⟨_, (true), (by first | rfl | (simp; done) | (simp [*]; done)), H', ⟨by have := HJ3.out; have := HJ33.out; first | omega | exact Nat.le_refl _⟩, ⟨by (with_reducible repeat (first | apply Kd.R_alloc | apply Kd.R_drewN | apply Kd.R_drew)); exact HO_7.out⟩, ⟨by (with_reducible repeat (first | apply Kd.R_alloc | apply Kd.R_drewN | apply Kd.R_drew)); exact HO_8.out⟩, ⟨by (with_reducible repeat (first | refine blk_drewN ?_ _ | refine blk_drew ?_ | refine blk_alloc ?_ _)); exact BK382.out⟩, ⟨by (with_reducible repeat (first | refine blk_drewN ?_ _ | refine blk_drew ?_ | refine blk_alloc ?_ _)); exact BK400.out⟩, ⟨by (with_reducible repeat (first | refine blk_drewN ?_ _ | refine blk_drew ?_ | refine blk_alloc ?_ _)); exact BK408.out⟩, ⟨by (with_reducible repeat (first | refine blk_drewN ?_ _ | refine blk_drew ?_ | refine blk_alloc ?_ _)); exact BK416.out⟩, ⟨by (with_reducible repeat (first | refine blk_drewN ?_ _ | refine blk_drew ?_ | refine blk_alloc ?_ _)); exact BK424.out⟩, ⟨by (with_reducible repeat (first | refine blk_drewN ?_ _ | refine blk_drew ?_ | refine blk_alloc ?_ _)); exact BK432.out⟩, ⟨by (with_reducible repeat (first | refine blk_drewN ?_ _ | refine blk_drew ?_ | refine blk_alloc ?_ _)); exact BK440.out⟩, ⟨by repeat (first | (with_reducible first | exact HB.out | apply below_alloc | apply pw_below_drewN | apply below_drew1 | refine below_set ?_ GE382.out | refine below_set ?_ GE400.out | refine below_set ?_ GE408.out | refine below_set ?_ GE416.out | refine below_set ?_ GE424.out | refine below_set ?_ GE432.out | refine below_set ?_ GE440.out) | exact HB.out)⟩⟩
         ·rw [if_neg c154] at H
          have c154b0 : (!(t417.toList == t425.toList) || (!(t418.toList == t426.toList) || (!(t419 == t427) || (!(t420 == t428) || (!(t421 == t429) || (!(t422 == t430))))))) = false := by simpa using c154
          clear c154
          by_cases c173 : (t423 != t431) = true
          ·rw [if_pos c173] at H
           have c173b0 : (t423 != t431) = true := c173
           (try (have c173b1 : decide (t423 = t431) = false := by simpa using c173))
           (try (have c173b2 : (t423 == t431) = false := by simpa using c173))
           (try (have c173b3 : ¬ (t423 = t431) := by simpa using c173))
           clear c173
           have H' := Aside0.mk H
           clear H
           have hnb174 := NB382_400.out
           have hnc174 := NB400_382.out
           have hnb175 := NB382_408.out
           have hnc175 := NB408_382.out
           have hnb176 := NB382_416.out
           have hnc176 := NB416_382.out
           have hnb177 := NB382_424.out
           have hnc177 := NB424_382.out
           have hnb178 := NB382_432.out
           have hnc178 := NB432_382.out
           have hnb179 := NB382_440.out
           have hnc179 := NB440_382.out
           have hcz180_0 : wc.cell? ⟨gb382, 0, none⟩ = some (.string a1_0) := (blk_cell BK382.out 0).trans rfl
           have hcz180_1 : wc.cell? ⟨gb382, 1, none⟩ = some (.string a1_1) := (blk_cell BK382.out 1).trans rfl
           have hcz180_2 : wc.cell? ⟨gb382, 2, none⟩ = some (.int .i64 a1_2) := (blk_cell BK382.out 2).trans rfl
           have hcz180_3 : wc.cell? ⟨gb382, 3, none⟩ = some (.int .i64 a1_3) := (blk_cell BK382.out 3).trans rfl
           have hcz180_4 : wc.cell? ⟨gb382, 4, none⟩ = some (.int .i64 a1_4) := (blk_cell BK382.out 4).trans rfl
           have hcz180_5 : wc.cell? ⟨gb382, 5, none⟩ = some (.int .i64 a1_5) := (blk_cell BK382.out 5).trans rfl
           have hfz180_0 := blk_frozen BK382.out 0
           have hfz180_1 := blk_frozen BK382.out 1
           have hfz180_2 := blk_frozen BK382.out 2
           have hfz180_3 := blk_frozen BK382.out 3
           have hfz180_4 := blk_frozen BK382.out 4
           have hfz180_5 := blk_frozen BK382.out 5
           have hnb181 := NB424_400.out
           have hnc181 := NB400_424.out
           have hnb182 := NB424_408.out
           have hnc182 := NB408_424.out
           have hnb183 := NB424_416.out
           have hnc183 := NB416_424.out
           have hnb184 := NB424_432.out
           have hnc184 := NB432_424.out
           have hnb185 := NB424_440.out
           have hnc185 := NB440_424.out
           have hcz186_0 : wc.cell? ⟨gb424, 0, none⟩ = some (.string t417) := (blk_cell BK424.out 0).trans rfl
           have hcz186_1 : wc.cell? ⟨gb424, 1, none⟩ = some (.string t418) := (blk_cell BK424.out 1).trans rfl
           have hcz186_2 : wc.cell? ⟨gb424, 2, none⟩ = some (.int .i64 t419) := (blk_cell BK424.out 2).trans rfl
           have hcz186_3 : wc.cell? ⟨gb424, 3, none⟩ = some (.int .i64 t420) := (blk_cell BK424.out 3).trans rfl
           have hcz186_4 : wc.cell? ⟨gb424, 4, none⟩ = some (.int .i64 t421) := (blk_cell BK424.out 4).trans rfl
           have hcz186_5 : wc.cell? ⟨gb424, 5, none⟩ = some (.int .i64 t422) := (blk_cell BK424.out 5).trans rfl
           have hfz186_0 := blk_frozen BK424.out 0
           have hfz186_1 := blk_frozen BK424.out 1
           have hfz186_2 := blk_frozen BK424.out 2
           have hfz186_3 := blk_frozen BK424.out 3
           have hfz186_4 := blk_frozen BK424.out 4
           have hfz186_5 := blk_frozen BK424.out 5
           have hnb187 := NB432_400.out
           have hnc187 := NB400_432.out
           have hnb188 := NB432_408.out
           have hnc188 := NB408_432.out
           have hnb189 := NB432_416.out
           have hnc189 := NB416_432.out
           have hnb190 := NB432_440.out
           have hnc190 := NB440_432.out
           have hcz191_0 : wc.cell? ⟨gb432, 0, none⟩ = some (.string t425) := (blk_cell BK432.out 0).trans rfl
           have hcz191_1 : wc.cell? ⟨gb432, 1, none⟩ = some (.string t426) := (blk_cell BK432.out 1).trans rfl
           have hcz191_2 : wc.cell? ⟨gb432, 2, none⟩ = some (.int .i64 t427) := (blk_cell BK432.out 2).trans rfl
           have hcz191_3 : wc.cell? ⟨gb432, 3, none⟩ = some (.int .i64 t428) := (blk_cell BK432.out 3).trans rfl
           have hcz191_4 : wc.cell? ⟨gb432, 4, none⟩ = some (.int .i64 t429) := (blk_cell BK432.out 4).trans rfl
           have hcz191_5 : wc.cell? ⟨gb432, 5, none⟩ = some (.int .i64 t430) := (blk_cell BK432.out 5).trans rfl
           have hfz191_0 := blk_frozen BK432.out 0
           have hfz191_1 := blk_frozen BK432.out 1
           have hfz191_2 := blk_frozen BK432.out 2
           have hfz191_3 := blk_frozen BK432.out 3
           have hfz191_4 := blk_frozen BK432.out 4
           have hfz191_5 := blk_frozen BK432.out 5
           go_wp2
           go_meet
           case rel => exact ⟨_, (true), (by first | rfl | (simp; done) | (simp [*]; done)), H', ⟨by have := HJ3.out; have := HJ33.out; first | omega | exact Nat.le_refl _⟩, ⟨by (with_reducible repeat (first | apply Kd.R_alloc | apply Kd.R_drewN | apply Kd.R_drew)); exact HO_7.out⟩, ⟨by (with_reducible repeat (first | apply Kd.R_alloc | apply Kd.R_drewN | apply Kd.R_drew)); exact HO_8.out⟩, ⟨by (with_reducible repeat (first | refine blk_drewN ?_ _ | refine blk_drew ?_ | refine blk_alloc ?_ _)); exact BK382.out⟩, ⟨by (with_reducible repeat (first | refine blk_drewN ?_ _ | refine blk_drew ?_ | refine blk_alloc ?_ _)); exact BK400.out⟩, ⟨by (with_reducible repeat (first | refine blk_drewN ?_ _ | refine blk_drew ?_ | refine blk_alloc ?_ _)); exact BK408.out⟩, ⟨by (with_reducible repeat (first | refine blk_drewN ?_ _ | refine blk_drew ?_ | refine blk_alloc ?_ _)); exact BK416.out⟩, ⟨by (with_reducible repeat (first | refine blk_drewN ?_ _ | refine blk_drew ?_ | refine blk_alloc ?_ _)); exact BK424.out⟩, ⟨by (with_reducible repeat (first | refine blk_drewN ?_ _ | refine blk_drew ?_ | refine blk_alloc ?_ _)); exact BK432.out⟩, ⟨by (with_reducible repeat (first | refine blk_drewN ?_ _ | refine blk_drew ?_ | refine blk_alloc ?_ _)); exact BK440.out⟩, ⟨by repeat (first | (with_reducible first | exact HB.out | apply below_alloc | apply pw_below_drewN | apply below_drew1 | refine below_set ?_ GE382.out | refine below_set ?_ GE400.out | refine below_set ?_ GE408.out | refine below_set ?_ GE416.out | refine below_set ?_ GE424.out | refine below_set ?_ GE432.out | refine below_set ?_ GE440.out) | exact HB.out)⟩⟩
          ·rw [if_neg c173] at H
           have c173b0 : (t423 != t431) = false := by simpa using c173
           (try (have c173b1 : decide (t423 = t431) = true := by simpa using c173))
           (try (have c173b2 : (t423 == t431) = true := by simpa using c173))
           clear c173
           by_cases c192 : (!(t417.toList == t433.toList) || (!(t418.toList == t434.toList) || (!(t419 == t435) || (!(t420 == t436) || (!(t421 == t437) || (!(t422 == t438))))))) = true
           ·rw [if_pos c192] at H
            have c192b0 : (!(t417.toList == t433.toList) || (!(t418.toList == t434.toList) || (!(t419 == t435) || (!(t420 == t436) || (!(t421 == t437) || (!(t422 == t438))))))) = true := c192
            clear c192
            have H' := Aside0.mk H
            clear H
            have hnb193 := NB382_400.out
            have hnc193 := NB400_382.out
            have hnb194 := NB382_408.out
            have hnc194 := NB408_382.out
            have hnb195 := NB382_416.out
            have hnc195 := NB416_382.out
            have hnb196 := NB382_424.out
            have hnc196 := NB424_382.out
            have hnb197 := NB382_432.out
            have hnc197 := NB432_382.out
            have hnb198 := NB382_440.out
            have hnc198 := NB440_382.out
            have hcz199_0 : wc.cell? ⟨gb382, 0, none⟩ = some (.string a1_0) := (blk_cell BK382.out 0).trans rfl
            have hcz199_1 : wc.cell? ⟨gb382, 1, none⟩ = some (.string a1_1) := (blk_cell BK382.out 1).trans rfl
            have hcz199_2 : wc.cell? ⟨gb382, 2, none⟩ = some (.int .i64 a1_2) := (blk_cell BK382.out 2).trans rfl
            have hcz199_3 : wc.cell? ⟨gb382, 3, none⟩ = some (.int .i64 a1_3) := (blk_cell BK382.out 3).trans rfl
            have hcz199_4 : wc.cell? ⟨gb382, 4, none⟩ = some (.int .i64 a1_4) := (blk_cell BK382.out 4).trans rfl
            have hcz199_5 : wc.cell? ⟨gb382, 5, none⟩ = some (.int .i64 a1_5) := (blk_cell BK382.out 5).trans rfl
            have hfz199_0 := blk_frozen BK382.out 0
            have hfz199_1 := blk_frozen BK382.out 1
            have hfz199_2 := blk_frozen BK382.out 2
            have hfz199_3 := blk_frozen BK382.out 3
            have hfz199_4 := blk_frozen BK382.out 4
            have hfz199_5 := blk_frozen BK382.out 5
            have hnb200 := NB424_400.out
            have hnc200 := NB400_424.out
            have hnb201 := NB424_408.out
            have hnc201 := NB408_424.out
            have hnb202 := NB424_416.out
            have hnc202 := NB416_424.out
            have hnb203 := NB424_432.out
            have hnc203 := NB432_424.out
            have hnb204 := NB424_440.out
            have hnc204 := NB440_424.out
            have hcz205_0 : wc.cell? ⟨gb424, 0, none⟩ = some (.string t417) := (blk_cell BK424.out 0).trans rfl
            have hcz205_1 : wc.cell? ⟨gb424, 1, none⟩ = some (.string t418) := (blk_cell BK424.out 1).trans rfl
            have hcz205_2 : wc.cell? ⟨gb424, 2, none⟩ = some (.int .i64 t419) := (blk_cell BK424.out 2).trans rfl
            have hcz205_3 : wc.cell? ⟨gb424, 3, none⟩ = some (.int .i64 t420) := (blk_cell BK424.out 3).trans rfl
            have hcz205_4 : wc.cell? ⟨gb424, 4, none⟩ = some (.int .i64 t421) := (blk_cell BK424.out 4).trans rfl
            have hcz205_5 : wc.cell? ⟨gb424, 5, none⟩ = some (.int .i64 t422) := (blk_cell BK424.out 5).trans rfl
            have hfz205_0 := blk_frozen BK424.out 0
            have hfz205_1 := blk_frozen BK424.out 1
            have hfz205_2 := blk_frozen BK424.out 2
            have hfz205_3 := blk_frozen BK424.out 3
            have hfz205_4 := blk_frozen BK424.out 4
            have hfz205_5 := blk_frozen BK424.out 5
            have hnb206 := NB432_400.out
            have hnc206 := NB400_432.out
            have hnb207 := NB432_408.out
            have hnc207 := NB408_432.out
            have hnb208 := NB432_416.out
            have hnc208 := NB416_432.out
            have hnb209 := NB432_440.out
            have hnc209 := NB440_432.out
            have hcz210_0 : wc.cell? ⟨gb432, 0, none⟩ = some (.string t425) := (blk_cell BK432.out 0).trans rfl
            have hcz210_1 : wc.cell? ⟨gb432, 1, none⟩ = some (.string t426) := (blk_cell BK432.out 1).trans rfl
            have hcz210_2 : wc.cell? ⟨gb432, 2, none⟩ = some (.int .i64 t427) := (blk_cell BK432.out 2).trans rfl
            have hcz210_3 : wc.cell? ⟨gb432, 3, none⟩ = some (.int .i64 t428) := (blk_cell BK432.out 3).trans rfl
            have hcz210_4 : wc.cell? ⟨gb432, 4, none⟩ = some (.int .i64 t429) := (blk_cell BK432.out 4).trans rfl
            have hcz210_5 : wc.cell? ⟨gb432, 5, none⟩ = some (.int .i64 t430) := (blk_cell BK432.out 5).trans rfl
            have hfz210_0 := blk_frozen BK432.out 0
            have hfz210_1 := blk_frozen BK432.out 1
            have hfz210_2 := blk_frozen BK432.out 2
            have hfz210_3 := blk_frozen BK432.out 3
            have hfz210_4 := blk_frozen BK432.out 4
            have hfz210_5 := blk_frozen BK432.out 5
            have hnb211 := NB440_400.out
            have hnc211 := NB400_440.out
            have hnb212 := NB440_408.out
            have hnc212 := NB408_440.out
            have hnb213 := NB440_416.out
            have hnc213 := NB416_440.out
            have hcz214_0 : wc.cell? ⟨gb440, 0, none⟩ = some (.string t433) := (blk_cell BK440.out 0).trans rfl
            have hcz214_1 : wc.cell? ⟨gb440, 1, none⟩ = some (.string t434) := (blk_cell BK440.out 1).trans rfl
            have hcz214_2 : wc.cell? ⟨gb440, 2, none⟩ = some (.int .i64 t435) := (blk_cell BK440.out 2).trans rfl
            have hcz214_3 : wc.cell? ⟨gb440, 3, none⟩ = some (.int .i64 t436) := (blk_cell BK440.out 3).trans rfl
            have hcz214_4 : wc.cell? ⟨gb440, 4, none⟩ = some (.int .i64 t437) := (blk_cell BK440.out 4).trans rfl
            have hcz214_5 : wc.cell? ⟨gb440, 5, none⟩ = some (.int .i64 t438) := (blk_cell BK440.out 5).trans rfl
            have hfz214_0 := blk_frozen BK440.out 0
            have hfz214_1 := blk_frozen BK440.out 1
            have hfz214_2 := blk_frozen BK440.out 2
            have hfz214_3 := blk_frozen BK440.out 3
            have hfz214_4 := blk_frozen BK440.out 4
            have hfz214_5 := blk_frozen BK440.out 5
            go_wp2
            go_meet
            case rel => exact ⟨_, (true), (by first | rfl | (simp; done) | (simp [*]; done)), H', ⟨by have := HJ3.out; have := HJ33.out; first | omega | exact Nat.le_refl _⟩, ⟨by (with_reducible repeat (first | apply Kd.R_alloc | apply Kd.R_drewN | apply Kd.R_drew)); exact HO_7.out⟩, ⟨by (with_reducible repeat (first | apply Kd.R_alloc | apply Kd.R_drewN | apply Kd.R_drew)); exact HO_8.out⟩, ⟨by (with_reducible repeat (first | refine blk_drewN ?_ _ | refine blk_drew ?_ | refine blk_alloc ?_ _)); exact BK382.out⟩, ⟨by (with_reducible repeat (first | refine blk_drewN ?_ _ | refine blk_drew ?_ | refine blk_alloc ?_ _)); exact BK400.out⟩, ⟨by (with_reducible repeat (first | refine blk_drewN ?_ _ | refine blk_drew ?_ | refine blk_alloc ?_ _)); exact BK408.out⟩, ⟨by (with_reducible repeat (first | refine blk_drewN ?_ _ | refine blk_drew ?_ | refine blk_alloc ?_ _)); exact BK416.out⟩, ⟨by (with_reducible repeat (first | refine blk_drewN ?_ _ | refine blk_drew ?_ | refine blk_alloc ?_ _)); exact BK424.out⟩, ⟨by (with_reducible repeat (first | refine blk_drewN ?_ _ | refine blk_drew ?_ | refine blk_alloc ?_ _)); exact BK432.out⟩, ⟨by (with_reducible repeat (first | refine blk_drewN ?_ _ | refine blk_drew ?_ | refine blk_alloc ?_ _)); exact BK440.out⟩, ⟨by repeat (first | (with_reducible first | exact HB.out | apply below_alloc | apply pw_below_drewN | apply below_drew1 | refine below_set ?_ GE382.out | refine below_set ?_ GE400.out | refine below_set ?_ GE408.out | refine below_set ?_ GE416.out | refine below_set ?_ GE424.out | refine below_set ?_ GE432.out | refine below_set ?_ GE440.out) | exact HB.out)⟩⟩
           ·rw [if_neg c192] at H
            have c192b0 : (!(t417.toList == t433.toList) || (!(t418.toList == t434.toList) || (!(t419 == t435) || (!(t420 == t436) || (!(t421 == t437) || (!(t422 == t438))))))) = false := by simpa using c192
            clear c192
            have H' := Aside0.mk H
            clear H
            have hnb215 := NB382_400.out
            have hnc215 := NB400_382.out
            have hnb216 := NB382_408.out
            have hnc216 := NB408_382.out
            have hnb217 := NB382_416.out
            have hnc217 := NB416_382.out
            have hnb218 := NB382_424.out
            have hnc218 := NB424_382.out
            have hnb219 := NB382_432.out
            have hnc219 := NB432_382.out
            have hnb220 := NB382_440.out
            have hnc220 := NB440_382.out
            have hcz221_0 : wc.cell? ⟨gb382, 0, none⟩ = some (.string a1_0) := (blk_cell BK382.out 0).trans rfl
            have hcz221_1 : wc.cell? ⟨gb382, 1, none⟩ = some (.string a1_1) := (blk_cell BK382.out 1).trans rfl
            have hcz221_2 : wc.cell? ⟨gb382, 2, none⟩ = some (.int .i64 a1_2) := (blk_cell BK382.out 2).trans rfl
            have hcz221_3 : wc.cell? ⟨gb382, 3, none⟩ = some (.int .i64 a1_3) := (blk_cell BK382.out 3).trans rfl
            have hcz221_4 : wc.cell? ⟨gb382, 4, none⟩ = some (.int .i64 a1_4) := (blk_cell BK382.out 4).trans rfl
            have hcz221_5 : wc.cell? ⟨gb382, 5, none⟩ = some (.int .i64 a1_5) := (blk_cell BK382.out 5).trans rfl
            have hfz221_0 := blk_frozen BK382.out 0
            have hfz221_1 := blk_frozen BK382.out 1
            have hfz221_2 := blk_frozen BK382.out 2
            have hfz221_3 := blk_frozen BK382.out 3
            have hfz221_4 := blk_frozen BK382.out 4
            have hfz221_5 := blk_frozen BK382.out 5
            have hnb222 := NB424_400.out
            have hnc222 := NB400_424.out
            have hnb223 := NB424_408.out
            have hnc223 := NB408_424.out
            have hnb224 := NB424_416.out
            have hnc224 := NB416_424.out
            have hnb225 := NB424_432.out
            have hnc225 := NB432_424.out
            have hnb226 := NB424_440.out
            have hnc226 := NB440_424.out
            have hcz227_0 : wc.cell? ⟨gb424, 0, none⟩ = some (.string t417) := (blk_cell BK424.out 0).trans rfl
            have hcz227_1 : wc.cell? ⟨gb424, 1, none⟩ = some (.string t418) := (blk_cell BK424.out 1).trans rfl
            have hcz227_2 : wc.cell? ⟨gb424, 2, none⟩ = some (.int .i64 t419) := (blk_cell BK424.out 2).trans rfl
            have hcz227_3 : wc.cell? ⟨gb424, 3, none⟩ = some (.int .i64 t420) := (blk_cell BK424.out 3).trans rfl
            have hcz227_4 : wc.cell? ⟨gb424, 4, none⟩ = some (.int .i64 t421) := (blk_cell BK424.out 4).trans rfl
            have hcz227_5 : wc.cell? ⟨gb424, 5, none⟩ = some (.int .i64 t422) := (blk_cell BK424.out 5).trans rfl
            have hfz227_0 := blk_frozen BK424.out 0
            have hfz227_1 := blk_frozen BK424.out 1
            have hfz227_2 := blk_frozen BK424.out 2
            have hfz227_3 := blk_frozen BK424.out 3
            have hfz227_4 := blk_frozen BK424.out 4
            have hfz227_5 := blk_frozen BK424.out 5
            have hnb228 := NB432_400.out
            have hnc228 := NB400_432.out
            have hnb229 := NB432_408.out
            have hnc229 := NB408_432.out
            have hnb230 := NB432_416.out
            have hnc230 := NB416_432.out
            have hnb231 := NB432_440.out
            have hnc231 := NB440_432.out
            have hcz232_0 : wc.cell? ⟨gb432, 0, none⟩ = some (.string t425) := (blk_cell BK432.out 0).trans rfl
            have hcz232_1 : wc.cell? ⟨gb432, 1, none⟩ = some (.string t426) := (blk_cell BK432.out 1).trans rfl
            have hcz232_2 : wc.cell? ⟨gb432, 2, none⟩ = some (.int .i64 t427) := (blk_cell BK432.out 2).trans rfl
            have hcz232_3 : wc.cell? ⟨gb432, 3, none⟩ = some (.int .i64 t428) := (blk_cell BK432.out 3).trans rfl
            have hcz232_4 : wc.cell? ⟨gb432, 4, none⟩ = some (.int .i64 t429) := (blk_cell BK432.out 4).trans rfl
            have hcz232_5 : wc.cell? ⟨gb432, 5, none⟩ = some (.int .i64 t430) := (blk_cell BK432.out 5).trans rfl
            have hfz232_0 := blk_frozen BK432.out 0
            have hfz232_1 := blk_frozen BK432.out 1
            have hfz232_2 := blk_frozen BK432.out 2
            have hfz232_3 := blk_frozen BK432.out 3
            have hfz232_4 := blk_frozen BK432.out 4
            have hfz232_5 := blk_frozen BK432.out 5
            have hnb233 := NB440_400.out
            have hnc233 := NB400_440.out
            have hnb234 := NB440_408.out
            have hnc234 := NB408_440.out
            have hnb235 := NB440_416.out
            have hnc235 := NB416_440.out
            have hcz236_0 : wc.cell? ⟨gb440, 0, none⟩ = some (.string t433) := (blk_cell BK440.out 0).trans rfl
            have hcz236_1 : wc.cell? ⟨gb440, 1, none⟩ = some (.string t434) := (blk_cell BK440.out 1).trans rfl
            have hcz236_2 : wc.cell? ⟨gb440, 2, none⟩ = some (.int .i64 t435) := (blk_cell BK440.out 2).trans rfl
            have hcz236_3 : wc.cell? ⟨gb440, 3, none⟩ = some (.int .i64 t436) := (blk_cell BK440.out 3).trans rfl
            have hcz236_4 : wc.cell? ⟨gb440, 4, none⟩ = some (.int .i64 t437) := (blk_cell BK440.out 4).trans rfl
            have hcz236_5 : wc.cell? ⟨gb440, 5, none⟩ = some (.int .i64 t438) := (blk_cell BK440.out 5).trans rfl
            have hfz236_0 := blk_frozen BK440.out 0
            have hfz236_1 := blk_frozen BK440.out 1
            have hfz236_2 := blk_frozen BK440.out 2
            have hfz236_3 := blk_frozen BK440.out 3
            have hfz236_4 := blk_frozen BK440.out 4
            have hfz236_5 := blk_frozen BK440.out 5
            go_wp2
            go_meet
            case rel => exact ⟨_, ((t423 != t439)), (by first | rfl | (simp; done) | (simp [*]; done)), H', ⟨by have := HJ3.out; have := HJ33.out; first | omega | exact Nat.le_refl _⟩, ⟨by (with_reducible repeat (first | apply Kd.R_alloc | apply Kd.R_drewN | apply Kd.R_drew)); exact HO_7.out⟩, ⟨by (with_reducible repeat (first | apply Kd.R_alloc | apply Kd.R_drewN | apply Kd.R_drew)); exact HO_8.out⟩, ⟨by (with_reducible repeat (first | refine blk_drewN ?_ _ | refine blk_drew ?_ | refine blk_alloc ?_ _)); exact BK382.out⟩, ⟨by (with_reducible repeat (first | refine blk_drewN ?_ _ | refine blk_drew ?_ | refine blk_alloc ?_ _)); exact BK400.out⟩, ⟨by (with_reducible repeat (first | refine blk_drewN ?_ _ | refine blk_drew ?_ | refine blk_alloc ?_ _)); exact BK408.out⟩, ⟨by (with_reducible repeat (first | refine blk_drewN ?_ _ | refine blk_drew ?_ | refine blk_alloc ?_ _)); exact BK416.out⟩, ⟨by (with_reducible repeat (first | refine blk_drewN ?_ _ | refine blk_drew ?_ | refine blk_alloc ?_ _)); exact BK424.out⟩, ⟨by (with_reducible repeat (first | refine blk_drewN ?_ _ | refine blk_drew ?_ | refine blk_alloc ?_ _)); exact BK432.out⟩, ⟨by (with_reducible repeat (first | refine blk_drewN ?_ _ | refine blk_drew ?_ | refine blk_alloc ?_ _)); exact BK440.out⟩, ⟨by repeat (first | (with_reducible first | exact HB.out | apply below_alloc | apply pw_below_drewN | apply below_drew1 | refine below_set ?_ GE382.out | refine below_set ?_ GE400.out | refine below_set ?_ GE408.out | refine below_set ?_ GE416.out | refine below_set ?_ GE424.out | refine below_set ?_ GE432.out | refine below_set ?_ GE440.out) | exact HB.out)⟩⟩
       case rest =>
        clear HC145
        try clear c1
        try clear c2
        try clear p2
        try clear c14
        try clear c15
        try clear c16
        try clear c17
        try clear c18
        try clear c19
        try clear c20
        try clear c21
        try clear c22
        try clear c23
        try clear c144
        try clear c146
        try clear c146b0
        try clear c146b1
        try clear c147
        try clear c148
        try clear c149
        try clear c150
        try clear c151
        try clear c152
        try clear c154
        try clear c154b0
        try clear c155
        try clear c156
        try clear c157
        try clear c158
        try clear c159
        try clear c160
        try clear c162
        try clear c163
        try clear c164
        try clear c165
        try clear c166
        try clear c168
        try clear c169
        try clear c170
        try clear c171
        try clear c173
        try clear c173b0
        try clear c173b1
        try clear c173b2
        try clear c174
        try clear c175
        try clear c176
        try clear c177
        try clear c178
        try clear c179
        try clear c181
        try clear c182
        try clear c183
        try clear c184
        try clear c185
        try clear c187
        try clear c188
        try clear c189
        try clear c190
        try clear c192
        try clear c192b0
        try clear c193
        try clear c194
        try clear c195
        try clear c196
        try clear c197
        try clear c198
        try clear c200
        try clear c201
        try clear c202
        try clear c203
        try clear c204
        try clear c206
        try clear c207
        try clear c208
        try clear c209
        try clear c211
        try clear c212
        try clear c213
        try clear c215
        try clear c216
        try clear c217
        try clear c218
        try clear c219
        try clear c220
        try clear c222
        try clear c223
        try clear c224
        try clear c225
        try clear c226
        try clear c228
        try clear c229
        try clear c230
        try clear c231
        try clear c233
        try clear c234
        try clear c235
        try clear hcz153_0
        try clear hcz153_1
        try clear hcz153_2
        try clear hcz153_3
        try clear hcz153_4
        try clear hcz153_5
        try clear hcz161_0
        try clear hcz161_1
        try clear hcz161_2
        try clear hcz161_3
        try clear hcz161_4
        try clear hcz161_5
        try clear hcz167_0
        try clear hcz167_1
        try clear hcz167_2
        try clear hcz167_3
        try clear hcz167_4
        try clear hcz167_5
        try clear hcz172_0
        try clear hcz172_1
        try clear hcz172_2
        try clear hcz172_3
        try clear hcz172_4
        try clear hcz172_5
        try clear hcz180_0
        try clear hcz180_1
        try clear hcz180_2
        try clear hcz180_3
        try clear hcz180_4
        try clear hcz180_5
        try clear hcz186_0
        try clear hcz186_1
        try clear hcz186_2
        try clear hcz186_3
        try clear hcz186_4
        try clear hcz186_5
        try clear hcz191_0
        try clear hcz191_1
        try clear hcz191_2
        try clear hcz191_3
        try clear hcz191_4
        try clear hcz191_5
        try clear hcz199_0
        try clear hcz199_1
        try clear hcz199_2
        try clear hcz199_3
        try clear hcz199_4
        try clear hcz199_5
        try clear hcz205_0
        try clear hcz205_1
        try clear hcz205_2
        try clear hcz205_3
        try clear hcz205_4
        try clear hcz205_5
        try clear hcz210_0
        try clear hcz210_1
        try clear hcz210_2
        try clear hcz210_3
        try clear hcz210_4
        try clear hcz210_5
        try clear hcz214_0
        try clear hcz214_1
        try clear hcz214_2
        try clear hcz214_3
        try clear hcz214_4
        try clear hcz214_5
        try clear hcz221_0
        try clear hcz221_1
        try clear hcz221_2
        try clear hcz221_3
        try clear hcz221_4
        try clear hcz221_5
        try clear hcz227_0
        try clear hcz227_1
        try clear hcz227_2
        try clear hcz227_3
        try clear hcz227_4
        try clear hcz227_5
        try clear hcz232_0
        try clear hcz232_1
        try clear hcz232_2
        try clear hcz232_3
        try clear hcz232_4
        try clear hcz232_5
        try clear hcz236_0
        try clear hcz236_1
        try clear hcz236_2
        try clear hcz236_3
        try clear hcz236_4
        try clear hcz236_5
        try clear hcz65_1
        try clear hcz65_2
        try clear hcz65_3
        try clear hcz65_4
        try clear hcz65_5
        try clear hcz73_0
        try clear hcz73_1
        try clear hcz73_2
        try clear hcz73_3
        try clear hcz73_4
        try clear hcz73_5
        try clear hcz82_0
        try clear hcz82_1
        try clear hcz82_2
        try clear hcz82_3
        try clear hcz82_4
        try clear hcz82_5
        try clear hcz91_0
        try clear hcz91_1
        try clear hcz91_2
        try clear hcz91_3
        try clear hcz91_4
        try clear hcz91_5
        try clear hcz97_0
        try clear hcz97_1
        try clear hcz97_2
        try clear hcz97_3
        try clear hcz97_4
        try clear hcz97_5
        try clear hcz9_0
        try clear hcz9_1
        try clear hcz9_2
        try clear hcz9_3
        try clear hcz9_4
        try clear hcz9_5
        try clear hfz105_0
        try clear hfz105_1
        try clear hfz105_2
        try clear hfz105_3
        try clear hfz105_4
        try clear hfz105_5
        try clear hfz111_0
        try clear hfz111_1
        try clear hfz111_2
        try clear hfz111_3
        try clear hfz111_4
        try clear hfz111_5
        try clear hfz11_0
        try clear hfz11_1
        try clear hfz11_2
        try clear hfz11_3
        try clear hfz11_4
        try clear hfz11_5
        try clear hfz121_0
        try clear hfz121_1
        try clear hfz121_2
        try clear hfz121_3
        try clear hfz121_4
        try clear hfz121_5
        try clear hfz127_0
        try clear hfz127_1
        try clear hfz127_2
        try clear hfz127_3
        try clear hfz127_4
        try clear hfz127_5
        try clear hfz136_0
        try clear hfz136_1
        try clear hfz136_2
        try clear hfz136_3
        try clear hfz136_4
        try clear hfz136_5
        try clear hfz13_0
        try clear hfz13_1
        try clear hfz13_2
        try clear hfz13_3
        try clear hfz13_4
        try clear hfz13_5
        try clear hfz142_0
        try clear hfz142_1
        try clear hfz142_2
        try clear hfz142_3
        try clear hfz142_4
        try clear hfz142_5
        try clear hfz153_0
        try clear hfz153_1
        try clear hfz153_2
        try clear hfz153_3
        try clear hfz153_4
        try clear hfz153_5
        try clear hfz161_0
        try clear hfz161_1
        try clear hfz161_2
        try clear hfz161_3
        try clear hfz161_4
        try clear hfz161_5
        try clear hfz167_0
        try clear hfz167_1
        try clear hfz167_2
        try clear hfz167_3
        try clear hfz167_4
        try clear hfz167_5
        try clear hfz172_0
        try clear hfz172_1
        try clear hfz172_2
        try clear hfz172_3
        try clear hfz172_4
        try clear hfz172_5
        try clear hfz17_0
        try clear hfz17_1
        try clear hfz17_2
        try clear hfz17_3
        try clear hfz17_4
        try clear hfz17_5
        try clear hfz180_0
        try clear hfz180_1
        try clear hfz180_2
        try clear hfz180_3
        try clear hfz180_4
        try clear hfz180_5
        try clear hfz186_0
        try clear hfz186_1
        try clear hfz186_2
        try clear hfz186_3
        try clear hfz186_4
        try clear hfz186_5
        try clear hfz191_0
        try clear hfz191_1
        try clear hfz191_2
        try clear hfz191_3
        try clear hfz191_4
        try clear hfz191_5
        try clear hfz199_0
        try clear hfz199_1
        try clear hfz199_2
        try clear hfz199_3
        try clear hfz199_4
        try clear hfz199_5
        try clear hfz19_0
        try clear hfz19_1
        try clear hfz19_2
        try clear hfz19_3
        try clear hfz19_4
        try clear hfz19_5
        try clear hfz205_0
        try clear hfz205_1
        try clear hfz205_2
        try clear hfz205_3
        try clear hfz205_4
        try clear hfz205_5
        try clear hfz210_0
        try clear hfz210_1
        try clear hfz210_2
        try clear hfz210_3
        try clear hfz210_4
        try clear hfz210_5
        try clear hfz214_0
        try clear hfz214_1
        try clear hfz214_2
        try clear hfz214_3
        try clear hfz214_4
        try clear hfz214_5
        try clear hfz21_0
        try clear hfz21_1
        try clear hfz21_2
        try clear hfz21_3
        try clear hfz21_4
        try clear hfz21_5
        try clear hfz221_0
        try clear hfz221_1
        try clear hfz221_2
        try clear hfz221_3
        try clear hfz221_4
        try clear hfz221_5
        try clear hfz227_0
        try clear hfz227_1
        try clear hfz227_2
        try clear hfz227_3
        try clear hfz227_4
        try clear hfz227_5
        try clear hfz232_0
        try clear hfz232_1
        try clear hfz232_2
        try clear hfz232_3
        try clear hfz232_4
        try clear hfz232_5
        try clear hfz236_0
        try clear hfz236_1
        try clear hfz236_2
        try clear hfz236_3
        try clear hfz236_4
        try clear hfz236_5
        try clear hfz35_0
        try clear hfz35_1
        try clear hfz35_2
        try clear hfz35_3
        try clear hfz35_4
        try clear hfz35_5
        try clear hfz37_0
        try clear hfz37_1
        try clear hfz37_2
        try clear hfz37_3
        try clear hfz37_4
        try clear hfz37_5
        try clear hfz39_0
        try clear hfz39_1
        try clear hfz39_2
        try clear hfz39_3
        try clear hfz39_4
        try clear hfz39_5
        try clear hfz44_0
        try clear hfz44_1
        try clear hfz44_2
        try clear hfz44_3
        try clear hfz44_4
        try clear hfz44_5
        try clear hfz45_0
        try clear hfz45_1
        try clear hfz45_2
        try clear hfz45_3
        try clear hfz45_4
        try clear hfz45_5
        try clear hfz51_0
        try clear hfz51_1
        try clear hfz51_2
        try clear hfz51_3
        try clear hfz51_4
        try clear hfz51_5
        try clear hfz52_0
        try clear hfz52_1
        try clear hfz52_2
        try clear hfz52_3
        try clear hfz52_4
        try clear hfz52_5
        try clear hfz58_0
        try clear hfz58_1
        try clear hfz58_2
        try clear hfz58_3
        try clear hfz58_4
        try clear hfz58_5
        try clear hfz65_0
        try clear hfz65_1
        try clear hfz65_2
        try clear hfz65_3
        try clear hfz65_4
        try clear hfz65_5
        try clear hfz73_0
        try clear hfz73_1
        try clear hfz73_2
        try clear hfz73_3
        try clear hfz73_4
        try clear hfz73_5
        try clear hfz82_0
        try clear hfz82_1
        try clear hfz82_2
        try clear hfz82_3
        try clear hfz82_4
        try clear hfz82_5
        try clear hfz91_0
        try clear hfz91_1
        try clear hfz91_2
        try clear hfz91_3
        try clear hfz91_4
        try clear hfz91_5
        try clear hfz97_0
        try clear hfz97_1
        try clear hfz97_2
        try clear hfz97_3
        try clear hfz97_4
        try clear hfz97_5
        try clear hfz9_0
        try clear hfz9_1
        try clear hfz9_2
        try clear hfz9_3
        try clear hfz9_4
        try clear hfz9_5
        try clear p2
        obtain ⟨kq, x142_144, rfl, HA, HJ144, HO_7, HO_8, BK382, BK400, BK408, BK416, BK424, BK432, BK440, HB⟩ := hcut
        cases kq with
        | zero => exact absurd HA.out (by simp [batonlaw04_HistLaid.j2])
        | succ kj144 =>
         have H := HA.out
         clear HA
         simp only [batonlaw04_HistLaid.j2] at H
         by_cases c237 : x142_144 = true
         ·subst c237
          have H1 : (none) = some r := by rw [if_pos rfl] at H; exact H
          clear H
          have H := H1
          clear H1
          exact absurd H (by simp)
         ·replace c237 := Bool.eq_false_iff.mpr c237
          subst c237
          have H1 := H
          rw [if_neg (show ¬ (false = true) by decide)] at H1
          clear H
          have H := H1
          clear H1
          by_cases c238 : t415 = true
          ·subst c238
           have H1 := H
           rw [if_pos rfl] at H1
           clear H
           have H := H1
           clear H1
           by_cases c239 : (t387.length : Int) = (wrap64 ((l0.length : Int) + 0))
           ·rw [if_pos c239] at H
            have c239b0 : ((t387.length : Int) == (wrap64 ((l0.length : Int) + 0))) = true := beq_iff_eq.mpr c239
            try (have c239b5 := c239b0; simp only [Int.add_zero] at c239b5)
            have c239b1 : ((t387.length : Int) != (wrap64 ((l0.length : Int) + 0))) = false := bne_eq_false_iff_eq.mpr c239
            try (have c239b6 := c239b1; simp only [Int.add_zero] at c239b6)
            clear c239
            by_cases c240 : (t390.length : Int) = (wrap64 ((wrap64 ((l0.length : Int) + 0)) - 1))
            ·rw [if_pos c240] at H
             have c240b0 : ((t390.length : Int) == (wrap64 ((wrap64 ((l0.length : Int) + 0)) - 1))) = true := beq_iff_eq.mpr c240
             try (have c240b5 := c240b0; simp only [Int.add_zero] at c240b5)
             have c240b1 : ((t390.length : Int) != (wrap64 ((wrap64 ((l0.length : Int) + 0)) - 1))) = false := bne_eq_false_iff_eq.mpr c240
             try (have c240b6 := c240b1; simp only [Int.add_zero] at c240b6)
             clear c240
             replace H := Option.bind_eq_some_iff.mp H
             obtain ⟨t443, A2410, H⟩ := H
             have A241 := Aside0.mk A2410
             clear A2410
             obtain rfl := Option.some.inj H
             go_wp2_with (first | (go_at_call 10; (with_reducible refine (batonlaw04_live.calls kj144  t443 _ A241.out).mono ?_); rintro e w242 ⟨rfl, hb⟩; have n0_ := Aside0.mk (Kd.R_below (by (with_reducible repeat (first | apply Kd.R_alloc | apply Kd.R_drewN | apply Kd.R_drew)); exact HO_7.out) hb); have n1_ := Aside0.mk (Kd.R_below (by (with_reducible repeat (first | apply Kd.R_alloc | apply Kd.R_drewN | apply Kd.R_drew)); exact HO_8.out) hb); have n2_ := Aside0.mk (blk_below (g := gb382) (o := .cells #[.string a1_0, .string a1_1, .int .i64 a1_2, .int .i64 a1_3, .int .i64 a1_4, .int .i64 a1_5] 26 (0, 0)) (by (with_reducible repeat (first | refine blk_drewN ?_ _ | refine blk_drew ?_ | refine blk_alloc ?_ _)); exact BK382.out) hb); have n3_ := Aside0.mk (blk_below (g := gb400) (o := .cells #[.string t393, .string t394, .int .i64 t395, .int .i64 t396, .int .i64 t397, .int .i64 t398] 26 (0, 0)) (by (with_reducible repeat (first | refine blk_drewN ?_ _ | refine blk_drew ?_ | refine blk_alloc ?_ _)); exact BK400.out) hb); have n4_ := Aside0.mk (blk_below (g := gb408) (o := .cells #[.string t401, .string t402, .int .i64 t403, .int .i64 t404, .int .i64 t405, .int .i64 t406] 26 (0, 0)) (by (with_reducible repeat (first | refine blk_drewN ?_ _ | refine blk_drew ?_ | refine blk_alloc ?_ _)); exact BK408.out) hb); have n5_ := Aside0.mk (blk_below (g := gb416) (o := .cells #[.string t409, .string t410, .int .i64 t411, .int .i64 t412, .int .i64 t413, .int .i64 t414] 26 (0, 0)) (by (with_reducible repeat (first | refine blk_drewN ?_ _ | refine blk_drew ?_ | refine blk_alloc ?_ _)); exact BK416.out) hb); have n6_ := Aside0.mk (blk_below (g := gb424) (o := .cells #[.string t417, .string t418, .int .i64 t419, .int .i64 t420, .int .i64 t421, .int .i64 t422] 26 (0, 0)) (by (with_reducible repeat (first | refine blk_drewN ?_ _ | refine blk_drew ?_ | refine blk_alloc ?_ _)); exact BK424.out) hb); have n7_ := Aside0.mk (blk_below (g := gb432) (o := .cells #[.string t425, .string t426, .int .i64 t427, .int .i64 t428, .int .i64 t429, .int .i64 t430] 26 (0, 0)) (by (with_reducible repeat (first | refine blk_drewN ?_ _ | refine blk_drew ?_ | refine blk_alloc ?_ _)); exact BK432.out) hb); have n8_ := Aside0.mk (blk_below (g := gb440) (o := .cells #[.string t433, .string t434, .int .i64 t435, .int .i64 t436, .int .i64 t437, .int .i64 t438] 26 (0, 0)) (by (with_reducible repeat (first | refine blk_drewN ?_ _ | refine blk_drew ?_ | refine blk_alloc ?_ _)); exact BK440.out) hb); have n9_ := Aside0.mk (below_step (by repeat (first | (with_reducible first | exact HB.out | apply below_alloc | apply pw_below_drewN | apply below_drew1 | refine below_set ?_ GE382.out | refine below_set ?_ GE400.out | refine below_set ?_ GE408.out | refine below_set ?_ GE416.out | refine below_set ?_ GE424.out | refine below_set ?_ GE432.out | refine below_set ?_ GE440.out) | exact HB.out)) hb); clear HO_7; clear HO_8; clear BK382; clear BK400; clear BK408; clear BK416; clear BK424; clear BK432; clear BK440; clear HB; have HO_7 := n0_; have HO_8 := n1_; have BK382 := n2_; have BK400 := n3_; have BK408 := n4_; have BK416 := n5_; have BK424 := n6_; have BK432 := n7_; have BK440 := n8_; have HB := n9_; clear n0_ n1_ n2_ n3_ n4_ n5_ n6_ n7_ n8_ n9_))
             go_ret
             exact ⟨by first | rfl | (simp [*] <;> rfl), by repeat (first | (with_reducible first | exact HB.out | apply below_alloc | apply pw_below_drewN | apply below_drew1 | refine below_set ?_ GE382.out | refine below_set ?_ GE400.out | refine below_set ?_ GE408.out | refine below_set ?_ GE416.out | refine below_set ?_ GE424.out | refine below_set ?_ GE432.out | refine below_set ?_ GE440.out) | exact HB.out)⟩
            ·rw [if_neg c240] at H
             exact absurd H (by simp)
           ·rw [if_neg c239] at H
            exact absurd H (by simp)
          ·replace c238 := Bool.eq_false_iff.mpr c238
           subst c238
           have H1 := H
           rw [if_neg (show ¬ (false = true) by decide)] at H1
           clear H
           have H := H1
           clear H1
           by_cases c243 : (t387.length : Int) = (wrap64 ((l0.length : Int) + 1))
           ·rw [if_pos c243] at H
            have c243b0 : ((t387.length : Int) == (wrap64 ((l0.length : Int) + 1))) = true := beq_iff_eq.mpr c243
            have c243b1 : ((t387.length : Int) != (wrap64 ((l0.length : Int) + 1))) = false := bne_eq_false_iff_eq.mpr c243
            clear c243
            by_cases c244 : (t390.length : Int) = (wrap64 ((wrap64 ((l0.length : Int) + 1)) - 1))
            ·rw [if_pos c244] at H
             have c244b0 : ((t390.length : Int) == (wrap64 ((wrap64 ((l0.length : Int) + 1)) - 1))) = true := beq_iff_eq.mpr c244
             have c244b1 : ((t390.length : Int) != (wrap64 ((wrap64 ((l0.length : Int) + 1)) - 1))) = false := bne_eq_false_iff_eq.mpr c244
             clear c244
             replace H := Option.bind_eq_some_iff.mp H
             obtain ⟨t444, A2450, H⟩ := H
             have A245 := Aside0.mk A2450
             clear A2450
             obtain rfl := Option.some.inj H
             go_wp2_with (first | (go_at_call 10; (with_reducible refine (batonlaw04_live.calls kj144  t444 _ A245.out).mono ?_); rintro e w246 ⟨rfl, hb⟩; have n0_ := Aside0.mk (Kd.R_below (by (with_reducible repeat (first | apply Kd.R_alloc | apply Kd.R_drewN | apply Kd.R_drew)); exact HO_7.out) hb); have n1_ := Aside0.mk (Kd.R_below (by (with_reducible repeat (first | apply Kd.R_alloc | apply Kd.R_drewN | apply Kd.R_drew)); exact HO_8.out) hb); have n2_ := Aside0.mk (blk_below (g := gb382) (o := .cells #[.string a1_0, .string a1_1, .int .i64 a1_2, .int .i64 a1_3, .int .i64 a1_4, .int .i64 a1_5] 26 (0, 0)) (by (with_reducible repeat (first | refine blk_drewN ?_ _ | refine blk_drew ?_ | refine blk_alloc ?_ _)); exact BK382.out) hb); have n3_ := Aside0.mk (blk_below (g := gb400) (o := .cells #[.string t393, .string t394, .int .i64 t395, .int .i64 t396, .int .i64 t397, .int .i64 t398] 26 (0, 0)) (by (with_reducible repeat (first | refine blk_drewN ?_ _ | refine blk_drew ?_ | refine blk_alloc ?_ _)); exact BK400.out) hb); have n4_ := Aside0.mk (blk_below (g := gb408) (o := .cells #[.string t401, .string t402, .int .i64 t403, .int .i64 t404, .int .i64 t405, .int .i64 t406] 26 (0, 0)) (by (with_reducible repeat (first | refine blk_drewN ?_ _ | refine blk_drew ?_ | refine blk_alloc ?_ _)); exact BK408.out) hb); have n5_ := Aside0.mk (blk_below (g := gb416) (o := .cells #[.string t409, .string t410, .int .i64 t411, .int .i64 t412, .int .i64 t413, .int .i64 t414] 26 (0, 0)) (by (with_reducible repeat (first | refine blk_drewN ?_ _ | refine blk_drew ?_ | refine blk_alloc ?_ _)); exact BK416.out) hb); have n6_ := Aside0.mk (blk_below (g := gb424) (o := .cells #[.string t417, .string t418, .int .i64 t419, .int .i64 t420, .int .i64 t421, .int .i64 t422] 26 (0, 0)) (by (with_reducible repeat (first | refine blk_drewN ?_ _ | refine blk_drew ?_ | refine blk_alloc ?_ _)); exact BK424.out) hb); have n7_ := Aside0.mk (blk_below (g := gb432) (o := .cells #[.string t425, .string t426, .int .i64 t427, .int .i64 t428, .int .i64 t429, .int .i64 t430] 26 (0, 0)) (by (with_reducible repeat (first | refine blk_drewN ?_ _ | refine blk_drew ?_ | refine blk_alloc ?_ _)); exact BK432.out) hb); have n8_ := Aside0.mk (blk_below (g := gb440) (o := .cells #[.string t433, .string t434, .int .i64 t435, .int .i64 t436, .int .i64 t437, .int .i64 t438] 26 (0, 0)) (by (with_reducible repeat (first | refine blk_drewN ?_ _ | refine blk_drew ?_ | refine blk_alloc ?_ _)); exact BK440.out) hb); have n9_ := Aside0.mk (below_step (by repeat (first | (with_reducible first | exact HB.out | apply below_alloc | apply pw_below_drewN | apply below_drew1 | refine below_set ?_ GE382.out | refine below_set ?_ GE400.out | refine below_set ?_ GE408.out | refine below_set ?_ GE416.out | refine below_set ?_ GE424.out | refine below_set ?_ GE432.out | refine below_set ?_ GE440.out) | exact HB.out)) hb); clear HO_7; clear HO_8; clear BK382; clear BK400; clear BK408; clear BK416; clear BK424; clear BK432; clear BK440; clear HB; have HO_7 := n0_; have HO_8 := n1_; have BK382 := n2_; have BK400 := n3_; have BK408 := n4_; have BK416 := n5_; have BK424 := n6_; have BK432 := n7_; have BK440 := n8_; have HB := n9_; clear n0_ n1_ n2_ n3_ n4_ n5_ n6_ n7_ n8_ n9_))
             go_ret
             exact ⟨by first | rfl | (simp [*] <;> rfl), by repeat (first | (with_reducible first | exact HB.out | apply below_alloc | apply pw_below_drewN | apply below_drew1 | refine below_set ?_ GE382.out | refine below_set ?_ GE400.out | refine below_set ?_ GE408.out | refine below_set ?_ GE416.out | refine below_set ?_ GE424.out | refine below_set ?_ GE432.out | refine below_set ?_ GE440.out) | exact HB.out)⟩
            ·rw [if_neg c244] at H
             exact absurd H (by simp)
           ·rw [if_neg c243] at H
            exact absurd H (by simp)

end Go.Proofs.Ytldblgcbmhkmaaa.PM
