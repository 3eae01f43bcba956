-- made by a program of this session (wip/tools/myprint.py over the kit's print) out of the translation; Lean checks it
import Derived.Test.YtaebmmjhokjdbaaPM0
import Derived.Test.YtaebmmjhokjdbaaPM1
import Derived.Test.YtaebmmjhokjdbaaPM3
import Derived.Test.YtaebmmjhokjdbaaPM12
import Derived.Test.YtaebmmjhokjdbaaPM16
import Derived.Test.YtaebmmjhokjdbaaPM20
import Derived.Test.YtaebmmjhokjdbaaPM22
namespace Go.Proofs.Ytaebmmjhokjdbaa.PM
open Go.RowKit Go.Proofs.YtaebmmjhokjdbaaW.PrintWords Go.Proofs.YtaebmmjhokjdbaaW.PrintLast Go.Proofs.YtaebmmjhokjdbaaW.PrintMore
attribute [local go_sem] max2_int min2_int max_two min_two max_three min_three max_four min_four   -- for this text's walks alone
attribute [local go_sem high] Go.Proofs.Ytaebmmjhokjdbaa.My.str_leq Go.Proofs.Ytaebmmjhokjdbaa.My.str_gtr Go.Proofs.Ytaebmmjhokjdbaa.My.str_geq
set_option linter.unusedVariables false
set_option linter.unusedSimpArgs false

attribute [local go_sem high] eqA26
/-! ### batonlaw17_ElectLeads: function 7 -/
mutual
def batonlaw17_ElectLeads.j0 : Nat → List (S26) → ByteArray → Bool → Option (Bool)
 | 0, _, _, _ => none
 | k + 1, x0, x1, x21 => if x21 = true then ((batonlaw17_live.f k).bind fun t829 => (some t829)) else ((elect_Head.f x0).bind fun bt830 => (batonlaw17_ElectLeads.l0 k x0 x1 bt830.2.2.2.2.2.2 false 0 bt830.1 bt830.2.1 bt830.2.2.1 bt830.2.2.2.1 bt830.2.2.2.2.1 bt830.2.2.2.2.2.1))
def batonlaw17_ElectLeads.l0 : Nat → List (S26) → ByteArray → Bool → Bool → Int → ByteArray → ByteArray → Int → Int → Int → Int → Option (Bool)
 | 0, _, _, _, _, _, _, _, _, _, _, _ => none
 | k + 1, x0, x1, x6, x7, x8, x838000, x838001, x838002, x838003, x838004, x838005 => if x8 < (x0.length : Int) then (if x7 = true then (if 0 ≤ x8 then (if ((rd_T26 x0 x8).f2) < x838002 then (none) else (batonlaw17_ElectLeads.l0 k x0 x1 x6 true (wrap64 (x8 + 1)) x838000 x838001 x838002 x838003 x838004 x838005)) else (none)) else (if 0 ≤ x8 then (if ((rd_T26 x0 x8).f2) < x838002 then (none) else (batonlaw17_ElectLeads.l0 k x0 x1 x6 ((((rd_T26 x0 x8).f0).toList) == x838000.toList && ((((rd_T26 x0 x8).f1).toList) == x838001.toList && (((rd_T26 x0 x8).f2) == x838002 && (((rd_T26 x0 x8).f3) == x838003 && (((rd_T26 x0 x8).f4) == x838004 && (((rd_T26 x0 x8).f5) == x838005)))))) (wrap64 (x8 + 1)) x838000 x838001 x838002 x838003 x838004 x838005)) else (none))) else (if (x6 != (decide ((x0.length : Int) > 0))) = true then (batonlaw17_ElectLeads.j2 k x0 x1 true) else (if x6 = true then (if x7 = true then (batonlaw17_ElectLeads.j2 k x0 x1 false) else (batonlaw17_ElectLeads.j2 k x0 x1 true)) else (batonlaw17_ElectLeads.j2 k x0 x1 (!(x838000.toList == ([] : List UInt8)) || (!(x838001.toList == ([] : List UInt8)) || (!(x838002 == 0) || (!(x838003 == 0) || (!(x838004 == 0) || (!(x838005 == 0))))))))))
def batonlaw17_ElectLeads.j2 : Nat → List (S26) → ByteArray → Bool → Option (Bool)
 | 0, _, _, _ => none
 | k + 1, x0, x1, x71 => if x71 = true then (none) else ((elect_Reign.f k x0 x1).bind fun bt841 => (if 2 + x1.size ≤ 9223372036854775807 then (if ((⟨#[101, 47]⟩ : ByteArray) ++ x1).size + 1 ≤ 9223372036854775807 then ((batonref04_From.f k x0 (((⟨#[101, 47]⟩ : ByteArray) ++ x1) ++ (⟨#[47]⟩ : ByteArray))).bind fun t844 => ((elect_Head.f t844).bind fun bt847 => (if bt841.2.2 = true then (if bt847.2.2.2.2.2.2 = true then (if bt841.1 = bt847.2.2.1 then (if bt841.2.1.toList = bt847.2.1.toList then ((batonlaw17_live.f k).bind fun t855 => (some t855)) else (none)) else (none)) else (none)) else (if bt841.1 = 0 then (if bt841.2.1.toList = ([] : List UInt8) then ((batonlaw17_live.f k).bind fun t856 => (some t856)) else (none)) else (none))))) else (none)) else (none)))
end
def batonlaw17_ElectLeads.f (k : Nat) (l0 : List (S26)) (a1 : ByteArray) : Option (Bool) := (batonref03_Few.f k l0 40).bind fun t828 => (if t828 = true then (batonlaw17_ElectLeads.j0 k l0 a1 (decide ((a1.size : Int) > 60))) else (batonlaw17_ElectLeads.j0 k l0 a1 true))
theorem batonlaw17_ElectLeads.mono_l : ∀ k, (∀ y0 y1 y2, LeO (batonlaw17_ElectLeads.j0 k y0 y1 y2) (batonlaw17_ElectLeads.j0 (k + 1) y0 y1 y2)) ∧ (∀ y0 y1 y2 y3 y4 y5 y6 y7 y8 y9 y10, LeO (batonlaw17_ElectLeads.l0 k y0 y1 y2 y3 y4 y5 y6 y7 y8 y9 y10) (batonlaw17_ElectLeads.l0 (k + 1) y0 y1 y2 y3 y4 y5 y6 y7 y8 y9 y10)) ∧ (∀ y0 y1 y2, LeO (batonlaw17_ElectLeads.j2 k y0 y1 y2) (batonlaw17_ElectLeads.j2 (k + 1) y0 y1 y2))
 | 0 => ⟨fun _ _ _ r h => by simp [batonlaw17_ElectLeads.j0] at h, fun _ _ _ _ _ _ _ _ _ _ _ r h => by simp [batonlaw17_ElectLeads.l0] at h, fun _ _ _ r h => by simp [batonlaw17_ElectLeads.j2] at h⟩
 | k + 1 => by
  obtain ⟨ih0, ih1, ih2⟩ := batonlaw17_ElectLeads.mono_l k
  refine ⟨?_, ?_, ?_⟩
  ·intro y0 y1 y2
   unfold batonlaw17_ElectLeads.j0
   have ic0 := @batonlaw17_live.mono; have ic1 := @batonref03_Few.mono; have ic2 := @batonref04_From.mono; have ic3 := @elect_Reign.mono; exact My.mono_
  ·intro y0 y1 y2 y3 y4 y5 y6 y7 y8 y9 y10
   unfold batonlaw17_ElectLeads.l0
   have ic0 := @batonlaw17_live.mono; have ic1 := @batonref03_Few.mono; have ic2 := @batonref04_From.mono; have ic3 := @elect_Reign.mono; exact My.mono_
  ·intro y0 y1 y2
   unfold batonlaw17_ElectLeads.j2
   have ic0 := @batonlaw17_live.mono; have ic1 := @batonref03_Few.mono; have ic2 := @batonref04_From.mono; have ic3 := @elect_Reign.mono; exact My.mono_
theorem batonlaw17_ElectLeads.mono : ∀ a0 a1 k, LeO (batonlaw17_ElectLeads.f k a0 a1) (batonlaw17_ElectLeads.f (k + 1) a0 a1) := by
 intro a0 a1 k
 obtain ⟨ih0, ih1, ih2⟩ := batonlaw17_ElectLeads.mono_l k
 unfold batonlaw17_ElectLeads.f
 have ic0 := @batonlaw17_live.mono; have ic1 := @batonref03_Few.mono; have ic2 := @batonref04_From.mono; have ic3 := @elect_Reign.mono; exact My.mono_
set_option maxHeartbeats 8000000 in
set_option maxRecDepth 100000 in
theorem batonlaw17_ElectLeads.calls (k : Nat) (A0 : Option Addr) (c0 : Nat) (l0 : List (S26)) (a1 : ByteArray) (r : Bool) (w : World) (hr0 : Kd.C k26 w A0 l0.length l0) (hc0 : l0.length ≤ c0) (h : batonlaw17_ElectLeads.f k l0 a1 = some r) :
  Calls Try.prog 7 #[.slice A0 l0.length c0, .string a1] w fun e w' => e = .returned (.bool r) ∧ Below w.heap.size w w' := by
 have hu26 := Try.underlying26; have HR0 := Aside0.mk hr0; have HC0 := Aside0.mk hc0; clear hr0 hc0; have HB := Aside0.mk (Below.refl w.heap.size w); have H : ((batonref03_Few.f k l0 40).bind fun t828 => (if t828 = true then (batonlaw17_ElectLeads.j0 k l0 a1 (decide ((a1.size : Int) > 60))) else (batonlaw17_ElectLeads.j0 k l0 a1 true))) = some r := h; clear h; have HC3 := Aside0.mk H; clear H
 go_enter Try.func7, Try.ntmps7
 go_upto_region 1 with (fail)
 repeat (go_quiet (fail); go_upto_region 1 with (fail))
 go_cut [21] (fun v21 wc => ∃ (kq : Nat) (x21_2 : Bool), v21 = .bool x21_2 ∧ Aside0 (batonlaw17_ElectLeads.j0 kq l0 a1 x21_2 = some r) ∧ Aside0 (kq ≤ k) ∧ Aside0 (Below w.heap.size w wc))
 case first =>
  have H := HC3.out; clear HC3; replace H := Option.bind_eq_some_iff.mp H; obtain ⟨t828, A40, H⟩ := H; replace H : (if t828 = true then (batonlaw17_ElectLeads.j0 k l0 a1 (decide ((a1.size : Int) > 60))) else (batonlaw17_ElectLeads.j0 k l0 a1 true)) = some r := H; have A4 := Aside0.mk A40; clear A40
  by_cases c5 : t828 = true
  ·subst c5
   (have H1 : (batonlaw17_ElectLeads.j0 k l0 a1 (decide ((a1.size : Int) > 60))) = some r := by rw [if_pos rfl] at H; exact H); clear H; have H := H1; clear H1; have H' := Aside0.mk H; clear H
   go_wp2_with (first | (go_at_call 9; (with_reducible refine (batonref03_Few.calls k _ _ l0 40 true _ ?side1 ?side2 A4.out).mono ?_); (case side1 => exact My.Ca (Kd.C_below HR0.out HB.out)); (case side2 => exact HC0.out); rintro e w' ⟨rfl, ⟨nd, rfl⟩⟩; (try first | exact ⟨rfl, _, World.drewN_drewN _ _ _⟩ | exact ⟨rfl, _, Eq.trans (World.drewN_drewN _ _ _) (congrArg (World.drewN _) (Nat.add_assoc _ _ _))⟩)))
   repeat (go_quiet (fail); try go_wp2)
   go_meet
   case rel => exact ⟨_, (decide ((a1.size : Int) > 60)), My.q0, H', ⟨by first | omega | exact Nat.le_refl _⟩, ⟨My.bB⟩⟩
  ·replace c5 := Bool.eq_false_iff.mpr c5
   subst c5; (have H1 : (batonlaw17_ElectLeads.j0 k l0 a1 true) = some r := by rw [if_neg (show ¬ (false = true) by decide)] at H; exact H); clear H; have H := H1; clear H1; have H' := Aside0.mk H; clear H
   go_wp2_with (first | (go_at_call 9; (with_reducible refine (batonref03_Few.calls k _ _ l0 40 false _ ?side1 ?side2 A4.out).mono ?_); (case side1 => exact My.Ca (Kd.C_below HR0.out HB.out)); (case side2 => exact HC0.out); rintro e w' ⟨rfl, ⟨nd, rfl⟩⟩; (try first | exact ⟨rfl, _, World.drewN_drewN _ _ _⟩ | exact ⟨rfl, _, Eq.trans (World.drewN_drewN _ _ _) (congrArg (World.drewN _) (Nat.add_assoc _ _ _))⟩)))
   repeat (go_quiet (fail); try go_wp2)
   go_meet
   case rel => exact ⟨_, (true), My.q0, H', ⟨by first | omega | exact Nat.le_refl _⟩, ⟨My.bB⟩⟩
 case rest =>
  clear HC3; (try clear p2); (try clear c5); obtain ⟨kq, x21_2, rfl, HA, HJ2, HB⟩ := hcut
  cases kq with
  | zero => exact absurd HA.out (by simp [batonlaw17_ElectLeads.j0])
  | succ kj2 =>
   have H := HA.out; clear HA; simp only [batonlaw17_ElectLeads.j0] at H
   by_cases c6 : x21_2 = true
   ·subst c6
    (have H1 : ((batonlaw17_live.f kj2).bind fun t829 => (some t829)) = some r := by rw [if_pos rfl] at H; exact H); clear H; have H := H1; clear H1; replace H := Option.bind_eq_some_iff.mp H; obtain ⟨t829, A70, H⟩ := H; replace H : (some t829) = some r := H; have A7 := Aside0.mk A70; clear A70; obtain rfl := Option.some.inj H
    go_wp2_with (first | (go_at_call 10; (with_reducible refine (batonlaw17_live.calls kj2  t829 _ A7.out).mono ?_); rintro e w8 ⟨rfl, hb⟩; have n0_ := Aside0.mk (below_step My.bB hb); clear HB; have HB := n0_; clear n0_))
    repeat (go_quiet (fail); try go_wp2)
    go_ret
    exact ⟨My.q1, My.bB⟩
   ·replace c6 := Bool.eq_false_iff.mpr c6
    subst c6; (have H1 : ((elect_Head.f l0).bind fun bt830 => (batonlaw17_ElectLeads.l0 kj2 l0 a1 bt830.2.2.2.2.2.2 false 0 bt830.1 bt830.2.1 bt830.2.2.1 bt830.2.2.2.1 bt830.2.2.2.2.1 bt830.2.2.2.2.2.1)) = some r := by rw [if_neg (show ¬ (false = true) by decide)] at H; exact H); clear H; have H := H1; clear H1; replace H := Option.bind_eq_some_iff.mp H; obtain ⟨⟨t830, t831, t832, t833, t834, t835, t836⟩, A90, H⟩ := H; replace H : (batonlaw17_ElectLeads.l0 kj2 l0 a1 t836 false 0 t830 t831 t832 t833 t834 t835) = some r := H; have A9 := Aside0.mk A90; clear A90; have H' := Aside0.mk H; clear H
    go_wp2_with (first | (go_at_call 11; (with_reducible refine (elect_Head.calls _ _ l0 t830 t831 t832 t833 t834 t835 t836 _ ?side1 ?side2 A9.out).mono ?_); (case side1 => exact My.Ca (Kd.C_below HR0.out HB.out)); (case side2 => exact HC0.out); rintro e w10 ⟨rfl, hb⟩; have n0_ := Aside0.mk (below_step My.bB hb); clear HB; have HB := n0_; clear n0_) | ((with_reducible refine gate_dst (N := 5) rfl ?_); (try (refine gate_guard (by rfl) ?_; dsimp only)); refine box_event ?hg (N := 5) ?hd (cs := #[.string (⟨#[]⟩ : ByteArray), .string (⟨#[]⟩ : ByteArray), .int .i64 0, .int .i64 0, .int .i64 0, .int .i64 0]) (t := 26) ?hr ?_; (case hd => rfl); (case hg => rfl); (case hr => first | (go_simp; done) | (go_simp; rfl)); intro gb837 hg w11 hbox hb; have n0_ := Aside0.mk (below_step My.bB hb); have n1_ := Aside0.mk (hbox); have n2_ := Aside0.mk ((by rw [hg]; exact (below_size My.bB) : w.heap.size ≤ gb837)); have n3_ := Aside0.mk ((by rw [hg]; exact (below_size My.bB) : w.heap.size ≤ gb837)); clear HB; have HB := n0_; have BK837 := n1_; have GW837 := n2_; have GE837 := n3_; clear n0_ n1_ n2_ n3_; clear hb hbox hg; obtain ⟨hcz12_0, hcz12_1, hcz12_2, hcz12_3, hcz12_4, hcz12_5⟩ := My.qc6 BK837.out; obtain ⟨hfz12_0, hfz12_1, hfz12_2, hfz12_3, hfz12_4, hfz12_5⟩ := My.qf6 BK837.out))
    repeat (go_quiet (fail); try go_wp2)
    go_loopg [7, 8] kj2 (fun kq v7 v8 w' => ∃ (x7_2 : Bool) (x8_2 : Int), v7 = .bool x7_2 ∧ v8 = .int .i64 x8_2 ∧ Aside0 (batonlaw17_ElectLeads.l0 kq l0 a1 t836 x7_2 x8_2 t830 t831 t832 t833 t834 t835 = some r) ∧ Aside0 (kq ≤ kj2) ∧ Aside0 (w'.heap[gb837]? = some (.cells #[.string t830, .string t831, .int .i64 t832, .int .i64 t833, .int .i64 t834, .int .i64 t835] 26 (0, 0))) ∧ Aside0 (Below w.heap.size w w'))
    case atStart => exact ⟨(false), (0), My.q0, My.q0, H', ⟨Nat.le_refl _⟩, ⟨by (with_reducible repeat (first | refine blk_drewN ?_ _ | refine blk_drew ?_ | refine blk_alloc ?_ _)); refine blk_put (cs := #[.string t830, .string t831, .int .i64 t832, .int .i64 t833, .int .i64 t834, .int .i64 0]) ?_ 5 _ rfl; (with_reducible repeat (first | refine blk_drewN ?_ _ | refine blk_drew ?_ | refine blk_alloc ?_ _)); refine blk_put (cs := #[.string t830, .string t831, .int .i64 t832, .int .i64 t833, .int .i64 0, .int .i64 0]) ?_ 4 _ rfl; (with_reducible repeat (first | refine blk_drewN ?_ _ | refine blk_drew ?_ | refine blk_alloc ?_ _)); refine blk_put (cs := #[.string t830, .string t831, .int .i64 t832, .int .i64 0, .int .i64 0, .int .i64 0]) ?_ 3 _ rfl; (with_reducible repeat (first | refine blk_drewN ?_ _ | refine blk_drew ?_ | refine blk_alloc ?_ _)); refine blk_put (cs := #[.string t830, .string t831, .int .i64 0, .int .i64 0, .int .i64 0, .int .i64 0]) ?_ 2 _ rfl; (with_reducible repeat (first | refine blk_drewN ?_ _ | refine blk_drew ?_ | refine blk_alloc ?_ _)); refine blk_put (cs := #[.string t830, .string (⟨#[]⟩ : ByteArray), .int .i64 0, .int .i64 0, .int .i64 0, .int .i64 0]) ?_ 1 _ rfl; (with_reducible repeat (first | refine blk_drewN ?_ _ | refine blk_drew ?_ | refine blk_alloc ?_ _)); refine blk_put (cs := #[.string (⟨#[]⟩ : ByteArray), .string (⟨#[]⟩ : ByteArray), .int .i64 0, .int .i64 0, .int .i64 0, .int .i64 0]) ?_ 0 _ rfl; (with_reducible repeat (first | refine blk_drewN ?_ _ | refine blk_drew ?_ | refine blk_alloc ?_ _)); exact BK837.out⟩, ⟨(My.bG GE837.out)⟩⟩
    case round =>
     clear H'; (try clear p2); (try clear c5); (try clear c6); (try clear c7); (try clear hcz12_0); (try clear hcz12_1); (try clear hcz12_2); (try clear hcz12_3); (try clear hcz12_4); (try clear hcz12_5); (try clear hfz12_0); (try clear hfz12_1); (try clear hfz12_2); (try clear hfz12_3); (try clear hfz12_4); (try clear hfz12_5); (try clear p2); obtain ⟨x7_2, x8_2, rfl, rfl, HA, HK2, BK837, HB⟩ := hrel
     cases gk with
     | zero => exact absurd HA.out (by simp [batonlaw17_ElectLeads.l0])
     | succ k2 =>
      have H := HA.out; clear HA; simp only [batonlaw17_ElectLeads.l0] at H
      by_cases c13 : x8_2 < (l0.length : Int)
      ·rw [if_pos c13] at H
       have c13b0 := decide_eq_true c13; clear c13
       by_cases c14 : x7_2 = true
       ·subst c14
        (have H1 : (if 0 ≤ x8_2 then (if ((rd_T26 l0 x8_2).f2) < t832 then (none) else (batonlaw17_ElectLeads.l0 k2 l0 a1 t836 true (wrap64 (x8_2 + 1)) t830 t831 t832 t833 t834 t835)) else (none)) = some r := by rw [if_pos rfl] at H; exact H); clear H; have H := H1; clear H1
        by_cases c15 : 0 ≤ x8_2
        ·rw [if_pos c15] at H
         have c15b0 := decide_eq_true c15; clear c15
         by_cases c16 : ((rd_T26 l0 x8_2).f2) < t832
         ·rw [if_pos c16] at H
          exact absurd H (by simp)
         ·rw [if_neg c16] at H
          have c16b0 := decide_eq_false c16; clear c16; have H' := Aside0.mk H; clear H; have p838 : 0 ≤ (x8_2 : Int) := of_decide_eq_true My.as; have q838 : x8_2 < (l0.length : Int) := of_decide_eq_true My.as; obtain ⟨ad838, e838, hx838_0, hx838_1, hx838_2, hx838_3, hx838_4, hx838_5⟩ := at_T26 HR0.out x8_2 p838 q838; cases e838; replace hx838_0 := My.up HB.out hx838_0; replace hx838_1 := My.up HB.out hx838_1; replace hx838_2 := My.up HB.out hx838_2; replace hx838_3 := My.up HB.out hx838_3; replace hx838_4 := My.up HB.out hx838_4; replace hx838_5 := My.up HB.out hx838_5; replace p838 := eq_true p838; replace q838 := eq_true q838; obtain ⟨hcz17_0, hcz17_1, hcz17_2, hcz17_3, hcz17_4, hcz17_5⟩ := My.qc6 BK837.out; obtain ⟨hfz17_0, hfz17_1, hfz17_2, hfz17_3, hfz17_4, hfz17_5⟩ := My.qf6 BK837.out
          go_wp2
          repeat (go_quiet (fail); try go_wp2)
          go_roundg k2
          case measure => have := HJ2.out; have := HK2.out; omega
          case rel => exact ⟨(true), (wrap64 (x8_2 + 1)), My.q0, My.q0, H', ⟨by have := HJ2.out; have := HK2.out; omega⟩, ⟨by (with_reducible repeat (first | refine blk_drewN ?_ _ | refine blk_drew ?_ | refine blk_alloc ?_ _)); exact BK837.out⟩, ⟨(My.bG GE837.out)⟩⟩
        ·exact My.no c15 H
       ·replace c14 := Bool.eq_false_iff.mpr c14
        subst c14; (have H1 : (if 0 ≤ x8_2 then (if ((rd_T26 l0 x8_2).f2) < t832 then (none) else (batonlaw17_ElectLeads.l0 k2 l0 a1 t836 ((((rd_T26 l0 x8_2).f0).toList) == t830.toList && ((((rd_T26 l0 x8_2).f1).toList) == t831.toList && (((rd_T26 l0 x8_2).f2) == t832 && (((rd_T26 l0 x8_2).f3) == t833 && (((rd_T26 l0 x8_2).f4) == t834 && (((rd_T26 l0 x8_2).f5) == t835)))))) (wrap64 (x8_2 + 1)) t830 t831 t832 t833 t834 t835)) else (none)) = some r := by rw [if_neg (show ¬ (false = true) by decide)] at H; exact H); clear H; have H := H1; clear H1
        by_cases c18 : 0 ≤ x8_2
        ·rw [if_pos c18] at H
         have c18b0 := decide_eq_true c18; clear c18
         by_cases c19 : ((rd_T26 l0 x8_2).f2) < t832
         ·rw [if_pos c19] at H
          exact absurd H (by simp)
         ·rw [if_neg c19] at H
          have c19b0 := decide_eq_false c19; clear c19; have H' := Aside0.mk H; clear H; have p839 : 0 ≤ (x8_2 : Int) := of_decide_eq_true My.as; have q839 : x8_2 < (l0.length : Int) := of_decide_eq_true My.as; obtain ⟨ad839, e839, hx839_0, hx839_1, hx839_2, hx839_3, hx839_4, hx839_5⟩ := at_T26 HR0.out x8_2 p839 q839; cases e839; replace hx839_0 := My.up HB.out hx839_0; replace hx839_1 := My.up HB.out hx839_1; replace hx839_2 := My.up HB.out hx839_2; replace hx839_3 := My.up HB.out hx839_3; replace hx839_4 := My.up HB.out hx839_4; replace hx839_5 := My.up HB.out hx839_5; replace p839 := eq_true p839; replace q839 := eq_true q839; obtain ⟨hcz20_0, hcz20_1, hcz20_2, hcz20_3, hcz20_4, hcz20_5⟩ := My.qc6 BK837.out; obtain ⟨hfz20_0, hfz20_1, hfz20_2, hfz20_3, hfz20_4, hfz20_5⟩ := My.qf6 BK837.out; have p840 : 0 ≤ (x8_2 : Int) := of_decide_eq_true My.as; have q840 : x8_2 < (l0.length : Int) := of_decide_eq_true My.as; obtain ⟨ad840, e840, hx840_0, hx840_1, hx840_2, hx840_3, hx840_4, hx840_5⟩ := at_T26 HR0.out x8_2 p840 q840; obtain rfl : ad839 = ad840 := (by injection e840); replace hx840_0 := My.up HB.out hx840_0; replace hx840_1 := My.up HB.out hx840_1; replace hx840_2 := My.up HB.out hx840_2; replace hx840_3 := My.up HB.out hx840_3; replace hx840_4 := My.up HB.out hx840_4; replace hx840_5 := My.up HB.out hx840_5; replace p840 := eq_true p840; replace q840 := eq_true q840
          go_wp2
          repeat (go_quiet (fail); try go_wp2)
          go_roundg k2
          case measure => have := HJ2.out; have := HK2.out; omega
          case rel => exact ⟨(((((rd_T26 l0 x8_2).f0).toList) == t830.toList && ((((rd_T26 l0 x8_2).f1).toList) == t831.toList && (((rd_T26 l0 x8_2).f2) == t832 && (((rd_T26 l0 x8_2).f3) == t833 && (((rd_T26 l0 x8_2).f4) == t834 && (((rd_T26 l0 x8_2).f5) == t835))))))), (wrap64 (x8_2 + 1)), My.q0, My.q0, H', ⟨by have := HJ2.out; have := HK2.out; omega⟩, ⟨by (with_reducible repeat (first | refine blk_drewN ?_ _ | refine blk_drew ?_ | refine blk_alloc ?_ _)); exact BK837.out⟩, ⟨(My.bG GE837.out)⟩⟩
        ·exact My.no c18 H
      ·rw [if_neg c13] at H
       have c13b0 := decide_eq_false c13; clear c13; have HC21 := Aside0.mk H; clear H
       go_upto_region 11 with (fail)
       repeat (go_quiet (fail); go_upto_region 11 with (fail))
       go_cut [71] (fun v71 wc => ∃ (kq : Nat) (x71_20 : Bool), v71 = .bool x71_20 ∧ Aside0 (batonlaw17_ElectLeads.j2 kq l0 a1 x71_20 = some r) ∧ Aside0 (kq ≤ k2) ∧ Aside0 (wc.heap[gb837]? = some (.cells #[.string t830, .string t831, .int .i64 t832, .int .i64 t833, .int .i64 t834, .int .i64 t835] 26 (0, 0))) ∧ Aside0 (Below w.heap.size w wc))
       case first =>
        have H := HC21.out; clear HC21
        by_cases c22 : (t836 != (decide ((l0.length : Int) > 0))) = true
        ·rw [if_pos c22] at H
         have c22b0 : (t836 != (decide ((l0.length : Int) > 0))) = true := c22; (try (have c22b5 : (t836 = decide (0 < l0.length)) = False := eq_false (by simpa using c22))); (try (have c22b6 : (t836 == decide (0 < l0.length)) = false := by simpa using c22)); (try (have c22b1 : decide (t836 = (decide ((l0.length : Int) > 0))) = false := by simpa using c22)); (try (have c22b2 : (t836 == (decide ((l0.length : Int) > 0))) = false := by simpa using c22)); (try (have c22b3 : ¬ (t836 = (decide ((l0.length : Int) > 0))) := by simpa using c22)); clear c22; (first | rw [c22b0] | (simp only [i64_w, i32_w]; rw [c22b0]) | skip); have H' := Aside0.mk H; clear H
         go_wp2
         repeat (go_quiet (fail); try go_wp2)
         go_meet
         case rel => exact ⟨_, (true), My.q0, H', ⟨by have := HJ2.out; have := HK2.out; first | omega | exact Nat.le_refl _⟩, ⟨by (with_reducible repeat (first | refine blk_drewN ?_ _ | refine blk_drew ?_ | refine blk_alloc ?_ _)); exact BK837.out⟩, ⟨(My.bG GE837.out)⟩⟩
        ·rw [if_neg c22] at H
         (have c22b0 : (t836 != (decide ((l0.length : Int) > 0))) = false := by simpa using c22); (try (have c22b5 : (t836 = decide (0 < l0.length)) = True := eq_true (by simpa using c22))); (try (have c22b6 : (t836 == decide (0 < l0.length)) = true := by simpa using c22)); (try (have c22b1 : decide (t836 = (decide ((l0.length : Int) > 0))) = true := by simpa using c22)); (try (have c22b2 : (t836 == (decide ((l0.length : Int) > 0))) = true := by simpa using c22)); clear c22; (first | rw [c22b0] | (simp only [i64_w, i32_w]; rw [c22b0]) | skip)
         by_cases c23 : t836 = true
         ·subst c23
          (have H1 : (if x7_2 = true then (batonlaw17_ElectLeads.j2 k2 l0 a1 false) else (batonlaw17_ElectLeads.j2 k2 l0 a1 true)) = some r := by rw [if_pos rfl] at H; exact H); clear H; have H := H1; clear H1
          by_cases c24 : x7_2 = true
          ·subst c24
           (have H1 : (batonlaw17_ElectLeads.j2 k2 l0 a1 false) = some r := by rw [if_pos rfl] at H; exact H); clear H; have H := H1; clear H1; have H' := Aside0.mk H; clear H
           go_wp2
           repeat (go_quiet (fail); try go_wp2)
           go_meet
           case rel => exact ⟨_, (false), My.q0, H', ⟨by have := HJ2.out; have := HK2.out; first | omega | exact Nat.le_refl _⟩, ⟨by (with_reducible repeat (first | refine blk_drewN ?_ _ | refine blk_drew ?_ | refine blk_alloc ?_ _)); exact BK837.out⟩, ⟨(My.bG GE837.out)⟩⟩
          ·replace c24 := Bool.eq_false_iff.mpr c24
           subst c24; (have H1 : (batonlaw17_ElectLeads.j2 k2 l0 a1 true) = some r := by rw [if_neg (show ¬ (false = true) by decide)] at H; exact H); clear H; have H := H1; clear H1; have H' := Aside0.mk H; clear H
           go_wp2
           repeat (go_quiet (fail); try go_wp2)
           go_meet
           case rel => exact ⟨_, (true), My.q0, H', ⟨by have := HJ2.out; have := HK2.out; first | omega | exact Nat.le_refl _⟩, ⟨by (with_reducible repeat (first | refine blk_drewN ?_ _ | refine blk_drew ?_ | refine blk_alloc ?_ _)); exact BK837.out⟩, ⟨(My.bG GE837.out)⟩⟩
         ·replace c23 := Bool.eq_false_iff.mpr c23
          subst c23; (have H1 : (batonlaw17_ElectLeads.j2 k2 l0 a1 (!(t830.toList == ([] : List UInt8)) || (!(t831.toList == ([] : List UInt8)) || (!(t832 == 0) || (!(t833 == 0) || (!(t834 == 0) || (!(t835 == 0)))))))) = some r := by rw [if_neg (show ¬ (false = true) by decide)] at H; exact H); clear H; have H := H1; clear H1; have H' := Aside0.mk H; clear H; obtain ⟨hcz25_0, hcz25_1, hcz25_2, hcz25_3, hcz25_4, hcz25_5⟩ := My.qc6 BK837.out; obtain ⟨hfz25_0, hfz25_1, hfz25_2, hfz25_3, hfz25_4, hfz25_5⟩ := My.qf6 BK837.out
          go_wp2
          repeat (go_quiet (fail); try go_wp2)
          go_meet
          case rel => exact ⟨_, ((!(t830.toList == ([] : List UInt8)) || (!(t831.toList == ([] : List UInt8)) || (!(t832 == 0) || (!(t833 == 0) || (!(t834 == 0) || (!(t835 == 0)))))))), My.q0, H', ⟨by have := HJ2.out; have := HK2.out; first | omega | exact Nat.le_refl _⟩, ⟨by (with_reducible repeat (first | refine blk_drewN ?_ _ | refine blk_drew ?_ | refine blk_alloc ?_ _)); exact BK837.out⟩, ⟨(My.bG GE837.out)⟩⟩
       case rest =>
        clear HC21; (try clear c1); (try clear c2); (try clear p2); (try clear c5); (try clear c6); (try clear p6); (try clear c7); (try clear p8); (try clear q8); (try clear hx8); (try clear c13); (try clear c13b0); (try clear c14); (try clear c15); (try clear c15b0); (try clear c16); (try clear c16b0); (try clear c18); (try clear c18b0); (try clear c19); (try clear c19b0); (try clear c22); (try clear c22b0); (try clear c22b1); (try clear c22b2); (try clear c23); (try clear c24); (try clear hcz12_0); (try clear hcz12_1); (try clear hcz12_2); (try clear hcz12_3); (try clear hcz12_4); (try clear hcz12_5); (try clear hcz17_0); (try clear hcz17_1); (try clear hcz17_2); (try clear hcz17_3); (try clear hcz17_4); (try clear hcz17_5); (try clear hcz20_0); (try clear hcz20_1); (try clear hcz20_2); (try clear hcz20_3); (try clear hcz20_4); (try clear hcz20_5); (try clear hcz25_0); (try clear hcz25_1); (try clear hcz25_2); (try clear hcz25_3); (try clear hcz25_4); (try clear hcz25_5); (try clear hfz12_0); (try clear hfz12_1); (try clear hfz12_2); (try clear hfz12_3); (try clear hfz12_4); (try clear hfz12_5); (try clear hfz17_0); (try clear hfz17_1); (try clear hfz17_2); (try clear hfz17_3); (try clear hfz17_4); (try clear hfz17_5); (try clear hfz20_0); (try clear hfz20_1); (try clear hfz20_2); (try clear hfz20_3); (try clear hfz20_4); (try clear hfz20_5); (try clear hfz25_0); (try clear hfz25_1); (try clear hfz25_2); (try clear hfz25_3); (try clear hfz25_4); (try clear hfz25_5); (try clear hx838_0); (try clear hx838_1); (try clear hx838_2); (try clear hx838_3); (try clear hx838_4); (try clear hx838_5); (try clear hx839_0); (try clear hx839_1); (try clear hx839_2); (try clear hx839_3); (try clear hx839_4); (try clear hx839_5); (try clear hx840_0); (try clear hx840_1); (try clear hx840_2); (try clear hx840_3); (try clear hx840_4); (try clear hx840_5); (try clear p2); (try clear p838); (try clear p839); (try clear p840); (try clear q838); (try clear q839); (try clear q840); obtain ⟨kq, x71_20, rfl, HA, HJ20, BK837, HB⟩ := hcut
        cases kq with
        | zero => exact absurd HA.out (by simp [batonlaw17_ElectLeads.j2])
        | succ kj20 =>
         have H := HA.out; clear HA; simp only [batonlaw17_ElectLeads.j2] at H
         by_cases c26 : x71_20 = true
         ·subst c26
          (have H1 : (none) = some r := by rw [if_pos rfl] at H; exact H); clear H; have H := H1; clear H1; exact absurd H (by simp)
         ·replace c26 := Bool.eq_false_iff.mpr c26
          subst c26; (have H1 : ((elect_Reign.f kj20 l0 a1).bind fun bt841 => (if 2 + a1.size ≤ 9223372036854775807 then (if ((⟨#[101, 47]⟩ : ByteArray) ++ a1).size + 1 ≤ 9223372036854775807 then ((batonref04_From.f kj20 l0 (((⟨#[101, 47]⟩ : ByteArray) ++ a1) ++ (⟨#[47]⟩ : ByteArray))).bind fun t844 => ((elect_Head.f t844).bind fun bt847 => (if bt841.2.2 = true then (if bt847.2.2.2.2.2.2 = true then (if bt841.1 = bt847.2.2.1 then (if bt841.2.1.toList = bt847.2.1.toList then ((batonlaw17_live.f kj20).bind fun t855 => (some t855)) else (none)) else (none)) else (none)) else (if bt841.1 = 0 then (if bt841.2.1.toList = ([] : List UInt8) then ((batonlaw17_live.f kj20).bind fun t856 => (some t856)) else (none)) else (none))))) else (none)) else (none))) = some r := by rw [if_neg (show ¬ (false = true) by decide)] at H; exact H); clear H; have H := H1; clear H1; replace H := Option.bind_eq_some_iff.mp H; obtain ⟨⟨t841, t842, t843⟩, A270, H⟩ := H; replace H : (if 2 + a1.size ≤ 9223372036854775807 then (if ((⟨#[101, 47]⟩ : ByteArray) ++ a1).size + 1 ≤ 9223372036854775807 then ((batonref04_From.f kj20 l0 (((⟨#[101, 47]⟩ : ByteArray) ++ a1) ++ (⟨#[47]⟩ : ByteArray))).bind fun t844 => ((elect_Head.f t844).bind fun bt847 => (if t843 = true then (if bt847.2.2.2.2.2.2 = true then (if t841 = bt847.2.2.1 then (if t842.toList = bt847.2.1.toList then ((batonlaw17_live.f kj20).bind fun t855 => (some t855)) else (none)) else (none)) else (none)) else (if t841 = 0 then (if t842.toList = ([] : List UInt8) then ((batonlaw17_live.f kj20).bind fun t856 => (some t856)) else (none)) else (none))))) else (none)) else (none)) = some r := H; have A27 := Aside0.mk A270; clear A270
          by_cases c28 : 2 + a1.size ≤ 9223372036854775807
          ·rw [if_pos c28] at H
           have c28b0 := eq_true c28; have c28b1 : decide (2 + a1.size ≤ 9223372036854775807) = true := decide_eq_true c28; (try have c28b2 : (9223372036854775807 < 2 + a1.size) = False := eq_false (Nat.not_lt.2 c28))
           by_cases c29 : ((⟨#[101, 47]⟩ : ByteArray) ++ a1).size + 1 ≤ 9223372036854775807
           ·rw [if_pos c29] at H
            have c29b0 := eq_true c29; have c29b1 : decide (((⟨#[101, 47]⟩ : ByteArray) ++ a1).size + 1 ≤ 9223372036854775807) = true := decide_eq_true c29; (try have c29b2 : (9223372036854775807 < ((⟨#[101, 47]⟩ : ByteArray) ++ a1).size + 1) = False := eq_false (Nat.not_lt.2 c29)); (try (have c29b5 := c29b2; simp only [ByteArray.size_append, ByteArray.size_extract, My.size_mk, List.size_toArray, List.length_cons, List.length_nil, Nat.zero_add, Nat.reduceAdd] at c29b5)); (try (have c29b6 : (9223372036854775807 < ((⟨#[101, 47]⟩ : ByteArray) ++ a1).size) = False := eq_false (by have := c29; omega); simp only [ByteArray.size_append, ByteArray.size_extract, My.size_mk, List.size_toArray, List.length_cons, List.length_nil, Nat.zero_add, Nat.reduceAdd] at c29b6)); replace H := Option.bind_eq_some_iff.mp H; obtain ⟨t844, A300, H⟩ := H; replace H : ((elect_Head.f t844).bind fun bt847 => (if t843 = true then (if bt847.2.2.2.2.2.2 = true then (if t841 = bt847.2.2.1 then (if t842.toList = bt847.2.1.toList then ((batonlaw17_live.f kj20).bind fun t855 => (some t855)) else (none)) else (none)) else (none)) else (if t841 = 0 then (if t842.toList = ([] : List UInt8) then ((batonlaw17_live.f kj20).bind fun t856 => (some t856)) else (none)) else (none)))) = some r := H; have A30 := Aside0.mk A300; clear A300; replace H := Option.bind_eq_some_iff.mp H; obtain ⟨⟨t847, t848, t849, t850, t851, t852, t853⟩, A310, H⟩ := H; replace H : (if t843 = true then (if t853 = true then (if t841 = t849 then (if t842.toList = t848.toList then ((batonlaw17_live.f kj20).bind fun t855 => (some t855)) else (none)) else (none)) else (none)) else (if t841 = 0 then (if t842.toList = ([] : List UInt8) then ((batonlaw17_live.f kj20).bind fun t856 => (some t856)) else (none)) else (none))) = some r := H; have A31 := Aside0.mk A310; clear A310
            by_cases c32 : t843 = true
            ·subst c32
             (have H1 : (if t853 = true then (if t841 = t849 then (if t842.toList = t848.toList then ((batonlaw17_live.f kj20).bind fun t855 => (some t855)) else (none)) else (none)) else (none)) = some r := by rw [if_pos rfl] at H; exact H); clear H; have H := H1; clear H1
             by_cases c33 : t853 = true
             ·subst c33
              (have H1 : (if t841 = t849 then (if t842.toList = t848.toList then ((batonlaw17_live.f kj20).bind fun t855 => (some t855)) else (none)) else (none)) = some r := by rw [if_pos rfl] at H; exact H); clear H; have H := H1; clear H1
              by_cases c34 : t841 = t849
              ·rw [if_pos c34] at H
               have c34b0 : (t841 == t849) = true := beq_iff_eq.mpr c34; have c34b1 : (t841 != t849) = false := bne_eq_false_iff_eq.mpr c34; clear c34
               by_cases c35 : t842.toList = t848.toList
               ·rw [if_pos c35] at H
                have c35b0 : (t842.toList == t848.toList) = true := beq_iff_eq.mpr c35; have c35b1 : (t842.toList != t848.toList) = false := bne_eq_false_iff_eq.mpr c35; clear c35; replace H := Option.bind_eq_some_iff.mp H; obtain ⟨t855, A360, H⟩ := H; replace H : (some t855) = some r := H; have A36 := Aside0.mk A360; clear A360; obtain rfl := Option.some.inj H
                go_wp2_with (first | (go_at_call 13; (with_reducible refine (elect_Reign.calls kj20 _ _ l0 a1 t841 t842 true _ ?side1 ?side2 A27.out).mono ?_); (case side1 => exact My.Ca (Kd.C_below HR0.out HB.out)); (case side2 => exact HC0.out); rintro e w37 ⟨rfl, hb⟩; replace BK837 := Aside0.mk (My.kb BK837.out hb); replace HB := Aside0.mk (below_step (My.bG GE837.out) hb)) | (go_at_call 26; (with_reducible refine (batonref04_From.calls kj20 _ _ l0 (((⟨#[101, 47]⟩ : ByteArray) ++ a1) ++ (⟨#[47]⟩ : ByteArray)) t844 _ ?side1 ?side2 A30.out).mono ?_); (case side1 => exact My.Ca (Kd.C_below HR0.out HB.out)); (case side2 => exact HC0.out); rintro e w38 ⟨v845, rfl, ho0, hb⟩; have HO846 := Aside0.mk (Kd.R_lower (Kd.R_newB ho0 (g := gb837) (o := .cells #[.string t830, .string t831, .int .i64 t832, .int .i64 t833, .int .i64 t834, .int .i64 t835] 26 (0, 0)) (My.Ka BK837.out)) (below_size (My.bG GE837.out))); replace BK837 := Aside0.mk (My.kb BK837.out hb); replace HB := Aside0.mk (below_step (My.bG GE837.out) hb); (try clear ho0); obtain ⟨Ao39, co39, eo39⟩ := Kd.R_slice HO846.out; subst eo39) | (go_at_call 11; (with_reducible refine (elect_Head.calls _ _ t844 t847 t848 t849 t850 t851 t852 true _ ?side1 ?side2 A31.out).mono ?_); (case side1 => repeat (first | exact (Kd.R_reads' HO846.out).2.2 | (with_reducible refine Kd.C_alloc ?_ _) | (with_reducible refine Kd.C_drewN ?_ _) | (with_reducible refine Kd.C_drew ?_))); (case side2 => exact (Kd.R_reads' HO846.out).2.1); rintro e w40 ⟨rfl, hb⟩; replace HO846 := Aside0.mk (Kd.R_below (My.Ra HO846.out) hb); replace BK837 := Aside0.mk (My.kb BK837.out hb); replace HB := Aside0.mk (below_step (My.bG GE837.out) hb)) | ((with_reducible refine gate_dst (N := 12) rfl ?_); (try (refine gate_guard (by rfl) ?_; dsimp only)); refine box_event ?hg (N := 12) ?hd (cs := #[.string (⟨#[]⟩ : ByteArray), .string (⟨#[]⟩ : ByteArray), .int .i64 0, .int .i64 0, .int .i64 0, .int .i64 0]) (t := 26) ?hr ?_; (case hd => rfl); (case hg => rfl); (case hr => first | (go_simp; done) | (go_simp; rfl)); intro gb854 hg w41 hbox hb; have n0_ := Aside0.mk (Kd.R_below (Kd.R_elderB (My.Ra HO846.out) gb854 (Nat.le_of_eq hg.symm)) hb); have n1_ := Aside0.mk (My.kb BK837.out hb); have n2_ := Aside0.mk (below_step (My.bG GE837.out) hb); have n3_ := Aside0.mk (hbox); have n4_ := Aside0.mk ((by rw [hg]; exact (below_size (My.bG GE837.out)) : w.heap.size ≤ gb854)); have n5_ := Aside0.mk ((by rw [hg]; exact (below_size (My.bG GE837.out)) : w.heap.size ≤ gb854)); have n6_ := Aside0.mk ((by rw [hg]; exact Nat.ne_of_lt (blk_lt (g := gb837) (o := .cells #[.string t830, .string t831, .int .i64 t832, .int .i64 t833, .int .i64 t834, .int .i64 t835] 26 (0, 0)) (My.Ka BK837.out)) : gb837 ≠ gb854)); have n7_ := Aside0.mk ((by rw [hg]; exact Nat.ne_of_gt (blk_lt (g := gb837) (o := .cells #[.string t830, .string t831, .int .i64 t832, .int .i64 t833, .int .i64 t834, .int .i64 t835] 26 (0, 0)) (My.Ka BK837.out)) : gb854 ≠ gb837)); clear HO846; clear BK837; clear HB; have HO846 := n0_; have BK837 := n1_; have HB := n2_; have BK854 := n3_; have GW854 := n4_; have GE854 := n5_; have NB837_854 := n6_; have NB854_837 := n7_; clear n0_ n1_ n2_ n3_ n4_ n5_ n6_ n7_; clear hb hbox hg; have hnb42 := NB854_837.out; have hnc42 := NB837_854.out; obtain ⟨hcz43_0, hcz43_1, hcz43_2, hcz43_3, hcz43_4, hcz43_5⟩ := My.qc6 BK854.out; obtain ⟨hfz43_0, hfz43_1, hfz43_2, hfz43_3, hfz43_4, hfz43_5⟩ := My.qf6 BK854.out) | (go_at_call 10; (with_reducible refine (batonlaw17_live.calls kj20  t855 _ A36.out).mono ?_); rintro e w44 ⟨rfl, hb⟩; have n0_ := Aside0.mk (Kd.R_below (by (with_reducible repeat (first | apply Kd.R_alloc | apply Kd.R_drewN | apply Kd.R_drew)); exact (Kd.R_mono (My.qr6 (Kd.R_mono HO846.out (fun k_ hk => (⟨hk, hk.2⟩ : _ ∧ k_ ≠ gb854))) (fun _ hk => hk.2)) (fun _ h_ => h_.1))) hb); have n1_ := Aside0.mk (blk_below (g := gb837) (o := .cells #[.string t830, .string t831, .int .i64 t832, .int .i64 t833, .int .i64 t834, .int .i64 t835] 26 (0, 0)) (My.qb6 NB837_854.out BK837.out) hb); have n2_ := Aside0.mk (blk_below (g := gb854) (o := .cells #[.string t847, .string t848, .int .i64 t849, .int .i64 t850, .int .i64 t851, .int .i64 t852] 26 (0, 0)) (My.qp6 BK854.out) hb); have n3_ := Aside0.mk (below_step (My.bH GE837.out GE854.out) hb); clear HO846; clear BK837; clear BK854; clear HB; have HO846 := n0_; have BK837 := n1_; have BK854 := n2_; have HB := n3_; clear n0_ n1_ n2_ n3_))
                repeat (go_quiet (fail); try go_wp2)
                go_ret
                exact ⟨My.q1, (My.bH GE837.out GE854.out)⟩
               ·exact My.no c35 H
              ·exact My.no c34 H
             ·replace c33 := Bool.eq_false_iff.mpr c33
              subst c33; (have H1 : (none) = some r := by rw [if_neg (show ¬ (false = true) by decide)] at H; exact H); clear H; have H := H1; clear H1; exact absurd H (by simp)
            ·replace c32 := Bool.eq_false_iff.mpr c32
             subst c32; (have H1 : (if t841 = 0 then (if t842.toList = ([] : List UInt8) then ((batonlaw17_live.f kj20).bind fun t856 => (some t856)) else (none)) else (none)) = some r := by rw [if_neg (show ¬ (false = true) by decide)] at H; exact H); clear H; have H := H1; clear H1
             by_cases c45 : t841 = 0
             ·rw [if_pos c45] at H
              have c45b0 : (t841 == 0) = true := beq_iff_eq.mpr c45; have c45b1 : (t841 != 0) = false := bne_eq_false_iff_eq.mpr c45; clear c45
              by_cases c46 : t842.toList = ([] : List UInt8)
              ·rw [if_pos c46] at H
               have c46b0 : (t842.toList == ([] : List UInt8)) = true := beq_iff_eq.mpr c46; have c46b1 : (t842.toList != ([] : List UInt8)) = false := bne_eq_false_iff_eq.mpr c46; clear c46; replace H := Option.bind_eq_some_iff.mp H; obtain ⟨t856, A470, H⟩ := H; replace H : (some t856) = some r := H; have A47 := Aside0.mk A470; clear A470; obtain rfl := Option.some.inj H
               go_wp2_with (first | (go_at_call 13; (with_reducible refine (elect_Reign.calls kj20 _ _ l0 a1 t841 t842 false _ ?side1 ?side2 A27.out).mono ?_); (case side1 => exact My.Ca (Kd.C_below HR0.out HB.out)); (case side2 => exact HC0.out); rintro e w48 ⟨rfl, hb⟩; replace BK837 := Aside0.mk (My.kb BK837.out hb); replace HB := Aside0.mk (below_step (My.bG GE837.out) hb)) | (go_at_call 26; (with_reducible refine (batonref04_From.calls kj20 _ _ l0 (((⟨#[101, 47]⟩ : ByteArray) ++ a1) ++ (⟨#[47]⟩ : ByteArray)) t844 _ ?side1 ?side2 A30.out).mono ?_); (case side1 => exact My.Ca (Kd.C_below HR0.out HB.out)); (case side2 => exact HC0.out); rintro e w49 ⟨v845, rfl, ho0, hb⟩; have HO846 := Aside0.mk (Kd.R_lower (Kd.R_newB ho0 (g := gb837) (o := .cells #[.string t830, .string t831, .int .i64 t832, .int .i64 t833, .int .i64 t834, .int .i64 t835] 26 (0, 0)) (My.Ka BK837.out)) (below_size (My.bG GE837.out))); replace BK837 := Aside0.mk (My.kb BK837.out hb); replace HB := Aside0.mk (below_step (My.bG GE837.out) hb); (try clear ho0); obtain ⟨Ao50, co50, eo50⟩ := Kd.R_slice HO846.out; subst eo50) | (go_at_call 11; (with_reducible refine (elect_Head.calls _ _ t844 t847 t848 t849 t850 t851 t852 t853 _ ?side1 ?side2 A31.out).mono ?_); (case side1 => repeat (first | exact (Kd.R_reads' HO846.out).2.2 | (with_reducible refine Kd.C_alloc ?_ _) | (with_reducible refine Kd.C_drewN ?_ _) | (with_reducible refine Kd.C_drew ?_))); (case side2 => exact (Kd.R_reads' HO846.out).2.1); rintro e w51 ⟨rfl, hb⟩; replace HO846 := Aside0.mk (Kd.R_below (My.Ra HO846.out) hb); replace BK837 := Aside0.mk (My.kb BK837.out hb); replace HB := Aside0.mk (below_step (My.bG GE837.out) hb)) | ((with_reducible refine gate_dst (N := 12) rfl ?_); (try (refine gate_guard (by rfl) ?_; dsimp only)); refine box_event ?hg (N := 12) ?hd (cs := #[.string (⟨#[]⟩ : ByteArray), .string (⟨#[]⟩ : ByteArray), .int .i64 0, .int .i64 0, .int .i64 0, .int .i64 0]) (t := 26) ?hr ?_; (case hd => rfl); (case hg => rfl); (case hr => first | (go_simp; done) | (go_simp; rfl)); intro gb854 hg w52 hbox hb; have n0_ := Aside0.mk (Kd.R_below (Kd.R_elderB (My.Ra HO846.out) gb854 (Nat.le_of_eq hg.symm)) hb); have n1_ := Aside0.mk (My.kb BK837.out hb); have n2_ := Aside0.mk (below_step (My.bG GE837.out) hb); have n3_ := Aside0.mk (hbox); have n4_ := Aside0.mk ((by rw [hg]; exact (below_size (My.bG GE837.out)) : w.heap.size ≤ gb854)); have n5_ := Aside0.mk ((by rw [hg]; exact (below_size (My.bG GE837.out)) : w.heap.size ≤ gb854)); have n6_ := Aside0.mk ((by rw [hg]; exact Nat.ne_of_lt (blk_lt (g := gb837) (o := .cells #[.string t830, .string t831, .int .i64 t832, .int .i64 t833, .int .i64 t834, .int .i64 t835] 26 (0, 0)) (My.Ka BK837.out)) : gb837 ≠ gb854)); have n7_ := Aside0.mk ((by rw [hg]; exact Nat.ne_of_gt (blk_lt (g := gb837) (o := .cells #[.string t830, .string t831, .int .i64 t832, .int .i64 t833, .int .i64 t834, .int .i64 t835] 26 (0, 0)) (My.Ka BK837.out)) : gb854 ≠ gb837)); clear HO846; clear BK837; clear HB; have HO846 := n0_; have BK837 := n1_; have HB := n2_; have BK854 := n3_; have GW854 := n4_; have GE854 := n5_; have NB837_854 := n6_; have NB854_837 := n7_; clear n0_ n1_ n2_ n3_ n4_ n5_ n6_ n7_; clear hb hbox hg; have hnb53 := NB854_837.out; have hnc53 := NB837_854.out; obtain ⟨hcz54_0, hcz54_1, hcz54_2, hcz54_3, hcz54_4, hcz54_5⟩ := My.qc6 BK854.out; obtain ⟨hfz54_0, hfz54_1, hfz54_2, hfz54_3, hfz54_4, hfz54_5⟩ := My.qf6 BK854.out) | (go_at_call 10; (with_reducible refine (batonlaw17_live.calls kj20  t856 _ A47.out).mono ?_); rintro e w55 ⟨rfl, hb⟩; have n0_ := Aside0.mk (Kd.R_below (by (with_reducible repeat (first | apply Kd.R_alloc | apply Kd.R_drewN | apply Kd.R_drew)); exact (Kd.R_mono (My.qr6 (Kd.R_mono HO846.out (fun k_ hk => (⟨hk, hk.2⟩ : _ ∧ k_ ≠ gb854))) (fun _ hk => hk.2)) (fun _ h_ => h_.1))) hb); have n1_ := Aside0.mk (blk_below (g := gb837) (o := .cells #[.string t830, .string t831, .int .i64 t832, .int .i64 t833, .int .i64 t834, .int .i64 t835] 26 (0, 0)) (My.qb6 NB837_854.out BK837.out) hb); have n2_ := Aside0.mk (blk_below (g := gb854) (o := .cells #[.string t847, .string t848, .int .i64 t849, .int .i64 t850, .int .i64 t851, .int .i64 t852] 26 (0, 0)) (My.qp6 BK854.out) hb); have n3_ := Aside0.mk (below_step (My.bH GE837.out GE854.out) hb); clear HO846; clear BK837; clear BK854; clear HB; have HO846 := n0_; have BK837 := n1_; have BK854 := n2_; have HB := n3_; clear n0_ n1_ n2_ n3_))
               repeat (go_quiet (fail); try go_wp2)
               go_ret
               exact ⟨My.q1, (My.bH GE837.out GE854.out)⟩
              ·exact My.no c46 H
             ·exact My.no c45 H
           ·exact My.no c29 H
          ·exact My.no c28 H

end Go.Proofs.Ytaebmmjhokjdbaa.PM
