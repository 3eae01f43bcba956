-- made by a program of this session (wip/tools/myprint.py over the kit's print) out of the translation; Lean checks it
import Derived.Test.YtfcbnheefipldaaPM0
import Derived.Test.YtfcbnheefipldaaPM2
import Derived.Test.YtfcbnheefipldaaPM3
namespace Go.Proofs.Ytfcbnheefipldaa.PM
open Go.RowKit Go.Proofs.YtfcbnheefipldaaW.PrintWords Go.Proofs.YtfcbnheefipldaaW.PrintLast Go.Proofs.YtfcbnheefipldaaW.PrintMore
attribute [local go_sem] max2_int min2_int max_two min_two max_three min_three max_four min_four   -- for this text's walks alone
set_option linter.unusedVariables false
set_option linter.unusedSimpArgs false

/-! ### drift_Fits: function 17 -/
-- (by hand)
theorem IsClock.below {W W1 : World} {base base' B : Nat} {a : Int} {st : Bool} (h : IsClock W base B a st) (hb : Below W.heap.size W W1) (hle : base' ≤ base) : IsClock W1 base' B a st :=
  ⟨Nat.le_trans hle h.base_le, blk_below h.at_blk hb, blk_below h.st_blk hb, blk_below h.all_blk hb⟩
/-- Two clocks beside each other. -/
structure Two (w W : World) (B1 B2 : Nat) (x y : Int) : Prop where
  me : IsClock W w.heap.size B1 x true
  they : IsClock W w.heap.size B2 y true
  apart : B1 + 2 < B2
  below : Below w.heap.size w W
theorem two_new {w w1 w2 : World} {n B1 B2 : Nat} (h1 : IsClock w1 (w.drewN n).heap.size B1 0 true) (hb1 : Below (w.drewN n).heap.size (w.drewN n) w1) (hz1 : B1 + 2 < w1.heap.size) (h2 : IsClock w2 w1.heap.size B2 0 true) (hb2 : Below w1.heap.size w1 w2) : Two w w2 B1 B2 0 0 :=
  have hb : Below w.heap.size w w1 := ⟨hb1.os, hb1.tape, hb1.output, hb1.size, hb1.block⟩
  ⟨h1.below hb2 (Nat.le_refl _), ⟨Nat.le_trans hb.size h2.base_le, h2.at_blk, h2.st_blk, h2.all_blk⟩, Nat.lt_of_lt_of_le hz1 h2.base_le, below_step hb hb2⟩
theorem Two.drew {w W : World} {B1 B2 : Nat} {x y : Int} (h : Two w W B1 B2 x y) : Two w W.drew B1 B2 x y :=
  ⟨⟨h.me.base_le, h.me.at_blk, h.me.st_blk, h.me.all_blk⟩, ⟨h.they.base_le, h.they.at_blk, h.they.st_blk, h.they.all_blk⟩, h.apart, h.below.drew⟩
theorem Two.step1 {w W W1 : World} {B1 B2 : Nat} {x y r : Int} (h : Two w W B1 B2 x y) (hg : W.grownBy W1 (some B1)) (ht : W1.heap[B1]? = some (.cells #[.int .i64 r] 3 (0, 0))) : Two w W1 B1 B2 r y :=
  have hs := h.me.step h.below hg ht
  ⟨hs.1, h.they.grown hg (by have := h.apart; omega), h.apart, hs.2⟩
theorem Two.step2 {w W W1 : World} {B1 B2 : Nat} {x y r : Int} (h : Two w W B1 B2 x y) (hg : W.grownBy W1 (some B2)) (ht : W1.heap[B2]? = some (.cells #[.int .i64 r] 3 (0, 0))) : Two w W1 B1 B2 x r :=
  have hs := h.they.step h.below hg ht
  ⟨h.me.grown hg (by have := h.apart; omega), hs.1, h.apart, hs.2⟩
def clockFits (ttl safe : Int) : List Int → List Int → Int → Int → Option Bool
  | a :: l, b :: m, x, y => (clockStep x a true).bind fun x1 => (clockStep y b true).bind fun y1 => if x1 < safe then (if y1 ≥ ttl then some false else clockFits ttl safe l m x1 y1) else clockFits ttl safe l m x1 y1
  | _, _, _, _ => some true
def drift_Fits.f (a0 : Int) (l1 : List Int) (l2 : List Int) : Option Bool := (drift_Safe.f a0).bind fun s => if s = 0 then some false else clockFits a0 s l1 l2 0 0
set_option maxHeartbeats 1000000 in
theorem drift_Fits.calls (a0 : Int) (A1 : Option Addr) (c1 : Nat) (l1 : List Int) (A2 : Option Addr) (c2 : Nat) (l2 : List Int) (r : Bool) (w : World) (hr1 : Kd.C (Kd.int .i64) w A1 l1.length l1) (hc1 : l1.length ≤ c1) (hr2 : Kd.C (Kd.int .i64) w A2 l2.length l2) (hc2 : l2.length ≤ c2) (h : drift_Fits.f a0 l1 l2 = some r) :
    Calls Try.prog 17 #[.int .i64 a0, .slice A1 l1.length c1, .slice A2 l2.length c2] w fun e w' => e = .returned (.bool r) ∧ Below w.heap.size w w' := by
  have HR1 := Aside0.mk hr1
  have HR2 := Aside0.mk hr2
  clear hr1 hc1 hr2 hc2
  unfold drift_Fits.f at h
  obtain ⟨s, hs, h⟩ := Option.bind_eq_some_iff.1 h
  have HS := Aside0.mk hs
  clear hs
  by_cases c1 : s = 0
  · rw [if_pos c1] at h
    obtain rfl := Option.some.inj h
    have c1b : (s == 0) = true := by simp [c1]
    clear c1 h
    go_enter Try.func17, Try.ntmps17
    go_wp2_with (go_at_call 15; (with_reducible refine (drift_Safe.calls a0 s _ HS.out).mono ?_); rintro e w1 ⟨rfl, ⟨n, rfl⟩⟩)
    go_ret
    exact ⟨rfl, pw_below_drewN (Below.refl _ _) _⟩
  rw [if_neg c1] at h
  have c1b : (s == 0) = false := by simp [c1]
  clear c1
  have H := Aside0.mk h
  clear h
  go_enter Try.func17, Try.ntmps17
  go_wp2_with fail
  refine (drift_Safe.calls a0 s _ HS.out).mono ?_
  rintro e w0 ⟨rfl, ⟨n, hn⟩⟩
  have HN := Aside0.mk hn
  clear hn
  go_wp2_with fail
  refine (clock_new _ _ _).mono ?_
  rintro e w1 ⟨B1, rfl, hk1, hb1, hz1⟩
  have HK1 := Aside0.mk hk1
  have HB1 := Aside0.mk hb1
  have HZ1 := Aside0.mk hz1
  clear hk1 hb1 hz1
  go_wp2_with fail
  refine (clock_new _ _ _).mono ?_
  rintro e w2 ⟨B2, rfl, hk2, hb2, hz2⟩
  have HT : Aside0 (Two w w2 B1 B2 0 0) := by
    obtain hn := HN.out
    subst hn
    exact ⟨two_new HK1.out HB1.out HZ1.out hk2 hb2⟩
  clear hk2 hb2 hz2 HK1 HB1 HZ1 HN
  go_wp2_with fail
  all_goals
    have hmx1 : l1.length ≤ 9223372036854775807 := HR1.out.2.1
    have hmx2 : l2.length ≤ 9223372036854775807 := HR2.out.2.1
    go_loopw [24] (fun i wr => ∃ (k : Nat) (x y : Int), i = .int .i64 k ∧ Aside0 (clockFits a0 s (l1.drop k) (l2.drop k) x y = some r ∧ Two w wr B1 B2 x y ∧ k ≤ l1.length ∧ k ≤ l2.length)) (fun i _ => l1.length - (intOf i).toNat)
    case atStart => exact ⟨0, 0, 0, rfl, ⟨H.out, HT.out, Nat.zero_le _, Nat.zero_le _⟩⟩
    case round =>
      obtain ⟨k, x, y, rfl, ⟨hrun, htw, hk1, hk2⟩⟩ := hrel
      clear H HT
      by_cases hlt : k < l1.length ∧ k < l2.length
      · obtain ⟨hlt1, hlt2⟩ := hlt
        obtain ⟨ad1, rfl, hcell1⟩ := (Kd.reads_of_C (d := (0 : Int)) HR1.out).2.2 (by omega)
        obtain ⟨ad2, rfl, hcell2⟩ := (Kd.reads_of_C (d := (0 : Int)) HR2.out).2.2 (by omega)
        rw [List.drop_eq_getElem_cons hlt1, List.drop_eq_getElem_cons hlt2] at hrun
        have g1 : l1[k]?.getD 0 = l1[k] := by simp [List.getElem?_eq_getElem hlt1]
        have g2 : l2[k]?.getD 0 = l2[k] := by simp [List.getElem?_eq_getElem hlt2]
        have hc1 : w.cell? (ad1.add k) = some (.int .i64 l1[k]) := by rw [hcell1 k hlt1, List.getD_eq_getElem?_getD, g1]
        have hc2 : w.cell? (ad2.add k) = some (.int .i64 l2[k]) := by rw [hcell2 k hlt2, List.getD_eq_getElem?_getD, g2]
        obtain ⟨x1, hx1, hrun1⟩ := Option.bind_eq_some_iff.1 hrun
        obtain ⟨y1, hy1, hrun2⟩ := Option.bind_eq_some_iff.1 hrun1
        clear hrun hrun1
        generalize l1[k] = a at *
        generalize l2[k] = b at *
        have h1 := pw_cell_below htw.below hc1
        have h2 := pw_cell_below htw.below hc2
        have HC2 := Aside0.mk hc2
        have HX := Aside0.mk hx1
        have HY := Aside0.mk hy1
        have HT := Aside0.mk htw
        have HR := Aside0.mk hrun2
        have hz1 : (k : Int) < (l1.length : Int) := by omega
        have hz2 : (k : Int) < (l2.length : Int) := by omega
        clear hc1 hc2 hx1 hy1 htw hrun2 hcell1 hcell2 g1 g2
        go_wp2_with fail
        go_region_with (first
          | (go_at_call_of 22 (Value.pointer (some ⟨B1, 0, none⟩)); (with_reducible refine (clock_call a x x1 true w.heap.size B1 _ ?_ HX.out).mono ?_); (first | exact HT.out.me | exact HT.out.drew.me); rintro e w3 ⟨rfl, hg3, ht3⟩; have HU := Aside0.mk (Two.step1 (by first | exact HT.out | exact HT.out.drew) hg3 ht3); have h3 := pw_cell_below HU.out.below HC2.out; clear hg3 ht3)
          | (go_at_call_of 22 (Value.pointer (some ⟨B2, 0, none⟩)); (with_reducible refine (clock_call b y y1 true w.heap.size B2 _ ?_ HY.out).mono ?_); (first | exact HU.out.they | exact HU.out.drew.they); rintro e w4 ⟨rfl, hg4, ht4⟩; have HV := Aside0.mk (Two.step2 (by first | exact HU.out | exact HU.out.drew) hg4 ht4); clear hg4 ht4))
        all_goals
          have hr := HR.out
          clear HR
          by_cases d1 : x1 < s
          · rw [if_pos d1] at hr
            have d1b : decide (x1 < s) = true := decide_eq_true d1
            by_cases d2 : y1 ≥ a0
            · rw [if_pos d2] at hr
              have d2b : decide (a0 ≤ y1) = true := decide_eq_true d2
              obtain rfl := Option.some.inj hr
              clear hr d1 d2
              go_wp2
              go_ret
              exact ⟨rfl, by first | exact HV.out.below | exact HV.out.drew.below⟩
            · rw [if_neg d2] at hr
              have d2b : decide (a0 ≤ y1) = false := decide_eq_false d2
              have HR := Aside0.mk hr
              clear hr d1 d2
              go_wp2
              go_roundw
              case rel => exact ⟨k + 1, x1, y1, by go_num, ⟨HR.out, by first | exact HV.out | exact HV.out.drew, by omega, by omega⟩⟩
              case measure => simp [intOf]; omega
          · rw [if_neg d1] at hr
            have d1b : decide (x1 < s) = false := decide_eq_false d1
            have HR := Aside0.mk hr
            clear hr d1
            go_wp2
            go_roundw
            case rel => exact ⟨k + 1, x1, y1, by go_num, ⟨HR.out, by first | exact HV.out | exact HV.out.drew, by omega, by omega⟩⟩
            case measure => simp [intOf]; omega
      · have hr : r = true := by
          rcases Nat.lt_or_ge k l1.length with h1 | h1
          · have h2 : l2.length ≤ k := by omega
            rw [List.drop_eq_getElem_cons h1, List.drop_of_length_le h2] at hrun
            exact (Option.some.inj hrun).symm
          · rw [List.drop_of_length_le h1] at hrun
            exact (Option.some.inj hrun).symm
        subst hr
        have HB := Aside0.mk htw.below
        have hz1 : ¬ ((k : Int) < (l1.length : Int) ∧ (k : Int) < (l2.length : Int)) := by omega
        clear hrun htw
        first
          | (have hz : ¬ (k : Int) < (l2.length : Int) := by omega
             clear hz1 hlt
             go_wp2
             go_ret
             exact ⟨rfl, HB.out⟩)
          | (have hz : ¬ (k : Int) < (l1.length : Int) := by omega
             clear hz1 hlt
             go_wp2
             go_ret
             exact ⟨rfl, HB.out⟩)


end Go.Proofs.Ytfcbnheefipldaa.PM
