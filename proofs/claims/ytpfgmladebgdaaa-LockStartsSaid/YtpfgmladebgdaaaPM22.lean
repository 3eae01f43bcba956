-- made by a program of this session (wip/tools/myprint.py over the kit's print) out of the translation; Lean checks it
import Derived.Test.YtpfgmladebgdaaaPM0
import Derived.Test.YtpfgmladebgdaaaPM20
namespace Go.Proofs.Ytpfgmladebgdaaa.PM
open Go.RowKit Go.Proofs.YtpfgmladebgdaaaW.PrintWords Go.Proofs.YtpfgmladebgdaaaW.PrintLast Go.Proofs.YtpfgmladebgdaaaW.PrintMore
attribute [local go_sem] max2_int min2_int max_two min_two max_three min_three max_four min_four   -- for this text's walks alone
attribute [local go_sem high] Go.Proofs.Ytpfgmladebgdaaa.My.str_leq Go.Proofs.Ytpfgmladebgdaaa.My.str_gtr Go.Proofs.Ytpfgmladebgdaaa.My.str_geq
set_option linter.unusedVariables false
set_option linter.unusedSimpArgs false

/-! ### ticket_Place: function 54 -/
-- (by hand)
/-- The place of the first thing of a key, from i on; -1. -/
def ticket_Place.pl (k : ByteArray) : List S47 → Int → Int
  | [], _ => -1
  | x :: l, i => if x.f0.toList = k.toList then i else ticket_Place.pl k l (i + 1)
theorem ticket_Place.one (x : S47) (k : ByteArray) (g : Nat) (w : World) (hg : w.cell? ⟨g, 0, none⟩ = some (.string k)) : Calls Try.prog 59 #[.agg #[.string x.f0, .string x.f1, .int .i64 x.f2, .int .i64 x.f3, .int .i64 x.f4, .int .i64 x.f5], .pointer (some ⟨g, 0, none⟩)] w fun e w' => e = .returned (.bool (x.f0.toList == k.toList)) ∧ Below w.heap.size w w' := by
  have hu := Try.underlying47

  have hlt : g < w.heap.size := World.block_lt_of_cell? w _ hg

  go_enter Try.func59, Try.ntmps59

  go_wp2

  go_ret
  exact ⟨rfl, below_alloc (Below.refl _ _) _⟩
theorem ticket_Place.idx (A0 : Option Addr) (c0 : Nat) (l0 : List S47) (k : ByteArray) (g : Nat) (w : World) (hr0 : Kd.C k47 w A0 l0.length l0) (hg : w.cell? ⟨g, 0, none⟩ = some (.string k)) :
    Calls Try.prog 46 #[.slice A0 l0.length c0, .func (.func 59) #[] #[.pointer (some ⟨g, 0, none⟩)]] w fun e w' => e = .returned (.int .i64 (ticket_Place.pl k l0 0)) ∧ Below w.heap.size w w' := by
  have HR0 := Aside0.mk hr0
  have hmx : l0.length ≤ 9223372036854775807 := hr0.2.1
  have HG := Aside0.mk hg
  have hlt : g < w.heap.size := World.block_lt_of_cell? w _ hg
  clear hr0 hg
  obtain ⟨r, hr⟩ : ∃ r, r = ticket_Place.pl k l0 0 := ⟨_, rfl⟩
  rw [← hr]
  have H := Aside0.mk hr.symm
  clear hr
  go_enter Try.func46, Try.ntmps46
  go_wp2_with fail
  go_loopw [8] (fun i wr => ∃ j : Nat, i = .int .i64 j ∧ Aside0 (j ≤ l0.length ∧ ticket_Place.pl k (l0.drop j) j = r ∧ Below w.heap.size w wr)) (fun i _ => l0.length - (intOf i).toNat)
  case atStart => exact ⟨0, rfl, ⟨Nat.zero_le _, H.out, Below.refl _ _⟩⟩
  case round =>
    obtain ⟨j, rfl, ⟨hk, hrun, hbl⟩⟩ := hrel
    clear H
    by_cases hlt : j < l0.length
    · obtain ⟨ad, rfl, h0, h1, h2, h3, h4, h5⟩ := at_T47 (Kd.C_below HR0.out hbl) (j : Int) (by omega) (by omega)
      have e1 : rd_T47 l0 (j : Int) = l0[j] := by simp [rd_T47, List.getElem?_eq_getElem hlt]
      rw [e1] at h0 h1 h2 h3 h4 h5
      simp only [Int.toNat_natCast] at h0 h1 h2 h3 h4 h5
      rw [List.drop_eq_getElem_cons hlt] at hrun
      clear e1
      generalize l0[j] = y at *
      have HB := Aside0.mk hbl
      have hz : (j : Int) < (l0.length : Int) := by omega
      have HCG := Aside0.mk ((hbl.cell (p := ⟨g, 0, none⟩) (World.block_lt_of_cell? w _ HG.out)).trans HG.out)
      by_cases hb : y.f0.toList = k.toList
      · have hr : r = j := by rw [← hrun]; simp [ticket_Place.pl, hb]
        have HR := Aside0.mk hr
        have HQ := Aside0.mk hb
        clear hr hb hrun hbl
        go_wp2_with (go_at_call 59; (with_reducible refine (ticket_Place.one y k g _ HCG.out).mono ?_); rw [show (y.f0.toList == k.toList) = true from beq_iff_eq.2 HQ.out]; rintro e w2 ⟨rfl, hb2⟩; have HB2 := Aside0.mk (below_step HB.out hb2); clear hb2)
        go_ret
        exact ⟨by rw [HR.out]; rfl, HB2.out⟩
      · have HN := Aside0.mk (show ticket_Place.pl k (l0.drop (j + 1)) ((j : Int) + 1) = r by rw [← hrun]; simp [ticket_Place.pl, hb])
        have HQ := Aside0.mk hb
        clear hb hrun hbl
        go_wp2_with (go_at_call 59; (with_reducible refine (ticket_Place.one y k g _ HCG.out).mono ?_); rw [show (y.f0.toList == k.toList) = false from beq_eq_false_iff_ne.2 HQ.out]; rintro e w2 ⟨rfl, hb2⟩; have HB2 := Aside0.mk (below_step HB.out hb2); clear hb2)
        go_roundw
        case rel => exact ⟨j + 1, by go_num, ⟨by omega, HN.out, HB2.out⟩⟩
        case measure => simp [intOf]; omega
    · have he : j = l0.length := by omega
      have hz : ¬ (j : Int) < (l0.length : Int) := by omega
      rw [he, List.drop_length] at hrun
      obtain rfl : -1 = r := hrun
      have HB := Aside0.mk hbl
      clear hbl he
      go_wp2
      go_ret
      exact ⟨rfl, HB.out⟩
def ticket_Place.f (l0 : List (S47)) (a1 : ByteArray) : Option (Int) := if l0.length ≤ 20 then some (ticket_Place.pl a1 (SortT.tsort SortF.bf l0) 0) else none
set_option maxHeartbeats 1000000 in
theorem ticket_Place.calls (A0 : Option Addr) (c0 : Nat) (l0 : List (S47)) (a1 : ByteArray) (r : Int) (w : World) (hr0 : Kd.C k47 w A0 l0.length l0) (hc0 : l0.length ≤ c0) (h : ticket_Place.f l0 a1 = some r) :
    Calls Try.prog 54 #[.slice A0 l0.length c0, .string a1] w fun e w' => e = .returned (.int .i64 r) ∧ Below w.heap.size w w' := by
  unfold ticket_Place.f at h
  by_cases hl : l0.length ≤ 20
  rotate_left
  · rw [if_neg hl] at h
    exact absurd h (by simp)
  rw [if_pos hl] at h
  have HF := Aside0.mk (show ticket_Order.f l0 = some (SortT.tsort SortF.bf l0) by unfold ticket_Order.f; rw [if_pos hl])
  obtain rfl := Option.some.inj h
  generalize hs : SortT.tsort SortF.bf l0 = s at *
  have HR0 := Aside0.mk hr0
  have HC0 := Aside0.mk hc0
  have HA := Aside0.mk (below_alloc (Below.refl w.heap.size w) (Obj.cells #[Value.string a1] 9))
  clear hr0 hc0 h hl hs
  go_enter Try.func54, Try.ntmps54
  go_wp2_with (first | (go_at_call 53; refine (ticket_Order.calls A0 c0 l0 s _ ?hr HC0.out HF.out).mono ?_; (case hr => exact Kd.C_below HR0.out (below_alloc (Below.refl _ _) _)); rintro e w2 ⟨v, rfl, ho, hb⟩; obtain ⟨A1, c1, e1, hc1, hC1⟩ := Kd.R_reads ho; subst e1; have HC1 := Aside0.mk hC1; have HG := Aside0.mk ((hb.cell (p := ⟨w.heap.size, 0, none⟩) (by simp only [World.size_alloc]; omega)).trans ((World.cell?_alloc_mark w _ _ (0, 0) 0).trans rfl)); have HB := Aside0.mk (below_step HA.out hb); clear ho hb hC1) | ((with_reducible refine gate_callee (f := 46) rfl ?_); refine goesL_ (some 8) rfl rfl Try.func46 (by kernel_rfl) rfl #[.slice A1 s.length c1, .func (.func 59) #[] #[.pointer (some ⟨w.heap.size, 0, none⟩)]] rfl (by (try simp only [List.map_toArray, List.map_cons, List.map_nil]); first | done | rfl | (simp only [List.length_drop, List.length_take]; rfl)) ?_; refine (ticket_Place.idx A1 c1 s a1 w.heap.size _ HC1.out HG.out).mono ?_; rintro e w5 ⟨rfl, hb5⟩; refine ⟨_, rfl, ?_⟩; have HB5 := Aside0.mk (below_step HB.out hb5); clear hb5))
  go_ret
  exact ⟨rfl, HB5.out⟩


end Go.Proofs.Ytpfgmladebgdaaa.PM
