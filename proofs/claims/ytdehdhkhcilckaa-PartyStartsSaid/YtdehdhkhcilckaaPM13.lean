-- made by a program of this session (wip/tools/myprint.py over the kit's print) out of the translation; Lean checks it
import Derived.Test.YtdehdhkhcilckaaPM0
namespace Go.Proofs.Ytdehdhkhcilckaa.PM
open Go.RowKit Go.Proofs.YtdehdhkhcilckaaW.PrintWords Go.Proofs.YtdehdhkhcilckaaW.PrintLast Go.Proofs.YtdehdhkhcilckaaW.PrintMore
attribute [local go_sem] max2_int min2_int max_two min_two max_three min_three max_four min_four   -- for this text's walks alone
attribute [local go_sem high] Go.Proofs.Ytdehdhkhcilckaa.My.str_leq Go.Proofs.Ytdehdhkhcilckaa.My.str_gtr Go.Proofs.Ytdehdhkhcilckaa.My.str_geq
set_option linter.unusedVariables false
set_option linter.unusedSimpArgs false

/-! ### hist_is: function 61 -/
-- (by hand)
theorem hist_is.one (x : S43) (k : ByteArray) (g : Nat) (w : World) (hg : w.cell? ⟨g, 0, none⟩ = some (.string k)) : Calls Try.prog 63 #[.agg #[.string x.f0, .string x.f1, .int .i64 x.f2, .int .i64 x.f3, .int .i64 x.f4, .int .i64 x.f5], .pointer (some ⟨g, 0, none⟩)] w fun e w' => e = .returned (.bool (x.f0.toList == k.toList)) ∧ Below w.heap.size w w' := by
  have hu := Try.underlying43

  have hlt : g < w.heap.size := World.block_lt_of_cell? w _ hg

  go_enter Try.func63, Try.ntmps63

  go_wp2

  go_ret
  exact ⟨rfl, below_alloc (Below.refl _ _) _⟩
theorem hist_is.made (k : ByteArray) (w : World) : Calls Try.prog 61 #[.string k] w fun e w' => e = .returned (.func (.func 63) #[] #[.pointer (some ⟨w.heap.size, 0, none⟩)]) ∧ w'.cell? ⟨w.heap.size, 0, none⟩ = some (.string k) ∧ Below w.heap.size w w' := by
  go_enter Try.func61, Try.ntmps61
  go_wp2
  go_ret
  exact ⟨rfl, (World.cell?_alloc_mark w _ _ (0, 0) 0).trans rfl, below_alloc (Below.refl _ _) _⟩
/-- The place of the first thing of a key, from i on; -1. -/
def hist_is.pl (k : ByteArray) : List S43 → Int → Int
  | [], _ => -1
  | x :: l, i => if x.f0.toList = k.toList then i else hist_is.pl k l (i + 1)
theorem hist_is.idx (A0 : Option Addr) (c0 : Nat) (l0 : List S43) (k : ByteArray) (g : Nat) (w : World) (hr0 : Kd.C k43 w A0 l0.length l0) (hg : w.cell? ⟨g, 0, none⟩ = some (.string k)) :
    Calls Try.prog 60 #[.slice A0 l0.length c0, .func (.func 63) #[] #[.pointer (some ⟨g, 0, none⟩)]] w fun e w' => e = .returned (.int .i64 (hist_is.pl k l0 0)) ∧ Below w.heap.size w w' := by
  have HR0 := Aside0.mk hr0
  have hmx : l0.length ≤ 9223372036854775807 := hr0.2.1
  have HG := Aside0.mk hg
  have hlt : g < w.heap.size := World.block_lt_of_cell? w _ hg
  clear hr0 hg
  obtain ⟨r, hr⟩ : ∃ r, r = hist_is.pl k l0 0 := ⟨_, rfl⟩
  rw [← hr]
  have H := Aside0.mk hr.symm
  clear hr
  go_enter Try.func60, Try.ntmps60
  go_wp2_with fail
  go_loopw [8] (fun i wr => ∃ j : Nat, i = .int .i64 j ∧ Aside0 (j ≤ l0.length ∧ hist_is.pl k (l0.drop j) j = r ∧ Below w.heap.size w wr)) (fun i _ => l0.length - (intOf i).toNat)
  case atStart => exact ⟨0, rfl, ⟨Nat.zero_le _, H.out, Below.refl _ _⟩⟩
  case round =>
    obtain ⟨j, rfl, ⟨hk, hrun, hbl⟩⟩ := hrel
    clear H
    by_cases hlt : j < l0.length
    · obtain ⟨ad, rfl, h0, h1, h2, h3, h4, h5⟩ := at_T43 (Kd.C_below HR0.out hbl) (j : Int) (by omega) (by omega)
      have e1 : rd_T43 l0 (j : Int) = l0[j] := by simp [rd_T43, List.getElem?_eq_getElem hlt]
      rw [e1] at h0 h1 h2 h3 h4 h5
      simp only [Int.toNat_natCast] at h0 h1 h2 h3 h4 h5
      rw [List.drop_eq_getElem_cons hlt] at hrun
      clear e1
      generalize l0[j] = y at *
      have HB := Aside0.mk hbl
      have hz : (j : Int) < (l0.length : Int) := by omega
      have HCG := Aside0.mk ((hbl.cell (p := ⟨g, 0, none⟩) (World.block_lt_of_cell? w _ HG.out)).trans HG.out)
      by_cases hb : y.f0.toList = k.toList
      · have hr : r = j := by rw [← hrun]; simp [hist_is.pl, hb]
        have HR := Aside0.mk hr
        have HQ := Aside0.mk hb
        clear hr hb hrun hbl
        go_wp2_with (go_at_call 63; (with_reducible refine (hist_is.one y k g _ HCG.out).mono ?_); rw [show (y.f0.toList == k.toList) = true from beq_iff_eq.2 HQ.out]; rintro e w2 ⟨rfl, hb2⟩; have HB2 := Aside0.mk (below_step HB.out hb2); clear hb2)
        go_ret
        exact ⟨by rw [HR.out]; rfl, HB2.out⟩
      · have HN := Aside0.mk (show hist_is.pl k (l0.drop (j + 1)) ((j : Int) + 1) = r by rw [← hrun]; simp [hist_is.pl, hb])
        have HQ := Aside0.mk hb
        clear hb hrun hbl
        go_wp2_with (go_at_call 63; (with_reducible refine (hist_is.one y k g _ HCG.out).mono ?_); rw [show (y.f0.toList == k.toList) = false from beq_eq_false_iff_ne.2 HQ.out]; rintro e w2 ⟨rfl, hb2⟩; have HB2 := Aside0.mk (below_step HB.out hb2); clear hb2)
        go_roundw
        case rel => exact ⟨j + 1, by go_num, ⟨by omega, HN.out, HB2.out⟩⟩
        case measure => simp [intOf]; omega
    · have he : j = l0.length := by omega
      have hz : ¬ (j : Int) < (l0.length : Int) := by omega
      rw [he, List.drop_length] at hrun
      obtain rfl : -1 = r := hrun
      have HB := Aside0.mk hbl
      clear hbl he
      go_wp2
      go_ret
      exact ⟨rfl, HB.out⟩
theorem hist_is.pl_lt (k : ByteArray) : ∀ (l : List S43) (i : Int), 0 ≤ i → hist_is.pl k l i = -1 ∨ (i ≤ hist_is.pl k l i ∧ hist_is.pl k l i < i + (l.length : Int))
  | [], i, h => .inl rfl
  | x :: l, i, h => by
    unfold hist_is.pl
    split
    · right; simp; omega
    · rcases hist_is.pl_lt k l (i + 1) (by omega) with e | e
      · exact .inl e
      · right; simp; omega
def hist_is.f (k : ByteArray) : Option ByteArray := some k
theorem hist_is.calls (k t : ByteArray) (w : World) (h : hist_is.f k = some t) : Calls Try.prog 61 #[.string k] w fun e w' => ∃ g : Nat, e = .returned (.func (.func 63) #[] #[.pointer (some ⟨g, 0, none⟩)]) ∧ w'.cell? ⟨g, 0, none⟩ = some (.string t) ∧ Below w.heap.size w w' := by
  obtain rfl := Option.some.inj h
  exact (hist_is.made k w).mono (fun e w' h => ⟨_, h⟩)
def hist_is_ix.f (l0 : List S43) (k : ByteArray) : Option Int := some (hist_is.pl k l0 0)
theorem hist_is_ix.calls (A0 : Option Addr) (c0 : Nat) (l0 : List S43) (k : ByteArray) (r : Int) (w : World) {g : Nat} {W : World} (hcl : W.cell? ⟨g, 0, none⟩ = some (.string k)) (hr0 : Kd.C k43 w A0 l0.length l0) (hc0 : l0.length ≤ c0) (h : hist_is_ix.f l0 k = some r) (hw : W.cell? ⟨g, 0, none⟩ = w.cell? ⟨g, 0, none⟩ := by rfl) :
    Calls Try.prog 60 #[.slice A0 l0.length c0, .func (.func 63) #[] #[.pointer (some ⟨g, 0, none⟩)]] w fun e w' => e = .returned (.int .i64 r) ∧ Below w.heap.size w w' := by
  obtain rfl := Option.some.inj h
  exact hist_is.idx A0 c0 l0 k g w hr0 (hw ▸ hcl)


end Go.Proofs.Ytdehdhkhcilckaa.PM
