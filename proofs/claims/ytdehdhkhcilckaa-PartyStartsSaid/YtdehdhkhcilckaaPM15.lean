-- made by a program of this session (wip/tools/myprint.py over the kit's print) out of the translation; Lean checks it
import Derived.Test.YtdehdhkhcilckaaPM0
import Derived.Test.YtdehdhkhcilckaaPM14
namespace Go.Proofs.Ytdehdhkhcilckaa.PM
open Go.RowKit Go.Proofs.YtdehdhkhcilckaaW.PrintWords Go.Proofs.YtdehdhkhcilckaaW.PrintLast Go.Proofs.YtdehdhkhcilckaaW.PrintMore
attribute [local go_sem] max2_int min2_int max_two min_two max_three min_three max_four min_four   -- for this text's walks alone
attribute [local go_sem high] Go.Proofs.Ytdehdhkhcilckaa.My.str_leq Go.Proofs.Ytdehdhkhcilckaa.My.str_gtr Go.Proofs.Ytdehdhkhcilckaa.My.str_geq
set_option linter.unusedVariables false
set_option linter.unusedSimpArgs false

/-! ### slices_IndexFunc_55: an instance of function 62 -/
-- (by hand)
def slices_IndexFunc_55.p (x : S50) : Option Bool := party_watched_2.f x.f0 x.f1 x.f2.f0 x.f2.f1 x.f2.f2 x.f2.f3 x.f2.f4 x.f2.f5
def slices_IndexFunc_55.f (l0 : List S50) (_ : Unit) : Option Int := My.idxM slices_IndexFunc_55.p l0 0
set_option maxHeartbeats 1000000 in
theorem slices_IndexFunc_55.calls (A0 : Option Addr) (c0 : Nat) (l0 : List S50) (a1 : Unit) (r : Int) (w : World) (hr0 : Kd.C k50 w A0 l0.length l0) (hc0 : l0.length ≤ c0) (h : slices_IndexFunc_55.f l0 a1 = some r) :
    Calls Try.prog 62 #[.slice A0 l0.length c0, .func (.func 55) #[] #[]] w fun e w' => e = .returned (.int .i64 r) ∧ Below w.heap.size w w' := by
  have HR0 := Aside0.mk hr0
  have H := Aside0.mk (show My.idxM slices_IndexFunc_55.p l0 0 = some r from h)
  have hmx : l0.length ≤ 9223372036854775807 := hr0.2.1
  clear hr0 hc0 h
  go_enter Try.func62, Try.ntmps62
  go_wp2_with fail
  go_loopw [8] (fun i wr => ∃ k : Nat, i = .int .i64 k ∧ Aside0 (k ≤ l0.length ∧ My.idxM slices_IndexFunc_55.p (l0.drop k) k = some r ∧ Below w.heap.size w wr)) (fun i _ => l0.length - (intOf i).toNat)
  case atStart => exact ⟨0, rfl, ⟨Nat.zero_le _, H.out, Below.refl _ _⟩⟩
  case round =>
    obtain ⟨k, rfl, ⟨hk, hrun, hbl⟩⟩ := hrel
    clear H
    by_cases hlt : k < l0.length
    · obtain ⟨ad, rfl, h0, h1, h2, h3, h4, h5, h6, h7⟩ := at_T50 (Kd.C_below HR0.out hbl) (k : Int) (by omega) (by omega)
      have e1 : rd_T50 l0 (k : Int) = l0[k] := by simp [rd_T50, List.getElem?_eq_getElem hlt]
      rw [e1] at h0 h1 h2 h3 h4 h5 h6 h7
      simp only [Int.toNat_natCast] at h0 h1 h2 h3 h4 h5 h6 h7
      rw [List.drop_eq_getElem_cons hlt] at hrun
      clear e1
      generalize l0[k] = y at *
      obtain ⟨b, hp, hrun1⟩ := Option.bind_eq_some_iff.1 hrun
      have HP : Aside0 (party_watched_2.f y.f0 y.f1 y.f2.f0 y.f2.f1 y.f2.f2 y.f2.f3 y.f2.f4 y.f2.f5 = some b) := ⟨hp⟩
      have HB := Aside0.mk hbl
      clear hrun hp hbl
      have hz : (k : Int) < (l0.length : Int) := by omega
      cases b with
      | true =>
        have hr : r = k := (Option.some.inj hrun1).symm
        have HR := Aside0.mk hr
        clear hr hrun1
        go_wp2_with (go_at_call 55; (with_reducible refine (party_watched_2.calls y.f0 y.f1 y.f2.f0 y.f2.f1 y.f2.f2 y.f2.f3 y.f2.f4 y.f2.f5 true _ HP.out).mono ?_); rintro e w2 ⟨rfl, hb2⟩; have HB2 := Aside0.mk (below_step HB.out hb2); clear hb2)
        go_ret
        exact ⟨by rw [HR.out]; rfl, HB2.out⟩
      | false =>
        have HN := Aside0.mk (show My.idxM slices_IndexFunc_55.p (l0.drop (k + 1)) ((k : Int) + 1) = some r from hrun1)
        clear hrun1
        go_wp2_with (go_at_call 55; (with_reducible refine (party_watched_2.calls y.f0 y.f1 y.f2.f0 y.f2.f1 y.f2.f2 y.f2.f3 y.f2.f4 y.f2.f5 false _ HP.out).mono ?_); rintro e w2 ⟨rfl, hb2⟩; have HB2 := Aside0.mk (below_step HB.out hb2); clear hb2)
        go_roundw
        case rel => exact ⟨k + 1, by go_num, ⟨by omega, HN.out, HB2.out⟩⟩
        case measure => simp [intOf]; omega
    · have he : k = l0.length := by omega
      have hz : ¬ (k : Int) < (l0.length : Int) := by omega
      rw [he, List.drop_length] at hrun
      obtain rfl : -1 = r := Option.some.inj hrun
      have HB := Aside0.mk hbl
      clear hrun hbl he
      go_wp2
      go_ret
      exact ⟨rfl, HB.out⟩


end Go.Proofs.Ytdehdhkhcilckaa.PM
