-- made by a program of this session (wip/tools/myprint.py over the kit's print) out of the translation; Lean checks it
import Derived.Test.YtdehdhkhcilckaaPM0
import Derived.Test.YtdehdhkhcilckaaPM4
namespace Go.Proofs.Ytdehdhkhcilckaa.PM
open Go.RowKit Go.Proofs.YtdehdhkhcilckaaW.PrintWords Go.Proofs.YtdehdhkhcilckaaW.PrintLast Go.Proofs.YtdehdhkhcilckaaW.PrintMore
attribute [local go_sem] max2_int min2_int max_two min_two max_three min_three max_four min_four   -- for this text's walks alone
attribute [local go_sem high] Go.Proofs.Ytdehdhkhcilckaa.My.str_leq Go.Proofs.Ytdehdhkhcilckaa.My.str_gtr Go.Proofs.Ytdehdhkhcilckaa.My.str_geq
set_option linter.unusedVariables false
set_option linter.unusedSimpArgs false

/-! ### key_each_30: an instance of function 29 -/
-- (by hand)
def key_each_30.all : List UInt8 → Option Bool
  | [] => some true
  | b :: l => (key_Name_1.f (b.toNat : Int)).bind fun r => if r = true then key_each_30.all l else some false
def key_each_30.f (a0 : ByteArray) (a1 : Int) (_ : Unit) : Option Bool := if a1 > 1000 then none else if a0.toList = [] then some false else if (a0.size : Int) > a1 then some false else key_each_30.all a0.data.toList
set_option maxHeartbeats 1000000 in
theorem key_each_30.calls (a0 : ByteArray) (a1 : Int) (a2 : Unit) (r : Bool) (w : World) (h : key_each_30.f a0 a1 a2 = some r) :
    Calls Try.prog 29 #[.string a0, .int .i64 a1, .func (.func 30) #[] #[]] w fun e w' => e = .returned (.bool r) ∧ Below w.heap.size w w' := by
  unfold key_each_30.f at h
  by_cases c0 : a1 > 1000
  · rw [if_pos c0] at h; cases h
  rw [if_neg c0] at h
  by_cases c1 : a0.toList = []
  · rw [if_pos c1] at h
    clear c0
    obtain rfl := Option.some.inj h
    have d1 : (a0.toList == ([] : List UInt8)) = true := by simpa using c1
    clear h c1
    go_enter Try.func29, Try.ntmps29
    go_wp2_with fail
    go_ret
    exact ⟨rfl, Below.refl _ _⟩
  rw [if_neg c1] at h
  have d1 : (a0.toList == ([] : List UInt8)) = false := by simpa using c1
  clear c1
  by_cases c2 : (a0.size : Int) > a1
  · rw [if_pos c2] at h
    clear c0
    obtain rfl := Option.some.inj h
    have d2 : decide (a1 < (a0.size : Int)) = true := decide_eq_true c2
    clear h c2
    go_enter Try.func29, Try.ntmps29
    go_wp2_with fail
    go_ret
    exact ⟨rfl, Below.refl _ _⟩
  rw [if_neg c2] at h
  have d2 : decide (a1 < (a0.size : Int)) = false := decide_eq_false c2
  have LIM := Aside0.mk (show a0.size ≤ 1000 by omega)
  clear c2 c0
  have H := Aside0.mk h
  clear h
  have kc := fun (W : World) (s : ByteArray) => run_bytes_of_string (P := Try.prog) W 9 80 5 s Try.underlying9 Try.underlying80 Try.underlying5
  go_enter Try.func29, Try.ntmps29
  go_wp2_with fail
  generalize hW1 : (w.alloc (.cells (bytesRow a0 (grownCap w a0.size 0 5)) 5 ((bytesRow a0 (grownCap w a0.size 0 5)).size, (bytesRow a0 (grownCap w a0.size 0 5)).size + 1))).drew = W1
  have hc : ∀ j (hj : j < a0.data.toList.length), W1.cell? ⟨w.heap.size, j, none⟩ = some (.int .u8 (a0.data.toList[j].toNat : Int)) := by
    intro j hj
    rw [← hW1]
    refine (World.cell?_alloc_mark w _ _ _ j).trans ?_
    rw [bytesRow_at a0 _ j (by simpa using hj)]
    simp
  have hz1 : w.heap.size < W1.heap.size := by rw [← hW1]; show w.heap.size < (w.heap.push _).size; simp
  have hb1 : Below w.heap.size w W1 := by rw [← hW1]; exact below_drew1 (below_alloc (Below.refl _ _) _)
  have HC := Aside0.mk hc
  have HZ := Aside0.mk hz1
  have HB1 := Aside0.mk hb1
  have HS := Aside0.mk (show a0.size = a0.data.toList.length from rfl)
  clear hc hz1 hb1 hW1 kc
  go_loopw [20] (fun i wr => ∃ k : Nat, i = .int .i64 k ∧ Aside0 (k ≤ a0.data.toList.length ∧ key_each_30.all (a0.data.toList.drop k) = some r ∧ Below W1.heap.size W1 wr)) (fun i _ => a0.data.toList.length - (intOf i).toNat)
  case atStart => exact ⟨0, rfl, ⟨Nat.zero_le _, H.out, Below.refl _ _⟩⟩
  case round =>
    obtain ⟨k, rfl, ⟨hk, hrun, hbl⟩⟩ := hrel
    clear H
    by_cases hlt : k < a0.data.toList.length
    · have h0 := (hbl.cell (p := ⟨w.heap.size, k, none⟩) HZ.out).trans (HC.out k hlt)
      rw [List.drop_eq_getElem_cons hlt] at hrun
      generalize a0.data.toList[k] = y at *
      obtain ⟨b, hp, hrun1⟩ := Option.bind_eq_some_iff.1 hrun
      have HP : Aside0 (key_Name_1.f (y.toNat : Int) = some b) := ⟨hp⟩
      have HB := Aside0.mk hbl
      have HL := Aside0.mk hlt
      clear hrun hp hbl
      have hz : (k : Int) < (a0.size : Int) := by have := HS.out; omega
      have hz2 : k < a0.size := by omega
      cases b with
      | true =>
        have HN := Aside0.mk (show key_each_30.all (a0.data.toList.drop (k + 1)) = some r from hrun1)
        clear hrun1 hlt
        go_wp2_with (go_at_call 30; (with_reducible refine (key_Name_1.calls (y.toNat : Int) true _ HP.out).mono ?_); rintro e w2 ⟨rfl, hb2⟩; have HB2 := Aside0.mk (below_step HB.out hb2.below); clear hb2)
        go_roundw
        case rel => exact ⟨k + 1, by have := LIM.out; rw [My.w64 (by omega) (by omega)]; simp, ⟨by have := HL.out; omega, HN.out, HB2.out⟩⟩
        case measure => have := LIM.out; have := HL.out; have := HS.out; rw [My.w64 (by omega) (by omega)]; simp [intOf]; omega
      | false =>
        have hr : r = false := (Option.some.inj hrun1).symm
        have HR := Aside0.mk hr
        clear hr hrun1 hlt
        go_wp2_with (go_at_call 30; (with_reducible refine (key_Name_1.calls (y.toNat : Int) false _ HP.out).mono ?_); rintro e w2 ⟨rfl, hb2⟩; have HB2 := Aside0.mk (below_step HB.out hb2.below); clear hb2)
        go_ret
        exact ⟨by rw [HR.out]; rfl, below_then HB1.out (Nat.le_of_lt HZ.out) HB2.out⟩
    · have he : k = a0.data.toList.length := by omega
      have hz : ¬ (k : Int) < (a0.size : Int) := by have := HS.out; omega
      rw [he, List.drop_length] at hrun
      obtain rfl : true = r := Option.some.inj hrun
      have HB := Aside0.mk hbl
      clear hrun hbl he
      go_wp2
      go_ret
      exact ⟨rfl, below_then HB1.out (Nat.le_of_lt HZ.out) HB.out⟩


end Go.Proofs.Ytdehdhkhcilckaa.PM
