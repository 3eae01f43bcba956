-- made by a program of this session (wip/tools/myprint.py over the kit's print) out of the translation; Lean checks it
import Derived.Test.YtdehdhkhcilckaaPM0
import Derived.Test.YtdehdhkhcilckaaPM8
import Derived.Test.YtdehdhkhcilckaaPM10
namespace Go.Proofs.Ytdehdhkhcilckaa.PM
open Go.RowKit Go.Proofs.YtdehdhkhcilckaaW.PrintWords Go.Proofs.YtdehdhkhcilckaaW.PrintLast Go.Proofs.YtdehdhkhcilckaaW.PrintMore
attribute [local go_sem] max2_int min2_int max_two min_two max_three min_three max_four min_four   -- for this text's walks alone
attribute [local go_sem high] Go.Proofs.Ytdehdhkhcilckaa.My.str_leq Go.Proofs.Ytdehdhkhcilckaa.My.str_gtr Go.Proofs.Ytdehdhkhcilckaa.My.str_geq
set_option linter.unusedVariables false
set_option linter.unusedSimpArgs false

/-! ### key_Id: function 24 -/
-- (by hand)
def hexs : ByteArray := ⟨#[48, 49, 50, 51, 52, 53, 54, 55, 56, 57, 97, 98, 99, 100, 101, 102]⟩
/-- What the digits tell, behind id. -/
def hexId : Int → List UInt8 → Option (Int × Bool)
  | id, [] => some (id, true)
  | id, b :: l => if firstIdx hexs b < 0 then some (0, false) else if 0 ≤ id ∧ id < 1099511627776 then hexId (bits BinOp.or IntKind.i64 (id * 16) (firstIdx hexs b)) l else none
def key_Id.f (a0 : ByteArray) (a1 : ByteArray) : Option (Int × Bool) := (strings_CutPrefix.f a1 a0).bind fun bt => if bt.2 = true then (if (bt.1.size : Int) = 10 then hexId 0 bt.1.data.toList else some (0, false)) else some (0, false)
theorem u8_back (y : UInt8) : ((y.toNat : Int)).toNat.toUInt8 = y := by
  rw [Int.toNat_natCast]
  exact UInt8.ofNat_toNat
set_option maxHeartbeats 1000000 in
theorem key_Id.calls (a0 : ByteArray) (a1 : ByteArray) (r1 : Int) (r2 : Bool) (w : World) (h : key_Id.f a0 a1 = some (r1, r2)) :
    Calls Try.prog 24 #[.string a0, .string a1] w fun e w' => e = .returned (.tuple #[.int .i64 r1, .bool r2]) ∧ Below w.heap.size w w' := by
  unfold key_Id.f at h
  obtain ⟨⟨rest, is⟩, hcut, h⟩ := Option.bind_eq_some_iff.1 h
  have HCUT := Aside0.mk hcut
  clear hcut
  dsimp only at h
  cases is with
  | false =>
    rw [if_neg (by decide)] at h
    obtain ⟨rfl, rfl⟩ := Prod.mk.inj (Option.some.inj h)
    clear h
    go_enter Try.func24, Try.ntmps24
    go_wp2_with (go_at_call 34; (with_reducible refine (strings_CutPrefix.calls a1 a0 rest false _ HCUT.out).mono ?_); rintro e w1 ⟨rfl, hb1⟩; have HB1 := Aside0.mk hb1.below; clear hb1)
    go_ret2
    exact ⟨rfl, HB1.out⟩
  | true =>
    rw [if_pos rfl] at h
    by_cases c1 : (rest.size : Int) = 10
    rotate_left
    · rw [if_neg c1] at h
      obtain ⟨rfl, rfl⟩ := Prod.mk.inj (Option.some.inj h)
      have d1 : ((rest.size : Int) != 10) = true := by simpa using c1
      clear h c1
      go_enter Try.func24, Try.ntmps24
      go_wp2_with (go_at_call 34; (with_reducible refine (strings_CutPrefix.calls a1 a0 rest true _ HCUT.out).mono ?_); rintro e w1 ⟨rfl, hb1⟩; have HB1 := Aside0.mk hb1.below; clear hb1)
      go_ret2
      exact ⟨rfl, HB1.out⟩
    rw [if_pos c1] at h
    have d1 : ((rest.size : Int) != 10) = false := by simpa using c1
    have H := Aside0.mk h
    have LIM := Aside0.mk (show rest.size = 10 by omega)
    clear h c1
    have kc := fun (W : World) (s : ByteArray) => run_bytes_of_string (P := Try.prog) W 9 80 5 s Try.underlying9 Try.underlying80 Try.underlying5
    go_enter Try.func24, Try.ntmps24
    go_wp2_with (go_at_call 34; (with_reducible refine (strings_CutPrefix.calls a1 a0 rest true _ HCUT.out).mono ?_); rintro e w1 ⟨rfl, hb1⟩; have HB1 := Aside0.mk hb1.below; clear hb1)
    rename_i w1 K0 hK0
    generalize hW1 : (w1.alloc (.cells (bytesRow rest (grownCap w1 rest.size 0 5)) 5 ((bytesRow rest (grownCap w1 rest.size 0 5)).size, (bytesRow rest (grownCap w1 rest.size 0 5)).size + 1))).drew = W1
    have hc : ∀ j (hj : j < rest.data.toList.length), W1.cell? ⟨w1.heap.size, j, none⟩ = some (.int .u8 (rest.data.toList[j].toNat : Int)) := by
      intro j hj
      rw [← hW1]
      refine (World.cell?_alloc_mark w1 _ _ _ j).trans ?_
      rw [bytesRow_at rest _ j (by simpa using hj)]
      simp
    have hz1 : w1.heap.size < W1.heap.size := by rw [← hW1]; show w1.heap.size < (w1.heap.push _).size; simp
    have hb1 : Below w.heap.size w W1 := by rw [← hW1]; exact below_drew1 (below_alloc HB1.out _)
    have HC := Aside0.mk hc
    have HZ := Aside0.mk hz1
    have HB2 := Aside0.mk hb1
    have HS := Aside0.mk (show rest.size = rest.data.toList.length from rfl)
    have HLE := Aside0.mk (Nat.le_trans HB1.out.size (Nat.le_of_lt hz1))
    clear hc hz1 hb1 hW1 kc HB1
    go_loopw [28, 8] (fun i id wr => ∃ (k : Nat) (n : Int), i = .int .i64 k ∧ id = .int .i64 n ∧ Aside0 (k ≤ rest.data.toList.length ∧ hexId n (rest.data.toList.drop k) = some (r1, r2) ∧ Below W1.heap.size W1 wr)) (fun i _ _ => rest.data.toList.length - (intOf i).toNat)
    case atStart => exact ⟨0, 0, rfl, rfl, ⟨Nat.zero_le _, H.out, Below.refl _ _⟩⟩
    case round =>
      obtain ⟨k, n, rfl, rfl, ⟨hk, hrun, hbl⟩⟩ := hrel
      clear H
      by_cases hlt : k < rest.data.toList.length
      · have h0 := (hbl.cell (p := ⟨w1.heap.size, k, none⟩) HZ.out).trans (HC.out k hlt)
        rw [List.drop_eq_getElem_cons hlt] at hrun
        generalize rest.data.toList[k] = y at *
        have hix : strings_IndexByte.f hexs (y.toNat : Int) = some (firstIdx hexs y) := by
          show some (firstIdx hexs ((y.toNat : Int)).toNat.toUInt8) = _
          rw [u8_back]
        have HP := Aside0.mk (show strings_IndexByte.f (⟨#[48, 49, 50, 51, 52, 53, 54, 55, 56, 57, 97, 98, 99, 100, 101, 102]⟩ : ByteArray) (y.toNat : Int) = some (firstIdx hexs y) from hix)
        have HB := Aside0.mk hbl
        have HL := Aside0.mk hlt
        unfold hexId at hrun
        clear hix hbl
        have hz : (k : Int) < (rest.size : Int) := by have := HS.out; omega
        have hz2 : k < rest.size := by omega
        generalize firstIdx hexs y = m at *
        by_cases c2 : m < 0
        · rw [if_pos c2] at hrun
          obtain ⟨rfl, rfl⟩ := Prod.mk.inj (Option.some.inj hrun)
          have d2 : decide (m < 0) = true := decide_eq_true c2
          clear hrun hlt c2
          go_wp2_with (go_at_call 35; (with_reducible refine (strings_IndexByte.calls (⟨#[48, 49, 50, 51, 52, 53, 54, 55, 56, 57, 97, 98, 99, 100, 101, 102]⟩ : ByteArray) (y.toNat : Int) m _ HP.out).mono ?_); rintro e w2 ⟨rfl, hb2⟩; have HB3 := Aside0.mk (below_step HB.out hb2); clear hb2)
          go_ret2
          exact ⟨rfl, below_then HB2.out HLE.out HB3.out⟩
        rw [if_neg c2] at hrun
        have d2 : decide (m < 0) = false := decide_eq_false c2
        by_cases c3 : 0 ≤ n ∧ n < 1099511627776
        rotate_left
        · rw [if_neg c3] at hrun; cases hrun
        rw [if_pos c3] at hrun
        have HN := Aside0.mk hrun
        clear hrun hlt
        go_wp2_with (go_at_call 35; (with_reducible refine (strings_IndexByte.calls (⟨#[48, 49, 50, 51, 52, 53, 54, 55, 56, 57, 97, 98, 99, 100, 101, 102]⟩ : ByteArray) (y.toNat : Int) m _ HP.out).mono ?_); rintro e w2 ⟨rfl, hb2⟩; have HB3 := Aside0.mk (below_step HB.out hb2); clear hb2)
        have hw : wrap64 ((k : Int) + 1) = ((k + 1 : Nat) : Int) := by rw [My.w64 (by have := LIM.out; omega) (by have := LIM.out; omega)]; omega
        refine ⟨⟨k + 1, _, by rw [hw], rfl, ⟨by have := HL.out; omega, HN.out, HB3.out⟩⟩, ?_⟩
        rw [hw]
        have := HL.out
        simp [intOf]
        omega
      · have he : k = rest.data.toList.length := by omega
        have hz : ¬ (k : Int) < (rest.size : Int) := by have := HS.out; omega
        rw [he, List.drop_length] at hrun
        obtain ⟨rfl, rfl⟩ := Prod.mk.inj (Option.some.inj hrun)
        have HB := Aside0.mk hbl
        clear hrun hbl he
        go_wp2
        go_ret2
        exact ⟨rfl, below_then HB2.out HLE.out HB.out⟩


end Go.Proofs.Ytdehdhkhcilckaa.PM
