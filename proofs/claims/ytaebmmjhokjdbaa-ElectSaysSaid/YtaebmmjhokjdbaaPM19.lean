-- made by a program of this session (wip/tools/myprint.py over the kit's print) out of the translation; Lean checks it
import Derived.Test.YtaebmmjhokjdbaaPM0
namespace Go.Proofs.Ytaebmmjhokjdbaa.PM
open Go.RowKit Go.Proofs.YtaebmmjhokjdbaaW.PrintWords Go.Proofs.YtaebmmjhokjdbaaW.PrintLast Go.Proofs.YtaebmmjhokjdbaaW.PrintMore
attribute [local go_sem] max2_int min2_int max_two min_two max_three min_three max_four min_four   -- for this text's walks alone
attribute [local go_sem high] Go.Proofs.Ytaebmmjhokjdbaa.My.str_leq Go.Proofs.Ytaebmmjhokjdbaa.My.str_gtr Go.Proofs.Ytaebmmjhokjdbaa.My.str_geq
set_option linter.unusedVariables false
set_option linter.unusedSimpArgs false

/-! ### api_KV_73: function 73 -/
-- (by hand)
/-- Grow of nothing: a row of no element, of the call's own. -/
def api_KV_73.GrowPost (w : World) (e : Ending) (w' : World) : Prop := ∃ v, e = .returned v ∧ Kd.R k26 26 w' w.heap.size (fun _ => True) v [] ∧ Below w.heap.size w w'
set_option maxHeartbeats 1000000 in
theorem api_KV_73.grow (n : Int) (w : World) (h0 : 0 ≤ n) (hn : n < 2199023255552) : Calls Try.prog 77 #[.slice none 0 0, .int .i64 n] w (api_KV_73.GrowPost w) := by
  have hi := info26
  have d0 : decide (n < 0) = false := decide_eq_false (by omega)
  by_cases hp : n = 0
  · subst hp
    clear h0 hn d0
    go_enter Try.func77, Try.ntmps77
    go_wp2
    go_ret
    exact ⟨_, rfl, Kd.R_nil _ _ _ _ _, Below.refl _ _⟩
  · have d1 : decide (0 < n) = true := decide_eq_true (by omega)
    have HN := Aside0.mk (And.intro h0 hn)
    have e0 : IntKind.i64.wrap (n - IntKind.i64.wrap (0 - 0)) = n := by
      rw [IntWalk.i64_left, IntWalk.i64_left]; unfold wrap64; omega
    clear hp
    go_enter Try.func77, Try.ntmps77
    go_wp2_with (at_builtin; refine Kd.R_append_zeros k26 (w0 := w) w.heap.size rfl (.tmp 20) (.tmp 21) 22 3 26 (.agg #[(.string ⟨#[]⟩), (.string ⟨#[]⟩), (.int .i64 0), (.int .i64 0), (.int .i64 0), (.int .i64 0)]) 64 rfl Try.underlying22 Try.underlying3 hi rfl (by decide) (by omega) (.slice none 0 0) [] z26 n (fun _ => True) rfl rfl (by exact k26_mkM _ _ _ _) (fun _ _ => trivial) (Kd.R_nil _ _ _ _ _) HN.out.1 (Below.refl _ _) (Nat.le_refl _) (by have := HN.out.2; simp; omega) ?_; intro v1 w1 hR hB hG hat; obtain ⟨A1, c1, rfl⟩ := Kd.R_slice hR; have HR1 := Aside0.mk hR; have HB1 := Aside0.mk hB; clear hR hB hG hat)
    go_ret
    exact ⟨_, rfl, Kd.R_take (m := 0) HR1.out (Nat.zero_le _), HB1.out⟩
def api_KV_73.f (l0 : List (List S26)) : Option (List S26) := if l0.flatten.length < 2199023255552 then some l0.flatten else none
theorem api_KV_73.sum (l : List (List S26)) (k : Nat) (h : k < l.length) : (l.take (k + 1)).flatten = (l.take k).flatten ++ l[k] := by
  rw [List.take_succ_eq_append_getElem h, List.flatten_append]
  simp
theorem api_KV_73.le (l : List (List S26)) (k : Nat) : (l.take k).flatten.length ≤ l.flatten.length := by
  conv => rhs; rw [← List.take_append_drop k l, List.flatten_append, List.length_append]
  omega
set_option maxHeartbeats 1000000 in
theorem api_KV_73.calls (A0 : Option Addr) (c0 : Nat) (l0 : List (List (S26))) (r : List (S26)) (w : World) (hr0 : Kd.C (Kd.slice 26 k26) w A0 l0.length l0) (hc0 : l0.length ≤ c0) (h : api_KV_73.f l0 = some r) :
    Calls Try.prog 73 #[.slice A0 l0.length c0] w fun e w' => ∃ v0_ : Value, e = .returned (v0_) ∧ Kd.R k26 26 w' w.heap.size (fun _ => True) v0_ r ∧ Below w.heap.size w w' := by
  have HR0 := Aside0.mk hr0
  have hmx : l0.length ≤ 9223372036854775807 := hr0.2.1
  unfold api_KV_73.f at h
  by_cases hlim : l0.flatten.length < 2199023255552
  rotate_left
  · rw [if_neg hlim] at h
    exact absurd h (by simp)
  rw [if_pos hlim] at h
  obtain rfl := Option.some.inj h
  have HL := Aside0.mk hlim
  clear hr0 hc0 h hlim
  go_enter Try.func73, Try.ntmps73
  go_wp2_with fail
  go_loop [3, 11] (fun s i => ∃ k : Nat, s = .int .i64 ((l0.take k).flatten.length : Nat) ∧ i = .int .i64 k ∧ k ≤ l0.length) (fun _ i => l0.length - (intOf i).toNat)
  case atStart => exact ⟨0, rfl, rfl, Nat.zero_le _⟩
  case round =>
    obtain ⟨k, rfl, rfl, hk⟩ := hrel
    by_cases hlt : k < l0.length
    · obtain ⟨ad, A1, c1, rfl, h0, h1, _⟩ := at_L3 HR0.out (k : Int) (by omega) (by omega)
      have e1 : rd_L3 l0 (k : Int) = l0[k] := by simp [rd_L3, List.getElem?_eq_getElem hlt]
      rw [e1] at h0
      simp only [Int.toNat_natCast] at h0
      have hs := api_KV_73.sum l0 k hlt
      have hl1 := api_KV_73.le l0 (k + 1)
      have hl := HL.out
      rw [hs, List.length_append] at hl1
      have HS : Aside0 ((l0.take (k + 1)).flatten.length = (l0.take k).flatten.length + l0[k].length) := ⟨by rw [hs, List.length_append]⟩
      clear hs e1 h1
      generalize (l0.take k).flatten.length = m at *
      generalize l0[k] = y at *
      have hz : (k : Int) < (l0.length : Int) := by omega
      have hm : (m : Int) + (y.length : Int) < 2199023255552 := by omega
      have hm0 : ¬ ((m : Int) + (y.length : Int) < 0) := by omega
      clear hl hl1
      go_wp2
      go_round
      case rel => exact ⟨k + 1, by rw [HS.out]; go_num, by go_num, by omega⟩
      case measure => simp [intOf]; omega
    · have he : k = l0.length := by omega
      have hz : ¬ (k : Int) < (l0.length : Int) := by omega
      have ht : (l0.take k).flatten.length = l0.flatten.length := by rw [he, List.take_length]
      have HT := Aside0.mk ht
      clear he ht
      generalize (l0.take k).flatten.length = m at *
      go_wp2_with fail
      refine (api_KV_73.grow (m : Int) _ (by omega) (by rw [HT.out]; exact Int.ofNat_lt.mpr HL.out)).mono ?_
      rintro e w1 ⟨v, rfl, hR, hB⟩
      have HR1 := Aside0.mk (And.intro hR hB)
      clear hR hB hz
      go_wp2_with fail
      go_loopw [6, 27] (fun s i wr => ∃ (k : Nat) (v : Value), s = v ∧ i = .int .i64 k ∧ Aside0 (k ≤ l0.length ∧ Kd.R k26 26 wr w.heap.size (fun _ => True) v (l0.take k).flatten ∧ Below w.heap.size w wr)) (fun _ i _ => l0.length - (intOf i).toNat)
      case atStart => exact ⟨0, _, rfl, rfl, ⟨Nat.zero_le _, HR1.out.1, HR1.out.2⟩⟩
      case round =>
        obtain ⟨j, v2, hs, rfl, ⟨hj, hR, hB⟩⟩ := hrel
        obtain rfl := hs.symm
        clear HR1
        by_cases hlt : j < l0.length
        · obtain ⟨ad, A1, c1, rfl, h0, h1, h2⟩ := at_L3 (Kd.C_below HR0.out hB) (j : Int) (by omega) (by omega)
          have e1 : rd_L3 l0 (j : Int) = l0[j] := by simp [rd_L3, List.getElem?_eq_getElem hlt]
          rw [e1] at h0 h1 h2
          simp only [Int.toNat_natCast] at h0
          have HS := Aside0.mk (api_KV_73.sum l0 j hlt)
          have HN : Aside0 ((l0.take j).flatten.length + l0[j].length < 2199023255552) := ⟨by
            have hl1 := api_KV_73.le l0 (j + 1)
            rw [api_KV_73.sum l0 j hlt, List.length_append] at hl1
            exact Nat.lt_of_le_of_lt hl1 HL.out⟩
          have H2 := Aside0.mk h2
          have HRO := Aside0.mk hR
          have HBO := Aside0.mk hB
          clear h1 h2 hR hB e1
          generalize hy : l0[j] = y at *
          have HY := Aside0.mk hy
          clear hy
          have hz : (j : Int) < (l0.length : Int) := by omega
          go_wp2_with (at_builtin; refine Kd.R_append_rows k26 (w0 := w) w.heap.size rfl (.tmp 31) (.tmp 32) 22 26 (.agg #[(.string ⟨#[]⟩), (.string ⟨#[]⟩), (.int .i64 0), (.int .i64 0), (.int .i64 0), (.int .i64 0)]) 64 rfl Try.underlying22 info26 rfl (by decide) (by omega) v2 (l0.take j).flatten y _ _ _ (fun _ => True) (fun _ => False) rfl rfl HRO.out H2.out (fun x cs hx => by obtain rfl := k26_open hx; exact k26_mkM _ _ _ x) (fun _ h => h.elim) (fun _ _ => trivial) HBO.out HBO.out.size (by have := HN.out; omega) ?_; intro v3 w3 hR3 hB3 _ _; have HR3 := Aside0.mk (And.intro hR3 hB3); clear hR3 hB3)
          go_roundw
          case rel => exact ⟨j + 1, _, rfl, by go_num, ⟨by omega, by rw [HS.out]; exact HR3.out.1, HR3.out.2⟩⟩
          case measure => simp [intOf]; omega
        · have hj2 : j = l0.length := by omega
          have hz : ¬ (j : Int) < (l0.length : Int) := by omega
          have HF : Aside0 (Kd.R k26 26 wr w.heap.size (fun _ => True) v2 l0.flatten ∧ Below w.heap.size w wr) := ⟨by rw [hj2, List.take_length] at hR; exact ⟨hR, hB⟩⟩
          clear hR hB hj2
          go_wp2
          go_ret
          exact ⟨_, rfl, HF.out.1, HF.out.2⟩


end Go.Proofs.Ytaebmmjhokjdbaa.PM
