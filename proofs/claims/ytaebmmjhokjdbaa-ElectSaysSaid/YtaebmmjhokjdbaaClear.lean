/- The builtin clear of a row of structs of six cells (api.KV), and the relation of a row to what was read of it ahead of its stores (slices.CompactFunc). -/
import Derived.Test.YtaebmmjhokjdbaaPM0
import Derived.Test.YtaebmmjhokjdbaaMy
import Derived.Lib.SliceRun
namespace Go.Proofs.Ytaebmmjhokjdbaa.PM
open Go.RowKit Go.Proofs.YtaebmmjhokjdbaaW.PrintWords Go.Proofs.YtaebmmjhokjdbaaW.PrintLast Go.Proofs.YtaebmmjhokjdbaaW.PrintMore
set_option linter.unusedVariables false
set_option linter.unusedSimpArgs false
namespace Clr
def zs : List Value := [.string ⟨#[]⟩, .string ⟨#[]⟩, .int .i64 0, .int .i64 0, .int .i64 0, .int .i64 0]
def zl : Nat → List Value
  | 0 => []
  | n + 1 => zs ++ zl n
theorem zl_len : ∀ n, (zl n).length = n * 6
  | 0 => rfl
  | n + 1 => by rw [zl, List.length_append, zl_len n]; show 6 + n * 6 = _; omega
theorem zl_get : ∀ (n j : Nat), j < n * 6 → (zl n)[j]? = some (zs.toArray[j % 6]!)
  | 0, j, h => by omega
  | n + 1, j, h => by
    rw [zl]
    by_cases c : j < 6
    · rw [List.getElem?_append_left (by exact c)]
      match j, c with
      | 0, _ => rfl
      | 1, _ => rfl
      | 2, _ => rfl
      | 3, _ => rfl
      | 4, _ => rfl
      | 5, _ => rfl
    · rw [List.getElem?_append_right (by exact (by omega : 6 ≤ j))]
      show (zl n)[j - 6]? = _
      rw [zl_get n (j - 6) (by omega), show j % 6 = (j - 6) % 6 by omega]
theorem zc (n : Nat) : (Builtin.zeroCells #[.string ⟨#[]⟩, .string ⟨#[]⟩, .int .i64 0, .int .i64 0, .int .i64 0, .int .i64 0] n).toList = zl n := by
  apply List.ext_getElem?
  intro j
  by_cases c : j < n * 6
  · rw [zl_get n j c]
    unfold Builtin.zeroCells
    simp [c, zs]
  · rw [List.getElem?_eq_none (l := (Builtin.zeroCells _ n).toList) (by unfold Builtin.zeroCells; simp; omega), List.getElem?_eq_none (l := zl n) (by rw [zl_len]; omega)]
theorem zl_one : ∀ n, ∀ v ∈ zl n, v.oneCell' = true
  | 0, v, h => by simp [zl] at h
  | n + 1, v, h => by
    rw [zl, List.mem_append] at h
    rcases h with h | h
    · simp only [zs, List.mem_cons, List.not_mem_nil, or_false] at h
      rcases h with rfl | rfl | rfl | rfl | rfl | rfl <;> rfl
    · exact zl_one n v h
theorem app (b : Nat) : ∀ (x y : List Value) (o : Nat) (w : World), w.setCells b o (x ++ y) = (w.setCells b o x).setCells b (o + x.length) y
  | [], y, o, w => rfl
  | v :: x, y, o, w => by
    show (w.setCell _ v).setCells b (o + 1) (x ++ y) = _
    rw [app b x y (o + 1)]
    show _ = ((w.setCell _ v).setCells b (o + 1) x).setCells b (o + (x.length + 1)) y
    rw [show o + 1 + x.length = o + (x.length + 1) by omega]
theorem below {g : Nat} {w0 : World} (hg : w0.heap.size ≤ g) : ∀ (vs : List Value) (o : Nat) (w : World), Below w0.heap.size w0 w → Below w0.heap.size w0 (w.setCells g o vs)
  | [], o, w, h => h
  | v :: r, o, w, h => below hg r (o + 1) _ (below_set h hg)
/-- What a row has behind a clear of all from place k on. -/
theorem row {base g cap L : Nat} {ok : Nat → Prop} : ∀ (n k : Nat) {W : World} {xs : List S26}, Kd.R k26 26 W base ok (.slice (some ⟨g, 0, none⟩) L cap) xs → k + n = L →
    ∃ ys : List S26, ys.length = L ∧ ys.take k = xs.take k ∧ Kd.R k26 26 (W.setCells g (k * 6) (zl n)) base ok (.slice (some ⟨g, 0, none⟩) L cap) ys ∧ W.grownBy (W.setCells g (k * 6) (zl n)) (some g)
  | 0, k, W, xs, h, hk => ⟨xs, ((Kd.R_reads' h).1).symm, rfl, h, ⟨rfl, rfl, rfl, Nat.le_refl _, fun _ _ _ => rfl⟩⟩
  | n + 1, k, W, xs, h, hk => by
    have hl := (Kd.R_reads' h).1
    obtain ⟨c, hcl, hM, hcc, hfr⟩ := Kd.R_elem h z26 (k : Int) (by omega) (by omega)
    obtain ⟨h1, g1⟩ := Kd.R_seg h (k : Int) (by omega) (by omega) (seg := zs) (j := 0) (okp := fun _ => False) hcl hcc (show 6 ≤ 6 from by decide) (x' := z26) (by rw [List.take_zero, List.nil_append, List.drop_eq_nil_of_le (by rw [hcl]; exact Nat.le_refl _), List.append_nil]; exact k26_mkM _ _ _ z26) (fun _ hk => hk.elim)
    simp only [Int.toNat_natCast, Nat.add_zero] at h1 g1
    change Kd.R k26 26 (W.setCells g (k * 6) zs) base ok _ (xs.set k z26) at h1
    change W.grownBy (W.setCells g (k * 6) zs) (some g) at g1
    obtain ⟨ys, e1, e2, h2, g2⟩ := row n (k + 1) h1 (by omega)
    have e : W.setCells g (k * 6) (zl (n + 1)) = (W.setCells g (k * 6) zs).setCells g ((k + 1) * 6) (zl n) := by
      rw [zl, app]
      show _ = _
      rw [show k * 6 + zs.length = (k + 1) * 6 by show k * 6 + 6 = _; omega]
    rw [e]
    refine ⟨ys, e1, ?_, h2, g1.trans g2⟩
    have := congrArg (List.take k) e2
    rw [List.take_take, List.take_take, Nat.min_eq_left (by omega)] at this
    rw [this]
    apply List.ext_getElem?
    intro j
    by_cases c : j < k
    · rw [List.getElem?_take_of_lt c, List.getElem?_take_of_lt c, List.getElem?_set_ne (by omega)]
    · rw [List.getElem?_eq_none (by rw [List.length_take]; omega), List.getElem?_eq_none (by rw [List.length_take]; omega)]
theorem cell_some {base g cap L : Nat} {ok : Nat → Prop} {W : World} {xs : List S26} (h : Kd.R k26 26 W base ok (.slice (some ⟨g, 0, none⟩) L cap) xs) (j : Nat) (hj : j < L * 6) : (W.cell? ⟨g, j, none⟩).isSome = true ∧ W.frozen? ⟨g, j, none⟩ = false := by
  obtain ⟨c, hcl, hM, hcc, hfr⟩ := Kd.R_elem h z26 ((j / 6 : Nat) : Int) (by omega) (by omega)
  have hcl : c.length = 6 := hcl
  have e : ((j / 6 : Nat) : Int).toNat * k26.sz + j % 6 = j := by
    rw [Int.toNat_natCast]
    show j / 6 * 6 + j % 6 = j
    omega
  have h1 := hcc (j % 6) _ (List.getElem?_eq_getElem (show j % 6 < c.length by omega))
  have h2 := hfr (j % 6)
  rw [e] at h1 h2
  exact ⟨by rw [h1]; rfl, h2⟩
/-- The builtin clear of what stands from place k on. -/
theorem run {P : Program} {base g cap L k : Nat} {ok : Nat → Prop} {W : World} {xs : List S26} {A : Option Addr} {c : Nat} {t ty : TypeId} (h : Kd.R k26 26 W base ok (.slice (some ⟨g, 0, none⟩) L cap) xs) (n : Nat) (hk : k + n = L) (ht : P.underlying t = some (.slice 26)) (hz : ∀ w, (zeroValue 26).run P w = .ok (.agg #[.string ⟨#[]⟩, .string ⟨#[]⟩, .int .i64 0, .int .i64 0, .int .i64 0, .int .i64 0]) w)
    (hA : A = if cap = k then (some ⟨g, 0, none⟩ : Option Addr) else (some ⟨g, 0, none⟩ : Option Addr).map (·.add (k * 6))) :
    (Builtin.clear_ #[t] ty #[.slice A n c]).run P W = .ok (.tuple #[]) (W.setCells g (k * 6) (zl n)) := by
  have hle := (Kd.R_reads' h).2.1
  have hl := (Kd.R_reads' h).1
  by_cases hn : n = 0
  · subst hn
    cases A <;> simp [Builtin.clear_, run_underlying ht, zl] <;> rfl
  · rw [if_neg (by omega)] at hA
    obtain rfl : A = some ⟨g, k * 6, none⟩ := by rw [hA]; simp only [Option.map_some]; rw [add_plain]
    obtain ⟨m, rfl⟩ : ∃ m, n = m + 1 := ⟨n - 1, by omega⟩
    have hst := run_storeCells_cells (P := P) g (k * 6) (zl (m + 1)) 0 W (by intro j hj; rw [zl_len] at hj; exact (cell_some h _ (by omega)).1) (by intro j hj; rw [zl_len] at hj; exact (cell_some h _ (by omega)).2) (zl_one _)
    simp only [Nat.add_zero] at hst
    have hzc := zc (m + 1)
    simp only [Builtin.clear_, run_underlying ht, hz]
    simp [hz, hzc, hst, run_underlying ht, Value.cells]
/-- Row x, stored into up to place k, beside what was read of it from place m on (y), at place k2 of that. -/
def INV (m : Int) (y x : List S26) (k k2 : Int) : Prop := 1 ≤ k2 ∧ k ≤ m + k2 - 1 ∧ ∀ j : Int, k2 - 1 ≤ j → rd_T26 (x.drop m.toNat) j = rd_T26 y j
theorem inv0 {m : Int} {y x : List S26} (h : y = x.drop m.toNat) : INV m y x m 1 := ⟨by omega, by omega, fun j _ => by rw [h]⟩
theorem nxt {k2 : Int} {n : Nat} (h1 : 0 ≤ k2) (hx : k2 < (n : Int)) (hn : n ≤ 9223372036854775807) : wrap64 (k2 + 1) = k2 + 1 := My.w64 (by omega) (by omega)
theorem inv1 {m : Int} {y x : List S26} {k k2 : Int} (h : INV m y x k k2) (hx : k2 < (y.length : Int)) (hy : y.length ≤ 9223372036854775807) : INV m y x k (wrap64 (k2 + 1)) := by
  obtain ⟨h1, h2, h3⟩ := h
  rw [nxt (by omega) hx hy]
  exact ⟨by omega, by omega, fun j hj => h3 j (by omega)⟩
theorem inv2 {m : Int} {y x : List S26} {k k2 : Int} (h : INV m y x k k2) (hx : k2 < (y.length : Int)) (hy : y.length ≤ 9223372036854775807) (h0 : 0 ≤ k) (hm : 0 ≤ m) (hk : k < (x.length : Int)) (hxl : x.length ≤ 9223372036854775807) (v : S26) : INV m y (x.set k.toNat v) (wrap64 (k + 1)) (wrap64 (k2 + 1)) := by
  obtain ⟨h1, h2, h3⟩ := h
  rw [nxt (by omega) hx hy, nxt h0 hk hxl]
  refine ⟨by omega, by omega, fun j hj => ?_⟩
  rw [← h3 j (by omega)]
  unfold rd_T26
  rw [List.getD_eq_getElem?_getD, List.getD_eq_getElem?_getD, List.getElem?_drop, List.getElem?_drop, List.getElem?_set_ne (by omega)]
theorem lo {m : Int} {y x : List S26} {k k2 j : Int} (h : INV m y x k k2) (hx : k2 < (y.length : Int)) (hy : y.length ≤ 9223372036854775807) (hj : wrap64 (k2 - 1) = j) : k2 - 1 ≤ j := by
  have := h.1
  rw [← hj, My.w64 (by omega) (by omega)]
  exact Int.le_refl _
theorem at2 {w : World} {ad : Addr} {A : Option Addr} {c : Nat} {m : Int} {y x : List S26} {k k2 : Int} (hC : Kd.C k26 w (some ad) x.length x) (hc : x.length ≤ c) (hA : A = if c = m.toNat then (some ad : Option Addr) else (some ad : Option Addr).map (·.add (m.toNat * 6))) (hm : m.toNat ≤ x.length) (hy : y.length = x.length - m.toNat) (h : INV m y x k k2) (i : Int) (h0 : 0 ≤ i) (h1 : i < (y.length : Int)) (hi : k2 - 1 ≤ i) :
    ∃ ad , A = some ad ∧ w.cell? (ad.add (i.toNat * 6)) = some (.string (rd_T26 y i).f0) ∧ w.cell? ⟨(ad.add (i.toNat * 6)).block, (ad.add (i.toNat * 6)).off + 1, none⟩ = some (.string (rd_T26 y i).f1) ∧ w.cell? ⟨(ad.add (i.toNat * 6)).block, (ad.add (i.toNat * 6)).off + 2, none⟩ = some (.int .i64 (rd_T26 y i).f2) ∧ w.cell? ⟨(ad.add (i.toNat * 6)).block, (ad.add (i.toNat * 6)).off + 3, none⟩ = some (.int .i64 (rd_T26 y i).f3) ∧ w.cell? ⟨(ad.add (i.toNat * 6)).block, (ad.add (i.toNat * 6)).off + 4, none⟩ = some (.int .i64 (rd_T26 y i).f4) ∧ w.cell? ⟨(ad.add (i.toNat * 6)).block, (ad.add (i.toNat * 6)).off + 5, none⟩ = some (.int .i64 (rd_T26 y i).f5) := by
  have hd := Kd.C_drop (m := m.toNat) (c := c) hC hm hc
  have hl : (x.drop m.toNat).length = y.length := by rw [List.length_drop, hy]
  have := at_T26 hd i h0 (by rw [hl]; exact h1)
  rw [h.2.2 i hi] at this
  rw [hA]
  exact this
end Clr
end Go.Proofs.Ytaebmmjhokjdbaa.PM
