/- Keys in plain Lean: what the printed functions of key and of its reference come to. -/
import Derived.Test.YtaebmmjhokjdbaaPM16
import Derived.Test.YtaebmmjhokjdbaaMy
import Derived.Lib.Strings
namespace Go.Proofs.Ytaebmmjhokjdbaa.PM
open Go.RowKit Go.Proofs.YtaebmmjhokjdbaaW.PrintWords Go.Proofs.YtaebmmjhokjdbaaW.PrintLast Go.Proofs.YtaebmmjhokjdbaaW.PrintMore Go.Proofs.Ytaebmmjhokjdbaa.My
set_option linter.unusedVariables false
namespace Key
theorem tl (s : ByteArray) : s.toList = s.data.toList := ByteArray.toList_eq s
theorem sz (s : ByteArray) : s.size = s.data.toList.length := (data_length s).symm
theorem cat (a b : ByteArray) : (a ++ b).data.toList = a.data.toList ++ b.data.toList := by simp
theorem ext {a b : ByteArray} (h : a.data.toList = b.data.toList) : a = b := Go.WideShapes.bytes_inj h
theorem cut (s : ByteArray) (a b : Nat) : (s.extract a b).data.toList = (s.data.toList.drop a).take (b - a) := Lib.extract_data s a b
def okB (b : UInt8) : Bool := decide (32 < b.toNat) && decide (b.toNat ≤ 126)
def okN (b : UInt8) : Bool := (decide (97 ≤ b.toNat) && decide (b.toNat ≤ 122)) || (decide (48 ≤ b.toNat) && decide (b.toNat ≤ 57))
theorem allN : ∀ l : List UInt8, key_each_62.all l = some (l.all okN)
  | [] => rfl
  | b :: l => by
    have h : key_Name_1.f (b.toNat : Int) = some (okN b) := by
      unfold key_Name_1.f okN
      repeat' split
      all_goals (congr 1; rw [Bool.eq_iff_iff]; simp; omega)
    rw [key_each_62.all, h, Option.bind_some, List.all_cons]
    cases okN b
    · rfl
    · exact allN l
def chk (s : ByteArray) : Bool := decide (1 ≤ s.size) && decide (s.size ≤ 40) && s.data.toList.all okB
def nam (s : ByteArray) : Bool := decide (1 ≤ s.size) && decide (s.size ≤ 12) && s.data.toList.all okN
theorem nam_f (s : ByteArray) : key_Name.f s = some (nam s) := by
  unfold key_Name.f key_each_62.f nam
  rw [if_neg (by decide), tl, allN, sz]
  cases s.data.toList with
  | nil => rfl
  | cons b l =>
    rw [if_neg (by simp)]
    by_cases h : ((b :: l).length : Int) > 12
    · rw [if_pos h, show decide ((b :: l).length ≤ 12) = false by simp at h ⊢; omega]; simp
    · rw [if_neg h, show decide ((b :: l).length ≤ 12) = true by simp at h ⊢; omega]; simp
/-- A kind's letter. -/
def lett (k : Int) : List UInt8 := if k = 1 then [109] else if k = 2 ∨ k = 3 then [108] else if k = 4 then [115] else if k = 5 then [101] else if k = 6 then [112] else if k = 7 ∨ k = 8 then [113] else []
theorem lett_len (k : Int) : (lett k).length ≤ 1 := by unfold lett; repeat' split
                                                       all_goals decide
theorem lett_f (k : Int) : key_letter.f k = some ⟨(lett k).toArray⟩ := by
  unfold key_letter.f lett
  repeat' split
  all_goals first | rfl | omega
/-- What a name's keys begin with. -/
def pre (k : Int) (s : ByteArray) : List UInt8 := lett k ++ 47 :: s.data.toList ++ [47]
def may (k : Int) (s : ByteArray) : Bool := decide (lett k ≠ []) && nam s
def prf (k : Int) (s : ByteArray) : ByteArray × Bool := if may k s = true then (⟨(pre k s).toArray⟩, true) else (⟨#[]⟩, false)
theorem prf_f (k : Int) {s : ByteArray} (hs : s.size ≤ 100) : key_Prefix.f k s = some (prf k s) := by
  unfold key_Prefix.f prf may
  rw [lett_f, Option.bind_some, ByteArray.toList_mk, nam_f]
  by_cases h : lett k = []
  · rw [if_pos h, if_neg (by simp [h])]
  · rw [if_neg h]
    have hl := lett_len k
    cases hn : nam s with
    | false => simp
    | true =>
      have e1 : (ByteArray.mk (lett k).toArray).size = (lett k).length := by simp [ByteArray.size]
      have e2 : (ByteArray.mk (lett k).toArray ++ ⟨#[47]⟩).size = (lett k).length + 1 := by rw [sz, cat]; simp
      have e3 : (ByteArray.mk (lett k).toArray ++ ⟨#[47]⟩ ++ s).size = (lett k).length + 1 + s.size := by rw [sz, cat, cat, List.length_append, ← sz s]; simp
      rw [Option.bind_some, if_pos rfl, e1, e2, e3, if_pos (by omega), if_pos (by omega), if_pos (by omega), if_pos (by simp [h])]
      congr 2
      apply ext
      rw [cat, cat, cat]
      simp [pre]
theorem nam_sz {s : ByteArray} (h : nam s = true) : 1 ≤ s.size ∧ s.size ≤ 12 := by
  unfold nam at h
  simp only [Bool.and_eq_true, decide_eq_true_eq] at h
  exact h.1
theorem may_iff (k : Int) (s : ByteArray) : may k s = true ↔ lett k ≠ [] ∧ nam s = true := by unfold may; simp
def inr (id : Int) : Bool := decide (0 ≤ id) && decide (id ≤ 1099511627775)
theorem inr_iff (id : Int) : inr id = true ↔ 0 ≤ id ∧ id ≤ 1099511627775 := by unfold inr; simp
def und (p k : ByteArray) : Bool := decide (p.size < k.size) && (k.data.toList.take p.size == p.data.toList)
theorem has_f (k p : ByteArray) : strings_HasPrefix.f k p = some (decide (p.size ≤ k.size) && (k.data.toList.take p.size == p.data.toList)) := by
  unfold strings_HasPrefix.f stringslite_HasPrefix.f
  by_cases h : (k.size : Int) ≥ (p.size : Int)
  · rw [if_pos h, if_pos (by omega), if_pos (by omega), Option.bind_some, tl, tl, cut, Int.toNat_natCast, show decide (p.size ≤ k.size) = true by simp; omega]
    simp
  · rw [if_neg h, Option.bind_some, show decide (p.size ≤ k.size) = false by simp; omega]
    simp
def flg (s : ByteArray) : ByteArray × Bool := if nam s = true then (⟨(pre 6 s ++ [111, 112, 101, 110]).toArray⟩, true) else (⟨#[]⟩, false)
theorem may6 (s : ByteArray) : may 6 s = nam s := by unfold may; simp [lett]
theorem bt_nat (s : ByteArray) (i : Nat) (h : i < s.data.toList.length) : bt s (i : Int) = ((s.data.toList[i]'h).toNat : Int) := by
  unfold bt
  rw [dif_pos (by rw [sz]; simpa using h)]
  simp [ByteArray.getElem_eq_getElem_data]
theorem prf_c {k : Int} {c : UInt8} (s : ByteArray) (h : lett k = [c]) : prf k s = if nam s = true then (⟨([c] ++ 47 :: s.data.toList ++ [47]).toArray⟩, true) else (⟨#[]⟩, false) := by
  unfold prf may pre
  rw [h]
  simp
theorem prf_no {k : Int} (s : ByteArray) (h : lett k = []) : prf k s = (⟨#[]⟩, false) := by
  unfold prf may
  rw [h]
  simp
theorem okN_B (b : UInt8) (h : okN b = true) : okB b = true := by
  unfold okN at h; unfold okB
  simp at h ⊢
  omega
theorem lett_ok (k : Int) : (lett k).all okB = true := by
  unfold lett
  repeat' split
  all_goals first | rfl | (unfold okB; decide)
theorem pre_ok {k : Int} {s : ByteArray} (h : nam s = true) : (pre k s).all okB = true := by
  unfold pre
  unfold nam at h
  simp only [Bool.and_eq_true, List.all_eq_true] at h
  simp only [List.all_append, List.all_cons, lett_ok, List.all_nil, Bool.and_eq_true, List.all_eq_true]
  exact ⟨⟨trivial, by decide, fun b hb => okN_B b (h.2 b hb)⟩, by decide, trivial⟩
theorem pre_len {k : Int} {s : ByteArray} : (pre k s).length = (lett k).length + s.size + 2 := by unfold pre; rw [sz]; simp; omega
theorem less_pre (p : List UInt8) (a b : List UInt8) : Op.bytesLess (p ++ a) (p ++ b) = Op.bytesLess a b := by
  induction p with
  | nil => rfl
  | cons x p ih => simp [Op.bytesLess, ih]
theorem dig (id i : Nat) : ((id : Int) / 2 ^ (4 * i) % 16).toNat = id / 16 ^ i % 16 := by
  rw [show (2 : Int) ^ (4 * i) = ((16 ^ i : Nat) : Int) by rw [Int.pow_mul]; simp]
  omega
theorem prf_pos {k : Int} {s : ByteArray} (h : may k s = true) : prf k s = (⟨(pre k s).toArray⟩, true) := if_pos h
theorem prf_neg {k : Int} {s : ByteArray} (h : ¬ may k s = true) : prf k s = (⟨#[]⟩, false) := if_neg h
theorem und_cat (p q : List UInt8) (h : q ≠ []) : und ⟨p.toArray⟩ ⟨(p ++ q).toArray⟩ = true := by
  unfold und
  rw [sz, sz]
  have : 0 < q.length := List.length_pos_iff.2 h
  simp
  omega
end Key
end Go.Proofs.Ytaebmmjhokjdbaa.PM
