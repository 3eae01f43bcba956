/- Keys in plain Lean: what the printed functions of key and of its reference come to. -/
import Derived.Test.YtdehdhkhcilckaaPM6
import Derived.Test.YtdehdhkhcilckaaPM8
import Derived.Test.YtdehdhkhcilckaaPM19
import Derived.Test.YtdehdhkhcilckaaPM12
import Derived.Test.YtdehdhkhcilckaaPM11
import Derived.Test.YtdehdhkhcilckaaPM22
import Derived.Test.YtdehdhkhcilckaaPM23
import Derived.Test.YtdehdhkhcilckaaMy
import Derived.Lib.Strings
namespace Go.Proofs.Ytdehdhkhcilckaa.PM
open Go.RowKit Go.Proofs.YtdehdhkhcilckaaW.PrintWords Go.Proofs.YtdehdhkhcilckaaW.PrintLast Go.Proofs.YtdehdhkhcilckaaW.PrintMore Go.Proofs.Ytdehdhkhcilckaa.My
set_option linter.unusedVariables false
namespace Key
theorem tl (s : ByteArray) : s.toList = s.data.toList := ByteArray.toList_eq s
theorem sz (s : ByteArray) : s.size = s.data.toList.length := (data_length s).symm
theorem cat (a b : ByteArray) : (a ++ b).data.toList = a.data.toList ++ b.data.toList := by simp
theorem ext {a b : ByteArray} (h : a.data.toList = b.data.toList) : a = b := Go.WideShapes.bytes_inj h
theorem cut (s : ByteArray) (a b : Nat) : (s.extract a b).data.toList = (s.data.toList.drop a).take (b - a) := Lib.extract_data s a b
def okB (b : UInt8) : Bool := decide (32 < b.toNat) && decide (b.toNat ≤ 126)
def okN (b : UInt8) : Bool := (decide (97 ≤ b.toNat) && decide (b.toNat ≤ 122)) || (decide (48 ≤ b.toNat) && decide (b.toNat ≤ 57))
theorem allN : ∀ l : List UInt8, key_each_30.all l = some (l.all okN)
  | [] => rfl
  | b :: l => by
    have h : key_Name_1.f (b.toNat : Int) = some (okN b) := by
      unfold key_Name_1.f okN
      repeat' split
      all_goals (congr 1; rw [Bool.eq_iff_iff]; simp; omega)
    rw [key_each_30.all, h, Option.bind_some, List.all_cons]
    cases okN b
    · rfl
    · exact allN l
def chk (s : ByteArray) : Bool := decide (1 ≤ s.size) && decide (s.size ≤ 40) && s.data.toList.all okB
def nam (s : ByteArray) : Bool := decide (1 ≤ s.size) && decide (s.size ≤ 12) && s.data.toList.all okN
theorem nam_f (s : ByteArray) : key_Name.f s = some (nam s) := by
  unfold key_Name.f key_each_30.f nam
  rw [if_neg (by decide), tl, allN, sz]
  cases s.data.toList with
  | nil => rfl
  | cons b l =>
    rw [if_neg (by simp)]
    by_cases h : ((b :: l).length : Int) > 12
    · rw [if_pos h, show decide ((b :: l).length ≤ 12) = false by simp at h ⊢; omega]; simp
    · rw [if_neg h, show decide ((b :: l).length ≤ 12) = true by simp at h ⊢; omega]; simp
/-- A kind's letter. -/
def lett (k : Int) : List UInt8 := if k = 1 then [109] else if k = 2 ∨ k = 3 then [108] else if k = 4 then [115] else if k = 5 then [101] else if k = 6 then [112] else if k = 7 ∨ k = 8 then [113] else []
theorem lett_len (k : Int) : (lett k).length ≤ 1 := by
  unfold lett; repeat' split
  all_goals decide
theorem lett_f (k : Int) : key_letter.f k = some ⟨(lett k).toArray⟩ := by
  unfold key_letter.f lett
  repeat' split
  all_goals first | rfl | omega
/-- What a name's keys begin with. -/
def pre (k : Int) (s : ByteArray) : List UInt8 := lett k ++ 47 :: s.data.toList ++ [47]
def may (k : Int) (s : ByteArray) : Bool := decide (lett k ≠ []) && nam s
def prf (k : Int) (s : ByteArray) : ByteArray × Bool := if may k s = true then (⟨(pre k s).toArray⟩, true) else (⟨#[]⟩, false)
theorem prf_f (k : Int) {s : ByteArray} (hs : s.size ≤ 100) : key_Prefix.f k s = some (prf k s) := by
  unfold key_Prefix.f prf may
  rw [lett_f, Option.bind_some, ByteArray.toList_mk, nam_f]
  by_cases h : lett k = []
  · rw [if_pos h, if_neg (by simp [h])]
  · rw [if_neg h]
    have hl := lett_len k
    cases hn : nam s with
    | false => simp
    | true =>
      have e1 : (ByteArray.mk (lett k).toArray).size = (lett k).length := by simp [ByteArray.size]
      have e2 : (ByteArray.mk (lett k).toArray ++ ⟨#[47]⟩).size = (lett k).length + 1 := by rw [sz, cat]; simp
      have e3 : (ByteArray.mk (lett k).toArray ++ ⟨#[47]⟩ ++ s).size = (lett k).length + 1 + s.size := by rw [sz, cat, cat, List.length_append, ← sz s]; simp
      rw [Option.bind_some, if_pos rfl, e1, e2, e3, if_pos (by omega), if_pos (by omega), if_pos (by omega), if_pos (by simp [h])]
      congr 2
      apply ext
      rw [cat, cat, cat]
      simp [pre]
theorem nam_sz {s : ByteArray} (h : nam s = true) : 1 ≤ s.size ∧ s.size ≤ 12 := by
  unfold nam at h
  simp only [Bool.and_eq_true, decide_eq_true_eq] at h
  exact h.1
theorem may_iff (k : Int) (s : ByteArray) : may k s = true ↔ lett k ≠ [] ∧ nam s = true := by unfold may; simp
def inr (id : Int) : Bool := decide (0 ≤ id) && decide (id ≤ 1099511627775)
theorem inr_iff (id : Int) : inr id = true ↔ 0 ≤ id ∧ id ≤ 1099511627775 := by unfold inr; simp
def tkt (k : Int) (s : ByteArray) (id : Int) : ByteArray × Bool := if may k s = true ∧ inr id = true then (⟨(pre k s ++ ticketBytes id 10).toArray⟩, true) else (⟨#[]⟩, false)
theorem tkt_f (k : Int) {s : ByteArray} (id : Int) (hs : s.size ≤ 100) : key_Ticket.f k s id = some (tkt k s id) := by
  unfold key_Ticket.f tkt
  rw [prf_f k hs, Option.bind_some]
  unfold prf
  by_cases h : may k s = true
  · rw [if_pos h]
    have hn := nam_sz ((may_iff k s).1 h).2
    have hl := lett_len k
    by_cases h1 : id < 0
    · rw [if_pos rfl, if_pos h1, if_neg (by rw [inr_iff]; omega)]
    by_cases h2 : id > 1099511627775
    · rw [if_pos rfl, if_neg h1, if_pos h2, if_neg (by rw [inr_iff]; omega)]
    rw [if_pos rfl, if_neg h1, if_neg h2, if_pos (by rw [sz]; simp [pre]; omega), if_pos ⟨h, by rw [inr_iff]; omega⟩]
  · rw [if_neg h, if_neg (by simp), if_neg (fun c => h c.1)]
def und (p k : ByteArray) : Bool := decide (p.size < k.size) && (k.data.toList.take p.size == p.data.toList)
theorem has_g (k p : ByteArray) : stringslite_HasPrefix.f k p = some (decide (p.size ≤ k.size) && (k.data.toList.take p.size == p.data.toList)) := by
  unfold stringslite_HasPrefix.f
  by_cases h : (k.size : Int) ≥ (p.size : Int)
  · rw [if_pos h, if_pos (by omega), if_pos (by omega), tl, tl, cut, Int.toNat_natCast, show decide (p.size ≤ k.size) = true by simp; omega]
    simp
  · rw [if_neg h, show decide (p.size ≤ k.size) = false by simp; omega]
    simp
theorem digit (b : UInt8) : firstIdx hexs b = if 48 ≤ b.toNat ∧ b.toNat ≤ 57 then (b.toNat : Int) - 48 else if 97 ≤ b.toNat ∧ b.toNat ≤ 102 then (b.toNat : Int) - 87 else -1 := by
  have h : ∀ n : Fin 256, firstIdx hexs (UInt8.ofNat n.val) = if 48 ≤ (UInt8.ofNat n.val).toNat ∧ (UInt8.ofNat n.val).toNat ≤ 57 then ((UInt8.ofNat n.val).toNat : Int) - 48 else if 97 ≤ (UInt8.ofNat n.val).toNat ∧ (UInt8.ofNat n.val).toNat ≤ 102 then ((UInt8.ofNat n.val).toNat : Int) - 87 else -1 := by decide +kernel
  have := h ⟨b.toNat, b.toNat_lt⟩
  simpa using this
theorem or16 (n m : Int) (h0 : 0 ≤ n) (h1 : n < 1099511627776) (h2 : 0 ≤ m) (h3 : m < 16) : bits BinOp.or IntKind.i64 (n * 16) m = 16 * n + m := by
  obtain ⟨a, rfl⟩ := Int.eq_ofNat_of_zero_le h0
  obtain ⟨b, rfl⟩ := Int.eq_ofNat_of_zero_le h2
  have h := (bits_nat .i64 63 (by decide) wraps_i64 (a * 16) b (by omega) (by omega)).2
  have e := Nat.two_pow_add_eq_or_of_lt (i := 4) (b := b) (by omega) a
  rw [show ((a : Int) * 16) = ((a * 16 : Nat) : Int) by simp, h, Nat.mul_comm a 16, ← e]
  simp
/-- What digits tell, behind n: none if one is no digit. -/
def hexV : Int → List UInt8 → Int × Bool
  | n, [] => (n, true)
  | n, b :: l => if firstIdx hexs b < 0 then (0, false) else hexV (16 * n + firstIdx hexs b) l
theorem digit_bd (b : UInt8) (h : ¬ firstIdx hexs b < 0) : 0 ≤ firstIdx hexs b ∧ firstIdx hexs b < 16 := by
  rw [digit] at h ⊢
  have := b.toNat_lt
  split at h
  · rename_i c; rw [if_pos c]; omega
  · rename_i c
    rw [if_neg c]
    split at h
    · rename_i c2; rw [if_pos c2]; omega
    · omega
theorem hex_f : ∀ (l : List UInt8) (n : Int) (d : Nat), l.length + d = 10 → 0 ≤ n → n < 16 ^ d → hexId n l = some (hexV n l)
  | [], n, d, _, _, _ => rfl
  | b :: l, n, d, hd, h0, h1 => by
    unfold hexId hexV
    by_cases h : firstIdx hexs b < 0
    · rw [if_pos h, if_pos h]
    · have hb := digit_bd b h
      simp only [List.length_cons] at hd
      have hp : (16 : Int) ^ d ≤ 16 ^ 9 := by
        have : (16 : Nat) ^ d ≤ 16 ^ 9 := Nat.pow_le_pow_right (by decide) (by omega)
        exact_mod_cast this
      have e9 : (16 : Int) ^ 9 = 68719476736 := by decide
      rw [if_neg h, if_neg h, if_pos (by omega), or16 n _ h0 (by omega) hb.1 hb.2]
      exact hex_f l _ (d + 1) (by omega) (by omega) (by rw [Int.pow_succ]; omega)
def idr (p k : ByteArray) : Int × Bool := if k.size = p.size + 10 ∧ k.data.toList.take p.size = p.data.toList then hexV 0 (k.data.toList.drop p.size) else (0, false)
theorem id_f (p k : ByteArray) : key_Id.f p k = some (idr p k) := by
  unfold key_Id.f strings_CutPrefix.f stringslite_CutPrefix.f idr
  rw [has_g k p, Option.bind_some]
  by_cases h : p.size ≤ k.size ∧ k.data.toList.take p.size = p.data.toList
  · rw [show (decide (p.size ≤ k.size) && (k.data.toList.take p.size == p.data.toList)) = true by simp [h.1, h.2]]
    rw [if_pos rfl, if_pos (by omega), if_pos (by omega), Option.bind_some, Option.bind_some, if_pos rfl, Int.toNat_natCast]
    have e : (k.extract p.size k.size).data.toList = k.data.toList.drop p.size := by
      rw [cut, List.take_of_length_le (by simp)]
    have es : (k.extract p.size k.size).size = k.size - p.size := by rw [sz, e, List.length_drop, ← sz]
    dsimp only
    rw [es, e]
    by_cases h2 : k.size = p.size + 10
    · rw [if_pos (by omega), if_pos ⟨h2, h.2⟩]
      exact hex_f _ 0 0 (by rw [List.length_drop, ← sz]; omega) (by omega) (by decide)
    · rw [if_neg (by omega), if_neg (fun c => h2 c.1)]
  · rw [show (decide (p.size ≤ k.size) && (k.data.toList.take p.size == p.data.toList)) = false by
      by_cases c : p.size ≤ k.size
      · simp [c]; exact fun c2 => h ⟨c, c2⟩
      · simp [c]]
    rw [if_neg (by simp), Option.bind_some, Option.bind_some, if_neg (by simp), if_neg (fun c => h ⟨by omega, c.2⟩)]
def flg (s : ByteArray) : ByteArray × Bool := if nam s = true then (⟨(pre 6 s ++ [111, 112, 101, 110]).toArray⟩, true) else (⟨#[]⟩, false)
theorem may6 (s : ByteArray) : may 6 s = nam s := by unfold may; simp [lett]
theorem flg_f {s : ByteArray} (hs : s.size ≤ 100) : key_Flag.f s = some (flg s) := by
  unfold key_Flag.f flg
  rw [prf_f 6 hs, Option.bind_some]
  unfold prf
  rw [may6]
  by_cases h : nam s = true
  · have hn := nam_sz h
    rw [if_pos h, if_pos rfl, if_pos h, if_pos (by rw [sz]; simp [pre, lett]; omega)]
    exact congrArg (fun x => some (x, true)) (ext (by rw [cat]))
  · rw [if_neg h, if_neg (by simp), if_neg h]
theorem bt_nat (s : ByteArray) (i : Nat) (h : i < s.data.toList.length) : bt s (i : Int) = ((s.data.toList[i]'h).toNat : Int) := by
  unfold bt
  rw [dif_pos (by rw [sz]; simpa using h)]
  simp [ByteArray.getElem_eq_getElem_data]
theorem nam_l (s : ByteArray) (hs : s.size ≤ 100) (d : Nat) : ∀ (i : Nat), s.size = i + d → Ev (fun k => batonref02_Name.l0 k s (i : Int)) ((s.data.toList.drop i).all okN) := by
  induction d with
  | zero =>
    intro i hd
    refine Ev.step (fun k => by apply batonref02_Name.l0.eq_2) ?_
    refine ev_ifn (by omega) (ev_now ?_)
    rw [List.drop_of_length_le (by rw [← sz]; omega)]
    rfl
  | succ d ih =>
    intro i hd
    have hlt : i < s.data.toList.length := by rw [← sz]; omega
    have e := bt_nat s i hlt
    have hi1 : wrap64 ((i : Int) + 1) = ((i + 1 : Nat) : Int) := by rw [w64 (by omega) (by omega)]; omega
    rw [List.drop_eq_getElem_cons hlt, List.all_cons]
    refine Ev.step (fun k => by apply batonref02_Name.l0.eq_2) ?_
    refine ev_if (by omega) (ev_if (by omega) ?_)
    rw [e, hi1]
    generalize s.data.toList[i] = b
    have hk := ih (i + 1) (by omega)
    by_cases c : (b.toNat : Int) < 97
    · refine ev_if c ?_
      by_cases c2 : (b.toNat : Int) < 48
      · refine ev_if c2 (ev_now ?_)
        rw [show okN b = false by unfold okN; simp; omega]; rfl
      · refine ev_ifn c2 ?_
        by_cases c3 : (b.toNat : Int) > 57
        · refine ev_if c3 (ev_now ?_)
          rw [show okN b = false by unfold okN; simp; omega]; rfl
        · refine ev_ifn c3 ?_
          rw [show okN b = true by unfold okN; simp; omega, Bool.true_and]
          exact hk
    · refine ev_ifn c ?_
      by_cases c2 : (b.toNat : Int) > 122
      · refine ev_if c2 ?_
        refine ev_ifn (by omega) (ev_if (by omega) (ev_now ?_))
        rw [show okN b = false by unfold okN; simp; omega]; rfl
      · refine ev_ifn c2 ?_
        rw [show okN b = true by unfold okN; simp; omega, Bool.true_and]
        exact hk
theorem nam_ref {s : ByteArray} (hs : s.size ≤ 100) : Ev (fun k => batonref02_Name.f k s) (nam s) := by
  unfold batonref02_Name.f nam
  by_cases h : (s.size : Int) < 1
  · refine ev_if h (Ev.step (fun k => by apply batonref02_Name.j0.eq_2) (ev_if rfl (ev_now ?_)))
    rw [show decide (1 ≤ s.size) = false from decide_eq_false (by omega)]; rfl
  · refine ev_ifn h (Ev.step (fun k => by apply batonref02_Name.j0.eq_2) ?_)
    by_cases h2 : (s.size : Int) > 12
    · refine ev_if (by simpa using h2) (ev_now ?_)
      rw [show decide (s.size ≤ 12) = false by simp; omega]; simp
    · refine ev_ifn (by simpa using h2) ?_
      rw [show decide (s.size ≤ 12) = true by simp; omega, show decide (1 ≤ s.size) = true by simp; omega]
      have := nam_l s hs s.size 0 (by omega)
      simpa using this
theorem pfx_tail (c : UInt8) {s : ByteArray} (hs : s.size ≤ 100) : Ev (fun k => if ([c] : List UInt8) = ([] : List UInt8) then (some ((⟨#[]⟩ : ByteArray), false)) else ((batonref02_Name.f k s).bind fun t => (if t = true then (if 1 + 1 ≤ 9223372036854775807 then (if 1 + s.size ≤ 9223372036854775807 then (if (((⟨#[c]⟩ : ByteArray) ++ (⟨#[47]⟩ : ByteArray)) ++ s).size + 1 ≤ 9223372036854775807 then (some ((((⟨#[c]⟩ : ByteArray) ++ (⟨#[47]⟩ : ByteArray)) ++ s) ++ (⟨#[47]⟩ : ByteArray), true)) else (none)) else (none)) else (none)) else (some ((⟨#[]⟩ : ByteArray), false)))))
    (if nam s = true then (⟨([c] ++ 47 :: s.data.toList ++ [47]).toArray⟩, true) else (⟨#[]⟩, false)) := by
  refine ev_ifn (by simp) (ev_b (nam_ref hs) ?_)
  by_cases h : nam s = true
  · refine ev_if h (ev_if (by omega) (ev_if (by omega) (ev_if ?_ (ev_now ?_))))
    · rw [sz, cat, cat, List.length_append, ← sz s]; simp; omega
    · rw [if_pos h]
      congr 1
  · refine ev_ifn h (ev_now ?_)
    rw [if_neg h]
theorem prf_c {k : Int} {c : UInt8} (s : ByteArray) (h : lett k = [c]) : prf k s = if nam s = true then (⟨([c] ++ 47 :: s.data.toList ++ [47]).toArray⟩, true) else (⟨#[]⟩, false) := by
  unfold prf may pre
  rw [h]
  simp
theorem prf_no {k : Int} (s : ByteArray) (h : lett k = []) : prf k s = (⟨#[]⟩, false) := by
  unfold prf may
  rw [h]
  simp
theorem prf_ref (k : Int) {s : ByteArray} (hs : s.size ≤ 100) : Ev (fun n => batonref02_Prefix.f n k s) (prf k s) := by
  unfold batonref02_Prefix.f
  by_cases h1 : k = 1
  · rw [prf_c (c := 109) s (by simp [lett, h1])]
    exact ev_if h1 (pfx_tail 109 hs)
  refine ev_ifn h1 ?_
  by_cases h2 : k = 2
  · rw [prf_c (c := 108) s (by simp [lett, h2])]
    exact ev_if h2 (Ev.step (fun k => by apply batonref02_Prefix.j0.eq_2) (ev_if (by simp [h2]) (pfx_tail 108 hs)))
  refine ev_ifn h2 (Ev.step (fun k => by apply batonref02_Prefix.j0.eq_2) ?_)
  by_cases h3 : k = 3
  · rw [prf_c (c := 108) s (by simp [lett, h3])]
    exact (ev_if (by simp [h3]) (pfx_tail 108 hs))
  refine ev_ifn (by simpa using h3) ?_
  by_cases h4 : k = 4
  · rw [prf_c (c := 115) s (by simp [lett, h4])]
    exact ev_if h4 (pfx_tail 115 hs)
  refine ev_ifn h4 ?_
  by_cases h5 : k = 5
  · rw [prf_c (c := 101) s (by simp [lett, h5])]
    exact ev_if h5 (pfx_tail 101 hs)
  refine ev_ifn h5 ?_
  by_cases h6 : k = 6
  · rw [prf_c (c := 112) s (by simp [lett, h6])]
    exact ev_if h6 (pfx_tail 112 hs)
  refine ev_ifn h6 ?_
  by_cases h7 : k = 7
  · rw [prf_c (c := 113) s (by simp [lett, h7])]
    exact ev_if h7 (Ev.step (fun k => by apply batonref02_Prefix.j1.eq_2) (ev_if (by simp [h7]) (pfx_tail 113 hs)))
  refine ev_ifn h7 (Ev.step (fun k => by apply batonref02_Prefix.j1.eq_2) ?_)
  by_cases h8 : k = 8
  · rw [prf_c (c := 113) s (by simp [lett, h8])]
    exact (ev_if (by simp [h8]) (pfx_tail 113 hs))
  rw [prf_no s (by simp [lett, h1, h2, h3, h4, h5, h6, h7, h8])]
  refine ev_ifn (by simpa using h8) (ev_if (by rw [tl]) (ev_now rfl))
theorem tkb_len (id : Int) : ∀ n, (ticketBytes id n).length = n
  | 0 => rfl
  | n + 1 => by simp [ticketBytes, tkb_len id n]
theorem hexcut (m : Nat) (h : m < 16) : ((⟨#[48, 49, 50, 51, 52, 53, 54, 55, 56, 57, 97, 98, 99, 100, 101, 102]⟩ : ByteArray).extract m (m + 1)).data.toList = [hexDigits.getD m 0] := by
  rw [cut]
  have : ∀ m : Fin 16, ((([48, 49, 50, 51, 52, 53, 54, 55, 56, 57, 97, 98, 99, 100, 101, 102] : List UInt8).drop m.val).take (m.val + 1 - m.val)) = [hexDigits.getD m.val 0] := by decide
  exact this ⟨m, h⟩
theorem flg_ref {s : ByteArray} (hs : s.size ≤ 100) : Ev (fun k => batonref02_Flag.f k s) (flg s) := by
  unfold batonref02_Flag.f
  refine ev_b (prf_ref 6 hs) ?_
  unfold prf flg
  rw [may6]
  by_cases h : nam s = true
  · have hn := nam_sz h
    rw [if_pos h, if_pos h]
    refine ev_if rfl (ev_if (by rw [sz]; simp [pre, lett]; omega) (ev_now ?_))
    exact congrArg (fun x => (x, true)) (ext (by rw [cat]))
  · rw [if_neg h, if_neg h]
    exact ev_ifn (by simp) (ev_now rfl)
theorem id_l (s : ByteArray) (hs : s.size ≤ 200) (d : Nat) : ∀ (i : Nat) (n : Int) (e : Nat), s.size = i + d → d + e = 10 → 0 ≤ n → n < 16 ^ e → Ev (fun k => batonref02_Id.l0 k s n (i : Int)) (hexV n (s.data.toList.drop i)) := by
  induction d with
  | zero =>
    intro i n e hd _ _ _
    refine Ev.step (fun k => by apply batonref02_Id.l0.eq_2) ?_
    refine ev_ifn (by omega) (ev_now ?_)
    rw [List.drop_of_length_le (by rw [← sz]; omega)]
    rfl
  | succ d ih =>
    intro i n e hd he h0 h1
    have hlt : i < s.data.toList.length := by rw [← sz]; omega
    have eb := bt_nat s i hlt
    have hi1 : wrap64 ((i : Int) + 1) = ((i + 1 : Nat) : Int) := by rw [w64 (by omega) (by omega)]; omega
    have hp : (16 : Int) ^ e ≤ 16 ^ 9 := by
      have : (16 : Nat) ^ e ≤ 16 ^ 9 := Nat.pow_le_pow_right (by decide) (by omega)
      exact_mod_cast this
    have e9 : (16 : Int) ^ 9 = 68719476736 := by decide
    rw [List.drop_eq_getElem_cons hlt]
    generalize s.data.toList[i] = b at eb ⊢
    have hb := b.toNat_lt
    have hj : ∀ z : Bool, z = (decide (48 ≤ b.toNat) && decide (b.toNat ≤ 57)) → Ev (fun k => batonref02_Id.j2 k s n (i : Int) z) (hexV n (b :: s.data.toList.drop (i + 1))) := by
      intro z hbb
      unfold hexV
      rw [digit]
      refine Ev.step (fun k => by apply batonref02_Id.j2.eq_2) ?_
      rw [eb, hi1]
      by_cases c : 48 ≤ b.toNat ∧ b.toNat ≤ 57
      · rw [if_pos c, if_neg (by omega)]
        refine ev_if (by rw [hbb]; simpa using c) (ev_if (by omega) (ev_if (by omega) ?_))
        rw [show ((b.toNat : Int) - 48) % 256 = (b.toNat : Int) - 48 by omega, w64 (n := 16 * n) (by omega) (by omega), w64 (by omega) (by omega)]
        exact ih (i + 1) _ (e + 1) (by omega) (by omega) (by omega) (by rw [Int.pow_succ]; omega)
      · rw [if_neg c]
        refine ev_ifn (by rw [hbb]; simpa using c) (ev_if (by omega) (ev_if (by omega) ?_))
        by_cases c2 : 97 ≤ b.toNat ∧ b.toNat ≤ 102
        · rw [if_pos c2, if_neg (by omega)]
          refine ev_if (by omega) (ev_if (by omega) ?_)
          rw [show ((b.toNat : Int) - 97) % 256 = (b.toNat : Int) - 97 by omega, w64 (n := 16 * n) (by omega) (by omega), w64 (n := 16 * n + _) (by omega) (by omega), w64 (by omega) (by omega), show 16 * n + ((b.toNat : Int) - 97) + 10 = 16 * n + ((b.toNat : Int) - 87) by omega]
          exact ih (i + 1) _ (e + 1) (by omega) (by omega) (by omega) (by rw [Int.pow_succ]; omega)
        · rw [if_neg c2, if_pos (by omega)]
          by_cases c3 : (b.toNat : Int) ≥ 97
          · exact ev_if c3 (ev_ifn (by omega) (ev_now rfl))
          · exact ev_ifn c3 (ev_now rfl)
    refine Ev.step (fun k => by apply batonref02_Id.l0.eq_2) ?_
    refine ev_if (by omega) (ev_if (by omega) ?_)
    rw [eb]
    by_cases c : (b.toNat : Int) ≥ 48
    · exact ev_if c (hj _ (by rw [show decide (48 ≤ b.toNat) = true by simp; omega, Bool.true_and, decide_eq_decide]; omega))
    · exact ev_ifn c (hj _ (by rw [show decide (48 ≤ b.toNat) = false by simp; omega]; rfl))
theorem id_ref (p : ByteArray) {k : ByteArray} (hk : k.size ≤ 200) : Ev (fun n => batonref02_Id.f n p k) (idr p k) := by
  unfold batonref02_Id.f idr
  rw [w64 (by omega) (by omega)]
  by_cases h : (k.size : Int) - 10 = (p.size : Int)
  · refine ev_if h (ev_if (by omega) (ev_if (by omega) (Ev.step (fun k => by apply batonref02_Id.j0.eq_2) ?_)))
    rw [tl, tl, cut, Int.toNat_natCast]
    by_cases h2 : k.data.toList.take p.size = p.data.toList
    · refine ev_ifn (by simpa using h2) ?_
      rw [if_pos ⟨by omega, h2⟩]
      exact id_l k hk 10 p.size 0 0 (by omega) (by omega) (by omega) (by decide)
    · refine ev_if (by simpa using h2) (ev_now ?_)
      rw [if_neg (fun c => h2 c.2)]
  · refine ev_ifn h (Ev.step (fun k => by apply batonref02_Id.j0.eq_2) (ev_if rfl (ev_now ?_)))
    rw [if_neg (fun c => h (by omega))]
theorem hexV_tkb (id : Nat) : ∀ (i : Nat) (n : Int), hexV n (ticketBytes (id : Int) i) = (n * 16 ^ i + ((id % 16 ^ i : Nat) : Int), true)
  | 0, n => by simp [ticketBytes, hexV, Nat.mod_one]
  | i + 1, n => by
    have e : (id : Int) / 2 ^ (4 * i) % 16 = ((id / 16 ^ i % 16 : Nat) : Int) := by
      rw [show (2 : Int) ^ (4 * i) = ((16 ^ i : Nat) : Int) by rw [Int.pow_mul]; simp]
      simp
    have hd : ∀ m : Fin 16, firstIdx hexs (hexDigits.getD m.val 0) = (m.val : Int) := by decide
    have hm := hd ⟨id / 16 ^ i % 16, Nat.mod_lt _ (by decide)⟩
    simp only at hm
    unfold ticketBytes hexV
    rw [e, Int.toNat_natCast, hm, if_neg (by omega), hexV_tkb id i, Nat.pow_succ, Nat.mod_mul, Int.pow_succ]
    congr 1
    push_cast
    generalize (16 : Int) ^ i = p
    generalize (id : Int) / p % 16 = q
    generalize (id : Int) % p = r
    rw [Int.add_mul, Int.mul_comm p q, Int.mul_comm 16 n, Int.mul_assoc, Int.mul_comm 16 p]
    omega
theorem okB_digit (m : Nat) : okB (hexDigits.getD (m % 16) 0) = true := by
  have hd : ∀ m : Fin 16, okB (hexDigits.getD m.val 0) = true := by decide
  exact hd ⟨m % 16, Nat.mod_lt _ (by decide)⟩
theorem okB_tkb (id : Nat) : ∀ i : Nat, (ticketBytes (id : Int) i).all okB = true
  | 0 => rfl
  | i + 1 => by
    have e : (id : Int) / 2 ^ (4 * i) % 16 = ((id / 16 ^ i % 16 : Nat) : Int) := by
      rw [show (2 : Int) ^ (4 * i) = ((16 ^ i : Nat) : Int) by rw [Int.pow_mul]; simp]
      simp
    unfold ticketBytes
    rw [e, Int.toNat_natCast, List.all_cons, okB_digit, okB_tkb id i]
    rfl
theorem okN_B (b : UInt8) (h : okN b = true) : okB b = true := by
  unfold okN at h; unfold okB
  simp at h ⊢
  omega
theorem lett_ok (k : Int) : (lett k).all okB = true := by
  unfold lett
  repeat' split
  all_goals first | rfl | (unfold okB; decide)
theorem pre_ok {k : Int} {s : ByteArray} (h : nam s = true) : (pre k s).all okB = true := by
  unfold pre
  unfold nam at h
  simp only [Bool.and_eq_true, List.all_eq_true] at h
  simp only [List.all_append, List.all_cons, lett_ok, List.all_nil, Bool.and_eq_true, List.all_eq_true]
  exact ⟨⟨trivial, by decide, fun b hb => okN_B b (h.2 b hb)⟩, by decide, trivial⟩
theorem pre_len {k : Int} {s : ByteArray} : (pre k s).length = (lett k).length + s.size + 2 := by unfold pre; rw [sz]; simp; omega
theorem less_pre (p : List UInt8) (a b : List UInt8) : Op.bytesLess (p ++ a) (p ++ b) = Op.bytesLess a b := by
  induction p with
  | nil => rfl
  | cons x p ih => simp [Op.bytesLess, ih]
theorem dig (id i : Nat) : ((id : Int) / 2 ^ (4 * i) % 16).toNat = id / 16 ^ i % 16 := by
  rw [show (2 : Int) ^ (4 * i) = ((16 ^ i : Nat) : Int) by rw [Int.pow_mul]; simp]
  omega
theorem less_tkb (a b : Nat) : ∀ i, Op.bytesLess (ticketBytes (a : Int) i) (ticketBytes (b : Int) i) = decide (a % 16 ^ i < b % 16 ^ i)
  | 0 => by simp [ticketBytes, Op.bytesLess, Nat.mod_one]
  | i + 1 => by
    have hl : ∀ m n : Fin 16, (decide (hexDigits.getD m.val 0 < hexDigits.getD n.val 0) = decide (m.val < n.val)) ∧ ((hexDigits.getD m.val 0 == hexDigits.getD n.val 0) = (m.val == n.val)) := by decide
    have h := hl ⟨a / 16 ^ i % 16, Nat.mod_lt _ (by decide)⟩ ⟨b / 16 ^ i % 16, Nat.mod_lt _ (by decide)⟩
    simp only at h
    unfold ticketBytes Op.bytesLess
    rw [dig, dig, h.1, h.2, less_tkb a b i, Nat.pow_succ, Nat.mod_mul, Nat.mod_mul]
    have h1 : a % 16 ^ i < 16 ^ i := Nat.mod_lt _ (Nat.pow_pos (by decide))
    have h2 : b % 16 ^ i < 16 ^ i := Nat.mod_lt _ (Nat.pow_pos (by decide))
    rw [Bool.eq_iff_iff]
    simp only [Bool.or_eq_true, Bool.and_eq_true, decide_eq_true_eq, beq_iff_eq]
    generalize a / 16 ^ i % 16 = x
    generalize b / 16 ^ i % 16 = y
    generalize a % 16 ^ i = r at h1 ⊢
    generalize b % 16 ^ i = q at h2 ⊢
    generalize 16 ^ i = p at h1 h2 ⊢
    constructor
    · rintro (h | ⟨rfl, h⟩)
      · have : p * (x + 1) ≤ p * y := Nat.mul_le_mul_left _ h
        rw [Nat.mul_add] at this
        omega
      · omega
    · intro h
      by_cases c : x < y
      · exact .inl c
      by_cases c2 : x = y
      · subst c2; exact .inr ⟨rfl, by omega⟩
      · have : p * (y + 1) ≤ p * x := Nat.mul_le_mul_left _ (by omega)
        rw [Nat.mul_add] at this
        omega
theorem tkt_yes {k : Int} {s : ByteArray} {id : Int} (h : (tkt k s id).2 = true) : may k s = true ∧ inr id = true := by
  unfold tkt at h
  split at h
  · assumption
  · cases h
theorem tkt_pos {k : Int} {s : ByteArray} {id : Int} (h : may k s = true ∧ inr id = true) : tkt k s id = (⟨(pre k s ++ ticketBytes id 10).toArray⟩, true) := if_pos h
theorem tkt_neg {k : Int} {s : ByteArray} {id : Int} (h : ¬ (may k s = true ∧ inr id = true)) : tkt k s id = (⟨#[]⟩, false) := if_neg h
theorem prf_pos {k : Int} {s : ByteArray} (h : may k s = true) : prf k s = (⟨(pre k s).toArray⟩, true) := if_pos h
theorem prf_neg {k : Int} {s : ByteArray} (h : ¬ may k s = true) : prf k s = (⟨#[]⟩, false) := if_neg h
theorem und_cat (p q : List UInt8) (h : q ≠ []) : und ⟨p.toArray⟩ ⟨(p ++ q).toArray⟩ = true := by
  unfold und
  rw [sz, sz]
  have : 0 < q.length := List.length_pos_iff.2 h
  simp
  omega
theorem id_cat (p : List UInt8) (id : Int) (h : inr id = true) : idr ⟨p.toArray⟩ ⟨(p ++ ticketBytes id 10).toArray⟩ = (id, true) := by
  have hi := (inr_iff id).1 h
  obtain ⟨n, rfl⟩ := Int.eq_ofNat_of_zero_le hi.1
  unfold idr
  rw [if_pos ⟨by rw [sz, sz]; simp [tkb_len], by rw [sz]; simp⟩, sz]
  have := hexV_tkb n 10 0
  simp only [List.drop_left, this]
  congr 1
  have e : n % 16 ^ 10 = n := Nat.mod_eq_of_lt (by omega)
  rw [e]
  simp
theorem chk_cat {k : Int} {s : ByteArray} {id : Int} (h : may k s = true) (hi : inr id = true) : chk ⟨(pre k s ++ ticketBytes id 10).toArray⟩ = true := by
  have hi := (inr_iff id).1 hi
  obtain ⟨n, rfl⟩ := Int.eq_ofNat_of_zero_le hi.1
  have hn := ((may_iff k s).1 h).2
  have hs := nam_sz hn
  have hl := lett_len k
  unfold chk
  rw [sz]
  simp only [List.length_append, pre_len, tkb_len, List.all_append, pre_ok hn, okB_tkb, Bool.and_true, Bool.and_eq_true, decide_eq_true_eq]
  omega
end Key
end Go.Proofs.Ytdehdhkhcilckaa.PM
