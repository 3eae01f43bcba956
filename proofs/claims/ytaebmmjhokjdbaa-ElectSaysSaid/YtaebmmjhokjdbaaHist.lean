/- Lists of keys in plain Lean: what the printed functions of hist and of its reference come to. -/
import Derived.Test.YtaebmmjhokjdbaaPM20
import Derived.Test.YtaebmmjhokjdbaaPM16
import Derived.Test.YtaebmmjhokjdbaaPM3
import Derived.Test.YtaebmmjhokjdbaaMy
import Derived.Lib.Strings
namespace Go.Proofs.Ytaebmmjhokjdbaa.PM
open Go.RowKit Go.Proofs.YtaebmmjhokjdbaaW.PrintWords Go.Proofs.YtaebmmjhokjdbaaW.PrintLast Go.Proofs.YtaebmmjhokjdbaaW.PrintMore Go.Proofs.Ytaebmmjhokjdbaa.My
set_option linter.unusedVariables false
namespace Hist
abbrev KV := S26
abbrev EV := S54
theorem tl (s : ByteArray) : s.toList = s.data.toList := ByteArray.toList_eq s
theorem sz (s : ByteArray) : s.size = s.data.toList.length := (data_length s).symm
theorem ext {a b : ByteArray} (h : a.data.toList = b.data.toList) : a = b := Go.WideShapes.bytes_inj h
theorem tli {a b : ByteArray} : a.toList = b.toList ↔ a = b := ⟨fun h => ext (by rw [← tl, ← tl, h]), fun h => by rw [h]⟩
theorem rd {l : List KV} {i : Nat} (h : i < l.length) : rd_T26 l (i : Int) = l[i] := by simp [rd_T26, List.getElem?_eq_getElem h]
theorem rde {l : List EV} {i : Nat} (h : i < l.length) : rd_T54 l (i : Int) = l[i] := by simp [rd_T54, List.getElem?_eq_getElem h]
theorem nx {i : Nat} (h : i ≤ 2000) : wrap64 ((i : Int) + 1) = ((i + 1 : Nat) : Int) := by rw [w64 (by omega) (by omega)]; omega
def lt (a b : ByteArray) : Bool := Op.bytesLess a.toList b.toList
theorem less_irrefl : ∀ l : List UInt8, Op.bytesLess l l = false
  | [] => rfl
  | b :: l => by simp [Op.bytesLess, less_irrefl l]
theorem lt_irrefl (a : ByteArray) : lt a a = false := less_irrefl _
theorem lt_or (a b : ByteArray) : lt a b = true ∨ a = b ∨ lt b a = true := by
  have h := less_or a.toList b.toList
  unfold lt
  by_cases h1 : Op.bytesLess a.toList b.toList = true
  · exact .inl h1
  by_cases h2 : Op.bytesLess b.toList a.toList = true
  · exact .inr (.inr h2)
  · right; left
    simp only [Bool.not_eq_true] at h1 h2
    rw [h1, h2] at h
    simp only [Bool.false_or, Bool.not_false, beq_iff_eq] at h
    exact tli.1 h
theorem lt_asym {a b : ByteArray} (h : lt a b = true) : lt b a = false := by
  have h2 := less_or a.toList b.toList
  unfold lt at h ⊢
  rw [h] at h2
  simpa using h2.symm
theorem lt_ne {a b : ByteArray} (h : lt a b = true) : a ≠ b := by
  rintro rfl
  rw [lt_irrefl] at h
  cases h
theorem less_trans : ∀ a b c : List UInt8, Op.bytesLess a b = true → Op.bytesLess b c = true → Op.bytesLess a c = true
  | _, [], _, h, _ => by cases ‹List UInt8› <;> simp [Op.bytesLess] at h
  | _, _ :: _, [], _, h => by simp [Op.bytesLess] at h
  | [], _ :: _, _ :: _, _, _ => rfl
  | x :: a, y :: b, z :: c, h1, h2 => by
    simp only [Op.bytesLess, Bool.or_eq_true, Bool.and_eq_true, decide_eq_true_eq, beq_iff_eq] at h1 h2 ⊢
    rcases h1 with h1 | ⟨rfl, h1⟩
    · rcases h2 with h2 | ⟨rfl, h2⟩
      · left
        rw [UInt8.lt_iff_toNat_lt] at h1 h2 ⊢
        omega
      · exact .inl h1
    · rcases h2 with h2 | ⟨rfl, h2⟩
      · exact .inl h2
      · exact .inr ⟨rfl, less_trans a b c h1 h2⟩
theorem lt_trans {a b c : ByteArray} (h1 : lt a b = true) (h2 : lt b c = true) : lt a c = true := less_trans _ _ _ h1 h2
/-! what lists come to -/
def out : Option KV → ByteArray × ByteArray × Int × Int × Int × Int × Bool
  | none => (⟨#[]⟩, ⟨#[]⟩, 0, 0, 0, 0, false)
  | some x => (x.f0, x.f1, x.f2, x.f3, x.f4, x.f5, true)
def find (k : ByteArray) : List KV → Option KV
  | [] => none
  | x :: l => if x.f0 = k then some x else find k l
def take (k : ByteArray) : List KV → List KV
  | [] => []
  | x :: l => if x.f0 = k then l else x :: take k l
def lay (x : KV) : List KV → List KV
  | [] => [x]
  | y :: l => if lt y.f0 x.f0 = true then y :: lay x l else if y.f0 = x.f0 then x :: l else x :: y :: l
def pfx (p k : ByteArray) : Bool := decide (p.size ≤ k.size) && (k.data.toList.take p.size == p.data.toList)
def frm (p : ByteArray) (l : List KV) : List KV := l.filter (fun x => pfx p x.f0)
def step (rev : Int) (l : List KV) (e : EV) : List KV := if e.f0 > rev then l else if e.f1 = true then take e.f2.f0 l else lay e.f2 l
def fold (rev : Int) (l : List KV) (log : List EV) : List KV := log.foldl (step rev) l
def okB (b : UInt8) : Bool := decide (32 < b.toNat) && decide (b.toNat ≤ 126)
def chk (s : ByteArray) : Bool := decide (1 ≤ s.size) && decide (s.size ≤ 40) && s.data.toList.all okB
def one (x : KV) : Bool := chk x.f0 && decide (x.f1.size ≤ 20 ∧ 1 ≤ x.f2 ∧ x.f2 ≤ 1099511627775 ∧ x.f2 ≤ x.f3 ∧ x.f3 ≤ 1099511627775 ∧ 1 ≤ x.f4 ∧ x.f4 ≤ x.f3 - x.f2 + 1 ∧ 0 ≤ x.f5 ∧ x.f5 ≤ 1099511627775)
def srt (l : List KV) : Prop := l.Pairwise (fun a b => lt a.f0 b.f0 = true)
def mayF : ByteArray → List KV → Bool
  | _, [] => true
  | s, x :: l => one x && (lt s x.f0 && mayF x.f0 l)
def may (l : List KV) : Bool := mayF ⟨#[]⟩ l
def few (n : Int) (l : List KV) : Bool := decide ((l.length : Int) ≤ n) && l.all (fun x => decide (x.f0.size ≤ 60) && decide (x.f1.size ≤ 60))
def fewE (n : Int) (l : List EV) : Bool := decide ((l.length : Int) ≤ n) && l.all (fun x => decide (x.f2.f0.size ≤ 60) && decide (x.f2.f1.size ≤ 60))
theorem find_cons (k : ByteArray) (x : KV) (l : List KV) : find k (x :: l) = if x.f0 = k then some x else find k l := rfl
theorem take_cons (k : ByteArray) (x : KV) (l : List KV) : take k (x :: l) = if x.f0 = k then l else x :: take k l := rfl
theorem lay_cons (x y : KV) (l : List KV) : lay x (y :: l) = if lt y.f0 x.f0 = true then y :: lay x l else if y.f0 = x.f0 then x :: l else x :: y :: l := rfl
theorem frm_yes {p : ByteArray} {x : KV} {l : List KV} (h : pfx p x.f0 = true) : frm p (x :: l) = x :: frm p l := by unfold frm; rw [List.filter_cons, if_pos h]
theorem frm_not {p : ByteArray} {x : KV} {l : List KV} (h : ¬ pfx p x.f0 = true) : frm p (x :: l) = frm p l := by unfold frm; rw [List.filter_cons, if_neg h]
/-! lengths -/
theorem take_len (k : ByteArray) : ∀ l : List KV, (take k l).length ≤ l.length
  | [] => Nat.le_refl _
  | x :: l => by unfold take; split <;> simp <;> exact take_len k l
theorem lay_len (x : KV) : ∀ l : List KV, (lay x l).length ≤ l.length + 1
  | [] => by simp [lay]
  | y :: l => by
    unfold lay
    split
    · simp; exact lay_len x l
    · split <;> simp
theorem step_len (rev : Int) (l : List KV) (e : EV) : (step rev l e).length ≤ l.length + 1 := by
  unfold step
  split
  · omega
  · split
    · have := take_len e.f2.f0 l; omega
    · exact lay_len _ _
theorem fold_len (rev : Int) : ∀ (log : List EV) (l : List KV), (fold rev l log).length ≤ l.length + log.length
  | [], l => by simp [fold]
  | e :: log, l => by
    have h := fold_len rev log (step rev l e)
    have h2 := step_len rev l e
    simp only [List.length_cons]
    show (fold rev (step rev l e) log).length ≤ _
    omega
/-! the printed functions -/
theorem pl_find (k : ByteArray) : ∀ (l : List KV) (i : Nat), (hist_is.pl k l (i : Int) = -1 ∧ find k l = none ∧ take k l = l) ∨ ∃ j, j < l.length ∧ hist_is.pl k l (i : Int) = ((i + j : Nat) : Int) ∧ find k l = l[j]? ∧ take k l = l.take j ++ l.drop (j + 1)
  | [], i => .inl ⟨rfl, rfl, rfl⟩
  | x :: l, i => by
    unfold hist_is.pl find take
    by_cases h : x.f0 = k
    · right
      refine ⟨0, by simp, ?_⟩
      simp [h]
    · have h2 : ¬ x.f0.toList = k.toList := fun c => h (tli.1 c)
      simp only [if_neg h, if_neg h2]
      rcases pl_find k l (i + 1) with ⟨e1, e2, e3⟩ | ⟨j, hj, e1, e2, e3⟩
      · left
        refine ⟨?_, e2, by rw [e3]⟩
        rw [← e1]; congr 1
      · right
        refine ⟨j + 1, by simp; omega, ?_, by simp [e2], by simp [e3]⟩
        rw [show ((i : Int) + 1) = ((i + 1 : Nat) : Int) by omega, e1]; congr 1; omega
theorem take_f {l : List KV} (hl : l.length ≤ 1000) (k : ByteArray) : hist_Take.f l k = some (take k l) := by
  unfold hist_Take.f hist_is.f hist_is_ix.f
  rw [Option.bind_some, Option.bind_some]
  rcases pl_find k l 0 with ⟨e1, _, e2⟩ | ⟨j, hj, e1, _, e2⟩
  · rw [show ((0 : Nat) : Int) = 0 from rfl] at e1
    have hc : api_KV_36.f l = some l := if_pos (by omega)
    rw [e1, e2, if_pos (by decide), hc]
    rfl
  · rw [show ((0 : Nat) : Int) = 0 from rfl, Nat.zero_add] at e1
    have h : [l.take j, l.drop (j + 1)].flatten = l.take j ++ l.drop (j + 1) := by simp
    have hc : api_KV_73.f [l.take j, l.drop (j + 1)] = some (l.take j ++ l.drop (j + 1)) := by
      rw [← h]
      exact if_pos (by rw [h]; simp; omega)
    rw [e1, e2, if_neg (by omega), if_pos (by omega), if_pos (by omega), nx (by omega), if_pos (by omega), if_pos (by omega), Int.toNat_natCast, Int.toNat_natCast, hc]
    rfl
theorem has_f (k p : ByteArray) : strings_HasPrefix.f k p = some (pfx p k) := by
  unfold strings_HasPrefix.f stringslite_HasPrefix.f pfx
  by_cases h : (k.size : Int) ≥ (p.size : Int)
  · rw [if_pos h, if_pos (by omega), if_pos (by omega), Option.bind_some, tl, tl, Lib.extract_data, Int.toNat_natCast, show decide (p.size ≤ k.size) = true from decide_eq_true (by omega)]
    simp
  · rw [if_neg h, Option.bind_some, show decide (p.size ≤ k.size) = false from decide_eq_false (by omega)]
    simp
theorem frm_l (p : ByteArray) (l : List KV) (hl : l.length ≤ 1000) (d : Nat) : ∀ (i : Nat) (q : List KV), l.length = i + d → q.length ≤ i → Ev (fun n => hist_From.l0 n p q l (l.length : Int) (i : Int)) (q ++ frm p (l.drop i)) := by
  induction d with
  | zero =>
    intro i q hd hq
    refine Ev.step (fun n => by apply hist_From.l0.eq_2) (ev_ifn (by omega) (ev_now ?_))
    rw [List.drop_of_length_le (by omega)]
    simp [frm]
  | succ d ih =>
    intro i q hd hq
    have hlt : i < l.length := by omega
    rw [List.drop_eq_getElem_cons hlt]
    refine Ev.step (fun n => by apply hist_From.l0.eq_2) (ev_if (by omega) (ev_if (by omega) (ev_if (by omega) ?_)))
    rw [rd hlt, nx (by omega)]
    refine ev_c (has_f _ _) ?_
    by_cases h : pfx p l[i].f0 = true
    · refine ev_if h (ev_if (by omega) ?_)
      have := ih (i + 1) (q ++ [l[i]]) (by omega) (by simp; omega)
      rw [List.append_assoc] at this
      rw [frm_yes h]
      exact this
    · refine ev_ifn h ?_
      rw [frm_not h]
      exact ih (i + 1) q (by omega) (by omega)
theorem frm_f {l : List KV} (hl : l.length ≤ 1000) (p : ByteArray) : Ev (fun n => hist_From.f n l p) (frm p l) := by
  have := frm_l p l hl l.length 0 [] (by omega) (by simp)
  unfold hist_From.f
  simpa using this
theorem laid_l (x : KV) (l : List KV) (hl : l.length ≤ 1000) (d : Nat) : ∀ (i : Nat) (q : List KV), l.length = i + d → q.length ≤ i + 1 → Ev (fun n => hist_Lay.l0 n q true l (l.length : Int) (i : Int) x.f0 x.f1 x.f2 x.f3 x.f4 x.f5) (q ++ l.drop i) := by
  induction d with
  | zero =>
    intro i q hd hq
    refine Ev.step (fun n => by apply hist_Lay.l0.eq_2) (ev_ifn (by omega) (ev_if rfl (ev_now ?_)))
    rw [List.drop_of_length_le (by omega)]
    simp
  | succ d ih =>
    intro i q hd hq
    have hlt : i < l.length := by omega
    rw [List.drop_eq_getElem_cons hlt]
    refine Ev.step (fun n => by apply hist_Lay.l0.eq_2) (ev_if (by omega) (ev_if (by omega) (ev_if (by omega) (ev_if rfl ?_))))
    refine Ev.step (fun n => by apply hist_Lay.j1.eq_2) (ev_if rfl (ev_if (by omega) ?_))
    rw [rd hlt, nx (by omega)]
    have := ih (i + 1) (q ++ [l[i]]) (by omega) (by simp; omega)
    rw [List.append_assoc] at this
    exact this
theorem lay_l (x : KV) (l : List KV) (hl : l.length ≤ 1000) (d : Nat) : ∀ (i : Nat) (q : List KV), l.length = i + d → q.length ≤ i → Ev (fun n => hist_Lay.l0 n q false l (l.length : Int) (i : Int) x.f0 x.f1 x.f2 x.f3 x.f4 x.f5) (q ++ lay x (l.drop i)) := by
  induction d with
  | zero =>
    intro i q hd hq
    refine Ev.step (fun n => by apply hist_Lay.l0.eq_2) (ev_ifn (by omega) (ev_ifn (by decide) (ev_if (by omega) (ev_now ?_))))
    rw [List.drop_of_length_le (by omega)]
    rfl
  | succ d ih =>
    intro i q hd hq
    have hlt : i < l.length := by omega
    rw [List.drop_eq_getElem_cons hlt]
    refine Ev.step (fun n => by apply hist_Lay.l0.eq_2) (ev_if (by omega) (ev_if (by omega) (ev_if (by omega) (ev_ifn (by decide) ?_))))
    refine Ev.step (fun n => by apply hist_Lay.j1.eq_2) ?_
    rw [rd hlt, nx (by omega)]
    unfold lay
    by_cases h : lt l[i].f0 x.f0 = true
    · refine ev_if h (ev_if (by omega) ?_)
      rw [if_pos h]
      have := ih (i + 1) (q ++ [l[i]]) (by omega) (by simp; omega)
      rw [List.append_assoc] at this
      exact this
    · refine ev_ifn h ?_
      rw [if_neg h]
      by_cases h2 : l[i].f0 = x.f0
      · refine ev_if (by rw [h2]) (ev_if (by omega) ?_)
        rw [if_pos h2]
        have := laid_l x l hl d (i + 1) (q ++ [x]) (by omega) (by simp; omega)
        rw [List.append_assoc] at this
        exact this
      · refine ev_ifn (fun c => h2 (tli.1 c)) (ev_c rfl (ev_if (by simp; omega) ?_))
        rw [if_neg h2]
        have := laid_l x l hl d (i + 1) (q ++ [x, l[i]]) (by omega) (by simp; omega)
        rw [List.append_assoc] at this
        exact this
theorem lay_f {l : List KV} (hl : l.length ≤ 1000) (x : KV) : Ev (fun n => hist_Lay.f n l x.f0 x.f1 x.f2 x.f3 x.f4 x.f5) (lay x l) := by
  have := lay_l x l hl l.length 0 [] (by omega) (by simp)
  unfold hist_Lay.f
  simpa using this
theorem few_l (l : List KV) (hl : l.length ≤ 1000) (d : Nat) : ∀ i : Nat, l.length = i + d → Ev (fun n => batonref03_Few.l0 n l (i : Int)) ((l.drop i).all (fun x => decide (x.f0.size ≤ 60) && decide (x.f1.size ≤ 60))) := by
  induction d with
  | zero =>
    intro i hd
    refine Ev.step (fun n => by apply batonref03_Few.l0.eq_2) (ev_ifn (by omega) (ev_now ?_))
    rw [List.drop_of_length_le (by omega)]
    rfl
  | succ d ih =>
    intro i hd
    have hlt : i < l.length := by omega
    rw [List.drop_eq_getElem_cons hlt, List.all_cons]
    refine Ev.step (fun n => by apply batonref03_Few.l0.eq_2) (ev_if (by omega) (ev_if (by omega) ?_))
    rw [rd hlt, nx (by omega)]
    by_cases h : (l[i].f0.size : Int) > 60
    · refine ev_if h (ev_now ?_)
      rw [show decide (l[i].f0.size ≤ 60) = false from decide_eq_false (by omega)]; rfl
    · refine ev_ifn h ?_
      rw [show decide (l[i].f0.size ≤ 60) = true from decide_eq_true (by omega)]
      by_cases h2 : (l[i].f1.size : Int) > 60
      · refine ev_if h2 (ev_now ?_)
        rw [show decide (l[i].f1.size ≤ 60) = false from decide_eq_false (by omega)]; rfl
      · refine ev_ifn h2 ?_
        rw [show decide (l[i].f1.size ≤ 60) = true from decide_eq_true (by omega)]
        exact ih (i + 1) (by omega)
theorem few_f {n : Int} (hn : n ≤ 1000) (l : List KV) : Ev (fun k => batonref03_Few.f k l n) (few n l) := by
  unfold batonref03_Few.f few
  by_cases h : (l.length : Int) > n
  · refine ev_if h (ev_now ?_)
    rw [decide_eq_false (by omega)]; rfl
  · refine ev_ifn h ?_
    rw [decide_eq_true (by omega)]
    have := few_l l (by omega) l.length 0 (by omega)
    exact this
theorem foldf_l (rev : Int) (log : List EV) (hg : log.length ≤ 500) (d : Nat) : ∀ (i : Nat) (l : List KV), log.length = i + d → l.length ≤ 400 + i → Ev (fun n => hist_Fold.l0 n l rev log (log.length : Int) (i : Int)) (fold rev l (log.drop i)) := by
  induction d with
  | zero =>
    intro i l hd hl
    refine Ev.step (fun n => by apply hist_Fold.l0.eq_2) (ev_ifn (by omega) (ev_now ?_))
    rw [List.drop_of_length_le (by omega)]
    rfl
  | succ d ih =>
    intro i l hd hl
    have hlt : i < log.length := by omega
    have hs := step_len rev l log[i]
    have hk := ih (i + 1) (step rev l log[i]) (by omega) (by omega)
    rw [List.drop_eq_getElem_cons hlt]
    show Ev _ (fold rev (step rev l log[i]) (log.drop (i + 1)))
    refine Ev.step (fun n => by apply hist_Fold.l0.eq_2) (ev_if (by omega) (ev_if (by omega) (ev_if (by omega) ?_)))
    rw [rde hlt, nx (by omega)]
    unfold step at hk ⊢
    by_cases h : log[i].f0 > rev
    · rw [if_pos h] at hk ⊢
      exact ev_if h hk
    · rw [if_neg h] at hk ⊢
      refine ev_ifn h ?_
      by_cases h2 : log[i].f1 = true
      · rw [if_pos h2] at hk ⊢
        exact ev_if h2 (ev_c (take_f (by omega) _) hk)
      · rw [if_neg h2] at hk ⊢
        exact ev_ifn h2 (ev_b (lay_f (by omega) _) hk)
theorem fold_f (rev : Int) {log : List EV} (hg : log.length ≤ 500) {l : List KV} (hl : l.length ≤ 400) : Ev (fun n => hist_Fold.f n l log rev) (fold rev l log) := by
  unfold hist_Fold.f
  have hc : api_KV_36.f l = some l := if_pos (by omega)
  exact ev_c hc (foldf_l rev log hg log.length 0 l (by omega) (by omega))
theorem bt_nat (s : ByteArray) (i : Nat) (h : i < s.data.toList.length) : bt s (i : Int) = ((s.data.toList[i]'h).toNat : Int) := by
  unfold bt
  rw [dif_pos (by rw [sz]; simpa using h)]
  simp [ByteArray.getElem_eq_getElem_data]
/-! what they say -/
theorem lt_empty {k : ByteArray} (h : 1 ≤ k.size) : lt ⟨#[]⟩ k = true := by
  unfold lt
  rw [tl k, tl ⟨#[]⟩]
  rw [sz] at h
  cases hk : k.data.toList with
  | nil => rw [hk] at h; simp at h
  | cons b l => rfl
theorem mayF_iff : ∀ (l : List KV) (s : ByteArray), mayF s l = true ↔ (∀ x ∈ l, one x = true) ∧ srt l ∧ ∀ x ∈ l, lt s x.f0 = true
  | [], s => by simp [mayF, srt]
  | x :: l, s => by
    unfold mayF srt
    rw [Bool.and_eq_true, Bool.and_eq_true, mayF_iff l x.f0, List.pairwise_cons]
    unfold srt
    constructor
    · rintro ⟨h1, h2, h3, h4, h5⟩
      refine ⟨fun y hy => ?_, ⟨h5, h4⟩, fun y hy => ?_⟩
      · rcases List.mem_cons.1 hy with rfl | hy
        · exact h1
        · exact h3 y hy
      · rcases List.mem_cons.1 hy with rfl | hy
        · exact h2
        · exact lt_trans h2 (h5 y hy)
    · rintro ⟨h1, ⟨h2, h3⟩, h4⟩
      exact ⟨h1 x (by simp), h4 x (by simp), fun y hy => h1 y (by simp [hy]), h3, h2⟩
theorem may_iff (l : List KV) : may l = true ↔ (∀ x ∈ l, one x = true) ∧ srt l := by
  unfold may
  rw [mayF_iff]
  constructor
  · exact fun h => ⟨h.1, h.2.1⟩
  · refine fun h => ⟨h.1, h.2, fun x hx => lt_empty ?_⟩
    have := h.1 x hx
    unfold one chk at this
    simp only [Bool.and_eq_true, decide_eq_true_eq] at this
    exact this.1.1.1
theorem lay_mem {x y : KV} : ∀ {l : List KV}, y ∈ lay x l → y = x ∨ y ∈ l
  | [], h => .inl (by simpa [lay] using h)
  | z :: l, h => by
    unfold lay at h
    split at h
    · rcases List.mem_cons.1 h with rfl | h
      · right; simp
      · rcases lay_mem h with h | h
        · exact .inl h
        · right; simp [h]
    · split at h
      · rcases List.mem_cons.1 h with rfl | h
        · exact .inl rfl
        · right; simp [h]
      · rcases List.mem_cons.1 h with rfl | h
        · exact .inl rfl
        · exact .inr h
theorem gt_of {x y : ByteArray} (h1 : ¬ lt y x = true) (h2 : ¬ y = x) : lt x y = true := by
  rcases lt_or y x with h | h | h
  · exact absurd h h1
  · exact absurd h h2
  · exact h
theorem lay_srt (x : KV) : ∀ {l : List KV}, srt l → srt (lay x l)
  | [], _ => by simp [lay, srt]
  | y :: l, h => by
    unfold srt at h
    rw [List.pairwise_cons] at h
    unfold lay
    split
    · rename_i c
      unfold srt
      rw [List.pairwise_cons]
      refine ⟨fun z hz => ?_, lay_srt x h.2⟩
      rcases lay_mem hz with rfl | hz
      · exact c
      · exact h.1 z hz
    · rename_i c
      split
      · rename_i e
        unfold srt
        rw [List.pairwise_cons]
        exact ⟨fun z hz => by rw [← e]; exact h.1 z hz, h.2⟩
      · rename_i e
        have g := gt_of c e
        unfold srt
        rw [List.pairwise_cons, List.pairwise_cons]
        refine ⟨fun z hz => ?_, h⟩
        rcases List.mem_cons.1 hz with rfl | hz
        · exact g
        · exact lt_trans g (h.1 z hz)
theorem take_sub (k : ByteArray) : ∀ l : List KV, (take k l).Sublist l
  | [] => List.Sublist.refl _
  | x :: l => by
    unfold take
    split
    · exact List.sublist_cons_self _ _
    · exact (take_sub k l).cons_cons _
theorem may_lay {l : List KV} {x : KV} (h : may l = true) (hx : one x = true) : may (lay x l) = true := by
  rw [may_iff] at h ⊢
  refine ⟨fun y hy => ?_, lay_srt x h.2⟩
  rcases lay_mem hy with rfl | hy
  · exact hx
  · exact h.1 y hy
theorem may_sub {l m : List KV} (hs : m.Sublist l) (h : may l = true) : may m = true := by
  rw [may_iff] at h ⊢
  exact ⟨fun y hy => h.1 y (hs.mem hy), h.2.sublist hs⟩
theorem find_none {k : ByteArray} : ∀ {l : List KV}, (∀ x ∈ l, x.f0 ≠ k) → find k l = none
  | [], _ => rfl
  | x :: l, h => by
    unfold find
    rw [if_neg (h x (by simp))]
    exact find_none (fun y hy => h y (by simp [hy]))
theorem take_none {k : ByteArray} : ∀ {l : List KV}, (∀ x ∈ l, x.f0 ≠ k) → take k l = l
  | [], _ => rfl
  | x :: l, h => by
    unfold take
    rw [if_neg (h x (by simp)), take_none (fun y hy => h y (by simp [hy]))]
theorem srt_tail {x : KV} {l : List KV} (h : srt (x :: l)) : srt l := (List.pairwise_cons.1 h).2
theorem srt_head {x : KV} {l : List KV} (h : srt (x :: l)) : ∀ y ∈ l, lt x.f0 y.f0 = true := (List.pairwise_cons.1 h).1
theorem find_lay (x : KV) : ∀ l : List KV, find x.f0 (lay x l) = some x
  | [] => by simp [lay, find]
  | y :: l => by
    unfold lay
    split
    · rename_i c
      unfold find
      rw [if_neg (lt_ne c), find_lay x l]
    · split <;> simp [find]
theorem find_take (k : ByteArray) : ∀ {l : List KV}, srt l → find k (take k l) = none
  | [], _ => rfl
  | x :: l, h => by
    unfold take
    split
    · rename_i e
      subst e
      exact find_none (fun y hy c => lt_ne (srt_head h y hy) c.symm)
    · rename_i e
      unfold find
      rw [if_neg e, find_take k (srt_tail h)]
theorem find_lay_ne {k : ByteArray} {x : KV} (hk : ¬ k = x.f0) : ∀ l : List KV, find k (lay x l) = find k l
  | [] => by simp [lay, find, Ne.symm hk]
  | y :: l => by
    unfold lay
    split
    · unfold find
      rw [find_lay_ne hk l]
    · split
      · rename_i e
        unfold find
        rw [if_neg (fun c => hk c.symm), if_neg (fun c => hk (by rw [← c, e]))]
      · rw [find_cons, if_neg (fun c => hk c.symm)]
theorem find_take_ne {k j : ByteArray} (hk : ¬ k = j) : ∀ l : List KV, find k (take j l) = find k l
  | [] => rfl
  | y :: l => by
    unfold take
    split
    · rename_i e
      rw [find_cons, if_neg (fun c => hk (by rw [← c, e]))]
    · unfold find
      rw [find_take_ne hk l]
theorem lay_len2 (x : KV) : ∀ {l : List KV}, srt l → (lay x l).length = if (find x.f0 l).isSome = true then l.length else l.length + 1
  | [], _ => by simp [lay, find]
  | y :: l, h => by
    unfold lay
    split
    · rename_i c
      have := lay_len2 x (srt_tail h)
      unfold find
      rw [if_neg (lt_ne c), List.length_cons, this]
      split <;> simp
    · rename_i c
      split
      · rename_i e
        simp [find, e]
      · rename_i e
        have g := gt_of c e
        rw [find_none]
        · simp
        · intro z hz
          rcases List.mem_cons.1 hz with rfl | hz
          · exact e
          · exact fun q => lt_ne (lt_trans g (srt_head h z hz)) q.symm
theorem take_len2 (k : ByteArray) : ∀ l : List KV, (take k l).length + (if (find k l).isSome = true then 1 else 0) = l.length
  | [] => by simp [take, find]
  | y :: l => by
    unfold take find
    split
    · simp
    · have := take_len2 k l
      simp only [List.length_cons]
      omega
theorem lay_lay (x y : KV) (h : x.f0 = y.f0) : ∀ l : List KV, lay y (lay x l) = lay y l
  | [] => by simp [lay, h, lt_irrefl]
  | z :: l => by
    have hi : ¬ lt x.f0 y.f0 = true := by rw [h, lt_irrefl]; decide
    rw [lay_cons x, lay_cons y z]
    by_cases c : lt z.f0 x.f0 = true
    · have c2 : lt z.f0 y.f0 = true := by rw [← h]; exact c
      rw [if_pos c, if_pos c2, lay_cons, if_pos c2, lay_lay x y h l]
    · have c2 : ¬ lt z.f0 y.f0 = true := by rw [← h]; exact c
      by_cases e : z.f0 = x.f0
      · have e2 : z.f0 = y.f0 := by rw [← h]; exact e
        rw [if_neg c, if_pos e, if_neg c2, if_pos e2, lay_cons, if_neg hi, if_pos h]
      · have e2 : ¬ z.f0 = y.f0 := by rw [← h]; exact e
        rw [if_neg c, if_neg e, if_neg c2, if_neg e2, lay_cons, if_neg hi, if_pos h]
theorem take_lay (x : KV) : ∀ {l : List KV}, srt l → take x.f0 (lay x l) = take x.f0 l
  | [], _ => by simp [lay, take]
  | y :: l, h => by
    rw [lay_cons]
    split
    · rename_i c
      rw [take_cons, take_cons, if_neg (lt_ne c), if_neg (lt_ne c), take_lay x (srt_tail h)]
    · rename_i c
      split
      · rename_i e
        rw [take_cons, take_cons, if_pos rfl, if_pos e]
      · rename_i e
        have g := gt_of c e
        rw [take_cons, if_pos rfl, take_none]
        intro z hz
        rcases List.mem_cons.1 hz with rfl | hz
        · exact e
        · exact fun q => lt_ne (lt_trans g (srt_head h z hz)) q.symm
theorem lay_comm1 {x y : KV} (h : lt x.f0 y.f0 = true) : ∀ l : List KV, lay y (lay x l) = lay x (lay y l)
  | [] => by simp [lay, h, lt_asym h, Ne.symm (lt_ne h)]
  | z :: l => by
    have nyx : ¬ lt y.f0 x.f0 = true := by rw [lt_asym h]; decide
    have ne : ¬ y.f0 = x.f0 := fun c => lt_ne h c.symm
    by_cases c : lt z.f0 x.f0 = true
    · have c2 := lt_trans c h
      rw [lay_cons x, if_pos c, lay_cons y, if_pos c2, lay_cons y, if_pos c2, lay_cons x, if_pos c, lay_comm1 h l]
    · by_cases e : z.f0 = x.f0
      · have c2 : lt z.f0 y.f0 = true := by rw [e]; exact h
        rw [lay_cons x, if_neg c, if_pos e, lay_cons y, if_pos h, lay_cons y, if_pos c2, lay_cons x, if_neg c, if_pos e]
      · rw [lay_cons x, if_neg c, if_neg e, lay_cons y, if_pos h]
        by_cases c2 : lt z.f0 y.f0 = true
        · rw [lay_cons y, if_pos c2, lay_cons x, if_neg c, if_neg e]
        · by_cases e2 : z.f0 = y.f0
          · rw [lay_cons y, if_neg c2, if_pos e2, lay_cons x, if_neg nyx, if_neg ne]
          · rw [lay_cons y, if_neg c2, if_neg e2, lay_cons x, if_neg nyx, if_neg ne]
theorem lay_comm {x y : KV} (h : ¬ x.f0 = y.f0) (l : List KV) : lay y (lay x l) = lay x (lay y l) := by
  rcases lt_or x.f0 y.f0 with c | c | c
  · exact lay_comm1 c l
  · exact absurd c h
  · exact (lay_comm1 c l).symm
theorem pfx_empty (k : ByteArray) : pfx ⟨#[]⟩ k = true := by
  unfold pfx
  rw [decide_eq_true (show (⟨#[]⟩ : ByteArray).size ≤ k.size from Nat.zero_le _)]
  rfl
theorem frm_empty (l : List KV) : frm ⟨#[]⟩ l = l := by
  unfold frm
  rw [List.filter_eq_self]
  exact fun x _ => pfx_empty _
theorem frm_len (p : ByteArray) (l : List KV) : (frm p l).length ≤ l.length := List.length_filter_le _ _
theorem frm_mem {p : ByteArray} {l : List KV} {z : KV} (h : z ∈ frm p l) : z ∈ l := (List.mem_filter.1 h).1
theorem frm_lay {p : ByteArray} {x : KV} (hp : pfx p x.f0 = true) : ∀ {l : List KV}, srt l → frm p (lay x l) = lay x (frm p l)
  | [], _ => by simp [frm, lay, hp]
  | y :: l, h => by
    have ih := frm_lay hp (srt_tail h)
    rw [lay_cons]
    by_cases c : lt y.f0 x.f0 = true
    · rw [if_pos c]
      by_cases q : pfx p y.f0 = true
      · rw [frm_yes q, frm_yes q, ih, lay_cons, if_pos c]
      · rw [frm_not q, frm_not q, ih]
    · rw [if_neg c]
      by_cases e : y.f0 = x.f0
      · rw [if_pos e, frm_yes hp, frm_yes (show pfx p y.f0 = true by rw [e]; exact hp), lay_cons, if_neg c, if_pos e]
      · have g := gt_of c e
        rw [if_neg e, frm_yes hp]
        have : ∀ z ∈ frm p (y :: l), lt x.f0 z.f0 = true := by
          intro z hz
          rcases List.mem_cons.1 (frm_mem hz) with rfl | hz
          · exact g
          · exact lt_trans g (srt_head h z hz)
        cases hq : frm p (y :: l) with
        | nil => rfl
        | cons z m =>
          have hz := this z (by rw [hq]; simp)
          rw [lay_cons, if_neg (by rw [lt_asym hz]; decide), if_neg (fun q => lt_ne hz q.symm)]
theorem frm_lay_no {p : ByteArray} {x : KV} (hp : ¬ pfx p x.f0 = true) : ∀ l : List KV, frm p (lay x l) = frm p l
  | [] => by simp [frm, lay, hp]
  | y :: l => by
    have ih := frm_lay_no hp l
    rw [lay_cons]
    split
    · by_cases q : pfx p y.f0 = true
      · rw [frm_yes q, frm_yes q, ih]
      · rw [frm_not q, frm_not q, ih]
    · split
      · rename_i e
        rw [frm_not hp, frm_not (show ¬ pfx p y.f0 = true by rw [e]; exact hp)]
      · rw [frm_not hp]
theorem frm_take {p k : ByteArray} (hp : pfx p k = true) : ∀ l : List KV, frm p (take k l) = take k (frm p l)
  | [] => rfl
  | y :: l => by
    have ih := frm_take hp l
    rw [take_cons]
    split
    · rename_i e
      rw [frm_yes (show pfx p y.f0 = true by rw [e]; exact hp), take_cons, if_pos e]
    · rename_i e
      by_cases q : pfx p y.f0 = true
      · rw [frm_yes q, frm_yes q, ih, take_cons, if_neg e]
      · rw [frm_not q, frm_not q, ih]
theorem frm_take_no {p k : ByteArray} (hp : ¬ pfx p k = true) : ∀ l : List KV, frm p (take k l) = frm p l
  | [] => rfl
  | y :: l => by
    have ih := frm_take_no hp l
    rw [take_cons]
    split
    · rename_i e
      rw [frm_not (show ¬ pfx p y.f0 = true by rw [e]; exact hp)]
    · by_cases q : pfx p y.f0 = true
      · rw [frm_yes q, frm_yes q, ih]
      · rw [frm_not q, frm_not q, ih]
theorem fold_low (rev : Int) : ∀ (log : List EV) (l : List KV), fold rev l (log.filter (fun e => decide (e.f0 ≤ rev))) = fold rev l log
  | [], l => rfl
  | e :: log, l => by
    rw [List.filter_cons]
    by_cases h : e.f0 ≤ rev
    · rw [if_pos (by simpa using h)]
      exact fold_low rev log (step rev l e)
    · rw [if_neg (by simpa using h), fold_low rev log l]
      show _ = fold rev (step rev l e) log
      unfold step
      rw [if_pos (by omega)]
def low (rev : Int) (log : List EV) : List EV := log.filter (fun e => decide (e.f0 ≤ rev))
theorem low_len (rev : Int) (log : List EV) : (low rev log).length ≤ log.length := List.length_filter_le _ _
theorem low_yes {rev : Int} (log : List EV) {e : EV} (h : e.f0 ≤ rev) : low rev (log ++ [e]) = low rev log ++ [e] := by
  unfold low
  rw [List.filter_append, List.filter_cons, if_pos (by simpa using h), List.filter_nil]
theorem low_no {rev : Int} (log : List EV) {e : EV} (h : ¬ e.f0 ≤ rev) : low rev (log ++ [e]) = low rev log := by
  unfold low
  rw [List.filter_append, List.filter_cons, if_neg (by simpa using h), List.filter_nil, List.append_nil]
theorem few_len {l : List KV} {n : Int} (h : few n l = true) : (l.length : Int) ≤ n := by
  unfold few at h
  simp only [Bool.and_eq_true, decide_eq_true_eq] at h
  exact h.1
theorem fewE_len {l : List EV} {n : Int} (h : fewE n l = true) : (l.length : Int) ≤ n := by
  unfold fewE at h
  simp only [Bool.and_eq_true, decide_eq_true_eq] at h
  exact h.1
end Hist
end Go.Proofs.Ytaebmmjhokjdbaa.PM
