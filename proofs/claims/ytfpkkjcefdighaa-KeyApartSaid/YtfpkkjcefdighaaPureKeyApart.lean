/- KeyApart: the pure statement, out of the plain laws of keys. -/
import Derived.Test.YtfpkkjcefdighaaSaidKeyApart
import Derived.Test.YtfpkkjcefdighaaKey
namespace Go.Proofs.Ytfpkkjcefdighaa.PM.GKeyApart
open Go.RowKit Go.Proofs.YtfpkkjcefdighaaW.PrintWords Go.Proofs.YtfpkkjcefdighaaW.PrintLast Go.Proofs.YtfpkkjcefdighaaW.PrintMore Go.Proofs.Ytfpkkjcefdighaa.PM Go.Proofs.Ytfpkkjcefdighaa.My
set_option linter.unusedVariables false
theorem ev_ite {α : Type} {c : Prop} [Decidable c] {f g : Nat → Option α} {r : α} (h1 : c → Ev f r) (h2 : ¬ c → Ev g r) : Ev (fun n => if c then f n else g n) r := by
  by_cases h : c
  · exact ev_if h (h1 h)
  · exact ev_ifn h (h2 h)
def oneK (a b : Int) : Prop := a = b ∨ (a = 2 ∧ b = 3) ∨ (a = 3 ∧ b = 2) ∨ (a = 7 ∧ b = 8) ∨ (a = 8 ∧ b = 7)
theorem leafY {p q s t n m : ByteArray} {i j : Int} (h1 : (p.toList == q.toList) = (n.toList == m.toList)) (h2 : p.toList = q.toList → (s.toList == t.toList) = (i == j)) (h3 : ¬ p.toList = q.toList → (s.toList == t.toList) = false) (hu : key_Under.f q s = some (p.toList == q.toList)) :
    Ev (fun _ : Nat => (if ((p.toList == q.toList) == (n.toList == m.toList)) = true then (if p.toList = q.toList then (if ((s.toList == t.toList) == (i == j)) = true then ((key_Under.f q s).bind fun t195 => (if (t195 == (p.toList == q.toList)) = true then ((batonlaw02_live.f).bind fun t196 => (some t196)) else (none))) else (none)) else (if ((s.toList == t.toList) == false) = true then ((key_Under.f q s).bind fun t197 => (if (t197 == (p.toList == q.toList)) = true then ((batonlaw02_live.f).bind fun t198 => (some t198)) else (none))) else (none))) else (none))) true := by
  refine ev_if (by rw [h1]; simp) (ev_ite (fun c => ?_) (fun c => ?_))
  · exact ev_if (by rw [h2 c]; simp) (ev_c hu (ev_if (by simp) (ev_c Key.live (ev_now rfl))))
  · exact ev_if (by rw [h3 c]; simp) (ev_c hu (ev_if (by simp) (ev_c Key.live (ev_now rfl))))
theorem leafN {p q s t : ByteArray} {i j : Int} (h : ¬ p.toList = q.toList) (h3 : (s.toList == t.toList) = false) (hu : key_Under.f q s = some (p.toList == q.toList)) :
    Ev (fun _ : Nat => (if ((p.toList == q.toList) == false) = true then (if p.toList = q.toList then (if ((s.toList == t.toList) == (i == j)) = true then ((key_Under.f q s).bind fun t195 => (if (t195 == (p.toList == q.toList)) = true then ((batonlaw02_live.f).bind fun t196 => (some t196)) else (none))) else (none)) else (if ((s.toList == t.toList) == false) = true then ((key_Under.f q s).bind fun t197 => (if (t197 == (p.toList == q.toList)) = true then ((batonlaw02_live.f).bind fun t198 => (some t198)) else (none))) else (none))) else (none))) true := by
  refine ev_if (by rw [beq_eq_false_iff_ne.2 h]; rfl) (ev_ifn h ?_)
  exact ev_if (by rw [h3]; rfl) (ev_c hu (ev_if (by simp) (ev_c Key.live (ev_now rfl))))
theorem j1_true {p q s t n m : ByteArray} {i j a b : Int} (h1 : oneK a b → (p.toList == q.toList) = (n.toList == m.toList)) (h0 : ¬ oneK a b → ¬ p.toList = q.toList) (h2 : p.toList = q.toList → (s.toList == t.toList) = (i == j)) (h3 : ¬ p.toList = q.toList → (s.toList == t.toList) = false) (hu : key_Under.f q s = some (p.toList == q.toList)) : Ev (fun k => batonlaw02_KeyApart.j1 k p q s t false a b n m i j) true := by
  refine Ev.step (fun k => by apply batonlaw02_KeyApart.j1.eq_2) (ev_ifn (by decide) ?_)
  have Y := fun c : oneK a b => leafY (i := i) (j := j) (h1 c) h2 h3 hu
  have X := fun c : ¬ oneK a b => leafN (i := i) (j := j) (h0 c) (h3 (h0 c)) hu
  unfold oneK at Y X
  repeat' first
    | exact Y (by omega)
    | exact X (by omega)
    | refine ev_ite (fun c => ?_) (fun c => ?_)
theorem lett_one {a b : Int} (ha : Key.lett a ≠ []) (hb : Key.lett b ≠ []) : Key.lett a = Key.lett b ↔ oneK a b := by
  unfold oneK
  unfold Key.lett at ha hb ⊢
  repeat' split at ha
  all_goals first | (exact absurd rfl ha) | skip
  all_goals (repeat' split at hb)
  all_goals first | (exact absurd rfl hb) | skip
  all_goals first | omega | (simp; done) | (simp; omega) | (simp_all; done) | (simp_all; omega)
theorem lett_c {k : Int} (h : Key.lett k ≠ []) : ∃ c, Key.lett k = [c] := by
  have := Key.lett_len k
  cases hl : Key.lett k with
  | nil => exact absurd hl h
  | cons c l =>
    rw [hl] at this
    cases l with
    | nil => exact ⟨c, rfl⟩
    | cons d l => simp at this
theorem pre_inj {a b : Int} {n m : ByteArray} (ha : Key.lett a ≠ []) (hb : Key.lett b ≠ []) : Key.pre a n = Key.pre b m ↔ Key.lett a = Key.lett b ∧ n.data.toList = m.data.toList := by
  obtain ⟨c, hc⟩ := lett_c ha
  obtain ⟨d, hd⟩ := lett_c hb
  unfold Key.pre
  rw [hc, hd]
  simp
theorem slash : ∀ (a b t : List UInt8), a.all Key.okN = true → b.all Key.okN = true → (a ++ 47 :: t).take (b.length + 1) = b ++ [47] → a = b
  | [], [], _, _, _, _ => rfl
  | [], y :: b, t, _, hb, h => by
    simp at h
    rw [← h.1] at hb
    simp [Key.okN] at hb
  | x :: a, [], t, ha, _, h => by
    simp at h
    rw [h] at ha
    simp [Key.okN] at ha
  | x :: a, y :: b, t, ha, hb, h => by
    simp only [List.all_cons, Bool.and_eq_true] at ha hb
    simp only [List.cons_append, List.length_cons, List.take_succ_cons, List.cons.injEq] at h
    rw [h.1, slash a b t ha.2 hb.2 h.2]
theorem und_pre {a b : Int} {n m : ByteArray} (ha : Key.lett a ≠ []) (hb : Key.lett b ≠ []) (hn : Key.nam n = true) (hm : Key.nam m = true) (t : List UInt8) (ht : t.length = 10) : Key.und ⟨(Key.pre b m).toArray⟩ ⟨(Key.pre a n ++ t).toArray⟩ = (Key.pre a n == Key.pre b m) := by
  by_cases h : Key.pre a n = Key.pre b m
  · rw [h, Key.und_cat _ _ (by intro c; rw [c] at ht; simp at ht)]
    simp
  · rw [beq_eq_false_iff_ne.2 h]
    unfold Key.und
    rw [Bool.and_eq_false_iff]
    right
    rw [beq_eq_false_iff_ne, Key.sz]
    intro c
    apply h
    obtain ⟨x, hx⟩ := lett_c ha
    obtain ⟨y, hy⟩ := lett_c hb
    rw [pre_inj ha hb]
    unfold Key.pre at c
    rw [hx, hy] at c ⊢
    have hn2 : n.data.toList.all Key.okN = true := by
      unfold Key.nam at hn
      simp only [Bool.and_eq_true] at hn
      exact hn.2
    have hm2 : m.data.toList.all Key.okN = true := by
      unfold Key.nam at hm
      simp only [Bool.and_eq_true] at hm
      exact hm.2
    simp only [List.cons_append, List.nil_append, List.append_assoc, List.length_cons, List.length_append, List.length_nil, List.take_succ_cons, List.cons.injEq] at c
    have := slash n.data.toList m.data.toList t hn2 hm2 (by simpa using c.2.2)
    exact ⟨by rw [c.1], this⟩
theorem tkb_inj {i j : Int} (hi : Key.inr i = true) (hj : Key.inr j = true) (h : ticketBytes i 10 = ticketBytes j 10) : i = j := by
  have hi := (Key.inr_iff i).1 hi
  have hj := (Key.inr_iff j).1 hj
  obtain ⟨m, rfl⟩ := Int.eq_ofNat_of_zero_le hi.1
  obtain ⟨n, rfl⟩ := Int.eq_ofNat_of_zero_le hj.1
  have h1 := Key.hexV_tkb m 10 0
  have h2 := Key.hexV_tkb n 10 0
  rw [Nat.mod_eq_of_lt (by omega)] at h1 h2
  rw [h, h2] at h1
  simp at h1
  omega
theorem yes {a b : Int} {n m : ByteArray} {i j : Int} (hn : n.size ≤ 100) (hm : m.size ≤ 100) : Ev (fun k => batonlaw02_KeyApart.j0 k false a b n m i j) true := by
  have no : ∀ p q s t, Ev (fun k => batonlaw02_KeyApart.j1 k p q s t true a b n m i j) true := fun p q s t => Ev.step (fun k => by apply batonlaw02_KeyApart.j1.eq_2) (ev_if rfl (ev_c Key.live (ev_now rfl)))
  refine Ev.step (fun k => by apply batonlaw02_KeyApart.j0.eq_2) (ev_ifn (by decide) ?_)
  refine ev_c (Key.prf_f a hn) (ev_c (Key.prf_f b hm) (ev_c (Key.tkt_f a i hn) (ev_c (Key.tkt_f b j hm) ?_)))
  by_cases h1 : Key.may a n = true
  rotate_left
  · rw [Key.prf_neg h1]
    exact ev_ifn (by simp) (no _ _ _ _)
  by_cases h2 : Key.may b m = true
  rotate_left
  · rw [Key.prf_pos h1, Key.prf_neg h2]
    exact ev_if rfl (ev_ifn (by simp) (no _ _ _ _))
  rw [Key.prf_pos h1, Key.prf_pos h2]
  refine ev_if rfl (ev_if rfl ?_)
  by_cases h3 : Key.inr i = true
  rotate_left
  · rw [Key.tkt_neg (k := a) (s := n) (id := i) (fun c => h3 c.2)]
    exact ev_ifn (by simp) (no _ _ _ _)
  by_cases h4 : Key.inr j = true
  rotate_left
  · rw [Key.tkt_pos (k := a) (s := n) (id := i) ⟨h1, h3⟩, Key.tkt_neg (k := b) (s := m) (id := j) (fun c => h4 c.2)]
    exact ev_if rfl (no _ _ _ _)
  rw [Key.tkt_pos (k := a) (s := n) (id := i) ⟨h1, h3⟩, Key.tkt_pos (k := b) (s := m) (id := j) ⟨h2, h4⟩]
  refine ev_if rfl ?_
  have ha := (Key.may_iff a n).1 h1
  have hb := (Key.may_iff b m).1 h2
  have hp : (⟨(Key.pre a n).toArray⟩ : ByteArray).toList = (⟨(Key.pre b m).toArray⟩ : ByteArray).toList ↔ Key.pre a n = Key.pre b m := by rw [Key.tl, Key.tl]
  have hpi := pre_inj (n := n) (m := m) ha.1 hb.1
  have hl := lett_one ha.1 hb.1
  have hnm : n.toList = m.toList ↔ n.data.toList = m.data.toList := by rw [Key.tl, Key.tl]
  have hst : (⟨(Key.pre a n ++ ticketBytes i 10).toArray⟩ : ByteArray).toList = (⟨(Key.pre b m ++ ticketBytes j 10).toArray⟩ : ByteArray).toList ↔ Key.pre a n = Key.pre b m ∧ i = j := by
    rw [Key.tl, Key.tl]
    constructor
    · intro c
      have c : Key.pre a n ++ ticketBytes i 10 = Key.pre b m ++ ticketBytes j 10 := c
      have := List.append_inj' c (by rw [Key.tkb_len, Key.tkb_len])
      exact ⟨this.1, tkb_inj h3 h4 this.2⟩
    · rintro ⟨c1, c2⟩
      rw [c1, c2]
  refine j1_true ?_ ?_ ?_ ?_ ?_
  · intro c
    rw [Bool.eq_iff_iff, beq_iff_eq, beq_iff_eq, hp, hpi, hnm, hl]
    exact ⟨fun q => q.2, fun q => ⟨c, q⟩⟩
  · intro c q
    exact c (hl.1 (hpi.1 (hp.1 q)).1)
  · intro c
    rw [Bool.eq_iff_iff, beq_iff_eq, beq_iff_eq, hst]
    exact ⟨fun q => q.2, fun q => ⟨hp.1 c, q⟩⟩
  · intro c
    rw [beq_eq_false_iff_ne]
    exact fun q => c (hp.2 (hst.1 q).1)
  · rw [Key.und_f, und_pre ha.1 hb.1 ha.2 hb.2 _ (Key.tkb_len _ _)]
    congr 1
    rw [Bool.eq_iff_iff, beq_iff_eq, beq_iff_eq, hp]
theorem pure_holds : Pure := by
  intro x y z _ _ _
  generalize x.f0 = a
  generalize x.f1 = b
  generalize y.f0 = n
  generalize y.f1 = m
  generalize z.f0 = i
  generalize z.f1 = j
  refine Ev.rounds (g := fun k => batonlaw02_KeyApart.f k a b n m i j) ?_
  have no : Ev (fun k => batonlaw02_KeyApart.j0 k true a b n m i j) true := Ev.step (fun k => by apply batonlaw02_KeyApart.j0.eq_2) (ev_if rfl (ev_c Key.live (ev_now rfl)))
  unfold batonlaw02_KeyApart.f
  by_cases h1 : (n.size : Int) > 100
  · exact ev_if h1 no
  refine ev_ifn h1 ?_
  by_cases h2 : (m.size : Int) > 100
  · rw [decide_eq_true h2]
    exact no
  · rw [decide_eq_false h2]
    exact yes (by omega) (by omega)
end Go.Proofs.Ytfpkkjcefdighaa.PM.GKeyApart
