/- ElectLeads: the pure statement, out of the plain laws of elections. -/
import Derived.Test.YtaebmmjhokjdbaaSaidElectLeads
import Derived.Test.YtaebmmjhokjdbaaElectReign
import Derived.Test.YtaebmmjhokjdbaaHistTold
namespace Go.Proofs.Ytaebmmjhokjdbaa.PM.GElectLeads
open Go.RowKit Go.Proofs.YtaebmmjhokjdbaaW.PrintWords Go.Proofs.YtaebmmjhokjdbaaW.PrintLast Go.Proofs.YtaebmmjhokjdbaaW.PrintMore Go.Proofs.Ytaebmmjhokjdbaa.PM Go.Proofs.Ytaebmmjhokjdbaa.My ElectF
set_option linter.unusedVariables false
theorem no (l : List ElectF.KV) (s : ByteArray) : Ev (fun n => batonlaw17_ElectLeads.j0 n l s true) true := Ev.step (fun n => by apply batonlaw17_ElectLeads.j0.eq_2) (ev_if rfl (ev_b live (Ev.now _)))
theorem eqb (x y : ElectF.KV) : (x.f0.toList == y.f0.toList && (x.f1.toList == y.f1.toList && (x.f2 == y.f2 && (x.f3 == y.f3 && (x.f4 == y.f4 && (x.f5 == y.f5)))))) = decide (x = y) := by
  have := neq x y
  rw [Bool.eq_iff_iff] at this ⊢
  simp only [Bool.or_eq_true, Bool.not_eq_true', Bool.and_eq_true, beq_iff_eq, decide_eq_true_eq, decide_eq_false_iff_not, beq_eq_false_iff_ne] at this ⊢
  constructor
  · intro h
    apply Decidable.byContradiction
    intro c
    rcases this.2 c with e | e | e | e | e | e
    · exact e h.1
    · exact e h.2.1
    · exact e h.2.2.1
    · exact e h.2.2.2.1
    · exact e h.2.2.2.2.1
    · exact e h.2.2.2.2.2
  · rintro rfl
    exact ⟨rfl, rfl, rfl, rfl, rfl, rfl⟩
theorem j2 {l : List ElectF.KV} {s : ByteArray} (hl : l.length ≤ 40) (hs : s.size ≤ 60) : Ev (fun n => batonlaw17_ElectLeads.j2 n l s false) true := by
  refine Ev.step (fun n => by apply batonlaw17_ElectLeads.j2.eq_2) ?_
  refine ev_ifn (by decide) ?_
  refine ev_b (reign_f (by omega) (by omega)) (ev_if (by omega) (ev_if (by rw [ByteArray.size_append]; show 2 + s.size + 1 ≤ _; omega) ?_))
  have hf := Hist.frm_len (((⟨#[101, 47]⟩ : ByteArray) ++ s) ++ (⟨#[47]⟩ : ByteArray)) l
  refine ev_b (Hist.frm_ref (by omega) _) (ev_c (head_f (by omega)) ?_)
  by_cases c : (Key.prf 5 s).2 = true
  · have hp : (Key.prf 5 s).1 = (((⟨#[101, 47]⟩ : ByteArray) ++ s) ++ (⟨#[47]⟩ : ByteArray)) := by
      unfold Key.prf at c ⊢
      by_cases m : Key.may 5 s = true
      · rw [if_pos m]
        apply Key.ext
        rw [Key.cat, Key.cat]
        simp [Key.pre, Key.lett]
      · rw [if_neg m] at c
        cases c
    have hr : reign l s = ((Hist.out (hdo (Hist.frm (((⟨#[101, 47]⟩ : ByteArray) ++ s) ++ (⟨#[47]⟩ : ByteArray)) l))).2.2.1, (Hist.out (hdo (Hist.frm (((⟨#[101, 47]⟩ : ByteArray) ++ s) ++ (⟨#[47]⟩ : ByteArray)) l))).2.1, (Hist.out (hdo (Hist.frm (((⟨#[101, 47]⟩ : ByteArray) ++ s) ++ (⟨#[47]⟩ : ByteArray)) l))).2.2.2.2.2.2) := by
      unfold reign
      rw [if_pos c, hp]
    rw [hr]
    cases hdo (Hist.frm (((⟨#[101, 47]⟩ : ByteArray) ++ s) ++ (⟨#[47]⟩ : ByteArray)) l) with
    | none => exact ev_ifn (by simp [Hist.out]) (ev_if rfl (ev_if (by show (⟨#[]⟩ : ByteArray).toList = []; rw [Key.tl]) (ev_b live (Ev.now _))))
    | some x => exact ev_if rfl (ev_if rfl (ev_if rfl (ev_if rfl (ev_b live (Ev.now _)))))
  · have hr : reign l s = (0, ⟨#[]⟩, false) := by
      unfold reign
      rw [if_neg c]
    rw [hr]
    exact ev_ifn (by decide) (ev_if rfl (ev_if (by show (⟨#[]⟩ : ByteArray).toList = []; rw [Key.tl]) (ev_b live (Ev.now _))))
theorem loop {l : List ElectF.KV} {s : ByteArray} {x : ElectF.KV} (hx : x ∈ l) (hm : ∀ y ∈ l, x.f2 ≤ y.f2) (hl : l.length ≤ 40) (hs : s.size ≤ 60) (d : Nat) : ∀ (i : Nat) (b : Bool), l.length = i + d → (b = true ∨ x ∈ l.drop i) → Ev (fun n => batonlaw17_ElectLeads.l0 n l s true b (i : Int) x.f0 x.f1 x.f2 x.f3 x.f4 x.f5) true := by
  have hn : l ≠ [] := by rintro rfl; simp at hx
  have hpos : 0 < l.length := List.length_pos_iff.2 hn
  induction d with
  | zero =>
    intro i b hd hb
    refine Ev.step (fun n => by apply batonlaw17_ElectLeads.l0.eq_2) ?_
    refine ev_ifn (by omega) ?_
    rw [decide_eq_true (by omega : (l.length : Int) > 0)]
    have hb : b = true := by
      rcases hb with h | h
      · exact h
      · rw [List.drop_of_length_le (by omega)] at h
        simp at h
    exact ev_ifn (by decide) (ev_if rfl (ev_if hb (j2 hl hs)))
  | succ d ih =>
    intro i b hd hb
    have hlt : i < l.length := by omega
    have hmi := hm l[i] (List.getElem_mem hlt)
    refine Ev.step (fun n => by apply batonlaw17_ElectLeads.l0.eq_2) ?_
    refine ev_if (by omega) ?_
    rw [Hist.rd hlt, Hist.nx (by omega), eqb]
    cases b with
    | true => exact ev_if rfl (ev_if (by omega) (ev_ifn (by omega) (ih (i + 1) true (by omega) (.inl rfl))))
    | false =>
      refine ev_ifn (by decide) (ev_if (by omega) (ev_ifn (by omega) (ih (i + 1) _ (by omega) ?_)))
      rcases hb with h | h
      · cases h
      · rw [List.drop_eq_getElem_cons hlt] at h
        rcases List.mem_cons.1 h with e | e
        · exact .inl (decide_eq_true e.symm)
        · exact .inr e
theorem pure_holds : Pure := by
  intro l s _ _
  refine Ev.rounds (g := fun n => batonlaw17_ElectLeads.f n l s) ?_
  unfold batonlaw17_ElectLeads.f
  refine ev_b (Hist.few_f (by decide) l) ?_
  by_cases h1 : Hist.few 40 l = true
  · have hl := Hist.few_len h1
    refine ev_if h1 ?_
    by_cases h2 : (s.size : Int) > 60
    · rw [decide_eq_true h2]
      exact no l s
    rw [decide_eq_false h2]
    refine Ev.step (fun n => by apply batonlaw17_ElectLeads.j0.eq_2) ?_
    refine ev_ifn (by decide) (ev_c (head_f (by omega)) ?_)
    cases c : hdo l with
    | none =>
      obtain rfl := hdo_none.1 c
      refine Ev.step (fun n => by apply batonlaw17_ElectLeads.l0.eq_2) ?_
      refine ev_ifn (by simp) (ev_ifn (by simp [Hist.out]) (ev_ifn (by simp [Hist.out]) ?_))
      have e0 : (!((Hist.out none).1.toList == ([] : List UInt8)) || (!((Hist.out none).2.1.toList == ([] : List UInt8)) || (!((Hist.out none).2.2.1 == 0) || (!((Hist.out none).2.2.2.1 == 0) || (!((Hist.out none).2.2.2.2.1 == 0) || (!((Hist.out none).2.2.2.2.2.1 == 0))))))) = false := by
        show (!((⟨#[]⟩ : ByteArray).toList == ([] : List UInt8)) || (!((⟨#[]⟩ : ByteArray).toList == ([] : List UInt8)) || _)) = false
        rw [Key.tl]
        rfl
      rw [e0]
      exact j2 (by simp) (by omega)
    | some x => exact loop (hdo_mem c) (hdo_min c) (by omega) (by omega) l.length 0 false (by omega) (.inr (by simpa using hdo_mem c))
  · exact ev_ifn h1 (no l s)
end Go.Proofs.Ytaebmmjhokjdbaa.PM.GElectLeads
