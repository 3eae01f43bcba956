/- ElectParts: the pure statement, out of the plain laws of elections. -/
import Derived.Test.YtaebmmjhokjdbaaSaidElectParts
import Derived.Test.YtaebmmjhokjdbaaElectFl
namespace Go.Proofs.Ytaebmmjhokjdbaa.PM.GElectParts
open Go.RowKit Go.Proofs.YtaebmmjhokjdbaaW.PrintWords Go.Proofs.YtaebmmjhokjdbaaW.PrintLast Go.Proofs.YtaebmmjhokjdbaaW.PrintMore Go.Proofs.Ytaebmmjhokjdbaa.PM Go.Proofs.Ytaebmmjhokjdbaa.My ElectF
set_option linter.unusedVariables false
theorem no (l : List ElectF.KV) (es : List ElectF.EV) (c : Int) : Ev (fun n => batonlaw17_ElectParts.j0 n l es c true) true := Ev.step (fun n => by apply batonlaw17_ElectParts.j0.eq_2) (ev_if rfl (ev_b live (Ev.now _)))
theorem last_take {α : Type} {es : List α} {i : Nat} (h : i < es.length) : (es.take (i + 1)).getLast? = some es[i] := by
  rw [List.getLast?_eq_getElem?, List.length_take, Nat.min_eq_left (by omega), Nat.add_sub_cancel, List.getElem?_take_of_lt (by omega), List.getElem?_eq_getElem h]
theorem yes {l : List ElectF.KV} {es : List ElectF.EV} {c : Nat} (hl : l.length ≤ 40) (he : es.length ≤ 40) (hc : c ≤ es.length) (hb : ∀ a b, (es.take c).getLast? = some a → (es.drop c).head? = some b → a.f0 ≠ b.f0) : Ev (fun n => batonlaw17_ElectParts.j0 n l es (c : Int) false) true := by
  have ha := fol_append c (es.take c) (es.drop c) l (by rw [List.length_take]; omega) hb
  rw [List.take_append_drop] at ha
  have lt : (es.take c).length = c := by rw [List.length_take]; omega
  have ld : (es.drop c).length = es.length - c := List.length_drop
  have v1 := fol_view c (es.take c) l (by omega)
  have v2 := view_len (es.take c) l
  have v3 := fol_len c (es.take c) l (by omega)
  have v4 := fol_len es.length (es.drop c) (fol l (es.take c)).1 (by omega)
  have v5 := fol_view es.length es l (Nat.le_refl _)
  have v6 := view_len es l
  have v7 := fol_len es.length es l (Nat.le_refl _)
  have hlen : (fol l (es.take c)).1.length ≤ 80 := by rw [v1]; omega
  refine Ev.step (fun n => by apply batonlaw17_ElectParts.j0.eq_2) ?_
  refine ev_ifn (by decide) ?_
  refine ev_b (follow_f (by omega) (by omega)) (ev_if (by omega) (ev_if (by omega) ?_))
  rw [Int.toNat_natCast]
  refine ev_b (follow_f (by omega) (by omega)) (ev_b (follow_f (by omega) (by omega)) ?_)
  refine ev_b (Hist.kvs_f (by rw [ha]) (by rw [v5]; omega)) (ev_if rfl (ev_c rfl (ev_if (by simp only [List.length_nil]; omega) (ev_c rfl (ev_if (by rw [List.nil_append]; omega) ?_)))))
  exact ev_b (Hist.kvs_f (by rw [ha, List.nil_append]) (by omega)) (ev_if rfl (ev_b live (Ev.now _)))
theorem pure_holds : Pure := by
  intro l es c _ _ _
  refine Ev.rounds (g := fun n => batonlaw17_ElectParts.f n l es c) ?_
  unfold batonlaw17_ElectParts.f
  refine ev_b (Hist.few_f (by decide) l) ?_
  by_cases h1 : Hist.few 40 l = true
  · have hl := Hist.few_len h1
    refine ev_if h1 (ev_b (Hist.fewE_f (by decide) es) ?_)
    by_cases h2 : Hist.fewE 40 es = true
    · have he := Hist.fewE_len h2
      refine ev_if h2 ?_
      by_cases c1 : c < 0
      · exact ev_if c1 (no l es c)
      refine ev_ifn c1 ?_
      by_cases c2 : c > (es.length : Int)
      · exact ev_if c2 (no l es c)
      refine ev_ifn c2 ?_
      obtain ⟨m, rfl⟩ := Int.eq_ofNat_of_zero_le (by omega : 0 ≤ c)
      by_cases c3 : ((m : Nat) : Int) > 0
      · refine ev_if c3 ?_
        by_cases c4 : ((m : Nat) : Int) < (es.length : Int)
        · refine ev_if c4 ?_
          obtain ⟨i, rfl⟩ : ∃ i, m = i + 1 := ⟨m - 1, by omega⟩
          rw [pv (by omega)]
          refine ev_if (by omega) (ev_if (by omega) (ev_if (by omega) ?_))
          rw [Hist.rde (l := es) (i := i) (by omega), Hist.rde (l := es) (i := i + 1) (by omega)]
          by_cases c5 : (es[i]'(by omega)).f0 = (es[i + 1]'(by omega)).f0
          · rw [beq_iff_eq.2 c5]
            exact no l es _
          · rw [beq_eq_false_iff_ne.2 c5]
            refine yes (by omega) (by omega) (by omega) ?_
            intro a b ha hb
            have hi1 : i < es.length := by omega
            have hi2 : i + 1 < es.length := by omega
            have e1 : (es.take (i + 1)).getLast? = some es[i] := last_take hi1
            have e2 : (es.drop (i + 1)).head? = some es[i + 1] := by
              rw [List.drop_eq_getElem_cons hi2]
              rfl
            rw [e1] at ha
            rw [e2] at hb
            rw [← Option.some.inj ha, ← Option.some.inj hb]
            exact c5
        · refine ev_ifn c4 (yes (by omega) (by omega) (by omega) ?_)
          intro a b ha hb
          rw [List.drop_of_length_le (by omega)] at hb
          cases hb
      · refine ev_ifn c3 (yes (by omega) (by omega) (by omega) ?_)
        intro a b ha hb
        obtain rfl : m = 0 := by omega
        cases ha
    · exact ev_ifn h2 (no l es c)
  · exact ev_ifn h1 (no l es c)
end Go.Proofs.Ytaebmmjhokjdbaa.PM.GElectParts
