/- HistLaid: the pure statement, out of the plain laws of lists of keys. -/
import Derived.Test.YtldblgcbmhkmaaaSaidHistLaid
import Derived.Test.YtldblgcbmhkmaaaHist
namespace Go.Proofs.Ytldblgcbmhkmaaa.PM.GHistLaid
open Go.RowKit Go.Proofs.YtldblgcbmhkmaaaW.PrintWords Go.Proofs.YtldblgcbmhkmaaaW.PrintLast Go.Proofs.YtldblgcbmhkmaaaW.PrintMore Go.Proofs.Ytldblgcbmhkmaaa.PM Go.Proofs.Ytldblgcbmhkmaaa.My
set_option linter.unusedVariables false
theorem no (l : List Hist.KV) (k : ByteArray) (x : Hist.KV) : Ev (fun n => batonlaw04_HistLaid.j0 n l k true x.f0 x.f1 x.f2 x.f3 x.f4 x.f5) true := Ev.step (fun n => by apply batonlaw04_HistLaid.j0.eq_2) (ev_if rfl (ev_b Hist.live (Ev.now _)))
theorem last (l : List Hist.KV) (x : Hist.KV) (hl : l.length ≤ 40) (hs : Hist.srt l) : Ev (fun n => batonlaw04_HistLaid.j2 n l (Hist.lay x l) (Hist.take x.f0 l) (Hist.out (Hist.find x.f0 l)).2.2.2.2.2.2 false) true := by
  have e1 := Hist.lay_len2 x hs
  have e2 := Hist.take_len2 x.f0 l
  refine Ev.step (fun n => by apply batonlaw04_HistLaid.j2.eq_2) (ev_ifn (by decide) ?_)
  cases hf : Hist.find x.f0 l with
  | none =>
    rw [hf] at e1 e2
    simp only [Option.isSome_none, Bool.false_eq_true, if_false] at e1 e2
    refine ev_ifn (by simp [Hist.out]) (ev_if ?_ (ev_if ?_ (ev_b Hist.live (Ev.now _))))
    · rw [w64 (by omega) (by omega)]; omega
    · rw [w64 (n := (l.length : Int) + 1) (by omega) (by omega), w64 (by omega) (by omega)]; omega
  | some y =>
    rw [hf] at e1 e2
    simp only [Option.isSome_some, if_true] at e1 e2
    refine ev_if (by simp [Hist.out]) (ev_if ?_ (ev_if ?_ (ev_b Hist.live (Ev.now _))))
    · rw [w64 (by omega) (by omega)]; omega
    · rw [w64 (n := (l.length : Int) + 0) (by omega) (by omega), w64 (by omega) (by omega)]; omega
theorem yes (l : List Hist.KV) (k : ByteArray) (x : Hist.KV) (hl : l.length ≤ 40) (hm : Hist.may l = true) (hx : Hist.one x = true) : Ev (fun n => batonlaw04_HistLaid.j0 n l k false x.f0 x.f1 x.f2 x.f3 x.f4 x.f5) true := by
  have hs := ((Hist.may_iff l).1 hm).2
  have e1 := Hist.lay_len x l
  have e2 := Hist.take_len x.f0 l
  refine Ev.step (fun n => by apply batonlaw04_HistLaid.j0.eq_2) (ev_ifn (by decide) ?_)
  refine ev_b (Hist.lay_f (by omega) x) (ev_c (Hist.take_f (by omega) _) (ev_c (Hist.find_f _ _) (ev_c (Hist.find_f _ _) (ev_c (Hist.find_f _ _) (ev_c (Hist.find_f _ _) (ev_c (Hist.find_f _ _) (ev_c (Hist.find_f _ _) ?_)))))))
  rw [Hist.find_lay x l, Hist.find_take x.f0 hs]
  refine ev_if rfl (ev_ifn (by simp [Hist.out]) (ev_ifn (by simp [Hist.out]) ?_))
  have m1 := Hist.may_lay hm hx
  have m2 : Hist.may (Hist.take x.f0 l) = true := Hist.may_sub (Hist.take_sub _ _) hm
  refine ev_b (Hist.may_f (by omega)) (ev_if m1 (ev_b (Hist.may_f (by omega)) ?_))
  rw [m2]
  refine Ev.step (fun n => by apply batonlaw04_HistLaid.j1.eq_2) (ev_ifn (by decide) ?_)
  by_cases h : k = x.f0
  · exact ev_if (by rw [h]) (last l x hl hs)
  · refine ev_ifn (fun c => h (Hist.tli.1 c)) ?_
    rw [Hist.find_lay_ne h, Hist.find_take_ne h]
    refine ev_ifn (by simp) (ev_ifn (by simp) (ev_ifn (by simp) ?_))
    rw [show ((Hist.out (Hist.find k l)).2.2.2.2.2.2 != (Hist.out (Hist.find k l)).2.2.2.2.2.2) = false by simp]
    exact last l x hl hs
theorem pure_holds : Pure := by
  intro l x k _ _ _
  refine Ev.rounds (g := fun n => batonlaw04_HistLaid.f n l x.f0 x.f1 x.f2 x.f3 x.f4 x.f5 k) ?_
  unfold batonlaw04_HistLaid.f
  refine ev_b (Hist.few_f (by decide) l) ?_
  by_cases h1 : Hist.few 40 l = true
  · have hl := Hist.few_len h1
    refine ev_if h1 ?_
    by_cases h2 : (x.f0.size : Int) > 60
    · exact ev_if h2 (no l k x)
    refine ev_ifn h2 ?_
    by_cases h3 : (x.f1.size : Int) > 60
    · exact ev_if h3 (no l k x)
    refine ev_ifn h3 ?_
    by_cases h4 : (k.size : Int) > 60
    · exact ev_if h4 (no l k x)
    refine ev_ifn h4 (ev_b (Hist.may_f (by omega)) ?_)
    by_cases h5 : Hist.may l = true
    · refine ev_if h5 (ev_b (Hist.one_ref x) ?_)
      by_cases h6 : Hist.one x = true
      · rw [h6]
        exact yes l k x (by omega) h5 h6
      · simp only [Bool.not_eq_true] at h6
        rw [h6]
        exact no l k x
    · exact ev_ifn h5 (no l k x)
  · exact ev_ifn h1 (no l k x)
end Go.Proofs.Ytldblgcbmhkmaaa.PM.GHistLaid
