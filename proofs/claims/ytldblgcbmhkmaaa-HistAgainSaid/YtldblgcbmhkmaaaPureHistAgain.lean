/- HistAgain: the pure statement, out of the plain laws of lists of keys. -/
import Derived.Test.YtldblgcbmhkmaaaSaidHistAgain
import Derived.Test.YtldblgcbmhkmaaaHist
namespace Go.Proofs.Ytldblgcbmhkmaaa.PM.GHistAgain
open Go.RowKit Go.Proofs.YtldblgcbmhkmaaaW.PrintWords Go.Proofs.YtldblgcbmhkmaaaW.PrintLast Go.Proofs.YtldblgcbmhkmaaaW.PrintMore Go.Proofs.Ytldblgcbmhkmaaa.PM Go.Proofs.Ytldblgcbmhkmaaa.My
set_option linter.unusedVariables false
theorem no (l : List Hist.KV) (x y : Hist.KV) : Ev (fun k => batonlaw04_HistAgain.j0 k l true x.f0 x.f1 x.f2 x.f3 x.f4 x.f5 y.f0 y.f1 y.f2 y.f3 y.f4 y.f5) true := Ev.step (fun k => by apply batonlaw04_HistAgain.j0.eq_2) (ev_if rfl (ev_b Hist.live (Ev.now _)))
theorem pure_holds : Pure := by
  intro l x y _ _ _
  refine Ev.rounds (g := fun k => batonlaw04_HistAgain.f k l x.f0 x.f1 x.f2 x.f3 x.f4 x.f5 y.f0 y.f1 y.f2 y.f3 y.f4 y.f5) ?_
  unfold batonlaw04_HistAgain.f
  refine ev_b (Hist.few_f (by decide) l) ?_
  by_cases h1 : Hist.few 40 l = true
  · have hl := Hist.few_len h1
    refine ev_if h1 (ev_b (Hist.may_f (by omega)) ?_)
    by_cases h2 : Hist.may l = true
    · refine ev_if h2 (ev_b (Hist.one_ref x) ?_)
      by_cases h3 : Hist.one x = true
      · refine ev_if h3 (ev_b (Hist.one_ref y) ?_)
        by_cases h4 : Hist.one y = true
        · rw [h4]
          have hs := ((Hist.may_iff l).1 h2).2
          have e1 := Hist.lay_len x l
          have e2 := Hist.lay_len y l
          have e3 := Hist.take_len x.f0 l
          refine Ev.step (fun k => by apply batonlaw04_HistAgain.j0.eq_2) (ev_ifn (by decide) ?_)
          refine ev_b (Hist.lay_f (by omega) x) (ev_b (Hist.lay_f (by omega) x) (ev_b (Hist.kvs_f (Hist.lay_lay x x rfl l) (by rw [Hist.lay_lay x x rfl l]; omega)) (ev_if rfl ?_)))
          refine ev_c (Hist.take_f (by omega) _) (ev_c (Hist.take_f (by omega) _) (ev_b (Hist.kvs_f (Hist.take_lay x hs) (by rw [Hist.take_lay x hs]; omega)) ?_))
          refine Ev.step (fun k => by apply batonlaw04_HistAgain.j1.eq_2) (ev_ifn (by decide) ?_)
          by_cases h5 : x.f0 = y.f0
          · refine ev_if (by rw [h5]) ?_
            refine ev_b (Hist.lay_f (by omega) y) (ev_b (Hist.lay_f (by omega) y) (ev_b (Hist.kvs_f (Hist.lay_lay x y h5 l) (by rw [Hist.lay_lay x y h5 l]; omega)) (ev_if rfl (ev_b Hist.live (Ev.now _)))))
          · refine ev_ifn (fun c => h5 (Hist.tli.1 c)) ?_
            have e4 := Hist.lay_len y (Hist.lay x l)
            refine ev_b (Hist.lay_f (by omega) y) (ev_b (Hist.lay_f (by omega) y) (ev_b (Hist.lay_f (by omega) x) (ev_b (Hist.kvs_f (Hist.lay_comm h5 l) (by omega)) (ev_if rfl (ev_b Hist.live (Ev.now _))))))
        · simp only [Bool.not_eq_true] at h4
          rw [h4]
          exact no l x y
      · exact ev_ifn h3 (no l x y)
    · exact ev_ifn h2 (no l x y)
  · exact ev_ifn h1 (no l x y)
end Go.Proofs.Ytldblgcbmhkmaaa.PM.GHistAgain
