/- HistPrefix: the pure statement, out of the plain laws of lists of keys. -/
import Derived.Test.YtldblgcbmhkmaaaSaidHistPrefix
import Derived.Test.YtldblgcbmhkmaaaHist
namespace Go.Proofs.Ytldblgcbmhkmaaa.PM.GHistPrefix
open Go.RowKit Go.Proofs.YtldblgcbmhkmaaaW.PrintWords Go.Proofs.YtldblgcbmhkmaaaW.PrintLast Go.Proofs.YtldblgcbmhkmaaaW.PrintMore Go.Proofs.Ytldblgcbmhkmaaa.PM Go.Proofs.Ytldblgcbmhkmaaa.My
set_option linter.unusedVariables false
theorem no (l : List Hist.KV) (x : Hist.KV) (p : ByteArray) : Ev (fun k => batonlaw04_HistPrefix.j0 k l p true x.f0 x.f1 x.f2 x.f3 x.f4 x.f5) true := Ev.step (fun k => by apply batonlaw04_HistPrefix.j0.eq_2) (ev_if rfl (ev_b Hist.live (Ev.now _)))
theorem pure_holds : Pure := by
  intro l x p _ _ _
  refine Ev.rounds (g := fun k => batonlaw04_HistPrefix.f k l x.f0 x.f1 x.f2 x.f3 x.f4 x.f5 p) ?_
  unfold batonlaw04_HistPrefix.f
  refine ev_b (Hist.few_f (by decide) l) ?_
  by_cases h1 : Hist.few 40 l = true
  · have hl := Hist.few_len h1
    refine ev_if h1 ?_
    by_cases h2 : (x.f0.size : Int) > 60
    · exact ev_if h2 (no l x p)
    refine ev_ifn h2 ?_
    by_cases h3 : (p.size : Int) > 60
    · exact ev_if h3 (no l x p)
    refine ev_ifn h3 (ev_b (Hist.may_f (by omega)) ?_)
    by_cases h4 : Hist.may l = true
    · refine ev_if h4 (ev_b (Hist.one_ref x) ?_)
      by_cases h5 : Hist.one x = true
      · rw [h5]
        have hs := ((Hist.may_iff l).1 h4).2
        have e1 := Hist.lay_len x l
        have e2 := Hist.take_len x.f0 l
        have e3 := Hist.frm_len p l
        have e4 := Hist.frm_len p (Hist.lay x l)
        have e5 := Hist.frm_len p (Hist.take x.f0 l)
        have hm : Hist.may (Hist.frm p l) = true := Hist.may_sub List.filter_sublist h4
        refine Ev.step (fun k => by apply batonlaw04_HistPrefix.j0.eq_2) (ev_ifn (by decide) ?_)
        refine ev_b (Hist.frm_f (by omega) p) (ev_b (Hist.lay_f (by omega) x) (ev_b (Hist.frm_f (by omega) p) (ev_c (Hist.take_f (by omega) _) (ev_b (Hist.frm_f (by omega) p) ?_))))
        have hc : ((x.f0.extract 0 ((p.size : Int)).toNat).toList == p.toList) = (x.f0.data.toList.take p.size == p.data.toList) := by
          rw [Hist.tl, Hist.tl, Lib.extract_data, Int.toNat_natCast]
          simp
        have hyes : Hist.pfx p x.f0 = true → Ev (fun k => batonlaw04_HistPrefix.j1 k (Hist.frm p l) (Hist.frm p (Hist.lay x l)) (Hist.frm p (Hist.take x.f0 l)) true x.f0 x.f1 x.f2 x.f3 x.f4 x.f5) true := by
          intro hp
          refine Ev.step (fun k => by apply batonlaw04_HistPrefix.j1.eq_2) (ev_if rfl ?_)
          refine ev_b (Hist.lay_f (by omega) x) (ev_b (Hist.kvs_f (Hist.frm_lay hp hs) (by omega)) (ev_if rfl (ev_c (Hist.take_f (by omega) _) (ev_b (Hist.kvs_f (Hist.frm_take hp l) (by omega)) (ev_if rfl (ev_b (Hist.may_f (by omega)) (ev_if hm (ev_b Hist.live (Ev.now _)))))))))
        have hno : ¬ Hist.pfx p x.f0 = true → Ev (fun k => batonlaw04_HistPrefix.j1 k (Hist.frm p l) (Hist.frm p (Hist.lay x l)) (Hist.frm p (Hist.take x.f0 l)) false x.f0 x.f1 x.f2 x.f3 x.f4 x.f5) true := by
          intro hp
          refine Ev.step (fun k => by apply batonlaw04_HistPrefix.j1.eq_2) (ev_ifn (by decide) ?_)
          exact ev_b (Hist.kvs_f (Hist.frm_lay_no hp l).symm (by omega)) (ev_if rfl (ev_b (Hist.kvs_f (Hist.frm_take_no hp l).symm (by omega)) (ev_if rfl (ev_b (Hist.may_f (by omega)) (ev_if hm (ev_b Hist.live (Ev.now _)))))))
        by_cases h6 : (x.f0.size : Int) ≥ (p.size : Int)
        · refine ev_if h6 (ev_if (by omega) (ev_if (by omega) ?_))
          rw [hc]
          by_cases h7 : (x.f0.data.toList.take p.size == p.data.toList) = true
          · rw [h7]
            refine hyes ?_
            unfold Hist.pfx
            rw [decide_eq_true (by omega), h7]
            rfl
          · have h8 := h7
            simp only [Bool.not_eq_true] at h8
            rw [h8]
            refine hno ?_
            unfold Hist.pfx
            rw [h8]
            simp
        · refine ev_ifn h6 (hno ?_)
          unfold Hist.pfx
          rw [decide_eq_false (by omega)]
          simp
      · simp only [Bool.not_eq_true] at h5
        rw [h5]
        exact no l x p
    · exact ev_ifn h4 (no l x p)
  · exact ev_ifn h1 (no l x p)
end Go.Proofs.Ytldblgcbmhkmaaa.PM.GHistPrefix
