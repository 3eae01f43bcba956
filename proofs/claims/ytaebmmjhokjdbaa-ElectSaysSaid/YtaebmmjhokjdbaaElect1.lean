/- Elections in plain Lean: whoever follows one event. -/
import Derived.Test.YtaebmmjhokjdbaaElect
namespace Go.Proofs.Ytaebmmjhokjdbaa.PM
open Go.RowKit Go.Proofs.YtaebmmjhokjdbaaW.PrintWords Go.Proofs.YtaebmmjhokjdbaaW.PrintLast Go.Proofs.YtaebmmjhokjdbaaW.PrintMore Go.Proofs.Ytaebmmjhokjdbaa.My
set_option linter.unusedVariables false
namespace ElectF
open Hist (out nx rd rde)
theorem fol_one (l : List KV) (e : EV) : fol l [e] = (one1 l e, seen1 l (one1 l e)) := by
  rw [fol_cons]
  show ((fol (view l [e]) []).1, seen1 l (view l [e]) ++ (fol (view l [e]) []).2) = _
  rw [fol_nil, List.append_nil]
  rfl
theorem follow1 {l : List KV} {e : EV} (h1 : l.length ≤ 20) (h2 : (one1 l e).length ≤ 20) : Ev (fun n => elect_Follow.f n l [e]) (fol l [e]) := by
  unfold elect_Follow.f
  refine ev_c (clone_f (by omega)) ?_
  refine Ev.step (fun n => by apply elect_Follow.l0.eq_2) ?_
  refine ev_ifn (by simp) ?_
  rw [fol_one]
  refine fol_l1 (es := []) (e := e) (by simp) (fol_j2 (by simp) (by simp only [List.length_nil]; omega) h1 h2 (by simp) ?_) 0 0 rfl
  intro S' hS'
  rw [hS', List.nil_append]
  refine Ev.step (fun n => by apply elect_Follow.l0.eq_2) ?_
  exact ev_if rfl (ev_now rfl)
end ElectF
end Go.Proofs.Ytaebmmjhokjdbaa.PM
