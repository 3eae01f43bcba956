/- Elections in plain Lean: what the references' printed functions come to. -/
import Derived.Test.YtaebmmjhokjdbaaPM21
import Derived.Test.YtaebmmjhokjdbaaElect
import Derived.Test.YtaebmmjhokjdbaaTicketRef
namespace Go.Proofs.Ytaebmmjhokjdbaa.PM
open Go.RowKit Go.Proofs.YtaebmmjhokjdbaaW.PrintWords Go.Proofs.YtaebmmjhokjdbaaW.PrintLast Go.Proofs.YtaebmmjhokjdbaaW.PrintMore Go.Proofs.Ytaebmmjhokjdbaa.My
set_option linter.unusedVariables false
namespace ElectF
open Hist (out nx rd rde)
theorem head_r {l : List KV} (h : l.length ≤ 1000) : Ev (fun n => batonref17_Head.f n l) (out (hdo l)) := by
  unfold batonref17_Head.f
  refine ev_b (b := ord l) (TicketF.order_r h) ?_
  unfold hdo
  cases e : ord l with
  | nil => exact ev_if rfl (ev_now rfl)
  | cons x q => exact ev_ifn (by (try simp only [List.length_cons]); omega) (ev_if (by (try simp only [List.length_cons]); omega) (ev_now rfl))
end ElectF
end Go.Proofs.Ytaebmmjhokjdbaa.PM
