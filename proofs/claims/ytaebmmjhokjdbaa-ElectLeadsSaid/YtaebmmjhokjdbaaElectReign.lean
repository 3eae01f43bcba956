/- Elections in plain Lean: who leads by a name. -/
import Derived.Test.YtaebmmjhokjdbaaPM16
import Derived.Test.YtaebmmjhokjdbaaElect
import Derived.Test.YtaebmmjhokjdbaaKey
namespace Go.Proofs.Ytaebmmjhokjdbaa.PM
open Go.RowKit Go.Proofs.YtaebmmjhokjdbaaW.PrintWords Go.Proofs.YtaebmmjhokjdbaaW.PrintLast Go.Proofs.YtaebmmjhokjdbaaW.PrintMore Go.Proofs.Ytaebmmjhokjdbaa.My
set_option linter.unusedVariables false
namespace ElectF
open Hist (out nx rd rde)
/-- Who leads by a name. -/
def reign (l : List KV) (name : ByteArray) : Int × ByteArray × Bool := if (Key.prf 5 name).2 = true then ((out (hdo (Hist.frm (Key.prf 5 name).1 l))).2.2.1, (out (hdo (Hist.frm (Key.prf 5 name).1 l))).2.1, (out (hdo (Hist.frm (Key.prf 5 name).1 l))).2.2.2.2.2.2) else (0, ⟨#[]⟩, false)
theorem reign_f {l : List KV} (hl : l.length ≤ 1000) {name : ByteArray} (hn : name.size ≤ 100) : Ev (fun n => elect_Reign.f n l name) (reign l name) := by
  unfold elect_Reign.f reign
  refine ev_c (Key.prf_f 5 hn) ?_
  by_cases c : (Key.prf 5 name).2 = true
  · rw [if_pos c]
    have := Hist.frm_len (Key.prf 5 name).1 l
    exact ev_if c (ev_b (Hist.frm_f hl _) (ev_c (head_f (by omega)) (ev_now rfl)))
  · rw [if_neg c]
    exact ev_ifn c (ev_now rfl)
end ElectF
end Go.Proofs.Ytaebmmjhokjdbaa.PM
