-- made by a program of this session (wip/tools/myprint.py over the kit's print) out of the translation; Lean checks it
import Derived.Test.YtaebmmjhokjdbaaPM0
import Derived.Test.YtaebmmjhokjdbaaPM1
namespace Go.Proofs.Ytaebmmjhokjdbaa.PM
open Go.RowKit Go.Proofs.YtaebmmjhokjdbaaW.PrintWords Go.Proofs.YtaebmmjhokjdbaaW.PrintLast Go.Proofs.YtaebmmjhokjdbaaW.PrintMore
attribute [local go_sem] max2_int min2_int max_two min_two max_three min_three max_four min_four   -- for this text's walks alone
attribute [local go_sem high] Go.Proofs.Ytaebmmjhokjdbaa.My.str_leq Go.Proofs.Ytaebmmjhokjdbaa.My.str_gtr Go.Proofs.Ytaebmmjhokjdbaa.My.str_geq
set_option linter.unusedVariables false
set_option linter.unusedSimpArgs false

theorem eqA64 (d : Nat) (w : World) (x0 y0 : ByteArray) (x1 y1 : ByteArray) (x2 y2 : Int) (x3 y3 : Int) (x4 y4 : Int) (x5 y5 : Int) (x6 y6 : Bool) :
    (Op.equalIn (d + 3) 64 (.agg #[.string x0, .string x1, .int .i64 x2, .int .i64 x3, .int .i64 x4, .int .i64 x5, .bool x6]) (.agg #[.string y0, .string y1, .int .i64 y2, .int .i64 y3, .int .i64 y4, .int .i64 y5, .bool y6])).run Try.prog w = .ok ((x0.toList == y0.toList && (x1.toList == y1.toList && (x2 == y2 && (x3 == y3 && (x4 == y4 && (x5 == y5)))))) && (x6 == y6)) w := by
  refine eqA_of Try.underlying64 (by kernel_rfl) ?_
  refine eqf_cons (by rfl) (by go_simp) (by go_simp) (eqA26 (d + 0) w _ _ _ _ _ _ _ _ _ _ _ _) ?_
  exact eqf_last (by rfl) (by go_simp; rfl) (by go_simp; rfl) (by go_simp)
end Go.Proofs.Ytaebmmjhokjdbaa.PM
