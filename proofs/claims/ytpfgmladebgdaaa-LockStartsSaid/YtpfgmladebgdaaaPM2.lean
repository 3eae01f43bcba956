-- made by a program of this session (wip/tools/myprint.py over the kit's print) out of the translation; Lean checks it
import Derived.Test.YtpfgmladebgdaaaPM0
namespace Go.Proofs.Ytpfgmladebgdaaa.PM
open Go.RowKit Go.Proofs.YtpfgmladebgdaaaW.PrintWords Go.Proofs.YtpfgmladebgdaaaW.PrintLast Go.Proofs.YtpfgmladebgdaaaW.PrintMore
attribute [local go_sem] max2_int min2_int max_two min_two max_three min_three max_four min_four   -- for this text's walks alone
attribute [local go_sem high] Go.Proofs.Ytpfgmladebgdaaa.My.str_leq Go.Proofs.Ytpfgmladebgdaaa.My.str_gtr Go.Proofs.Ytpfgmladebgdaaa.My.str_geq
set_option linter.unusedVariables false
set_option linter.unusedSimpArgs false

theorem eqA58 (d : Nat) (w : World) (x0 y0 : Bool) (x1 y1 : ByteArray) (x2 y2 : ByteArray) (x3 y3 : Int) :
    (Op.equalIn (d + 2) 58 (.agg #[.bool x0, .string x1, .string x2, .int .i64 x3]) (.agg #[.bool y0, .string y1, .string y2, .int .i64 y3])).run Try.prog w = .ok (x0 == y0 && (x1.toList == y1.toList && (x2.toList == y2.toList && (x3 == y3)))) w := by
  refine eqA_of Try.underlying58 (by kernel_rfl) ?_
  refine eqf_cons (by rfl) (by go_simp; rfl) (by go_simp; rfl) (by go_simp) ?_
  refine eqf_cons (by rfl) (by go_simp; rfl) (by go_simp; rfl) (by go_simp) ?_
  refine eqf_cons (by rfl) (by go_simp; rfl) (by go_simp; rfl) (by go_simp) ?_
  exact eqf_last (by rfl) (by go_simp; rfl) (by go_simp; rfl) (by go_simp)
end Go.Proofs.Ytpfgmladebgdaaa.PM
