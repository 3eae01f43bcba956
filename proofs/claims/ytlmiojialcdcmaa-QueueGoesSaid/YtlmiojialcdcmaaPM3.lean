import Derived.Test.YtlmiojialcdcmaaPM0
namespace Go.Proofs.Ytlmiojialcdcmaa.PM
open Go.RowKit Go.Proofs.YtlmiojialcdcmaaW.PrintWords Go.Proofs.YtlmiojialcdcmaaW.PrintLast Go.Proofs.YtlmiojialcdcmaaW.PrintMore
attribute [local go_sem] max2_int min2_int max_two min_two max_three min_three max_four min_four
attribute [local go_sem high] Go.Proofs.Ytlmiojialcdcmaa.My.str_leq Go.Proofs.Ytlmiojialcdcmaa.My.str_gtr Go.Proofs.Ytlmiojialcdcmaa.My.str_geq
set_option linter.unusedVariables false
set_option linter.unusedSimpArgs false

theorem eqA58 (d:Nat) (w:World) (x0 y0:Int) (x1 y1:Int):
    (Op.equalIn (d + 2) 58 (.agg #[.int .i64 x0,.int .i64 x1]) (.agg #[.int .i64 y0,.int .i64 y1])).run Try.prog w= .ok (x0 == y0 && (x1 == y1)) w:=by
  obtain⟨i,hi⟩:∃i,Try.prog.info? 3=some i:=Option.isSome_iff_exists.1 (by kernel_rfl)
  rw [run_equalIn_array w (d + 1) _ _ Try.underlying58 hi,show Try.prog.cellsOf 3=1 from by kernel_rfl,show List.range 2= [0,1] from rfl]
  refine My.eqi_cons (by go_simp;rfl) (by go_simp;rfl) (by go_simp) ?_
  exact My.eqi_last (by go_simp;rfl) (by go_simp;rfl) (by go_simp)
end Go.Proofs.Ytlmiojialcdcmaa.PM
