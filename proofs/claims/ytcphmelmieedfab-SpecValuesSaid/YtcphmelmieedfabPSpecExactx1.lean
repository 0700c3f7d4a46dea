-- WRITTEN BY A PROGRAM OF THIS SESSION (xprint.sh): the walks of plain functions over contracts of my own.
import Derived.Test.YtcphmelmieedfabPSpecExactx0
namespace Go.Proofs.Ytcphmelmieedfab.PSpecExact
open Go.RowKit Go.Proofs.YtcphmelmieedfabW.PrintWords Go.Proofs.YtcphmelmieedfabW.PrintLast Go.Proofs.YtcphmelmieedfabW.PrintMore
attribute [local go_sem] max2_int min2_int max_two min_two max_three min_three max_four min_four   -- for this text's walks alone
set_option linter.unusedVariables false
set_option linter.unusedSimpArgs false

theorem eqA35 (d : Nat) (w : World) (x0 y0 : Int) (x1 y1 : Bool) (x2 y2 : Int) :
    (Op.equalIn (d + 2) 35 (.agg #[.int .i64 x0, .bool x1, .int .u64 x2]) (.agg #[.int .i64 y0, .bool y1, .int .u64 y2])).run Try.prog w = .ok (x0 == y0 && (x1 == y1 && (x2 == y2))) w := by
  refine eqA_of Try.underlying35 (by kernel_rfl) ?_
  refine eqf_cons (by rfl) (by go_simp; rfl) (by go_simp; rfl) (by go_simp) ?_
  refine eqf_cons (by rfl) (by go_simp; rfl) (by go_simp; rfl) (by go_simp) ?_
  exact eqf_last (by rfl) (by go_simp; rfl) (by go_simp; rfl) (by go_simp)
end Go.Proofs.Ytcphmelmieedfab.PSpecExact
