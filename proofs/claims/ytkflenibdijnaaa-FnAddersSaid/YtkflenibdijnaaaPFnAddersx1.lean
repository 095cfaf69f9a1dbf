-- WRITTEN by xprint.py, a program of this session's. Not trusted: Lean checks it.
-- packed by pack.py
import Derived.Test.YtkflenibdijnaaaPFnAddersx0
import Derived.Test.YtkflenibdijnaaaTFnAddersa
namespace Go.Proofs.Ytkflenibdijnaaa.PFnAdders
open Go.RowKit Go.Proofs.YtkflenibdijnaaaW.PrintWords Go.Proofs.YtkflenibdijnaaaW.PrintLast Go.Proofs.YtkflenibdijnaaaW.PrintMore Go.Proofs.YtkflenibdijnaaaX
attribute [local go_sem] max2_int min2_int max_two min_two max_three min_three max_four min_four   -- for this text's walks alone
set_option linter.unusedVariables false
set_option linter.unusedSimpArgs false

theorem eqA61 (d : Nat) (w : World) (x0 y0 : Int) (x1 y1 : Int) (x2 y2 : Int) :
    (Op.equalIn (d + 2) 61 (.agg #[.int .i8 x0, .int .i16 x1, .int .i16 x2]) (.agg #[.int .i8 y0, .int .i16 y1, .int .i16 y2])).run Try.prog w = .ok (x0 == y0 && (x1 == y1 && (x2 == y2))) w := by
 refine eqA_of Try.underlying61 (by kernel_rfl) ?_
 refine eqf_cons (by rfl) (by go_simp; rfl) (by go_simp; rfl) (by go_simp) ?_
 refine eqf_cons (by rfl) (by go_simp; rfl) (by go_simp; rfl) (by go_simp) ?_
 exact eqf_last (by rfl) (by go_simp; rfl) (by go_simp; rfl) (by go_simp)
end Go.Proofs.Ytkflenibdijnaaa.PFnAdders
