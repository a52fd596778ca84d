/- The functions of the seat's laws as plain Lean functions, and that Go's code comes to just their answers. Written by pp.py (wip/tools), a program of this session, on the kit's print. -/
import Derived.Test.YtggecanpjkpkiaaDoorPx0
import Derived.Test.YtggecanpjkpkiaaDoorPx1
namespace Go.Proofs.YtggecanpjkpkiaaDoor.P
open Go.RowKit Go.Proofs.YtggecanpjkpkiaaDoorW.PrintWords Go.Proofs.YtggecanpjkpkiaaDoorW.PrintLast Go.Proofs.YtggecanpjkpkiaaDoorW.PrintMore
attribute [local go_sem] max2_int min2_int max_two min_two max_three min_three max_four min_four   -- for this text's walks alone
attribute [local go_sem] Instr.field asAgg
set_option linter.unusedVariables false
set_option linter.unusedSimpArgs false

theorem eqA35 (d : Nat) (w : World) (x0 y0 : Bool) (x1 y1 : Bool) (x2 y2 : Bool) (x3 y3 : Int) (x4 y4 : Bool) (x5 y5 : Int) :
  (Op.equalIn (d + 3) 35 (.agg #[.bool x0, .bool x1, .bool x2, .int .i64 x3, .bool x4, .int .u8 x5]) (.agg #[.bool y0, .bool y1, .bool y2, .int .i64 y3, .bool y4, .int .u8 y5])).run Tryd.prog w = .ok (x0 == y0 && ((x1 == y1 && (x2 == y2 && (x3 == y3 && (x4 == y4)))) && (x5 == y5))) w := by
 refine eqA_of Tryd.underlying35 (by kernel_rfl) ?_
 refine eqf_cons (by rfl) (by go_simp; rfl) (by go_simp; rfl) (by go_simp) ?_
 refine eqf_cons (by rfl) (by go_simp) (by go_simp) (eqA33 (d + 0) w _ _ _ _ _ _ _ _) ?_
 exact eqf_last (by rfl) (by go_simp; rfl) (by go_simp; rfl) (by go_simp)
end Go.Proofs.YtggecanpjkpkiaaDoor.P
