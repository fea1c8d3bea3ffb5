-- Written by wip/xprint.py, a session's program: printed out of the translation, with hand-written functions. Lean checks it.
import Derived.Test.YtddlmcaclbkopaaXAU0
import Derived.Test.YtddlmcaclbkopaaXAU1
import Derived.Test.YtddlmcaclbkopaaXAU2
namespace Go.Proofs.Ytddlmcaclbkopaa.XAU
open Go.RowKit Go.Proofs.YtddlmcaclbkopaaW.PrintWords Go.Proofs.YtddlmcaclbkopaaW.PrintLast Go.Proofs.YtddlmcaclbkopaaW.PrintMore
attribute [local go_sem] max2_int min2_int max_two min_two max_three min_three max_four min_four   -- for this text's walks alone
set_option linter.unusedVariables false
set_option linter.unusedSimpArgs false

theorem eqA53 (d : Nat) (w : World) (x0 y0 : ByteArray) (x1 y1 : ByteArray) (x2 y2 : ByteArray) (x3 y3 : ByteArray) (x4 y4 : Int) (x5 y5 : Int) (x6 y6 : Int) (x7 y7 : Bool) (x8 y8 : Bool) (x9 y9 : Int) (x10 y10 : Int) (x11 y11 : ByteArray) (x12 y12 : ByteArray) (x13 y13 : ByteArray) (x14 y14 : Int) :
    (Op.equalIn (d + 3) 53 (.agg #[.string x0, .string x1, .string x2, .string x3, .int .i64 x4, .int .i64 x5, .int .i64 x6, .bool x7, .bool x8, .int .i64 x9, .int .i64 x10, .string x11, .string x12, .string x13, .int .i64 x14]) (.agg #[.string y0, .string y1, .string y2, .string y3, .int .i64 y4, .int .i64 y5, .int .i64 y6, .bool y7, .bool y8, .int .i64 y9, .int .i64 y10, .string y11, .string y12, .string y13, .int .i64 y14])).run Try.prog w = .ok (x0.toList == y0.toList && ((x1.toList == y1.toList && (x2.toList == y2.toList && (x3.toList == y3.toList && (x4 == y4 && (x5 == y5 && (x6 == y6 && (x7 == y7))))))) && (x8 == y8 && ((x9 == y9 && (x10 == y10 && (x11.toList == y11.toList && (x12.toList == y12.toList && (x13.toList == y13.toList && (x14 == y14)))))))))) w := by
  refine eqA_of Try.underlying53 (by kernel_rfl) ?_
  refine eqf_cons (by rfl) (by go_simp; rfl) (by go_simp; rfl) (by go_simp) ?_
  refine eqf_cons (by rfl) (by go_simp) (by go_simp) (eqA25 (d + 0) w _ _ _ _ _ _ _ _ _ _ _ _ _ _) ?_
  refine eqf_cons (by rfl) (by go_simp; rfl) (by go_simp; rfl) (by go_simp) ?_
  exact eqf_last (by rfl) (by go_simp) (by go_simp) (eqA36 (d + 0) w _ _ _ _ _ _ _ _ _ _ _ _)
end Go.Proofs.Ytddlmcaclbkopaa.XAU
