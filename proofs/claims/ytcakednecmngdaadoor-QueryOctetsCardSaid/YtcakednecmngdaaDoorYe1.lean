/- Functions of the program as plain functions, with proofs that the code comes to their answers; written by a program of this session. Conditions: as each theorem states them. -/
import Derived.Test.YtcakednecmngdaaDoorY0
namespace Go.Proofs.YtcakednecmngdaaDoor.P
end Go.Proofs.YtcakednecmngdaaDoor.P
namespace Go.Proofs.YtcakednecmngdaaDoorW.PrintMore
end Go.Proofs.YtcakednecmngdaaDoorW.PrintMore
namespace Go.Proofs.YtcakednecmngdaaDoor.Y
open Go.Proofs.YtcakednecmngdaaDoor.P
open Go.RowKit Go.Proofs.YtcakednecmngdaaDoorW.PrintWords Go.Proofs.YtcakednecmngdaaDoorW.PrintLast Go.Proofs.YtcakednecmngdaaDoorW.PrintMore
set_option linter.unusedVariables false
set_option linter.unusedSimpArgs false

theorem eqA55 (d : Nat) (w : World) (x0 y0 : ByteArray) (x1 y1 : ByteArray) :
    (Op.equalIn (d + 2) 55 (.agg #[.string x0, .string x1]) (.agg #[.string y0, .string y1])).run Tryd.prog w = .ok (x0.toList == y0.toList && (x1.toList == y1.toList)) w := by
  refine eqA_of Tryd.underlying55 (by kernel_rfl) ?_
  refine eqf_cons (by rfl) (by go_simp; rfl) (by go_simp; rfl) (by go_simp) ?_
  exact eqf_last (by rfl) (by go_simp; rfl) (by go_simp; rfl) (by go_simp)
end Go.Proofs.YtcakednecmngdaaDoor.Y
