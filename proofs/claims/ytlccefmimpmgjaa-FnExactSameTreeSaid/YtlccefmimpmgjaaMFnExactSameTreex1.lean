/- Functions of the program as Lean functions, and the proof that the code comes to what they say. Written by a program of this session (myprint.py). -/
import Derived.Test.YtlccefmimpmgjaaMFnExactSameTreex0
namespace Go.Proofs.Ytlccefmimpmgjaa.MFnExactSameTree
open Go.RowKit Go.Proofs.Ytlccefmimpmgjaa.MOpen Go.Proofs.YtlccefmimpmgjaaW.PrintWords Go.Proofs.YtlccefmimpmgjaaW.PrintLast Go.Proofs.YtlccefmimpmgjaaW.PrintMore
attribute [local go_sem] max2_int min2_int max_two min_two max_three min_three max_four min_four   -- for this text's walks alone
set_option linter.unusedVariables false
set_option linter.unusedSimpArgs false

theorem eqA75 (d : Nat) (w : World) (x0 y0 : Int) (x1 y1 : Int) (x2 y2 : Int) :
    (Op.equalIn (d + 2) 75 (.agg #[.int .i16 x0, .int .i16 x1, .int .i16 x2]) (.agg #[.int .i16 y0, .int .i16 y1, .int .i16 y2])).run Try.prog w = .ok (x0 == y0 && (x1 == y1 && (x2 == y2))) w := by
  refine eqAr_of (c := 1) Try.underlying75 (by kernel_rfl) (by kernel_rfl) ?_
  rw [show List.range 3 = [0, 1, 2] from rfl]
  refine eqi_cons (by go_simp; rfl) (by go_simp; rfl) (by go_simp) ?_
  refine eqi_cons (by go_simp; rfl) (by go_simp; rfl) (by go_simp) ?_
  exact eqi_last (by go_simp; rfl) (by go_simp; rfl) (by go_simp)
theorem eqA77 (d : Nat) (w : World) (x0 y0 : Int) (x1 y1 : Int) (x2 y2 : Int) (x3 y3 : Int) (x4 y4 : Int) :
    (Op.equalIn (d + 3) 77 (.agg #[.int .i8 x0, .int .i8 x1, .int .i16 x2, .int .i16 x3, .int .i16 x4]) (.agg #[.int .i8 y0, .int .i8 y1, .int .i16 y2, .int .i16 y3, .int .i16 y4])).run Try.prog w = .ok (x0 == y0 && (x1 == y1 && ((x2 == y2 && (x3 == y3 && (x4 == y4)))))) w := by
  refine eqA_of Try.underlying77 (by kernel_rfl) ?_
  refine eqf_cons (by rfl) (by go_simp; rfl) (by go_simp; rfl) (by go_simp) ?_
  refine eqf_cons (by rfl) (by go_simp; rfl) (by go_simp; rfl) (by go_simp) ?_
  exact eqf_last (by rfl) (by go_simp) (by go_simp) (eqA75 (d + 0) w _ _ _ _ _ _)
end Go.Proofs.Ytlccefmimpmgjaa.MFnExactSameTree
