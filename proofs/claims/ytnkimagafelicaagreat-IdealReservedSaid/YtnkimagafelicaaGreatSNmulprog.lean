import Derived.Test.YtnkimagafelicaaGreatPart04
set_option linter.unusedVariables false
set_option linter.unusedSimpArgs false
namespace Go.Ev
open Go Go.Pm Go.Proofs
set_option maxRecDepth 100000
theorem run_mul_prog_0 : Runs (runF n_rational_Mul) Pl.mul (chunk casesMul 0) := by show List.map _ _ = List.map _ _; kernel_rfl
theorem run_mul_prog_1 : Runs (runF n_rational_Mul) Pl.mul (chunk casesMul 1) := by show List.map _ _ = List.map _ _; kernel_rfl
theorem run_mul_prog_2 : Runs (runF n_rational_Mul) Pl.mul (chunk casesMul 2) := by show List.map _ _ = List.map _ _; kernel_rfl
theorem run_mul_prog_3 : Runs (runF n_rational_Mul) Pl.mul (chunk casesMul 3) := by show List.map _ _ = List.map _ _; kernel_rfl
theorem run_mul_prog_4 : Runs (runF n_rational_Mul) Pl.mul (chunk casesMul 4) := by show List.map _ _ = List.map _ _; kernel_rfl
theorem num_mul_prog : FnOK Tryz.prog n_rational_Mul g_mul := ok_mul_of (runF_ok n_rational_Mul) (runs_of (n := 5) (by decide +kernel) fun i hi => by
  match i, hi with
  | 0, _ => exact run_mul_prog_0
  | 1, _ => exact run_mul_prog_1
  | 2, _ => exact run_mul_prog_2
  | 3, _ => exact run_mul_prog_3
  | 4, _ => exact run_mul_prog_4
  | n + 5, h => exact absurd h (by omega))
end Go.Ev
