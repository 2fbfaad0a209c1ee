import Derived.Test.YtnkimagafelicaaGreatPart04
set_option linter.unusedVariables false
set_option linter.unusedSimpArgs false
namespace Go.Ev
open Go Go.Pm Go.Proofs
set_option maxRecDepth 100000
theorem run_add_ref_0 : Runs (runF n_ref02_Add) Pl.add (chunk casesAdd 0) := by show List.map _ _ = List.map _ _; kernel_rfl
theorem run_add_ref_1 : Runs (runF n_ref02_Add) Pl.add (chunk casesAdd 1) := by show List.map _ _ = List.map _ _; kernel_rfl
theorem run_add_ref_2 : Runs (runF n_ref02_Add) Pl.add (chunk casesAdd 2) := by show List.map _ _ = List.map _ _; kernel_rfl
theorem run_add_ref_3 : Runs (runF n_ref02_Add) Pl.add (chunk casesAdd 3) := by show List.map _ _ = List.map _ _; kernel_rfl
theorem run_add_ref_4 : Runs (runF n_ref02_Add) Pl.add (chunk casesAdd 4) := by show List.map _ _ = List.map _ _; kernel_rfl
theorem run_add_ref_5 : Runs (runF n_ref02_Add) Pl.add (chunk casesAdd 5) := by show List.map _ _ = List.map _ _; kernel_rfl
theorem run_add_ref_6 : Runs (runF n_ref02_Add) Pl.add (chunk casesAdd 6) := by show List.map _ _ = List.map _ _; kernel_rfl
theorem run_add_ref_7 : Runs (runF n_ref02_Add) Pl.add (chunk casesAdd 7) := by show List.map _ _ = List.map _ _; kernel_rfl
theorem num_add_ref : FnOK Tryz.prog n_ref02_Add g_add := ok_add_of (runF_ok n_ref02_Add) (runs_of (n := 8) (by decide +kernel) fun i hi => by
  match i, hi with
  | 0, _ => exact run_add_ref_0
  | 1, _ => exact run_add_ref_1
  | 2, _ => exact run_add_ref_2
  | 3, _ => exact run_add_ref_3
  | 4, _ => exact run_add_ref_4
  | 5, _ => exact run_add_ref_5
  | 6, _ => exact run_add_ref_6
  | 7, _ => exact run_add_ref_7
  | n + 8, h => exact absurd h (by omega))
end Go.Ev
