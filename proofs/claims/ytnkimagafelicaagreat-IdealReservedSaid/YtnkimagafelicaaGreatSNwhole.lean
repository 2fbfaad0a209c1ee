import Derived.Test.YtnkimagafelicaaGreatPart04
set_option linter.unusedVariables false
set_option linter.unusedSimpArgs false
namespace Go.Ev
open Go Go.Pm Go.Proofs
set_option maxRecDepth 100000
theorem num_whole : FnOK Tryz.prog n_ref02_Whole g_whole := ok_whole_of (runF_ok n_ref02_Whole) (by kernel_rfl)
end Go.Ev
