/- examples answers true. -/
import Derived.Test.YtnkimagafelicaaGreatSTop
set_option linter.unusedVariables false
set_option linter.unusedSimpArgs false
namespace Go.Ev
open Go Go.Pm Go.Proofs
set_option maxRecDepth 100000
noncomputable def runE : Sem := evFn KT (ovA topT (ovA memoT4 ovS)) 80
theorem runE_ok : SemOK Tryz.prog runE := evFn_ok_of hm_prog KT_all (ovA_ok topT_ok (ovA_ok memoT4_ok ovS_ok)) 80
theorem s_examples : FnAt Tryz.prog n_law17_examples [] (.b true) [] := (runE_ok n_law17_examples).at (by kernel_rfl)
end Go.Ev
