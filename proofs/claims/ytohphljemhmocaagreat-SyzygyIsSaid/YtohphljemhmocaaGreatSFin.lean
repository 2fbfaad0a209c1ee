/- sanity answers true. -/
import Derived.Test.YtohphljemhmocaaGreatSM3
import Derived.Test.YtohphljemhmocaaGreatPart02
set_option linter.unusedVariables false
set_option linter.unusedSimpArgs false
namespace Go.Ev
open Go Go.Pm Go.Proofs
set_option maxRecDepth 100000
noncomputable def runM3 : Sem := evFn KT (ovM memo3 ovS) 80
theorem runM3_ok : SemOK Tryz.prog runM3 := evFn_ok_of hm_prog KT_all (ovM_ok memo3_ok ovS_ok) 80
theorem s_sanity : FnAt Tryz.prog n_law19_sanity [] (.b true) [] := (runM3_ok n_law19_sanity).at (by kernel_rfl)
end Go.Ev
