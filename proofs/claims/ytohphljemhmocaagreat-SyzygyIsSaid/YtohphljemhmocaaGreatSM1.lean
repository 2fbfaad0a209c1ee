/- Answers on the way of sanity: runs of the kernel. Printed by a program of mine. -/
import Derived.Test.YtohphljemhmocaaGreatSSan
import Derived.Test.YtohphljemhmocaaGreatPart04
set_option linter.unusedVariables false
set_option linter.unusedSimpArgs false
namespace Go.Ev
open Go Go.Pm Go.Proofs
set_option maxRecDepth 100000
theorem memo0_ok : ∀ x ∈ memo0, FnAt Tryz.prog x.1 x.2.1 x.2.2 [] := by simp [memo0]
noncomputable def runM0 : Sem := evFn KT (ovM memo0 ovS) 80
theorem runM0_ok : SemOK Tryz.prog runM0 := evFn_ok_of hm_prog KT_all (ovM_ok memo0_ok ovS_ok) 80
theorem mt0 : FnAt Tryz.prog 90 ma0 mr0 [] := (runM0_ok 90).at (by kernel_rfl)
theorem mt2 : FnAt Tryz.prog 90 ma2 mr2 [] := (runM0_ok 90).at (by kernel_rfl)
theorem mt4 : FnAt Tryz.prog 90 ma4 mr4 [] := (runM0_ok 90).at (by kernel_rfl)
theorem memo1_ok : ∀ x ∈ memo1, FnAt Tryz.prog x.1 x.2.1 x.2.2 [] := by
  simp only [memo1, List.forall_mem_cons, List.not_mem_nil, false_implies, implies_true, and_true]
  exact ⟨mt0, mt2, mt4⟩
end Go.Ev
