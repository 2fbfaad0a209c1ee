/- Answers on the way of sanity: runs of the kernel. Printed by a program of mine. -/
import Derived.Test.YtohphljemhmocaaGreatSM2
set_option linter.unusedVariables false
set_option linter.unusedSimpArgs false
namespace Go.Ev
open Go Go.Pm Go.Proofs
set_option maxRecDepth 100000
noncomputable def runM2 : Sem := evFn KT (ovM memo2 ovS) 80
theorem runM2_ok : SemOK Tryz.prog runM2 := evFn_ok_of hm_prog KT_all (ovM_ok memo2_ok ovS_ok) 80
theorem mt9 : FnAt Tryz.prog 36 ma9 mr9 [] := (runM2_ok 36).at (by kernel_rfl)
theorem mt11 : FnAt Tryz.prog 36 ma11 mr11 [] := (runM2_ok 36).at (by kernel_rfl)
theorem memo3_ok : ∀ x ∈ memo3, FnAt Tryz.prog x.1 x.2.1 x.2.2 [] := by
  simp only [memo3, List.forall_mem_cons, List.not_mem_nil, false_implies, implies_true, and_true]
  exact ⟨mt0, mt1, mt2, mt3, mt4, mt5, mt6, mt7, mt8, mt9, mt10, mt11, mt12, mt13⟩
end Go.Ev
