/- Answers on the way of sanity: runs of the kernel. Printed by a program of mine. -/
import Derived.Test.YtohphljemhmocaaGreatSM1
set_option linter.unusedVariables false
set_option linter.unusedSimpArgs false
namespace Go.Ev
open Go Go.Pm Go.Proofs
set_option maxRecDepth 100000
noncomputable def runM1 : Sem := evFn KT (ovM memo1 ovS) 80
theorem runM1_ok : SemOK Tryz.prog runM1 := evFn_ok_of hm_prog KT_all (ovM_ok memo1_ok ovS_ok) 80
theorem mt1 : FnAt Tryz.prog 30 ma1 mr1 [] := (runM1_ok 30).at (by kernel_rfl)
theorem mt3 : FnAt Tryz.prog 30 ma3 mr3 [] := (runM1_ok 30).at (by kernel_rfl)
theorem mt5 : FnAt Tryz.prog 30 ma5 mr5 [] := (runM1_ok 30).at (by kernel_rfl)
theorem mt6 : FnAt Tryz.prog 30 ma6 mr6 [] := (runM1_ok 30).at (by kernel_rfl)
theorem mt7 : FnAt Tryz.prog 30 ma7 mr7 [] := (runM1_ok 30).at (by kernel_rfl)
theorem mt8 : FnAt Tryz.prog 24 ma8 mr8 [] := (runM1_ok 24).at (by kernel_rfl)
theorem mt10 : FnAt Tryz.prog 24 ma10 mr10 [] := (runM1_ok 24).at (by kernel_rfl)
theorem mt12 : FnAt Tryz.prog 24 ma12 mr12 [] := (runM1_ok 24).at (by kernel_rfl)
theorem mt13 : FnAt Tryz.prog 24 ma13 mr13 [] := (runM1_ok 24).at (by kernel_rfl)
theorem memo2_ok : ∀ x ∈ memo2, FnAt Tryz.prog x.1 x.2.1 x.2.2 [] := by
  simp only [memo2, List.forall_mem_cons, List.not_mem_nil, false_implies, implies_true, and_true]
  exact ⟨mt0, mt1, mt2, mt3, mt4, mt5, mt6, mt7, mt8, mt10, mt12, mt13⟩
end Go.Ev
