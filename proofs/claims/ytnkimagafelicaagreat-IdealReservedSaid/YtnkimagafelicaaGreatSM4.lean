/- Answers on the way of a run: runs of the kernel. Printed by a program of mine. -/
import Derived.Test.YtnkimagafelicaaGreatSM3
set_option linter.unusedVariables false
set_option linter.unusedSimpArgs false
namespace Go.Ev
open Go Go.Pm Go.Proofs
set_option maxRecDepth 100000
noncomputable def runM3 : Sem := evFn KT (ovA memoT3 ovS) 80
theorem runM3_ok : SemOK Tryz.prog runM3 := evFn_ok_of hm_prog KT_all (ovA_ok memoT3_ok ovS_ok) 80
theorem q125_0_ok : AnsOK Tryz.prog 125 q125_0 := ans_of runM3_ok 125 (by kernel_rfl)
theorem q125_1_ok : AnsOK Tryz.prog 125 q125_1 := ans_of runM3_ok 125 (by kernel_rfl)
theorem q125_2_ok : AnsOK Tryz.prog 125 q125_2 := ans_of runM3_ok 125 (by kernel_rfl)
theorem q125_ok : AnsOK Tryz.prog 125 q125 := ans_app (ans_app q125_0_ok q125_1_ok) q125_2_ok
theorem q38_0_ok : AnsOK Tryz.prog 38 q38_0 := ans_of runM3_ok 38 (by kernel_rfl)
theorem q38_ok : AnsOK Tryz.prog 38 q38 := q38_0_ok
theorem q31_0_ok : AnsOK Tryz.prog 31 q31_0 := ans_of runM3_ok 31 (by kernel_rfl)
theorem q31_ok : AnsOK Tryz.prog 31 q31 := q31_0_ok
theorem q49_0_ok : AnsOK Tryz.prog 49 q49_0 := ans_of runM3_ok 49 (by kernel_rfl)
theorem q49_ok : AnsOK Tryz.prog 49 q49 := q49_0_ok
theorem q18_0_ok : AnsOK Tryz.prog 18 q18_0 := ans_of runM3_ok 18 (by kernel_rfl)
theorem q18_ok : AnsOK Tryz.prog 18 q18 := q18_0_ok
theorem q20_0_ok : AnsOK Tryz.prog 20 q20_0 := ans_of runM3_ok 20 (by kernel_rfl)
theorem q20_ok : AnsOK Tryz.prog 20 q20 := q20_0_ok
theorem q27_0_ok : AnsOK Tryz.prog 27 q27_0 := ans_of runM3_ok 27 (by kernel_rfl)
theorem q27_ok : AnsOK Tryz.prog 27 q27 := q27_0_ok
theorem memoT4_ok : ∀ t ∈ memoT4, AnsOK Tryz.prog t.1 t.2 := by
  simp only [memoT4, List.forall_mem_cons, List.not_mem_nil, false_implies, implies_true, and_true]
  exact ⟨q125_ok, q38_ok, q31_ok, q49_ok, q18_ok, q20_ok, q27_ok, q44_ok, q77_ok, q124_ok, q39_ok, q14_ok, q16_ok, q129_ok, q72_ok, q60_ok, q45_ok, q66_ok, q117_ok, q133_ok, q40_ok, q8_ok, q17_ok, q58_ok, q81_ok, q61_ok, q101_ok, q100_ok, q108_ok, q118_ok, q65_ok, q136_ok, q110_ok, q135_ok, q159_ok, q105_ok, q64_ok, q116_ok, q150_ok, q26_ok, q53_ok, q73_ok, q75_ok, q79_ok, q82_ok, q43_ok⟩
end Go.Ev
