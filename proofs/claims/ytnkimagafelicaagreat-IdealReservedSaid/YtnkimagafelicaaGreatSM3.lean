/- Answers on the way of a run: runs of the kernel. Printed by a program of mine. -/
import Derived.Test.YtnkimagafelicaaGreatSM2
set_option linter.unusedVariables false
set_option linter.unusedSimpArgs false
namespace Go.Ev
open Go Go.Pm Go.Proofs
set_option maxRecDepth 100000
noncomputable def runM2 : Sem := evFn KT (ovA memoT2 ovS) 80
theorem runM2_ok : SemOK Tryz.prog runM2 := evFn_ok_of hm_prog KT_all (ovA_ok memoT2_ok ovS_ok) 80
theorem q44_0_ok : AnsOK Tryz.prog 44 q44_0 := ans_of runM2_ok 44 (by kernel_rfl)
theorem q44_1_ok : AnsOK Tryz.prog 44 q44_1 := ans_of runM2_ok 44 (by kernel_rfl)
theorem q44_2_ok : AnsOK Tryz.prog 44 q44_2 := ans_of runM2_ok 44 (by kernel_rfl)
theorem q44_ok : AnsOK Tryz.prog 44 q44 := ans_app (ans_app q44_0_ok q44_1_ok) q44_2_ok
theorem q77_0_ok : AnsOK Tryz.prog 77 q77_0 := ans_of runM2_ok 77 (by kernel_rfl)
theorem q77_1_ok : AnsOK Tryz.prog 77 q77_1 := ans_of runM2_ok 77 (by kernel_rfl)
theorem q77_2_ok : AnsOK Tryz.prog 77 q77_2 := ans_of runM2_ok 77 (by kernel_rfl)
theorem q77_ok : AnsOK Tryz.prog 77 q77 := ans_app (ans_app q77_0_ok q77_1_ok) q77_2_ok
theorem q124_0_ok : AnsOK Tryz.prog 124 q124_0 := ans_of runM2_ok 124 (by kernel_rfl)
theorem q124_1_ok : AnsOK Tryz.prog 124 q124_1 := ans_of runM2_ok 124 (by kernel_rfl)
theorem q124_ok : AnsOK Tryz.prog 124 q124 := ans_app q124_0_ok q124_1_ok
theorem q39_0_ok : AnsOK Tryz.prog 39 q39_0 := ans_of runM2_ok 39 (by kernel_rfl)
theorem q39_ok : AnsOK Tryz.prog 39 q39 := q39_0_ok
theorem q14_0_ok : AnsOK Tryz.prog 14 q14_0 := ans_of runM2_ok 14 (by kernel_rfl)
theorem q14_ok : AnsOK Tryz.prog 14 q14 := q14_0_ok
theorem q16_0_ok : AnsOK Tryz.prog 16 q16_0 := ans_of runM2_ok 16 (by kernel_rfl)
theorem q16_ok : AnsOK Tryz.prog 16 q16 := q16_0_ok
theorem memoT3_ok : ∀ t ∈ memoT3, AnsOK Tryz.prog t.1 t.2 := by
  simp only [memoT3, List.forall_mem_cons, List.not_mem_nil, false_implies, implies_true, and_true]
  exact ⟨q44_ok, q77_ok, q124_ok, q39_ok, q14_ok, q16_ok, q129_ok, q72_ok, q60_ok, q45_ok, q66_ok, q117_ok, q133_ok, q40_ok, q8_ok, q17_ok, q58_ok, q81_ok, q61_ok, q101_ok, q100_ok, q108_ok, q118_ok, q65_ok, q136_ok, q110_ok, q135_ok, q159_ok, q105_ok, q64_ok, q116_ok, q150_ok, q26_ok, q53_ok, q73_ok, q75_ok, q79_ok, q82_ok, q43_ok⟩
end Go.Ev
