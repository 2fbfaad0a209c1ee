/- Answers on the way of a run: runs of the kernel. Printed by a program of mine. -/
import Derived.Test.YtnkimagafelicaaGreatSM1
set_option linter.unusedVariables false
set_option linter.unusedSimpArgs false
namespace Go.Ev
open Go Go.Pm Go.Proofs
set_option maxRecDepth 100000
noncomputable def runM1 : Sem := evFn KT (ovA memoT1 ovS) 80
theorem runM1_ok : SemOK Tryz.prog runM1 := evFn_ok_of hm_prog KT_all (ovA_ok memoT1_ok ovS_ok) 80
theorem q129_0_ok : AnsOK Tryz.prog 129 q129_0 := ans_of runM1_ok 129 (by kernel_rfl)
theorem q129_1_ok : AnsOK Tryz.prog 129 q129_1 := ans_of runM1_ok 129 (by kernel_rfl)
theorem q129_2_ok : AnsOK Tryz.prog 129 q129_2 := ans_of runM1_ok 129 (by kernel_rfl)
theorem q129_3_ok : AnsOK Tryz.prog 129 q129_3 := ans_of runM1_ok 129 (by kernel_rfl)
theorem q129_ok : AnsOK Tryz.prog 129 q129 := ans_app (ans_app (ans_app q129_0_ok q129_1_ok) q129_2_ok) q129_3_ok
theorem q72_0_ok : AnsOK Tryz.prog 72 q72_0 := ans_of runM1_ok 72 (by kernel_rfl)
theorem q72_1_ok : AnsOK Tryz.prog 72 q72_1 := ans_of runM1_ok 72 (by kernel_rfl)
theorem q72_2_ok : AnsOK Tryz.prog 72 q72_2 := ans_of runM1_ok 72 (by kernel_rfl)
theorem q72_3_ok : AnsOK Tryz.prog 72 q72_3 := ans_of runM1_ok 72 (by kernel_rfl)
theorem q72_4_ok : AnsOK Tryz.prog 72 q72_4 := ans_of runM1_ok 72 (by kernel_rfl)
theorem q72_5_ok : AnsOK Tryz.prog 72 q72_5 := ans_of runM1_ok 72 (by kernel_rfl)
theorem q72_ok : AnsOK Tryz.prog 72 q72 := ans_app (ans_app (ans_app (ans_app (ans_app q72_0_ok q72_1_ok) q72_2_ok) q72_3_ok) q72_4_ok) q72_5_ok
theorem q60_0_ok : AnsOK Tryz.prog 60 q60_0 := ans_of runM1_ok 60 (by kernel_rfl)
theorem q60_1_ok : AnsOK Tryz.prog 60 q60_1 := ans_of runM1_ok 60 (by kernel_rfl)
theorem q60_2_ok : AnsOK Tryz.prog 60 q60_2 := ans_of runM1_ok 60 (by kernel_rfl)
theorem q60_3_ok : AnsOK Tryz.prog 60 q60_3 := ans_of runM1_ok 60 (by kernel_rfl)
theorem q60_4_ok : AnsOK Tryz.prog 60 q60_4 := ans_of runM1_ok 60 (by kernel_rfl)
theorem q60_5_ok : AnsOK Tryz.prog 60 q60_5 := ans_of runM1_ok 60 (by kernel_rfl)
theorem q60_ok : AnsOK Tryz.prog 60 q60 := ans_app (ans_app (ans_app (ans_app (ans_app q60_0_ok q60_1_ok) q60_2_ok) q60_3_ok) q60_4_ok) q60_5_ok
theorem q45_0_ok : AnsOK Tryz.prog 45 q45_0 := ans_of runM1_ok 45 (by kernel_rfl)
theorem q45_1_ok : AnsOK Tryz.prog 45 q45_1 := ans_of runM1_ok 45 (by kernel_rfl)
theorem q45_ok : AnsOK Tryz.prog 45 q45 := ans_app q45_0_ok q45_1_ok
theorem q66_0_ok : AnsOK Tryz.prog 66 q66_0 := ans_of runM1_ok 66 (by kernel_rfl)
theorem q66_1_ok : AnsOK Tryz.prog 66 q66_1 := ans_of runM1_ok 66 (by kernel_rfl)
theorem q66_2_ok : AnsOK Tryz.prog 66 q66_2 := ans_of runM1_ok 66 (by kernel_rfl)
theorem q66_ok : AnsOK Tryz.prog 66 q66 := ans_app (ans_app q66_0_ok q66_1_ok) q66_2_ok
theorem q117_0_ok : AnsOK Tryz.prog 117 q117_0 := ans_of runM1_ok 117 (by kernel_rfl)
theorem q117_1_ok : AnsOK Tryz.prog 117 q117_1 := ans_of runM1_ok 117 (by kernel_rfl)
theorem q117_2_ok : AnsOK Tryz.prog 117 q117_2 := ans_of runM1_ok 117 (by kernel_rfl)
theorem q117_ok : AnsOK Tryz.prog 117 q117 := ans_app (ans_app q117_0_ok q117_1_ok) q117_2_ok
theorem q133_0_ok : AnsOK Tryz.prog 133 q133_0 := ans_of runM1_ok 133 (by kernel_rfl)
theorem q133_1_ok : AnsOK Tryz.prog 133 q133_1 := ans_of runM1_ok 133 (by kernel_rfl)
theorem q133_2_ok : AnsOK Tryz.prog 133 q133_2 := ans_of runM1_ok 133 (by kernel_rfl)
theorem q133_ok : AnsOK Tryz.prog 133 q133 := ans_app (ans_app q133_0_ok q133_1_ok) q133_2_ok
theorem q40_0_ok : AnsOK Tryz.prog 40 q40_0 := ans_of runM1_ok 40 (by kernel_rfl)
theorem q40_ok : AnsOK Tryz.prog 40 q40 := q40_0_ok
theorem q8_0_ok : AnsOK Tryz.prog 8 q8_0 := ans_of runM1_ok 8 (by kernel_rfl)
theorem q8_ok : AnsOK Tryz.prog 8 q8 := q8_0_ok
theorem q17_0_ok : AnsOK Tryz.prog 17 q17_0 := ans_of runM1_ok 17 (by kernel_rfl)
theorem q17_ok : AnsOK Tryz.prog 17 q17 := q17_0_ok
theorem q58_0_ok : AnsOK Tryz.prog 58 q58_0 := ans_of runM1_ok 58 (by kernel_rfl)
theorem q58_ok : AnsOK Tryz.prog 58 q58 := q58_0_ok
theorem q81_0_ok : AnsOK Tryz.prog 81 q81_0 := ans_of runM1_ok 81 (by kernel_rfl)
theorem q81_ok : AnsOK Tryz.prog 81 q81 := q81_0_ok
theorem memoT2_ok : ∀ t ∈ memoT2, AnsOK Tryz.prog t.1 t.2 := by
  simp only [memoT2, List.forall_mem_cons, List.not_mem_nil, false_implies, implies_true, and_true]
  exact ⟨q129_ok, q72_ok, q60_ok, q45_ok, q66_ok, q117_ok, q133_ok, q40_ok, q8_ok, q17_ok, q58_ok, q81_ok, q61_ok, q101_ok, q100_ok, q108_ok, q118_ok, q65_ok, q136_ok, q110_ok, q135_ok, q159_ok, q105_ok, q64_ok, q116_ok, q150_ok, q26_ok, q53_ok, q73_ok, q75_ok, q79_ok, q82_ok, q43_ok⟩
end Go.Ev
