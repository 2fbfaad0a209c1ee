/- Answers on the way of a run: runs of the kernel. Printed by a program of mine. -/
import Derived.Test.YtnkimagafelicaaGreatSSan
import Derived.Test.YtnkimagafelicaaGreatPart04
set_option linter.unusedVariables false
set_option linter.unusedSimpArgs false
namespace Go.Ev
open Go Go.Pm Go.Proofs
set_option maxRecDepth 100000
theorem memoT0_ok : ∀ t ∈ memoT0, AnsOK Tryz.prog t.1 t.2 := by simp [memoT0]
noncomputable def runM0 : Sem := evFn KT (ovA memoT0 ovS) 80
theorem runM0_ok : SemOK Tryz.prog runM0 := evFn_ok_of hm_prog KT_all (ovA_ok memoT0_ok ovS_ok) 80
theorem q61_0_ok : AnsOK Tryz.prog 61 q61_0 := ans_of runM0_ok 61 (by kernel_rfl)
theorem q61_ok : AnsOK Tryz.prog 61 q61 := q61_0_ok
theorem q101_0_ok : AnsOK Tryz.prog 101 q101_0 := ans_of runM0_ok 101 (by kernel_rfl)
theorem q101_ok : AnsOK Tryz.prog 101 q101 := q101_0_ok
theorem q100_0_ok : AnsOK Tryz.prog 100 q100_0 := ans_of runM0_ok 100 (by kernel_rfl)
theorem q100_ok : AnsOK Tryz.prog 100 q100 := q100_0_ok
theorem q108_0_ok : AnsOK Tryz.prog 108 q108_0 := ans_of runM0_ok 108 (by kernel_rfl)
theorem q108_ok : AnsOK Tryz.prog 108 q108 := q108_0_ok
theorem q118_0_ok : AnsOK Tryz.prog 118 q118_0 := ans_of runM0_ok 118 (by kernel_rfl)
theorem q118_ok : AnsOK Tryz.prog 118 q118 := q118_0_ok
theorem q65_0_ok : AnsOK Tryz.prog 65 q65_0 := ans_of runM0_ok 65 (by kernel_rfl)
theorem q65_ok : AnsOK Tryz.prog 65 q65 := q65_0_ok
theorem q136_0_ok : AnsOK Tryz.prog 136 q136_0 := ans_of runM0_ok 136 (by kernel_rfl)
theorem q136_ok : AnsOK Tryz.prog 136 q136 := q136_0_ok
theorem q110_0_ok : AnsOK Tryz.prog 110 q110_0 := ans_of runM0_ok 110 (by kernel_rfl)
theorem q110_1_ok : AnsOK Tryz.prog 110 q110_1 := ans_of runM0_ok 110 (by kernel_rfl)
theorem q110_2_ok : AnsOK Tryz.prog 110 q110_2 := ans_of runM0_ok 110 (by kernel_rfl)
theorem q110_ok : AnsOK Tryz.prog 110 q110 := ans_app (ans_app q110_0_ok q110_1_ok) q110_2_ok
theorem q135_0_ok : AnsOK Tryz.prog 135 q135_0 := ans_of runM0_ok 135 (by kernel_rfl)
theorem q135_1_ok : AnsOK Tryz.prog 135 q135_1 := ans_of runM0_ok 135 (by kernel_rfl)
theorem q135_2_ok : AnsOK Tryz.prog 135 q135_2 := ans_of runM0_ok 135 (by kernel_rfl)
theorem q135_3_ok : AnsOK Tryz.prog 135 q135_3 := ans_of runM0_ok 135 (by kernel_rfl)
theorem q135_ok : AnsOK Tryz.prog 135 q135 := ans_app (ans_app (ans_app q135_0_ok q135_1_ok) q135_2_ok) q135_3_ok
theorem q159_0_ok : AnsOK Tryz.prog 159 q159_0 := ans_of runM0_ok 159 (by kernel_rfl)
theorem q159_1_ok : AnsOK Tryz.prog 159 q159_1 := ans_of runM0_ok 159 (by kernel_rfl)
theorem q159_2_ok : AnsOK Tryz.prog 159 q159_2 := ans_of runM0_ok 159 (by kernel_rfl)
theorem q159_3_ok : AnsOK Tryz.prog 159 q159_3 := ans_of runM0_ok 159 (by kernel_rfl)
theorem q159_4_ok : AnsOK Tryz.prog 159 q159_4 := ans_of runM0_ok 159 (by kernel_rfl)
theorem q159_ok : AnsOK Tryz.prog 159 q159 := ans_app (ans_app (ans_app (ans_app q159_0_ok q159_1_ok) q159_2_ok) q159_3_ok) q159_4_ok
theorem q105_0_ok : AnsOK Tryz.prog 105 q105_0 := ans_of runM0_ok 105 (by kernel_rfl)
theorem q105_1_ok : AnsOK Tryz.prog 105 q105_1 := ans_of runM0_ok 105 (by kernel_rfl)
theorem q105_2_ok : AnsOK Tryz.prog 105 q105_2 := ans_of runM0_ok 105 (by kernel_rfl)
theorem q105_3_ok : AnsOK Tryz.prog 105 q105_3 := ans_of runM0_ok 105 (by kernel_rfl)
theorem q105_4_ok : AnsOK Tryz.prog 105 q105_4 := ans_of runM0_ok 105 (by kernel_rfl)
theorem q105_ok : AnsOK Tryz.prog 105 q105 := ans_app (ans_app (ans_app (ans_app q105_0_ok q105_1_ok) q105_2_ok) q105_3_ok) q105_4_ok
theorem q64_0_ok : AnsOK Tryz.prog 64 q64_0 := ans_of runM0_ok 64 (by kernel_rfl)
theorem q64_1_ok : AnsOK Tryz.prog 64 q64_1 := ans_of runM0_ok 64 (by kernel_rfl)
theorem q64_ok : AnsOK Tryz.prog 64 q64 := ans_app q64_0_ok q64_1_ok
theorem q116_0_ok : AnsOK Tryz.prog 116 q116_0 := ans_of runM0_ok 116 (by kernel_rfl)
theorem q116_1_ok : AnsOK Tryz.prog 116 q116_1 := ans_of runM0_ok 116 (by kernel_rfl)
theorem q116_ok : AnsOK Tryz.prog 116 q116 := ans_app q116_0_ok q116_1_ok
theorem q150_0_ok : AnsOK Tryz.prog 150 q150_0 := ans_of runM0_ok 150 (by kernel_rfl)
theorem q150_1_ok : AnsOK Tryz.prog 150 q150_1 := ans_of runM0_ok 150 (by kernel_rfl)
theorem q150_2_ok : AnsOK Tryz.prog 150 q150_2 := ans_of runM0_ok 150 (by kernel_rfl)
theorem q150_3_ok : AnsOK Tryz.prog 150 q150_3 := ans_of runM0_ok 150 (by kernel_rfl)
theorem q150_4_ok : AnsOK Tryz.prog 150 q150_4 := ans_of runM0_ok 150 (by kernel_rfl)
theorem q150_ok : AnsOK Tryz.prog 150 q150 := ans_app (ans_app (ans_app (ans_app q150_0_ok q150_1_ok) q150_2_ok) q150_3_ok) q150_4_ok
theorem q26_0_ok : AnsOK Tryz.prog 26 q26_0 := ans_of runM0_ok 26 (by kernel_rfl)
theorem q26_ok : AnsOK Tryz.prog 26 q26 := q26_0_ok
theorem q53_0_ok : AnsOK Tryz.prog 53 q53_0 := ans_of runM0_ok 53 (by kernel_rfl)
theorem q53_ok : AnsOK Tryz.prog 53 q53 := q53_0_ok
theorem q73_0_ok : AnsOK Tryz.prog 73 q73_0 := ans_of runM0_ok 73 (by kernel_rfl)
theorem q73_ok : AnsOK Tryz.prog 73 q73 := q73_0_ok
theorem q75_0_ok : AnsOK Tryz.prog 75 q75_0 := ans_of runM0_ok 75 (by kernel_rfl)
theorem q75_ok : AnsOK Tryz.prog 75 q75 := q75_0_ok
theorem q79_0_ok : AnsOK Tryz.prog 79 q79_0 := ans_of runM0_ok 79 (by kernel_rfl)
theorem q79_ok : AnsOK Tryz.prog 79 q79 := q79_0_ok
theorem q82_0_ok : AnsOK Tryz.prog 82 q82_0 := ans_of runM0_ok 82 (by kernel_rfl)
theorem q82_ok : AnsOK Tryz.prog 82 q82 := q82_0_ok
theorem q43_0_ok : AnsOK Tryz.prog 43 q43_0 := ans_of runM0_ok 43 (by kernel_rfl)
theorem q43_ok : AnsOK Tryz.prog 43 q43 := q43_0_ok
theorem memoT1_ok : ∀ t ∈ memoT1, AnsOK Tryz.prog t.1 t.2 := by
  simp only [memoT1, List.forall_mem_cons, List.not_mem_nil, false_implies, implies_true, and_true]
  exact ⟨q61_ok, q101_ok, q100_ok, q108_ok, q118_ok, q65_ok, q136_ok, q110_ok, q135_ok, q159_ok, q105_ok, q64_ok, q116_ok, q150_ok, q26_ok, q53_ok, q73_ok, q75_ok, q79_ok, q82_ok, q43_ok⟩
end Go.Ev
