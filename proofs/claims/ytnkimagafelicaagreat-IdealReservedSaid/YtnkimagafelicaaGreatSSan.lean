/- Overrides for the runs. -/
import Derived.Test.YtnkimagafelicaaGreatPart03
import Derived.Test.YtnkimagafelicaaGreatPart04
import Derived.Test.YtnkimagafelicaaGreatSNaddprog
import Derived.Test.YtnkimagafelicaaGreatSNmulprog
import Derived.Test.YtnkimagafelicaaGreatSNaddref
import Derived.Test.YtnkimagafelicaaGreatSNmulref
set_option linter.unusedVariables false
set_option linter.unusedSimpArgs false
namespace Go.Ev
open Go Go.Pm Go.Proofs
set_option maxRecDepth 100000

noncomputable def ovS : Nat → Option (Sem → G) := fun n =>
  if n = n_polynomial_sum_poly then some fun _ => polyG
  else if n = n_slices_Clone_integer_nat_uint32 then some fun _ => g_clone false
  else if n = n_rational_Add then some fun _ => wG (· + ·)
  else if n = n_rational_Mul then some fun _ => wG (· * ·)
  else if n = n_ref02_Add then some fun _ => wG (· + ·)
  else if n = n_ref02_Mul then some fun _ => wG (· * ·)
  else none
theorem ovS_ok : ∀ f g, ovS f = some g → ∀ cs, SemOK Tryz.prog cs → FnOK Tryz.prog f (g cs) := by
  intro f g h cs hcs
  unfold ovS at h
  repeat' split at h
  · rename_i e; subst e; cases h; exact ok_polyG s_sumpoly
  · rename_i e; subst e; cases h; exact ok_clone_nat hm_prog has_slices_Clone_integer_nat_uint32
  · rename_i e; subst e; cases h; exact ok_wadd num_add_prog
  · rename_i e; subst e; cases h; exact ok_wmul num_mul_prog
  · rename_i e; subst e; cases h; exact ok_wadd num_add_ref
  · rename_i e; subst e; cases h; exact ok_wmul num_mul_ref
  · cases h
theorem evFn_ok_of {P : Program} (hm : P.follows .mixedOrders = true) {L : List (Nat × Fun)} {fc : Nat → FC} (hL : ∀ x ∈ L, HasK { fc := fc, fn := fun f => (L.find? (·.1 == f)).map (·.2) } P x.1 x.2)
    {ov : Nat → Option (Sem → G)} (hov : ∀ f g, ov f = some g → ∀ cs, SemOK P cs → FnOK P f (g cs)) (k : Nat) : SemOK P (evFn { fc := fc, fn := fun f => (L.find? (·.1 == f)).map (·.2) } ov k) := by
  refine evFn_ok hm (fun f fu h => ?_) (fun f g h cs hcs => hov f g h cs hcs) k
  simp only [Option.map_eq_some_iff] at h
  obtain ⟨x, h1, rfl⟩ := h
  have h2 := List.find?_some h1
  simp only [beq_iff_eq] at h2
  subst h2
  exact hL x (List.mem_of_find?_eq_some h1)
noncomputable def runT : Sem := evFn KT ovS 80
theorem runT_ok : SemOK Tryz.prog runT := evFn_ok_of hm_prog KT_all ovS_ok 80
end Go.Ev
