/- The law IdealReserved answers true, said of deep values. -/
import Derived.Test.YtnkimagafelicaaGreatSFin
import Derived.Test.YtnkimagafelicaaGreatSNwhole
import Derived.Test.YtnkimagafelicaaGreatPart05
set_option linter.unusedVariables false
set_option linter.unusedSimpArgs false
namespace Go.Ev
open Go Go.Pm Go.Proofs
set_option maxRecDepth 100000

theorem s_true : FnOK Tryz.prog n_law17_examples g_true := by
  intro ds r outs h
  unfold g_true at h
  split at h
  · rename_i he
    have : ds = [] := by simpa using he
    subst this
    cases h
    exact s_examples
  · cases h

def KV : Cfg := { fc := fcOf, fn := fun f => ([(n_ref06_Var, c_ref06_Var)].find? (·.1 == f)).map (·.2) }
instance : NoSh KV := ⟨fun _ => rfl, rfl⟩
theorem KV_all : ∀ x ∈ [(n_ref06_Var, c_ref06_Var)], HasK KV Tryz.prog x.1 x.2 := by
  simp only [List.forall_mem_cons, List.not_mem_nil, false_implies, implies_true, and_true]
  exact ⟨_, Tryz.func7, ne_of_beq (by kernel_rfl), by kernel_rfl⟩
noncomputable def ovV : Nat → Option (Sem → G) := fun n => if n = n_ref02_Whole then some fun _ => runT n_ref02_Whole else none
theorem ovV_ok : ∀ f g, ovV f = some g → ∀ cs, SemOK Tryz.prog cs → FnOK Tryz.prog f (g cs) := by
  intro f g h cs _
  unfold ovV at h
  split at h
  · rename_i e; subst e; cases h; exact runT_ok n_ref02_Whole
  · cases h
noncomputable def runV : Sem := evFn KV ovV 80
theorem runV_ok : SemOK Tryz.prog runV := evFn_ok_of hm_prog KV_all ovV_ok 80
theorem s_var : FnAt Tryz.prog n_ref06_Var [.i .i64 7] (.tup [d7, .i .i64 0]) [] := (runV_ok n_ref06_Var).at (by kernel_rfl)
theorem s_var7 : FnOK Tryz.prog n_ref06_Var g_var7 := by
  intro ds r outs h
  unfold g_var7 at h
  split at h
  · cases h
    rw [d7_eq]
    exact s_var
  · cases h

/-! ### The reference -/
theorem r_valid : FnOK Tryz.prog n_ref04_Valid g_ref04_Valid := ok_ref04_Valid hm_prog has_ref04_Valid
theorem refNums : RefNums Tryz.prog := ⟨hm_prog, ok_sign_ref hm_prog has_ref02_Sign has_ref01_Sign, num_add_ref, num_mul_ref, num_whole, ok_ref04_Cmp hm_prog has_ref04_Cmp, ok_ref04_Mul hm_prog has_ref04_Mul r_valid⟩
theorem r_Add : FnOK Tryz.prog n_ref06_Add g_ref06_Add := ok_ref06_Add refNums has_ref06_Add
theorem r_Times : FnOK Tryz.prog n_ref06_Times g_ref06_Times := ok_ref06_Times refNums has_ref06_Times
theorem r_Scale : FnOK Tryz.prog n_ref06_Scale g_ref06_Scale := ok_ref06_Scale hm_prog has_ref06_Scale r_Times
theorem r_made : FnOK Tryz.prog n_ref06_Made g_made := ok_made refNums has_ref06_Made (ok_abs hm_prog has_ref06_abs) r_Scale r_Add
theorem r_list : FnOK Tryz.prog n_law17_list g_l17list := ok_l17list hm_prog has_law17_list (ok_list hm_prog has_ref06_List r_made)
theorem r_small : FnOK Tryz.prog n_law17_small g_l17small := ok_l17small hm_prog has_law17_small r_made

/-! ### The program -/
theorem p_res : FnOK Tryz.prog n_ideal_reserved g_res := ok_res hm_prog has_ideal_reserved (ok_con hm_prog has_slices_ContainsFunc_api_Poly_api_Poly (ok_idx hm_prog has_slices_IndexFunc_api_Poly_api_Poly (ok_res1 hm_prog has_ideal_reserved_1 (ok_uses hm_prog has_polynomial_Uses (ok_supp hm_prog has_monomial_Support)))))

/-! ### The law -/
theorem law_at (x : List Raw) (y : Raw) (at_ : Int) : FnAt Tryz.prog n_law17_IdealReserved [dRaws x, dRaw y, .i .u8 at_] (.b true) [] := by
  obtain ⟨fn, h1, h2, h3⟩ := has_law17_IdealReserved
  have hs : SemOK Tryz.prog (sem semR) :=
    sem_ok (by simpa [semR] using ⟨s_true, r_list, r_small, s_var7, r_Add, ok_meet hm_prog has_ideal_Meet p_res, ok_quot hm_prog has_ideal_Quotient p_res, ok_sat hm_prog has_ideal_Saturate p_res, ok_elim hm_prog has_ideal_Eliminate p_res, ok_pow hm_prog has_ideal_Power p_res⟩)
  exact FnAt.of hm_prog hs h1 h2 h3 (law17_rets x y at_)
end Go.Ev
