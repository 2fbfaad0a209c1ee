/- The law SyzygyIs answers true, said of deep values. -/
import Derived.Test.YtohphljemhmocaaGreatSFin
import Derived.Test.YtohphljemhmocaaGreatPart04
import Derived.Test.YtohphljemhmocaaGreatPart02
set_option linter.unusedVariables false
set_option linter.unusedSimpArgs false
namespace Go.Ev
open Go Go.Pm Go.Proofs
set_option maxRecDepth 100000

theorem s_true : FnOK Tryz.prog n_law19_sanity g_true := by
  intro ds r outs h
  unfold g_true at h
  split at h
  · rename_i he
    have : ds = [] := by simpa using he
    subst this
    cases h
    exact s_sanity
  · cases h

/-! ### The reference -/
theorem r_valid : FnOK Tryz.prog n_ref04_Valid g_ref04_Valid := ok_ref04_Valid hm_prog has_ref04_Valid
theorem refNums : RefNums Tryz.prog := ⟨hm_prog, ok_sign_ref hm_prog has_ref02_Sign has_ref01_Sign, num_add_ref, num_mul_ref, num_whole, ok_ref04_Cmp hm_prog has_ref04_Cmp, ok_ref04_Mul hm_prog has_ref04_Mul r_valid⟩
theorem r_Add : FnOK Tryz.prog n_ref06_Add g_ref06_Add := ok_ref06_Add refNums has_ref06_Add
theorem r_Times : FnOK Tryz.prog n_ref06_Times g_ref06_Times := ok_ref06_Times refNums has_ref06_Times
theorem r_Scale : FnOK Tryz.prog n_ref06_Scale g_ref06_Scale := ok_ref06_Scale hm_prog has_ref06_Scale r_Times
theorem r_Sub : FnOK Tryz.prog n_ref06_Sub g_ref06_Sub := ok_ref06_Sub refNums has_ref06_Sub r_Scale r_Add
theorem r_Mul : FnOK Tryz.prog n_ref06_Mul g_ref06_Mul := ok_ref06_Mul hm_prog has_ref06_Mul r_Times r_Add
theorem r_By : FnOK Tryz.prog n_ref06_By g_ref06_By := ok_ref06_By hm_prog has_ref06_By r_Mul
theorem r_made : FnOK Tryz.prog n_ref06_Made g_made := ok_made refNums has_ref06_Made (ok_abs hm_prog has_ref06_abs) r_Scale r_Add
theorem r_polys : FnOK Tryz.prog n_ref13_Polys g_polys := ok_polys hm_prog has_ref13_Polys (ok_list hm_prog has_ref06_List r_made)
theorem r_poly : FnOK Tryz.prog n_law19_poly g_poly := ok_poly hm_prog has_law19_poly r_made
theorem r_is : FnOK Tryz.prog n_ref19_Is g_ref19_Is := ok_ref19_Is hm_prog has_ref19_Is (ok_ref12_Is hm_prog has_ref12_Is (ok_ref12_Sum hm_prog has_ref12_Sum r_Mul r_Add) (ok_same0 hm_prog has_ref06_Same))

/-! ### The program -/
theorem p_Valid : FnOK Tryz.prog n_monomial_Valid g_monomial_Valid := ok_monomial_Valid hm_prog has_monomial_Valid
theorem p_mMul : FnOK Tryz.prog n_monomial_Mul g_monomial_Mul := ok_monomial_Mul hm_prog has_monomial_Mul p_Valid (ok_monomial_each hm_prog has_monomial_each (ok_monomial_Mul_1 hm_prog has_monomial_Mul_1))
theorem progNums : ProgNums Tryz.prog := ⟨hm_prog, s_sign, num_add_prog, num_mul_prog, s_monomial_Cmp, p_mMul⟩
theorem p_Add : FnOK Tryz.prog n_polynomial_Add g_pAdd := ok_pAdd hm_prog has_polynomial_Add (ok_merge progNums has_polynomial_merge (ok_Add_1 hm_prog has_polynomial_Add_1))
theorem p_Mul : FnOK Tryz.prog n_polynomial_Mul g_pMul := ok_pMul progNums has_polynomial_Mul (ok_sumadd progNums has_polynomial_sum_add) s_sumpoly
theorem p_is : FnOK Tryz.prog n_syzygy_Is g_sIs := ok_sIs hm_prog has_syzygy_Is (ok_dSum hm_prog has_division_Sum p_Mul p_Add)

/-! ### The law -/
theorem law_at (q0 q1 q2 : Raw) (at_ : Int) (hat : 0 ≤ at_ ∧ at_ ≤ 255) (o : Int) (x : List Raw) : FnAt Tryz.prog n_law19_SyzygyIs [.agg [dRaws x, .i .u8 o], .agg [rawSl q0, rawSl q1, rawSl q2], .i .u8 at_] (.b true) [] := by
  obtain ⟨fn, h1, h2, h3⟩ := has_law19_SyzygyIs
  have hs : SemOK Tryz.prog (sem [(n_law19_sanity, g_true), (n_law19_poly, g_poly), (n_ref13_Polys, g_polys), (n_ref06_Add, g_ref06_Add), (n_ref06_Sub, g_ref06_Sub), (n_ref06_By, g_ref06_By), (n_syzygy_Is, g_sIs), (n_ref19_Is, g_ref19_Is)]) :=
    sem_ok (by simpa using ⟨s_true, r_poly, r_polys, r_Add, r_Sub, r_By, p_is, r_is⟩)
  exact FnAt.of hm_prog hs h1 h2 h3 (law19_SyzygyIs_rets lawUses q0 q1 q2 at_ hat o x)
end Go.Ev
