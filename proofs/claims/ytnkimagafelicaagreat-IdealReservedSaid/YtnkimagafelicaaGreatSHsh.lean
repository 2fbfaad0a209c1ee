/- The functions that work on objects of their callers, and that the program has them. Printed by a program of mine. -/
import Derived.Test.YtnkimagafelicaaGreatSM4
import Derived.Test.YtnkimagafelicaaGreatPart04
set_option linter.unusedVariables false
set_option linter.unusedSimpArgs false
namespace Go.Ev
open Go Go.Pm Go.Proofs
set_option maxRecDepth 100000
def HL : List (Nat × Fun) := [(n_law17_examples, h_law17_examples), (n_ideal_Meet, h_ideal_Meet), (n_ideal_Quotient, h_ideal_Quotient), (n_ideal_Saturate, h_ideal_Saturate), (n_ideal_Eliminate, h_ideal_Eliminate), (n_ideal_Power, h_ideal_Power), (n_ideal_Member, h_ideal_Member), (n_ideal_Equal, h_ideal_Equal), (n_ideal_meet, h_ideal_meet), (n_ideal_reduced, h_ideal_reduced), (n_ideal_eliminate, h_ideal_eliminate), (n_ideal_inverted, h_ideal_inverted), (n_slices_Clone_api_Poly_api_Poly, h_slices_Clone_api_Poly_api_Poly), (n_slices_ContainsFunc_api_Poly_api_Poly, h_slices_ContainsFunc_api_Poly_api_Poly), (n_ideal_Saturate_1, h_ideal_Saturate_1), (n_groebner_Basis, h_groebner_Basis), (n_ideal_basis, h_ideal_basis), (n_slices_DeleteFunc_api_Poly_api_Poly, h_slices_DeleteFunc_api_Poly_api_Poly), (n_ideal_eliminate_1, h_ideal_eliminate_1), (n_slices_IndexFunc_api_Poly_api_Poly, h_slices_IndexFunc_api_Poly_api_Poly), (n_groebner_builder_add, h_groebner_builder_add), (n_groebner_builder_complete, h_groebner_builder_complete), (n_groebner_ordering_finish, h_groebner_ordering_finish), (n_slices_MinFunc_groebner_pair_groebner_pair, h_slices_MinFunc_groebner_pair_groebner_pair), (n_groebner_builder_before, h_groebner_builder_before), (n_slices_DeleteFunc_groebner_pair_groebner_pair, h_slices_DeleteFunc_groebner_pair_groebner_pair), (n_groebner_builder_complete_1, h_groebner_builder_complete_1), (n_groebner_builder_needless, h_groebner_builder_needless), (n_slices_Clone_groebner_element_groebner_element, h_slices_Clone_groebner_element_groebner_element), (n_slices_SortStableFunc_groebner_element_groebner_element, h_slices_SortStableFunc_groebner_element_groebner_element), (n_groebner_ordering_finish_1, h_groebner_ordering_finish_1), (n_slices_ContainsFunc_groebner_element_groebner_element, h_slices_ContainsFunc_groebner_element_groebner_element), (n_groebner_ordering_finish_2, h_groebner_ordering_finish_2), (n_slices_Delete_groebner_element_groebner_element, h_slices_Delete_groebner_element_groebner_element), (n_slices_IndexFunc_groebner_pair_groebner_pair, h_slices_IndexFunc_groebner_pair_groebner_pair), (n_groebner_builder_open, h_groebner_builder_open), (n_slices_stableCmpFunc_groebner_element, h_slices_stableCmpFunc_groebner_element), (n_slices_IndexFunc_groebner_element_groebner_element, h_slices_IndexFunc_groebner_element_groebner_element), (n_slices_ContainsFunc_groebner_pair_groebner_pair, h_slices_ContainsFunc_groebner_pair_groebner_pair), (n_groebner_builder_open_1, h_groebner_builder_open_1), (n_slices_insertionSortCmpFunc_groebner_element, h_slices_insertionSortCmpFunc_groebner_element)]
def hfn : Nat → Option Fun := fun f => (HL.find? (·.1 == f)).map (·.2)
def hss : Nat → Bool := fun f => HL.any (·.1 == f)
noncomputable def runM4 : Sem := evFn KT (ovA memoT4 ovS) 80
theorem runM4_ok : SemOK Tryz.prog runM4 := evFn_ok_of hm_prog KT_all (ovA_ok memoT4_ok ovS_ok) 80
def KO : Cfg := { fc := fcOf, fn := fun f => ([(n_cmp_Or_int, c_cmp_Or_int)].find? (·.1 == f)).map (·.2) }
instance : NoSh KO := ⟨fun _ => rfl, rfl⟩
theorem KO_all : ∀ x ∈ [(n_cmp_Or_int, c_cmp_Or_int)], HasK KO Tryz.prog x.1 x.2 := by
  simp only [List.forall_mem_cons, List.not_mem_nil, false_implies, implies_true, and_true]
  exact ⟨_, Tryz.func160, ne_of_beq (by kernel_rfl), by kernel_rfl⟩
def runO : Sem := evFn KO (fun _ => none) 80
theorem runO_ok : SemOK Tryz.prog runO := evFn_ok_of hm_prog KO_all (ov := fun _ => none) (fun _ _ h => by cases h) 80
noncomputable def hov : Ovs := fun f => if hss f then none else if f == n_cmp_Or_int then some fun _ => runO f else some fun _ => runM4 f
theorem hov_ok : ∀ f g, hov f = some g → ∀ cs, SemOK Tryz.prog cs → FnOK Tryz.prog f (g cs) := by
  intro f g h cs _
  unfold hov at h
  split at h
  · cases h
  · split at h
    · cases h; exact runO_ok f
    · cases h; exact runM4_ok f
def HasH (f : Nat) (c : Fun) : Prop := ∃ fn, Tryz.prog.funcs[f]? = some fn ∧ fn.name ≠ "runtime.NumGoroutine" ∧ toFun Tryz.prog (KH fcOf hfn hss hov 1000 0) fn = some c
theorem hh_law17_examples : HasH n_law17_examples h_law17_examples := ⟨_, Tryz.func4, ne_of_beq (by kernel_rfl), by kernel_rfl⟩
theorem hh_ideal_Meet : HasH n_ideal_Meet h_ideal_Meet := ⟨_, Tryz.func9, ne_of_beq (by kernel_rfl), by kernel_rfl⟩
theorem hh_ideal_Quotient : HasH n_ideal_Quotient h_ideal_Quotient := ⟨_, Tryz.func10, ne_of_beq (by kernel_rfl), by kernel_rfl⟩
theorem hh_ideal_Saturate : HasH n_ideal_Saturate h_ideal_Saturate := ⟨_, Tryz.func11, ne_of_beq (by kernel_rfl), by kernel_rfl⟩
theorem hh_ideal_Eliminate : HasH n_ideal_Eliminate h_ideal_Eliminate := ⟨_, Tryz.func12, ne_of_beq (by kernel_rfl), by kernel_rfl⟩
theorem hh_ideal_Power : HasH n_ideal_Power h_ideal_Power := ⟨_, Tryz.func13, ne_of_beq (by kernel_rfl), by kernel_rfl⟩
theorem hh_ideal_Member : HasH n_ideal_Member h_ideal_Member := ⟨_, Tryz.func15, ne_of_beq (by kernel_rfl), by kernel_rfl⟩
theorem hh_ideal_Equal : HasH n_ideal_Equal h_ideal_Equal := ⟨_, Tryz.func19, ne_of_beq (by kernel_rfl), by kernel_rfl⟩
theorem hh_ideal_meet : HasH n_ideal_meet h_ideal_meet := ⟨_, Tryz.func28, ne_of_beq (by kernel_rfl), by kernel_rfl⟩
theorem hh_ideal_reduced : HasH n_ideal_reduced h_ideal_reduced := ⟨_, Tryz.func32, ne_of_beq (by kernel_rfl), by kernel_rfl⟩
theorem hh_ideal_eliminate : HasH n_ideal_eliminate h_ideal_eliminate := ⟨_, Tryz.func33, ne_of_beq (by kernel_rfl), by kernel_rfl⟩
theorem hh_ideal_inverted : HasH n_ideal_inverted h_ideal_inverted := ⟨_, Tryz.func34, ne_of_beq (by kernel_rfl), by kernel_rfl⟩
theorem hh_slices_Clone_api_Poly_api_Poly : HasH n_slices_Clone_api_Poly_api_Poly h_slices_Clone_api_Poly_api_Poly := ⟨_, Tryz.func35, ne_of_beq (by kernel_rfl), by kernel_rfl⟩
theorem hh_slices_ContainsFunc_api_Poly_api_Poly : HasH n_slices_ContainsFunc_api_Poly_api_Poly h_slices_ContainsFunc_api_Poly_api_Poly := ⟨_, Tryz.func36, ne_of_beq (by kernel_rfl), by kernel_rfl⟩
theorem hh_ideal_Saturate_1 : HasH n_ideal_Saturate_1 h_ideal_Saturate_1 := ⟨_, Tryz.func37, ne_of_beq (by kernel_rfl), by kernel_rfl⟩
theorem hh_groebner_Basis : HasH n_groebner_Basis h_groebner_Basis := ⟨_, Tryz.func42, ne_of_beq (by kernel_rfl), by kernel_rfl⟩
theorem hh_ideal_basis : HasH n_ideal_basis h_ideal_basis := ⟨_, Tryz.func67, ne_of_beq (by kernel_rfl), by kernel_rfl⟩
theorem hh_slices_DeleteFunc_api_Poly_api_Poly : HasH n_slices_DeleteFunc_api_Poly_api_Poly h_slices_DeleteFunc_api_Poly_api_Poly := ⟨_, Tryz.func69, ne_of_beq (by kernel_rfl), by kernel_rfl⟩
theorem hh_ideal_eliminate_1 : HasH n_ideal_eliminate_1 h_ideal_eliminate_1 := ⟨_, Tryz.func70, ne_of_beq (by kernel_rfl), by kernel_rfl⟩
theorem hh_slices_IndexFunc_api_Poly_api_Poly : HasH n_slices_IndexFunc_api_Poly_api_Poly h_slices_IndexFunc_api_Poly_api_Poly := ⟨_, Tryz.func71, ne_of_beq (by kernel_rfl), by kernel_rfl⟩
theorem hh_groebner_builder_add : HasH n_groebner_builder_add h_groebner_builder_add := ⟨_, Tryz.func76, ne_of_beq (by kernel_rfl), by kernel_rfl⟩
theorem hh_groebner_builder_complete : HasH n_groebner_builder_complete h_groebner_builder_complete := ⟨_, Tryz.func78, ne_of_beq (by kernel_rfl), by kernel_rfl⟩
theorem hh_groebner_ordering_finish : HasH n_groebner_ordering_finish h_groebner_ordering_finish := ⟨_, Tryz.func80, ne_of_beq (by kernel_rfl), by kernel_rfl⟩
theorem hh_slices_MinFunc_groebner_pair_groebner_pair : HasH n_slices_MinFunc_groebner_pair_groebner_pair h_slices_MinFunc_groebner_pair_groebner_pair := ⟨_, Tryz.func119, ne_of_beq (by kernel_rfl), by kernel_rfl⟩
theorem hh_groebner_builder_before : HasH n_groebner_builder_before h_groebner_builder_before := ⟨_, Tryz.func120, ne_of_beq (by kernel_rfl), by kernel_rfl⟩
theorem hh_slices_DeleteFunc_groebner_pair_groebner_pair : HasH n_slices_DeleteFunc_groebner_pair_groebner_pair h_slices_DeleteFunc_groebner_pair_groebner_pair := ⟨_, Tryz.func121, ne_of_beq (by kernel_rfl), by kernel_rfl⟩
theorem hh_groebner_builder_complete_1 : HasH n_groebner_builder_complete_1 h_groebner_builder_complete_1 := ⟨_, Tryz.func122, ne_of_beq (by kernel_rfl), by kernel_rfl⟩
theorem hh_groebner_builder_needless : HasH n_groebner_builder_needless h_groebner_builder_needless := ⟨_, Tryz.func123, ne_of_beq (by kernel_rfl), by kernel_rfl⟩
theorem hh_slices_Clone_groebner_element_groebner_element : HasH n_slices_Clone_groebner_element_groebner_element h_slices_Clone_groebner_element_groebner_element := ⟨_, Tryz.func126, ne_of_beq (by kernel_rfl), by kernel_rfl⟩
theorem hh_slices_SortStableFunc_groebner_element_groebner_element : HasH n_slices_SortStableFunc_groebner_element_groebner_element h_slices_SortStableFunc_groebner_element_groebner_element := ⟨_, Tryz.func127, ne_of_beq (by kernel_rfl), by kernel_rfl⟩
theorem hh_groebner_ordering_finish_1 : HasH n_groebner_ordering_finish_1 h_groebner_ordering_finish_1 := ⟨_, Tryz.func128, ne_of_beq (by kernel_rfl), by kernel_rfl⟩
theorem hh_slices_ContainsFunc_groebner_element_groebner_element : HasH n_slices_ContainsFunc_groebner_element_groebner_element h_slices_ContainsFunc_groebner_element_groebner_element := ⟨_, Tryz.func130, ne_of_beq (by kernel_rfl), by kernel_rfl⟩
theorem hh_groebner_ordering_finish_2 : HasH n_groebner_ordering_finish_2 h_groebner_ordering_finish_2 := ⟨_, Tryz.func131, ne_of_beq (by kernel_rfl), by kernel_rfl⟩
theorem hh_slices_Delete_groebner_element_groebner_element : HasH n_slices_Delete_groebner_element_groebner_element h_slices_Delete_groebner_element_groebner_element := ⟨_, Tryz.func132, ne_of_beq (by kernel_rfl), by kernel_rfl⟩
theorem hh_slices_IndexFunc_groebner_pair_groebner_pair : HasH n_slices_IndexFunc_groebner_pair_groebner_pair h_slices_IndexFunc_groebner_pair_groebner_pair := ⟨_, Tryz.func162, ne_of_beq (by kernel_rfl), by kernel_rfl⟩
theorem hh_groebner_builder_open : HasH n_groebner_builder_open h_groebner_builder_open := ⟨_, Tryz.func163, ne_of_beq (by kernel_rfl), by kernel_rfl⟩
theorem hh_slices_stableCmpFunc_groebner_element : HasH n_slices_stableCmpFunc_groebner_element h_slices_stableCmpFunc_groebner_element := ⟨_, Tryz.func165, ne_of_beq (by kernel_rfl), by kernel_rfl⟩
theorem hh_slices_IndexFunc_groebner_element_groebner_element : HasH n_slices_IndexFunc_groebner_element_groebner_element h_slices_IndexFunc_groebner_element_groebner_element := ⟨_, Tryz.func166, ne_of_beq (by kernel_rfl), by kernel_rfl⟩
theorem hh_slices_ContainsFunc_groebner_pair_groebner_pair : HasH n_slices_ContainsFunc_groebner_pair_groebner_pair h_slices_ContainsFunc_groebner_pair_groebner_pair := ⟨_, Tryz.func182, ne_of_beq (by kernel_rfl), by kernel_rfl⟩
theorem hh_groebner_builder_open_1 : HasH n_groebner_builder_open_1 h_groebner_builder_open_1 := ⟨_, Tryz.func183, ne_of_beq (by kernel_rfl), by kernel_rfl⟩
theorem hh_slices_insertionSortCmpFunc_groebner_element : HasH n_slices_insertionSortCmpFunc_groebner_element h_slices_insertionSortCmpFunc_groebner_element := ⟨_, Tryz.func184, ne_of_beq (by kernel_rfl), by kernel_rfl⟩
theorem HL_all : ∀ x ∈ HL, HasH x.1 x.2 := by
  simp only [HL, List.forall_mem_cons, List.not_mem_nil, false_implies, implies_true, and_true]
  exact ⟨hh_law17_examples, hh_ideal_Meet, hh_ideal_Quotient, hh_ideal_Saturate, hh_ideal_Eliminate, hh_ideal_Power, hh_ideal_Member, hh_ideal_Equal, hh_ideal_meet, hh_ideal_reduced, hh_ideal_eliminate, hh_ideal_inverted, hh_slices_Clone_api_Poly_api_Poly, hh_slices_ContainsFunc_api_Poly_api_Poly, hh_ideal_Saturate_1, hh_groebner_Basis, hh_ideal_basis, hh_slices_DeleteFunc_api_Poly_api_Poly, hh_ideal_eliminate_1, hh_slices_IndexFunc_api_Poly_api_Poly, hh_groebner_builder_add, hh_groebner_builder_complete, hh_groebner_ordering_finish, hh_slices_MinFunc_groebner_pair_groebner_pair, hh_groebner_builder_before, hh_slices_DeleteFunc_groebner_pair_groebner_pair, hh_groebner_builder_complete_1, hh_groebner_builder_needless, hh_slices_Clone_groebner_element_groebner_element, hh_slices_SortStableFunc_groebner_element_groebner_element, hh_groebner_ordering_finish_1, hh_slices_ContainsFunc_groebner_element_groebner_element, hh_groebner_ordering_finish_2, hh_slices_Delete_groebner_element_groebner_element, hh_slices_IndexFunc_groebner_pair_groebner_pair, hh_groebner_builder_open, hh_slices_stableCmpFunc_groebner_element, hh_slices_IndexFunc_groebner_element_groebner_element, hh_slices_ContainsFunc_groebner_pair_groebner_pair, hh_groebner_builder_open_1, hh_slices_insertionSortCmpFunc_groebner_element⟩
theorem hfn_ok : ∀ f fu, hfn f = some fu → HasH f fu := by
  intro f fu h
  simp only [hfn, Option.map_eq_some_iff] at h
  obtain ⟨x, h1, rfl⟩ := h
  have h2 := List.find?_some h1
  simp only [beq_iff_eq] at h2
  subst h2
  exact HL_all x (List.mem_of_find?_eq_some h1)
noncomputable def runH : Sem := evFn (KH fcOf hfn hss hov 1000 40) hov 1000
theorem runH_ok : SemOK Tryz.prog runH := KH_sem hm_prog hfn_ok hov_ok 40 1000
end Go.Ev
