/- The calls of examples, and its answer. Printed by a program of mine. -/
import Derived.Test.YtnkimagafelicaaGreatSHsh
set_option linter.unusedVariables false
set_option linter.unusedSimpArgs false
namespace Go.Ev
open Go Go.Pm Go.Proofs
set_option maxRecDepth 100000
def top_a0 : List DV := [.sl 1 [.sl 1 (tm false 1 1 0 0)], .sl 1 [.sl 1 (tm false 1 0 1 0)]]
def top_r0 : DV := .tup [.sl 1 [.sl 1 (tm false 1 1 1 0)], .i .i64 0]
def top_a1 : List DV := [.sl 1 [.sl 1 (tm false 1 1 1 0)], .sl 1 (tm false 1 1 0 0)]
def top_r1 : DV := .tup [.sl 1 [.sl 1 (tm false 1 0 1 0)], .i .i64 0]
def top_a2 : List DV := [.sl 1 [.sl 1 (tm false 1 2 1 0)], .sl 1 (tm false 1 1 0 0)]
def top_r2 : DV := .tup [.sl 1 [.sl 1 (tm false 1 0 1 0)], .i .i64 2, .i .i64 0]
def top_a3 : List DV := [.sl 1 [.sl 1 (tm false 1 1 0 0)], .sl 0 []]
def top_r3 : DV := .tup [.sl 1 [.sl 1 (tm false 1 0 0 0)], .i .i64 1, .i .i64 0]
def top_e0 : DV := .sl 2 (tm false 1 1 0 0 ++ (tm false 1 0 1 0))
def top_a4 : List DV := [.sl 2 [.sl 2 (tm false 1 1 0 0 ++ (tm true 1 0 2 0)), top_e0], .i .u8 1]
def top_r4 : DV := .tup [.sl 1 [.sl 2 (tm false 1 0 2 0 ++ (tm false 1 0 1 0))], .i .i64 0]
def top_e1 : DV := .sl 2 [.sl 1 (tm false 1 3 0 0), .sl 1 (tm false 1 0 1 0)]
def top_a5 : List DV := [.sl 1 (tm false 1 1 0 0), top_e1]
def top_r5 : DV := .tup [.i .i64 3, .i .i64 0]
def top_a6 : List DV := [.sl 2 (tm false 1 1 0 0 ++ (tm false 1 0 0 0)), top_e1]
def top_r6 : DV := .tup [.i .i64 0, .i .i64 0]
def top_a7 : List DV := [.sl 2 (tm false 1 2 0 0 ++ (tm false 1 0 2 0)), .sl 2 [top_e0, .sl 1 (tm false 1 1 1 0)]]
def top_r7 : DV := .tup [.sl 2 [top_e0, .sl 1 (tm true 2 0 0 0)], .b true]
def top_a8 : List DV := [.sl 1 (tm false 1 1 0 0), .sl 2 [top_e0, .sl 1 (tm false 1 1 1 0)]]
def top_r8 : DV := .tup [.sl 0 [], .b false]
def top_a9 : List DV := [.sl 2 [.sl 1 (tm false 1 1 0 0), .sl 1 (tm false 1 0 1 0)], .sl 2 [top_e0, .sl 1 (tm false 1 0 1 0)]]
def top_r9 : DV := .b true
theorem top0 : FnAt Tryz.prog 9 top_a0 top_r0 [] := (runH_ok 9).at (by kernel_rfl)
theorem top1 : FnAt Tryz.prog 10 top_a1 top_r1 [] := (runH_ok 10).at (by kernel_rfl)
theorem top2 : FnAt Tryz.prog 11 top_a2 top_r2 [] := (runH_ok 11).at (by kernel_rfl)
theorem top3 : FnAt Tryz.prog 11 top_a3 top_r3 [] := (runH_ok 11).at (by kernel_rfl)
theorem top4 : FnAt Tryz.prog 12 top_a4 top_r4 [] := (runH_ok 12).at (by kernel_rfl)
theorem top5 : FnAt Tryz.prog 13 top_a5 top_r5 [] := (runH_ok 13).at (by kernel_rfl)
theorem top6 : FnAt Tryz.prog 13 top_a6 top_r6 [] := (runH_ok 13).at (by kernel_rfl)
theorem top7 : FnAt Tryz.prog 15 top_a7 top_r7 [] := (runH_ok 15).at (by kernel_rfl)
theorem top8 : FnAt Tryz.prog 15 top_a8 top_r8 [] := (runH_ok 15).at (by kernel_rfl)
theorem top9 : FnAt Tryz.prog 19 top_a9 top_r9 [] := (runH_ok 19).at (by kernel_rfl)
def qt9 : Ans := [(top_a0, top_r0)]
theorem qt9_ok : AnsOK Tryz.prog 9 qt9 := by
  simp only [AnsOK, qt9, List.forall_mem_cons, List.not_mem_nil, false_implies, implies_true, and_true]
  exact top0
def qt10 : Ans := [(top_a1, top_r1)]
theorem qt10_ok : AnsOK Tryz.prog 10 qt10 := by
  simp only [AnsOK, qt10, List.forall_mem_cons, List.not_mem_nil, false_implies, implies_true, and_true]
  exact top1
def qt11 : Ans := [(top_a2, top_r2), (top_a3, top_r3)]
theorem qt11_ok : AnsOK Tryz.prog 11 qt11 := by
  simp only [AnsOK, qt11, List.forall_mem_cons, List.not_mem_nil, false_implies, implies_true, and_true]
  exact ⟨top2, top3⟩
def qt12 : Ans := [(top_a4, top_r4)]
theorem qt12_ok : AnsOK Tryz.prog 12 qt12 := by
  simp only [AnsOK, qt12, List.forall_mem_cons, List.not_mem_nil, false_implies, implies_true, and_true]
  exact top4
def qt13 : Ans := [(top_a5, top_r5), (top_a6, top_r6)]
theorem qt13_ok : AnsOK Tryz.prog 13 qt13 := by
  simp only [AnsOK, qt13, List.forall_mem_cons, List.not_mem_nil, false_implies, implies_true, and_true]
  exact ⟨top5, top6⟩
def qt15 : Ans := [(top_a7, top_r7), (top_a8, top_r8)]
theorem qt15_ok : AnsOK Tryz.prog 15 qt15 := by
  simp only [AnsOK, qt15, List.forall_mem_cons, List.not_mem_nil, false_implies, implies_true, and_true]
  exact ⟨top7, top8⟩
def qt19 : Ans := [(top_a9, top_r9)]
theorem qt19_ok : AnsOK Tryz.prog 19 qt19 := by
  simp only [AnsOK, qt19, List.forall_mem_cons, List.not_mem_nil, false_implies, implies_true, and_true]
  exact top9
def topT : List (Nat × Ans) := [(9, qt9), (10, qt10), (11, qt11), (12, qt12), (13, qt13), (15, qt15), (19, qt19)]
theorem topT_ok : ∀ t ∈ topT, AnsOK Tryz.prog t.1 t.2 := by
  simp only [topT, List.forall_mem_cons, List.not_mem_nil, false_implies, implies_true, and_true]
  exact ⟨qt9_ok, qt10_ok, qt11_ok, qt12_ok, qt13_ok, qt15_ok, qt19_ok⟩
end Go.Ev
