/- The statement of IdealReserved: the law answers true, whatever the input; the input reads as it did. Conditions: none. -/
import Derived.Test.YtnkimagafelicaaGreatSLaw
import Derived.Test.YtnkimagafelicaaGreatPart05
import Derived.Test.YtnkimagafelicaaGreatRows
import Derived.ProofKit
import Derived.Carry
set_option linter.unusedVariables false
set_option linter.unusedSimpArgs false
namespace Go.Proofs.YtnkimagafelicaaGreat
open Go Go.Ev Go.Pm Go.ChangeShapes Go.WideShapes Go.ChangeAt Go.RowKit
set_option maxRecDepth 100000

theorem own : ownKnob Tryz.prog.godebug = none := by kernel_rfl
theorem laidOut : laidOutB Tryz.prog = true := by kernel_rfl

theorem calls_law {w : World} {v0 v1 v2 : Value} {x : List Raw} {q : Raw} {a : Int} (h0 : V w.heap (allS w.heap) N0 (dRaws x) v0) (h1 : V w.heap (allS w.heap) N0 (dRaw q) v1) (h2 : v2 = .int .u8 a) :
    Calls Tryz.prog 3 #[v0, v1, v2] w fun e w' => e = .returned (.bool true) ∧ Below w.heap.size w w' := by
  subst h2
  have h := (law_at x q a).2 w (allS w.heap) [v0, v1, .int .u8 a] [] (allS_wf _) (ArgsR_of (by simp [areDeep, isDeep, dRaws, dRaw, rawSl_deep, rawsCells_deep]) (by simp only [VL]; exact ⟨_, _, rfl, h0, _, _, rfl, h1, _, _, rfl, by simp only [V], rfl⟩)) ⟨by simp, by simp⟩
  refine Calls.mono h fun e w' he => ?_
  obtain ⟨v, S', rfl, dn⟩ := he
  obtain ⟨news, n1, _, _, n4⟩ := dn.res
  rw [adoptR_b] at n1
  have hn : news = [] := by simpa using n1.symm
  subst hn
  have hv := n4 0 0 N0 (fun i p hi => by simp at hi)
  rw [adoptR_b] at hv
  simp only [V] at hv
  subst hv
  exact ⟨rfl, dn.tw.os, dn.tw.tape, dn.tw.output, dn.size, fun k hk => dn.old k hk (by simp)⟩

theorem c22 : Tryz.prog.cellsOf 22 = 1 := by kernel_rfl
theorem c25 : Tryz.prog.cellsOf 25 = 1 := by kernel_rfl
theorem c23 : Tryz.prog.cellsOf 23 = 1 := by kernel_rfl
theorem c5 : Tryz.prog.cellsOf 5 = 1 := by kernel_rfl
theorem c95 : Tryz.prog.cellsOf 95 = 5 := by kernel_rfl
theorem c94 : Tryz.prog.cellsOf 94 = 1 := by kernel_rfl

/-- What the arguments read as, as deep values. -/
theorem args_read {H : Type} {enc : TypeId × Value → H} {W : World} {v0 v1 v2 : Value} {d0 d1 d2 : DataW H} {p0 p1 p2 : List MemPlace} (k0 : ∃ a l c, v0 = .slice a l c) (k1 : ∃ cs, v1 = .agg cs ∧ cs.size = Tryz.prog.cellsOf 25) (k2 : ∃ n, v2 = .int .u8 n)
    (h0 : DataW.Trod enc Tryz.prog W 0 (fun _ => true) true 22 v0 d0 p0) (h1 : DataW.Trod enc Tryz.prog W 0 (fun _ => true) true 25 v1 d1 p1) (h2 : DataW.Trod enc Tryz.prog W 0 (fun _ => true) true 5 v2 d2 p2) :
    ∃ (x : List Raw) (q : Raw) (a : Int), V W.heap (allS W.heap) N0 (dRaws x) v0 ∧ V W.heap (allS W.heap) N0 (dRaw q) v1 ∧ v2 = .int .u8 a := by
  obtain ⟨a0, l0, z0, rfl⟩ := k0
  obtain ⟨c1, rfl, hsz⟩ := k1
  obtain ⟨n2, rfl⟩ := k2
  obtain ⟨m0, t0⟩ := h0
  obtain ⟨m1, t1⟩ := h1
  obtain ⟨m2, t2⟩ := h2
  simp only [Value.cells] at t0 t1
  obtain ⟨x, g0⟩ := read_raws Tryz.underlying22 c25 Tryz.underlying25 ⟨_, rfl, rfl, rfl⟩ c23 Tryz.underlying23 Tryz.underlying95 Tryz.underlying94 c95 c94 (fun _ => rfl) t0
  obtain ⟨q, g1⟩ := read_one c25 Tryz.underlying25 ⟨_, rfl, rfl, rfl⟩ c23 Tryz.underlying23 Tryz.underlying95 Tryz.underlying94 c95 c94 (fun _ => rfl) hsz t1
  exact ⟨x, q, n2, g0, g1, rfl⟩

set_option maxHeartbeats 800000 in
theorem f_lifted (os : Os) (started : os.Started) (H : Type) (enc : TypeId × Value → H) :
    ReturnsInHanded {} Tryz.checked os 3 .any (Rows.idealReservedSpec.pre6 enc Tryz.prog Tryz.f3 Rows.idealReservedRow.domain false) (Rows.idealReservedSpec.post enc Tryz.prog Tryz.f3 false true false false) := by
  refine returnsInHanded_of_change (C := Tryz.checked) own started (by kernel_rfl) Tryz.func3
    (ChangeSpec.witness6 (enc := enc) (C := Tryz.checked) false ⟨#[], #[.slice none 0 0, .agg #[.slice none 0 0], .int .u8 0], []⟩ 8 (by kernel_rfl) (by kernel_rfl) (by kernel_rfl) (by kernel_rfl)) ?_
  intro W base args ds gs before hval0 hW _ _
  have hW' := hW
  obtain ⟨p, q, hA0, hV, rfl, hfz, _⟩ := hW
  have hA : DataW.TrodAll enc Tryz.prog W 0 (fun _ => true) true Tryz.f3.params.toList args.toList ds p := hA0
  rw [Tryz.params3] at hA
  have hval : ∀ (j : Nat) t v, Tryz.f3.params[j]? = some t → args[j]? = some v → Value.okWide Tryz.prog W .any base t v := hval0
  rw [Tryz.params3] at hval
  obtain ⟨v0, v1, v2, d0, d1, d2, p0, p1, p2, rfl, rfl, rfl, h0, h1, h2⟩ := trodAll_three hA
  obtain ⟨rfl, rfl⟩ := trodVars_none hV
  obtain ⟨x, q, a, g0, g1, g2⟩ := args_read (okWide_slice Tryz.underlying22 (hval 0 22 v0 rfl rfl)) (okWide_struct Tryz.underlying25 (hval 1 25 v1 rfl rfl)) (okWide_int Tryz.underlying5 (hval 2 5 v2 rfl rfl)) h0 h1 h2
  have hlt : ∀ y ∈ (p0 ++ p1 ++ p2), y.block < W.heap.size := fun y hy => by simpa using hW'.lt y (by simpa using hy)
  refine (calls_law g0 g1 g2).mono fun e W' ⟨he, hb⟩ => ?_
  subst he
  have t0 := Below.trod laidOut (by kernel_rfl) (of_decide_eq_true (by kernel_rfl)) h0 hb (fun y hy => hlt y (by simp [hy]))
  have t1 := Below.trod laidOut (by kernel_rfl) (of_decide_eq_true (by kernel_rfl)) h1 hb (fun y hy => hlt y (by simp [hy]))
  have t2 := Below.trod laidOut (by kernel_rfl) (of_decide_eq_true (by kernel_rfl)) h2 hb (fun y hy => hlt y (by simp [hy]))
  exact ⟨_, rfl, _, _, _, [], _, [], hW', trodAll_mk1 (shut_bool (P := Tryz.prog) (by kernel_rfl) true), trodAll_mk3 t0 t1 t2, rfl, hb.frame _, fun h => by cases h⟩

set_option maxHeartbeats 0 in
theorem closed : joinedFacts Tryz.prog 3 Tryz.f3 Rows.idealReservedSpec Rows.idealReservedRow = true := by
  unfold joinedFacts
  simp only [Bool.and_eq_true]
  repeat' refine And.intro ?_ ?_
  all_goals (as_aux_lemma => kernel_rfl)

theorem named : Tryz.prog.funcNamed Rows.idealReservedRow.func = some 3 := by kernel_rfl
theorem inst : Tryz.f3.isInstance Tryz.prog Rows.idealReservedRow.origin Rows.idealReservedRow.targs := of_decide_eq_true (by kernel_rfl)
theorem wrap : Tryz.f3.isWrapper Tryz.prog Rows.idealReservedRow.wrapper Rows.idealReservedRow.mainSum := by
  unfold Func.isWrapper; first | (rw [if_pos (by decide +kernel)]; kernel_rfl) | (rw [if_neg (by decide +kernel)]; exact ⟨rfl, rfl⟩)

theorem f_holds : Rows.IdealReservedSaid :=
  OpenClaim.holds_of_wide 3 Tryz.f3 rfl rfl rfl rfl rfl rfl rfl ⟨rfl, rfl, rfl, rfl, rfl⟩ rfl rfl rfl rfl rfl named Tryz.func3 closed inst wrap
    (fun os started H enc _ => f_lifted os started H enc)

end Go.Proofs.YtnkimagafelicaaGreat
