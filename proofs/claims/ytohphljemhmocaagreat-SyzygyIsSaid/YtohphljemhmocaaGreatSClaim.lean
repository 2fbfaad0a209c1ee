/- The statement of SyzygyIs: the law answers true, whatever the input; the input reads as it did. Conditions: none. -/
import Derived.Test.YtohphljemhmocaaGreatSLaw
import Derived.Test.YtohphljemhmocaaGreatPart04
import Derived.Test.YtohphljemhmocaaGreatRows
import Derived.ProofKit
import Derived.Carry
set_option linter.unusedVariables false
set_option linter.unusedSimpArgs false
namespace Go.Proofs.YtohphljemhmocaaGreat
open Go Go.Ev Go.Pm Go.ChangeShapes Go.WideShapes Go.ChangeAt Go.RowKit
set_option maxRecDepth 100000

theorem own : ownKnob Tryz.prog.godebug = none := by kernel_rfl
theorem laidOut : laidOutB Tryz.prog = true := by kernel_rfl

theorem calls_law {w : World} {v0 v1 v2 : Value} {x : List Raw} {q0 q1 q2 : Raw} {o a : Int} (ha : 0 ≤ a ∧ a ≤ 255) (h0 : V w.heap (allS w.heap) N0 (.agg [dRaws x, .i .u8 o]) v0) (h1 : V w.heap (allS w.heap) N0 (.agg [rawSl q0, rawSl q1, rawSl q2]) v1) (h2 : v2 = .int .u8 a) :
    Calls Tryz.prog 3 #[v0, v1, v2] w fun e w' => e = .returned (.bool true) ∧ Below w.heap.size w w' := by
  subst h2
  have h := (law_at q0 q1 q2 a ha o x).2 w (allS w.heap) [v0, v1, .int .u8 a] [] (allS_wf _) (ArgsR_of (by simp [areDeep, isDeep, rawSl, rawSl_deep, rawsCells_deep]) (by simp only [VL]; exact ⟨_, _, rfl, h0, _, _, rfl, h1, _, _, rfl, by simp only [V], rfl⟩)) ⟨by simp, by simp⟩
  refine Calls.mono h fun e w' he => ?_
  obtain ⟨v, S', rfl, dn⟩ := he
  obtain ⟨news, n1, _, _, n4⟩ := dn.res
  rw [adoptR_b] at n1
  have hn : news = [] := by simpa using n1.symm
  subst hn
  have hv := n4 0 0 N0 (fun i p hi => by simp at hi)
  rw [adoptR_b] at hv
  simp only [V] at hv
  subst hv
  exact ⟨rfl, dn.tw.os, dn.tw.tape, dn.tw.output, dn.size, fun k hk => dn.old k hk (by simp)⟩

theorem c22 : Tryz.prog.cellsOf 22 = 1 := by kernel_rfl
theorem c24 : Tryz.prog.cellsOf 24 = 2 := by kernel_rfl
theorem c25 : Tryz.prog.cellsOf 25 = 1 := by kernel_rfl
theorem c27 : Tryz.prog.cellsOf 27 = 1 := by kernel_rfl
theorem c28 : Tryz.prog.cellsOf 28 = 3 := by kernel_rfl
theorem c5 : Tryz.prog.cellsOf 5 = 1 := by kernel_rfl
theorem c38 : Tryz.prog.cellsOf 38 = 1 := by kernel_rfl
theorem c168 : Tryz.prog.cellsOf 168 = 5 := by kernel_rfl

/-- What the arguments read as, as deep values. -/
theorem args_read {H : Type} {enc : TypeId × Value → H} {W : World} {v0 v1 v2 : Value} {d0 d1 d2 : DataW H} {p0 p1 p2 : List MemPlace} (k0 : ∃ cs, v0 = .agg cs) (k1 : ∃ cs, v1 = .agg cs) (k2 : ∃ n, v2 = .int .u8 n)
    (h0 : DataW.Trod enc Tryz.prog W 0 (fun _ => true) true 24 v0 d0 p0) (h1 : DataW.Trod enc Tryz.prog W 0 (fun _ => true) true 28 v1 d1 p1) (h2 : DataW.Trod enc Tryz.prog W 0 (fun _ => true) true 5 v2 d2 p2) :
    ∃ (x : List Raw) (o : Int) (q0 q1 q2 : Raw) (a : Int), (0 ≤ a ∧ a ≤ 255) ∧ V W.heap (allS W.heap) N0 (.agg [dRaws x, .i .u8 o]) v0 ∧ V W.heap (allS W.heap) N0 (.agg [rawSl q0, rawSl q1, rawSl q2]) v1 ∧ v2 = .int .u8 a := by
  obtain ⟨c0, rfl⟩ := k0
  obtain ⟨c1, rfl⟩ := k1
  obtain ⟨n2, rfl⟩ := k2
  obtain ⟨m0, t0⟩ := h0
  obtain ⟨m1, t1⟩ := h1
  obtain ⟨m2, t2⟩ := h2
  simp only [Value.cells] at t0 t1
  obtain ⟨x, o, g0⟩ := read_pair Tryz.underlying24 c24 ⟨rfl, rfl⟩ ⟨rfl, rfl⟩ c22 c5 Tryz.underlying5 Tryz.underlying22 c27 Tryz.underlying27 ⟨_, rfl, rfl, rfl⟩ c25 Tryz.underlying25 Tryz.underlying168 Tryz.underlying38 c168 c38 (fun _ => rfl) t0
  obtain ⟨q0, q1, q2, g1⟩ := read_three Tryz.underlying28 c28 c27 Tryz.underlying27 ⟨_, rfl, rfl, rfl⟩ c25 Tryz.underlying25 Tryz.underlying168 Tryz.underlying38 c168 c38 (fun _ => rfl) t1
  obtain ⟨a, e2, _, wf⟩ := DataW.trod_int Tryz.underlying5 t2
  have e3 : Value.int .u8 n2 = .int .u8 a := by simpa [Value.cells] using e2
  exact ⟨x, o, q0, q1, q2, a, bounds_u8 wf, g0, g1, e3⟩

set_option maxHeartbeats 800000 in
theorem f_lifted (os : Os) (started : os.Started) (H : Type) (enc : TypeId × Value → H) :
    ReturnsInHanded {} Tryz.checked os 3 .any (Rows.syzygyIsSpec.pre6 enc Tryz.prog Tryz.f3 Rows.syzygyIsRow.domain false) (Rows.syzygyIsSpec.post enc Tryz.prog Tryz.f3 false true false false) := by
  refine returnsInHanded_of_change (C := Tryz.checked) own started (by kernel_rfl) Tryz.func3
    (ChangeSpec.witness6 (enc := enc) (C := Tryz.checked) false ⟨#[], #[.agg #[.slice none 0 0, .int .u8 0], .agg #[.slice none 0 0, .slice none 0 0, .slice none 0 0], .int .u8 0], []⟩ 8 (by kernel_rfl) (by kernel_rfl) (by kernel_rfl) (by kernel_rfl)) ?_
  intro W base args ds gs before hval0 hW _ _
  have hW' := hW
  obtain ⟨p, q, hA0, hV, rfl, hfz, _⟩ := hW
  have hA : DataW.TrodAll enc Tryz.prog W 0 (fun _ => true) true Tryz.f3.params.toList args.toList ds p := hA0
  rw [Tryz.params3] at hA
  have hval : ∀ (j : Nat) t v, Tryz.f3.params[j]? = some t → args[j]? = some v → Value.okWide Tryz.prog W .any base t v := hval0
  rw [Tryz.params3] at hval
  obtain ⟨v0, v1, v2, d0, d1, d2, p0, p1, p2, rfl, rfl, rfl, h0, h1, h2⟩ := trodAll_three hA
  obtain ⟨rfl, rfl⟩ := trodVars_none hV
  have k0 : ∃ cs, v0 = .agg cs := by
    obtain ⟨cs, h, _⟩ := okWide_struct Tryz.underlying24 (hval 0 24 v0 rfl rfl)
    exact ⟨cs, h⟩
  have k1 : ∃ cs, v1 = .agg cs := by
    have := hval 1 28 v1 rfl rfl
    unfold Value.okWide at this
    rw [Tryz.underlying28] at this
    obtain ⟨cs, h, _⟩ := this
    exact ⟨cs, h⟩
  obtain ⟨x, o, q0, q1, q2, a, ha, g0, g1, g2⟩ := args_read k0 k1 (okWide_int Tryz.underlying5 (hval 2 5 v2 rfl rfl)) h0 h1 h2
  have hlt : ∀ y ∈ (p0 ++ p1 ++ p2), y.block < W.heap.size := fun y hy => by simpa using hW'.lt y (by simpa using hy)
  refine (calls_law ha g0 g1 g2).mono fun e W' ⟨he, hb⟩ => ?_
  subst he
  have t0 := Below.trod laidOut (by kernel_rfl) (of_decide_eq_true (by kernel_rfl)) h0 hb (fun y hy => hlt y (by simp [hy]))
  have t1 := Below.trod laidOut (by kernel_rfl) (of_decide_eq_true (by kernel_rfl)) h1 hb (fun y hy => hlt y (by simp [hy]))
  have t2 := Below.trod laidOut (by kernel_rfl) (of_decide_eq_true (by kernel_rfl)) h2 hb (fun y hy => hlt y (by simp [hy]))
  exact ⟨_, rfl, _, _, _, [], _, [], hW', trodAll_mk1 (shut_bool (P := Tryz.prog) (by kernel_rfl) true), trodAll_mk3 t0 t1 t2, rfl, hb.frame _, fun h => by cases h⟩

set_option maxHeartbeats 0 in
theorem closed : joinedFacts Tryz.prog 3 Tryz.f3 Rows.syzygyIsSpec Rows.syzygyIsRow = true := by
  unfold joinedFacts
  simp only [Bool.and_eq_true]
  repeat' refine And.intro ?_ ?_
  all_goals (as_aux_lemma => kernel_rfl)

theorem named : Tryz.prog.funcNamed Rows.syzygyIsRow.func = some 3 := by kernel_rfl
theorem inst : Tryz.f3.isInstance Tryz.prog Rows.syzygyIsRow.origin Rows.syzygyIsRow.targs := of_decide_eq_true (by kernel_rfl)
theorem wrap : Tryz.f3.isWrapper Tryz.prog Rows.syzygyIsRow.wrapper Rows.syzygyIsRow.mainSum := by
  unfold Func.isWrapper; first | (rw [if_pos (by decide +kernel)]; kernel_rfl) | (rw [if_neg (by decide +kernel)]; exact ⟨rfl, rfl⟩)

theorem f_holds : Rows.SyzygyIsSaid :=
  OpenClaim.holds_of_wide 3 Tryz.f3 rfl rfl rfl rfl rfl rfl rfl ⟨rfl, rfl, rfl, rfl, rfl⟩ rfl rfl rfl rfl rfl named Tryz.func3 closed inst wrap
    (fun os started H enc _ => f_lifted os started H enc)

end Go.Proofs.YtohphljemhmocaaGreat
