/- Parts of the proof of the statement: FRes, FRes2, FRes3, FRes4, FRead. -/
import Derived.Test.YtnkimagafelicaaGreatPart02
import Derived.Test.YtnkimagafelicaaGreatPart03
import Derived.Deep.Slices
import Derived.OpenShut
set_option linter.unusedVariables false
set_option linter.unusedSimpArgs false
/- Which variables occur; the lists in which the reserved one occurs. -/
namespace Go.Ev
open Go.Pm

def suppL : Nat → List Int → BitVec 8 → BitVec 8
  | _, [], v => v
  | i, e :: r, v => suppL (i + 1) r (if 0 < e then v ||| (1#8 <<< i) else v)
def supp (m : Mono) : BitVec 8 := suppL 0 m.l 0#8
def dB (v : BitVec 8) : DV := .i .u8 (v.toNat : Int)

theorem or8 (v w : BitVec 8) : IntKind.u8.wrap ((v.toNat % 2 ^ IntKind.u8.bits ||| w.toNat % 2 ^ IntKind.u8.bits : Nat) : Int) = ((v.toNat ||| w.toNat : Nat) : Int) := by
  have h := (v ||| w).isLt
  have hv := v.isLt
  have hw := w.isLt
  rw [BitVec.toNat_or] at h
  have e1 : v.toNat % 2 ^ IntKind.u8.bits = v.toNat := Nat.mod_eq_of_lt hv
  have e2 : w.toNat % 2 ^ IntKind.u8.bits = w.toNat := Nat.mod_eq_of_lt hw
  rw [e1, e2]
  simp [IntKind.wrap, IntKind.bits, IntKind.signed] at h ⊢
  omega

theorem shl8 {i : Nat} (h : i < 8) : IntKind.u8.wrap (2 ^ min i IntKind.u8.bits) = ((1#8 <<< i).toNat : Int) := by
  match i, h with
  | 0, _ => decide
  | 1, _ => decide
  | 2, _ => decide
  | 3, _ => decide
  | 4, _ => decide
  | 5, _ => decide
  | 6, _ => decide
  | 7, _ => decide

def ISupp (m : Mono) (n : Nat) (s : St) : Prop := ∃ i v, n = 8 - i ∧ i ≤ 8 ∧ suppL i (m.l.drop i) v = supp m ∧ gt s 7 = some (.i .i64 (i : Nat)) ∧ gt s 6 = some (dMono m) ∧ gt s 3 = some (dB v) ∧ s.z = []

set_option maxHeartbeats 2000000 in
theorem monomial_Support_rets (cs : Sem) (m : Mono) : Rets KK cs false c_monomial_Support [dMono m] (dB (supp m)) [] := by
  refine Rets.of rfl ?_
  unfold c_monomial_Support
  simp
  apply W_loop (ISupp m) 8
  · exact ⟨0, 0#8, by simp [supp, dB]⟩
  rintro n s ⟨i, v, hn, hi, hv, h7, h6, h3, hz⟩
  by_cases hi' : i < 8
  · obtain ⟨x, xs, hx, hx1, px⟩ := mono_drop m hi'
    have c0 : (i : Int) < 8 := by omega
    have w1 : IntKind.i64.wrap ((i : Int) + 1) = (i : Int) + 1 := wrap_i64 (by omega) (by omega)
    rw [hx] at hv
    unfold suppL at hv
    by_cases c : 0 < x
    · rw [if_pos c] at hv
      have k2 := shl8 hi'
      generalize (1#8 <<< i) = w at hv k2
      have k1 := or8 v w
      have c1 : ¬ (i : Int) < 0 := by omega
      simp [l_monomial_Support_0, h7, h6, h3, dB, c0, c1, px, c, w1, dMono, k1, k2]
      exact ⟨8 - (i + 1), by omega, i + 1, _, rfl, by omega, by rw [hx1]; exact hv, by simp [h6, hz, dMono, dB]⟩
    · rw [if_neg c] at hv
      simp [l_monomial_Support_0, h7, h6, h3, dB, c0, px, c, w1, dMono]
      exact ⟨8 - (i + 1), by omega, i + 1, _, rfl, by omega, by rw [hx1]; exact hv, by simp [h6, h3, hz, dMono, dB]⟩
  · have e : i = 8 := by omega
    subst e
    have : v = supp m := by rw [← hv]; simp [Mono.l, suppL]
    simp [l_monomial_Support_0, h7, h3, this, dB]

/-! ### Uses -/
def usesL : Poly → BitVec 8 → BitVec 8
  | [], v => v
  | t :: p, v => usesL p (v ||| supp t.m)
def uses (p : Poly) : BitVec 8 := usesL p 0#8

def IUses (p : Poly) (n : Nat) (s : St) : Prop :=
  ∃ i v dead, n = p.length - i ∧ i ≤ p.length ∧ usesL (p.drop i) v = uses p ∧ gt s 6 = some (dPoly p) ∧ gt s 7 = some (.i .i64 (p.length : Nat)) ∧ gt s 8 = some (.i .i64 (i : Nat)) ∧ gt s 3 = some (dB v) ∧ lst s 5 = dead ∧ s.z = []

set_option maxHeartbeats 2000000 in
theorem polynomial_Uses_rets (cs : Sem) (p : Poly) (hlen : p.length ≤ 1000000) (hs : ∀ m, cs n_monomial_Support [dMono m] = some (dB (supp m), [])) : Rets KK cs false c_polynomial_Uses [dPoly p] (dB (uses p)) [] := by
  refine Rets.of rfl ?_
  unfold c_polynomial_Uses
  simp
  apply W_loop (IUses p) p.length
  · exact ⟨0, 0#8, [], by simp [uses, dB]⟩
  rintro n s ⟨i, v, dead, hn, hi, hv, h6, h7, h8, h3, h5, hz⟩
  have w1 : IntKind.i64.wrap ((i : Int) + 1) = (i : Int) + 1 := wrap_i64 (by omega) (by omega)
  by_cases hi' : i < p.length
  · obtain ⟨t, p', hp, hp1⟩ := drop_cons hi'
    have k1 := or8 v (supp t.m)
    have hs := hs t.m
    rw [hp] at hv
    simp [l_polynomial_Uses_0, h6, h7, h8, h3, h5, hz, hi', hp, hs, dB, k1, w1]
    exact ⟨p.length - (i + 1), by omega, i + 1, v ||| supp t.m, ⟨2, 0, tcells t⟩ :: dead, rfl, by omega, by rw [hp1]; exact hv, by simp [h6, h7, hz, dB]⟩
  · have e : i = p.length := by omega
    subst e
    have : v = uses p := by rw [← hv]; simp [usesL]
    simp [l_polynomial_Uses_0, h7, h8, h3, this, dB]

/-! ### Lists where the reserved variable occurs -/
def has7 (p : Poly) : Bool := (uses p).getLsbD 7

theorem bit7 : ∀ v : BitVec 8, (IntKind.u8.wrap ((((v.toNat : Int).fdiv (2 ^ min 7 IntKind.u8.bits)) % 2 ^ IntKind.u8.bits).toNat &&& 1 % 2 ^ IntKind.u8.bits : Nat) == 1) = v[7] := by decide +kernel

set_option maxHeartbeats 2000000 in
theorem ideal_reserved_1_rets (cs : Sem) (p : Poly) (hu : cs n_polynomial_Uses [dPoly p] = some (dB (uses p), [])) : Rets KK cs false c_ideal_reserved_1 [dPoly p] (.b (has7 p)) [] := by
  refine Rets.of rfl ?_
  unfold c_ideal_reserved_1
  simp [hu, dB, has7]
  exact bit7 _

/-- The first place of a list. -/
def first7 (l : List Poly) : Int := match l.findIdx? has7 with | some i => i | none => -1

def IIdx (l : List Poly) (n : Nat) (s : St) : Prop :=
  ∃ i, n = l.length - i ∧ i ≤ l.length ∧ (∀ p ∈ l.take i, has7 p = false) ∧ gt s 0 = some (dPolys l) ∧ gt s 1 = some (.fn n_ideal_reserved_1 []) ∧ gt s 7 = some (.i .i64 (l.length : Nat)) ∧ gt s 8 = some (.i .i64 (i : Nat)) ∧ s.z = []

theorem first7_at {l : List Poly} {i : Nat} {p : Poly} {r : List Poly} (h : l.drop i = p :: r) (hp : has7 p = true) (hi : ∀ p ∈ l.take i, has7 p = false) : first7 l = i := by
  have hl : i < l.length := by
    have := congrArg List.length h
    rw [List.length_drop, List.length_cons] at this; omega
  have e : l[i] = p := by
    have := List.getElem?_drop (xs := l) (i := i) (j := 0)
    rw [h] at this
    simpa [hl] using this.symm
  have : l.findIdx? has7 = some i := by
    rw [List.findIdx?_eq_some_iff_getElem]
    refine ⟨hl, by rw [e]; exact hp, fun j hj => ?_⟩
    have := hi (l[j]'(by omega)) (List.mem_take_iff_getElem.2 ⟨j, by omega, rfl⟩)
    simp [this]
  unfold first7
  rw [this]
theorem first7_none {l : List Poly} (h : ∀ p ∈ l, has7 p = false) : first7 l = -1 := by
  have : l.findIdx? has7 = none := by
    rw [List.findIdx?_eq_none_iff]; exact h
  unfold first7
  rw [this]

set_option maxHeartbeats 2000000 in
theorem IndexFunc_rets (cs : Sem) (l : List Poly) (hlen : l.length ≤ 1000000) (hu : ∀ p ∈ l, cs n_ideal_reserved_1 [dPoly p] = some (.b (has7 p), [])) : Rets KK cs false c_slices_IndexFunc_api_Poly_api_Poly [dPolys l, .fn n_ideal_reserved_1 []] (.i .i64 (first7 l)) [] := by
  refine Rets.of rfl ?_
  unfold c_slices_IndexFunc_api_Poly_api_Poly
  simp
  apply W_loop (IIdx l) l.length
  · exact ⟨0, by simp⟩
  rintro n s ⟨i, hn, hi, hv, h0, h1, h7, h8, hz⟩
  have w1 : IntKind.i64.wrap ((i : Int) + 1) = (i : Int) + 1 := wrap_i64 (by omega) (by omega)
  by_cases hi' : i < l.length
  · obtain ⟨p, r, hp, hp1⟩ := drop_cons hi'
    have hu := hu p (List.mem_of_mem_drop (by rw [hp]; exact List.mem_cons_self ..))
    have px : part ((l.map dPoly).drop i) 0 1 false = some (dPoly p) := by rw [← List.map_drop, hp]; rfl
    cases hb : has7 p
    · rw [hb] at hu
      simp [l_slices_IndexFunc_api_Poly_api_Poly_0, h0, h1, h7, h8, hz, hi', hp, hu, px, w1]
      refine ⟨l.length - (i + 1), by omega, i + 1, rfl, by omega, ?_, by simp [h0, h1, h7, hz]⟩
      have htk : l.take (i + 1) = l.take i ++ [p] := by rw [List.take_add, hp]; rfl
      rw [htk]
      intro q hq
      rcases List.mem_append.1 hq with hq | hq
      · exact hv q hq
      · rw [List.mem_singleton.1 hq]; exact hb
    · rw [hb] at hu
      have hf := first7_at hp hb hv
      simp [l_slices_IndexFunc_api_Poly_api_Poly_0, h0, h1, h7, h8, hz, hi', hp, hu, px, w1, hf]
  · have e : i = l.length := by omega
    subst e
    have hf : first7 l = -1 := first7_none (by rw [List.take_length] at hv; exact hv)
    simp [l_slices_IndexFunc_api_Poly_api_Poly_0, h7, h8, hf]

set_option maxHeartbeats 2000000 in
theorem ContainsFunc_rets (cs : Sem) (l : List Poly) (hu : cs n_slices_IndexFunc_api_Poly_api_Poly [dPolys l, .fn n_ideal_reserved_1 []] = some (.i .i64 (first7 l), [])) : Rets KK cs false c_slices_ContainsFunc_api_Poly_api_Poly [dPolys l, .fn n_ideal_reserved_1 []] (.b (decide (0 ≤ first7 l))) [] := by
  refine Rets.of rfl ?_
  unfold c_slices_ContainsFunc_api_Poly_api_Poly
  simp [hu]

set_option maxHeartbeats 2000000 in
theorem reserved_rets (cs : Sem) (l : List Poly) (hu : cs n_slices_ContainsFunc_api_Poly_api_Poly [dPolys l, .fn n_ideal_reserved_1 []] = some (.b (decide (0 ≤ first7 l)), [])) : Rets KK cs false c_ideal_reserved [dPolys l] (.b (decide (0 ≤ first7 l))) [] := by
  refine Rets.of rfl ?_
  unfold c_ideal_reserved
  simp [hu]

/-- The reserved variable occurs in a list. -/
def any7 (l : List Poly) : Bool := decide (0 ≤ first7 l)
theorem any7_eq (l : List Poly) : any7 l = l.any has7 := by
  unfold any7 first7
  cases h : l.findIdx? has7 with
  | none =>
    rw [List.findIdx?_eq_none_iff] at h
    simp
    exact h
  | some i =>
    rw [List.findIdx?_eq_some_iff_getElem] at h
    obtain ⟨h1, h2, _⟩ := h
    simp
    exact ⟨_, List.getElem_mem h1, h2⟩

/-! ### The operations with errors, at lists where it occurs -/
section
variable {cs : Sem}
set_option maxHeartbeats 2000000 in
theorem Meet_rets {a b : List Poly} (ha : cs n_ideal_reserved [dPolys a] = some (.b (any7 a), [])) (hb : cs n_ideal_reserved [dPolys b] = some (.b (any7 b), [])) (h : any7 a = true ∨ any7 b = true) :
    Rets KK cs false c_ideal_Meet [dPolys a, dPolys b] (.tup [.sl 0 [], .i .i64 1]) [] := by
  refine Rets.of rfl ?_
  unfold c_ideal_Meet
  cases c : any7 a
  · rw [c] at ha h
    have h : any7 b = true := by simpa using h
    rw [h] at hb
    simp [ha, hb]
  · rw [c] at ha
    simp [ha]
set_option maxHeartbeats 2000000 in
theorem Quotient_rets {a : List Poly} {p : Poly} (ha : cs n_ideal_reserved [dPolys a] = some (.b (any7 a), [])) (hb : cs n_ideal_reserved [dPolys [p]] = some (.b (any7 [p]), [])) (h : any7 a = true ∨ any7 [p] = true) :
    Rets KK cs false c_ideal_Quotient [dPolys a, dPoly p] (.tup [.sl 0 [], .i .i64 1]) [] := by
  refine Rets.of rfl ?_
  unfold c_ideal_Quotient
  cases c : any7 a
  · rw [c] at ha h
    have h : any7 [p] = true := by simpa using h
    rw [h] at hb
    simp [dPolys] at hb
    simp [ha, hb]
  · rw [c] at ha
    simp [ha]
set_option maxHeartbeats 2000000 in
theorem Saturate_rets {a : List Poly} {p : Poly} (ha : cs n_ideal_reserved [dPolys a] = some (.b (any7 a), [])) (hb : cs n_ideal_reserved [dPolys [p]] = some (.b (any7 [p]), [])) (h : any7 a = true ∨ any7 [p] = true) :
    Rets KK cs false c_ideal_Saturate [dPolys a, dPoly p] (.tup [.sl 0 [], .i .i64 0, .i .i64 1]) [] := by
  refine Rets.of rfl ?_
  unfold c_ideal_Saturate
  cases c : any7 a
  · rw [c] at ha h
    have h : any7 [p] = true := by simpa using h
    rw [h] at hb
    simp [dPolys] at hb
    simp [ha, hb]
  · rw [c] at ha
    simp [ha]
set_option maxHeartbeats 2000000 in
theorem Eliminate_rets {a : List Poly} {m : Int} (ha : cs n_ideal_reserved [dPolys a] = some (.b (any7 a), [])) (h : any7 a = true) :
    Rets KK cs false c_ideal_Eliminate [dPolys a, .i .u8 m] (.tup [.sl 0 [], .i .i64 1]) [] := by
  refine Rets.of rfl ?_
  unfold c_ideal_Eliminate
  rw [h] at ha
  simp [ha]
set_option maxHeartbeats 2000000 in
theorem Power_rets {a : List Poly} {p : Poly} (ha : cs n_ideal_reserved [dPolys a] = some (.b (any7 a), [])) (hb : cs n_ideal_reserved [dPolys [p]] = some (.b (any7 [p]), [])) (h : any7 a = true ∨ any7 [p] = true) :
    Rets KK cs false c_ideal_Power [dPoly p, dPolys a] (.tup [.i .i64 0, .i .i64 1]) [] := by
  refine Rets.of rfl ?_
  unfold c_ideal_Power
  cases c : any7 a
  · rw [c] at ha h
    have h : any7 [p] = true := by simpa using h
    rw [h] at hb
    simp [dPolys] at hb
    simp [ha, hb]
  · rw [c] at ha
    simp [ha]
end
end Go.Ev

/- The law IdealReserved, said of the answers of its callees. -/
namespace Go.Ev
open Go.Pm

set_option maxHeartbeats 1000000 in
theorem law17_list_rets {cs : Sem} (x : List Raw) {l : List Poly} (h : cs n_ref06_List [dRaws x, .i .i64 2, .i .i64 2, .i .i64 3, .i .i64 2] = some (dPolys l, [])) : Rets KK cs false c_law17_list [dRaws x] (dPolys l) [] := by
  refine Rets.of rfl ?_
  unfold c_law17_list
  simp [h, rawSl_deep]
set_option maxHeartbeats 1000000 in
theorem law17_small_rets {cs : Sem} (x : Raw) {p : Poly} (h : cs n_ref06_Made [dRaw x, .i .i64 2, .i .i64 1, .i .i64 3] = some (dPoly p, [])) : Rets KK cs false c_law17_small [dRaw x] (dPoly p) [] := by
  refine Rets.of rfl ?_
  unfold c_law17_small
  simp [h, rawsCells_deep]

def eArg : DV := .tup [.sl 0 [], .i .i64 1]
def eArg3 : DV := .tup [.sl 0 [], .i .i64 0, .i .i64 1]
def eArgN : DV := .tup [.i .i64 0, .i .i64 1]

set_option maxRecDepth 10000 in
set_option maxHeartbeats 16000000 in
theorem law17_run0 {cs : Sem} (x : List Raw) (y : Raw) (at_ : Int) {p7 p s t : Poly} {odd : List Poly}
    (hs : cs n_law17_examples [] = some (.b true, [])) (hl : cs n_law17_list [dRaws x] = some (dPolys [], [])) (hp : cs n_law17_small [dRaw y] = some (dPoly p, []))
    (hv : cs n_ref06_Var [.i .i64 7] = some (.tup [dPoly p7, .i .i64 0], [])) (ha : cs n_ref06_Add [dPoly p7, dPoly p] = some (dPoly s, [])) (hb : cs n_ref06_Add [dPoly p, dPoly p7] = some (dPoly t, []))
    (ho : (at_.tmod 2 = 1 ∧ odd = [s]) ∨ (at_.tmod 2 ≠ 1 ∧ odd = [s]))
    (m1 : cs n_ideal_Meet [dPolys odd, dPolys []] = some (eArg, [])) (m2 : cs n_ideal_Meet [dPolys [], dPolys odd] = some (eArg, []))
    (q1 : cs n_ideal_Quotient [dPolys odd, dPoly p] = some (eArg, [])) (q2 : cs n_ideal_Quotient [dPolys [], dPoly t] = some (eArg, []))
    (s1 : cs n_ideal_Saturate [dPolys [], dPoly t] = some (eArg3, [])) (s2 : cs n_ideal_Saturate [dPolys odd, dPoly p] = some (eArg3, []))
    (e1 : cs n_ideal_Eliminate [dPolys odd, .i .u8 at_] = some (eArg, []))
    (w1 : cs n_ideal_Power [dPoly t, dPolys []] = some (eArgN, [])) (w2 : cs n_ideal_Power [dPoly p, dPolys odd] = some (eArgN, [])) :
    Rets KK cs false c_law17_IdealReserved [dRaws x, dRaw y, .i .u8 at_] (.b true) [] := by
  have w0 : IntKind.i64.wrap 0 = 0 := by decide
  refine Rets.of rfl ?_
  unfold c_law17_IdealReserved
  rcases ho with ⟨hm, ho⟩ | ⟨hm, ho⟩ <;> subst ho <;> simp [dPolys, eArg, eArg3, eArgN] at hl m1 m2 q1 q2 s1 s2 e1 w1 w2 <;>
    simp [hs, hl, hp, hv, ha, hb, hm, m1, m2, q1, q2, s1, s2, e1, w1, w2, w0, rawSl_deep, rawsCells_deep, part, nth, setAt, fillL]
set_option maxRecDepth 10000 in
set_option maxHeartbeats 16000000 in
theorem law17_run1 {cs : Sem} (x : List Raw) (y : Raw) (at_ : Int) {a p7 p s t : Poly} {odd : List Poly}
    (hs : cs n_law17_examples [] = some (.b true, [])) (hl : cs n_law17_list [dRaws x] = some (dPolys [a], [])) (hp : cs n_law17_small [dRaw y] = some (dPoly p, []))
    (hv : cs n_ref06_Var [.i .i64 7] = some (.tup [dPoly p7, .i .i64 0], [])) (ha : cs n_ref06_Add [dPoly p7, dPoly p] = some (dPoly s, [])) (hb : cs n_ref06_Add [dPoly p, dPoly p7] = some (dPoly t, []))
    (ho : (at_.tmod 2 = 1 ∧ odd = [s, a]) ∨ (at_.tmod 2 ≠ 1 ∧ odd = [a, s]))
    (m1 : cs n_ideal_Meet [dPolys odd, dPolys [a]] = some (eArg, [])) (m2 : cs n_ideal_Meet [dPolys [a], dPolys odd] = some (eArg, []))
    (q1 : cs n_ideal_Quotient [dPolys odd, dPoly p] = some (eArg, [])) (q2 : cs n_ideal_Quotient [dPolys [a], dPoly t] = some (eArg, []))
    (s1 : cs n_ideal_Saturate [dPolys [a], dPoly t] = some (eArg3, [])) (s2 : cs n_ideal_Saturate [dPolys odd, dPoly p] = some (eArg3, []))
    (e1 : cs n_ideal_Eliminate [dPolys odd, .i .u8 at_] = some (eArg, []))
    (w1 : cs n_ideal_Power [dPoly t, dPolys [a]] = some (eArgN, [])) (w2 : cs n_ideal_Power [dPoly p, dPolys odd] = some (eArgN, [])) :
    Rets KK cs false c_law17_IdealReserved [dRaws x, dRaw y, .i .u8 at_] (.b true) [] := by
  have w0 : IntKind.i64.wrap 0 = 0 := by decide
  refine Rets.of rfl ?_
  unfold c_law17_IdealReserved
  rcases ho with ⟨hm, ho⟩ | ⟨hm, ho⟩ <;> subst ho <;> simp [dPolys, eArg, eArg3, eArgN] at hl m1 m2 q1 q2 s1 s2 e1 w1 w2 <;>
    simp [hs, hl, hp, hv, ha, hb, hm, m1, m2, q1, q2, s1, s2, e1, w1, w2, w0, rawSl_deep, rawsCells_deep, part, nth, setAt, fillL]
set_option maxRecDepth 10000 in
set_option maxHeartbeats 16000000 in
theorem law17_run2 {cs : Sem} (x : List Raw) (y : Raw) (at_ : Int) {a b p7 p s t : Poly} {odd : List Poly}
    (hs : cs n_law17_examples [] = some (.b true, [])) (hl : cs n_law17_list [dRaws x] = some (dPolys [a, b], [])) (hp : cs n_law17_small [dRaw y] = some (dPoly p, []))
    (hv : cs n_ref06_Var [.i .i64 7] = some (.tup [dPoly p7, .i .i64 0], [])) (ha : cs n_ref06_Add [dPoly p7, dPoly p] = some (dPoly s, [])) (hb : cs n_ref06_Add [dPoly p, dPoly p7] = some (dPoly t, []))
    (ho : (at_.tmod 2 = 1 ∧ odd = [s, a, b]) ∨ (at_.tmod 2 ≠ 1 ∧ odd = [a, b, s]))
    (m1 : cs n_ideal_Meet [dPolys odd, dPolys [a, b]] = some (eArg, [])) (m2 : cs n_ideal_Meet [dPolys [a, b], dPolys odd] = some (eArg, []))
    (q1 : cs n_ideal_Quotient [dPolys odd, dPoly p] = some (eArg, [])) (q2 : cs n_ideal_Quotient [dPolys [a, b], dPoly t] = some (eArg, []))
    (s1 : cs n_ideal_Saturate [dPolys [a, b], dPoly t] = some (eArg3, [])) (s2 : cs n_ideal_Saturate [dPolys odd, dPoly p] = some (eArg3, []))
    (e1 : cs n_ideal_Eliminate [dPolys odd, .i .u8 at_] = some (eArg, []))
    (w1 : cs n_ideal_Power [dPoly t, dPolys [a, b]] = some (eArgN, [])) (w2 : cs n_ideal_Power [dPoly p, dPolys odd] = some (eArgN, [])) :
    Rets KK cs false c_law17_IdealReserved [dRaws x, dRaw y, .i .u8 at_] (.b true) [] := by
  have w0 : IntKind.i64.wrap 0 = 0 := by decide
  refine Rets.of rfl ?_
  unfold c_law17_IdealReserved
  rcases ho with ⟨hm, ho⟩ | ⟨hm, ho⟩ <;> subst ho <;> simp [dPolys, eArg, eArg3, eArgN] at hl m1 m2 q1 q2 s1 s2 e1 w1 w2 <;>
    simp [hs, hl, hp, hv, ha, hb, hm, m1, m2, q1, q2, s1, s2, e1, w1, w2, w0, rawSl_deep, rawsCells_deep, part, nth, setAt, fillL]
end Go.Ev

/- Contracts for the law IdealReserved. -/
namespace Go.Ev
open Go.Pm

theorem inj_p1 : ∀ a b : Poly, [dPoly a] = [dPoly b] → a = b := fun a b h => dPoly_inj (by simpa using h)
theorem inj_l : ∀ a b : List Poly, [dPolys a] = [dPolys b] → a = b := fun a b h => dPolys_inj (by simpa using h)
theorem inj_lf (f : Nat) : ∀ a b : List Poly, [dPolys a, DV.fn f []] = [dPolys b, DV.fn f []] → a = b := fun a b h => dPolys_inj (by simpa using h)
theorem inj_lp : ∀ a b : List Poly × Poly, [dPolys a.1, dPoly a.2] = [dPolys b.1, dPoly b.2] → a = b := by
  intro a b h
  simp only [List.cons.injEq, and_true] at h
  exact Prod.ext (dPolys_inj h.1) (dPoly_inj h.2)
theorem inj_pl : ∀ a b : Poly × List Poly, [dPoly a.1, dPolys a.2] = [dPoly b.1, dPolys b.2] → a = b := by
  intro a b h
  simp only [List.cons.injEq, and_true] at h
  exact Prod.ext (dPoly_inj h.1) (dPolys_inj h.2)
theorem inj_li : ∀ a b : List Poly × Int, [dPolys a.1, DV.i .u8 a.2] = [dPolys b.1, DV.i .u8 b.2] → a = b := by
  intro a b h
  simp only [List.cons.injEq, DV.i.injEq, and_true, true_and] at h
  exact Prod.ext (dPolys_inj h.1) h.2
theorem inj_raw1 : ∀ a b : Raw, [dRaw a] = [dRaw b] → a = b := fun a b h => dRaw_inj (by simpa using h)
theorem inj_raws : ∀ a b : List Raw, [dRaws a] = [dRaws b] → a = b := fun a b h => dRaws_inj (by simpa using h)

def Short (p : Poly) : Prop := p.length ≤ 1000000
def ShortL (l : List Poly) : Prop := l.length ≤ 1000000 ∧ ∀ p ∈ l, Short p

section
variable {P : Program}
noncomputable def g_supp : G := spec (fun m : Mono => [dMono m]) (fun _ => True) (fun m => (dB (supp m), []))
theorem e_supp (m : Mono) : g_supp [dMono m] = some (dB (supp m), []) := spec_eq inj_m trivial
theorem ok_supp (hm : P.follows .mixedOrders = true) (hh : Has P n_monomial_Support c_monomial_Support) : FnOK P n_monomial_Support g_supp := ok_of hm (l := []) (by simp) hh rfl fun m _ => monomial_Support_rets _ m

noncomputable def g_uses : G := spec (fun p : Poly => [dPoly p]) Short (fun p => (dB (uses p), []))
theorem e_uses (p : Poly) (h : Short p) : g_uses [dPoly p] = some (dB (uses p), []) := spec_eq inj_p1 h
theorem ok_uses (hm : P.follows .mixedOrders = true) (hh : Has P n_polynomial_Uses c_polynomial_Uses) (h1 : FnOK P n_monomial_Support g_supp) : FnOK P n_polynomial_Uses g_uses :=
  ok_of hm (l := [(n_monomial_Support, g_supp)]) (by simpa using h1) hh rfl fun p h => polynomial_Uses_rets _ p h e_supp

noncomputable def g_res1 : G := spec (fun p : Poly => [dPoly p]) Short (fun p => (.b (has7 p), []))
theorem e_res1 (p : Poly) (h : Short p) : g_res1 [dPoly p] = some (.b (has7 p), []) := spec_eq inj_p1 h
theorem ok_res1 (hm : P.follows .mixedOrders = true) (hh : Has P n_ideal_reserved_1 c_ideal_reserved_1) (h1 : FnOK P n_polynomial_Uses g_uses) : FnOK P n_ideal_reserved_1 g_res1 :=
  ok_of hm (l := [(n_polynomial_Uses, g_uses)]) (by simpa using h1) hh rfl fun p h => ideal_reserved_1_rets _ p (e_uses p h)

noncomputable def g_idx : G := spec (fun l : List Poly => [dPolys l, .fn n_ideal_reserved_1 []]) ShortL (fun l => (.i .i64 (first7 l), []))
theorem e_idx (l : List Poly) (h : ShortL l) : g_idx [dPolys l, .fn n_ideal_reserved_1 []] = some (.i .i64 (first7 l), []) := spec_eq (inj_lf _) h
theorem ok_idx (hm : P.follows .mixedOrders = true) (hh : Has P n_slices_IndexFunc_api_Poly_api_Poly c_slices_IndexFunc_api_Poly_api_Poly) (h1 : FnOK P n_ideal_reserved_1 g_res1) : FnOK P n_slices_IndexFunc_api_Poly_api_Poly g_idx :=
  ok_of hm (l := [(n_ideal_reserved_1, g_res1)]) (by simpa using h1) hh rfl fun l h => IndexFunc_rets _ l h.1 fun p hp => e_res1 p (h.2 p hp)

noncomputable def g_con : G := spec (fun l : List Poly => [dPolys l, .fn n_ideal_reserved_1 []]) ShortL (fun l => (.b (any7 l), []))
theorem e_con (l : List Poly) (h : ShortL l) : g_con [dPolys l, .fn n_ideal_reserved_1 []] = some (.b (any7 l), []) := spec_eq (inj_lf _) h
theorem ok_con (hm : P.follows .mixedOrders = true) (hh : Has P n_slices_ContainsFunc_api_Poly_api_Poly c_slices_ContainsFunc_api_Poly_api_Poly) (h1 : FnOK P n_slices_IndexFunc_api_Poly_api_Poly g_idx) : FnOK P n_slices_ContainsFunc_api_Poly_api_Poly g_con :=
  ok_of hm (l := [(n_slices_IndexFunc_api_Poly_api_Poly, g_idx)]) (by simpa using h1) hh rfl fun l h => ContainsFunc_rets _ l (e_idx l h)

noncomputable def g_res : G := spec (fun l : List Poly => [dPolys l]) ShortL (fun l => (.b (any7 l), []))
theorem e_res (l : List Poly) (h : ShortL l) : g_res [dPolys l] = some (.b (any7 l), []) := spec_eq inj_l h
theorem ok_res (hm : P.follows .mixedOrders = true) (hh : Has P n_ideal_reserved c_ideal_reserved) (h1 : FnOK P n_slices_ContainsFunc_api_Poly_api_Poly g_con) : FnOK P n_ideal_reserved g_res :=
  ok_of hm (l := [(n_slices_ContainsFunc_api_Poly_api_Poly, g_con)]) (by simpa using h1) hh rfl fun l h => reserved_rets _ l (e_con l h)

theorem short1 {p : Poly} (h : Short p) : ShortL [p] := ⟨by simp, by simpa using h⟩
def CLL (a b : List Poly) : Prop := ShortL a ∧ ShortL b ∧ (any7 a = true ∨ any7 b = true)
def CLP (a : List Poly) (p : Poly) : Prop := ShortL a ∧ Short p ∧ (any7 a = true ∨ any7 [p] = true)

noncomputable def g_meet : G := spec (fun a : List Poly × List Poly => [dPolys a.1, dPolys a.2]) (fun a => CLL a.1 a.2) (fun _ => (eArg, []))
theorem e_meet (a b : List Poly) (h : CLL a b) : g_meet [dPolys a, dPolys b] = some (eArg, []) := spec_eq (a := (a, b)) inj_ll h
theorem ok_meet (hm : P.follows .mixedOrders = true) (hh : Has P n_ideal_Meet c_ideal_Meet) (h1 : FnOK P n_ideal_reserved g_res) : FnOK P n_ideal_Meet g_meet :=
  ok_of hm (l := [(n_ideal_reserved, g_res)]) (by simpa using h1) hh rfl fun a h => Meet_rets (e_res a.1 h.1) (e_res a.2 h.2.1) h.2.2
noncomputable def g_quot : G := spec (fun a : List Poly × Poly => [dPolys a.1, dPoly a.2]) (fun a => CLP a.1 a.2) (fun _ => (eArg, []))
theorem e_quot (a : List Poly) (p : Poly) (h : CLP a p) : g_quot [dPolys a, dPoly p] = some (eArg, []) := spec_eq (a := (a, p)) inj_lp h
theorem ok_quot (hm : P.follows .mixedOrders = true) (hh : Has P n_ideal_Quotient c_ideal_Quotient) (h1 : FnOK P n_ideal_reserved g_res) : FnOK P n_ideal_Quotient g_quot :=
  ok_of hm (l := [(n_ideal_reserved, g_res)]) (by simpa using h1) hh rfl fun a h => Quotient_rets (e_res a.1 h.1) (e_res [a.2] (short1 h.2.1)) h.2.2
noncomputable def g_sat : G := spec (fun a : List Poly × Poly => [dPolys a.1, dPoly a.2]) (fun a => CLP a.1 a.2) (fun _ => (eArg3, []))
theorem e_sat (a : List Poly) (p : Poly) (h : CLP a p) : g_sat [dPolys a, dPoly p] = some (eArg3, []) := spec_eq (a := (a, p)) inj_lp h
theorem ok_sat (hm : P.follows .mixedOrders = true) (hh : Has P n_ideal_Saturate c_ideal_Saturate) (h1 : FnOK P n_ideal_reserved g_res) : FnOK P n_ideal_Saturate g_sat :=
  ok_of hm (l := [(n_ideal_reserved, g_res)]) (by simpa using h1) hh rfl fun a h => Saturate_rets (e_res a.1 h.1) (e_res [a.2] (short1 h.2.1)) h.2.2
noncomputable def g_elim : G := spec (fun a : List Poly × Int => [dPolys a.1, .i .u8 a.2]) (fun a => ShortL a.1 ∧ any7 a.1 = true) (fun _ => (eArg, []))
theorem e_elim (a : List Poly) (m : Int) (h : ShortL a ∧ any7 a = true) : g_elim [dPolys a, .i .u8 m] = some (eArg, []) := spec_eq (a := (a, m)) inj_li h
theorem ok_elim (hm : P.follows .mixedOrders = true) (hh : Has P n_ideal_Eliminate c_ideal_Eliminate) (h1 : FnOK P n_ideal_reserved g_res) : FnOK P n_ideal_Eliminate g_elim :=
  ok_of hm (l := [(n_ideal_reserved, g_res)]) (by simpa using h1) hh rfl fun a h => Eliminate_rets (e_res a.1 h.1) h.2
noncomputable def g_pow : G := spec (fun a : Poly × List Poly => [dPoly a.1, dPolys a.2]) (fun a => CLP a.2 a.1) (fun _ => (eArgN, []))
theorem e_pow (p : Poly) (a : List Poly) (h : CLP a p) : g_pow [dPoly p, dPolys a] = some (eArgN, []) := spec_eq (a := (p, a)) inj_pl h
theorem ok_pow (hm : P.follows .mixedOrders = true) (hh : Has P n_ideal_Power c_ideal_Power) (h1 : FnOK P n_ideal_reserved g_res) : FnOK P n_ideal_Power g_pow :=
  ok_of hm (l := [(n_ideal_reserved, g_res)]) (by simpa using h1) hh rfl fun a h => Power_rets (e_res a.2 h.1) (e_res [a.1] (short1 h.2.1)) h.2.2

def lawL (x : List Raw) : List Poly := (x.take 2).map fun x => made 2 2 [] (x.take 3)
def lawS (y : Raw) : Poly := made 2 1 [] (y.take 3)
noncomputable def g_l17list : G := spec (fun x : List Raw => [dRaws x]) (fun _ => True) (fun x => (dPolys (lawL x), []))
theorem e_l17list (x : List Raw) : g_l17list [dRaws x] = some (dPolys (lawL x), []) := spec_eq inj_raws trivial
theorem ok_l17list (hm : P.follows .mixedOrders = true) (hh : Has P n_law17_list c_law17_list) (h1 : FnOK P n_ref06_List g_list) : FnOK P n_law17_list g_l17list :=
  ok_of hm (l := [(n_ref06_List, g_list)]) (by simpa using h1) hh rfl fun x _ => law17_list_rets x (e_list x 2 2 3 2 (by omega))
noncomputable def g_l17small : G := spec (fun y : Raw => [dRaw y]) (fun _ => True) (fun y => (dPoly (lawS y), []))
theorem e_l17small (y : Raw) : g_l17small [dRaw y] = some (dPoly (lawS y), []) := spec_eq inj_raw1 trivial
theorem ok_l17small (hm : P.follows .mixedOrders = true) (hh : Has P n_law17_small c_law17_small) (h1 : FnOK P n_ref06_Made g_made) : FnOK P n_law17_small g_l17small :=
  ok_of hm (l := [(n_ref06_Made, g_made)]) (by simpa using h1) hh rfl fun y _ => law17_small_rets y (e_made y 2 1 3 (by omega))
end

/-! ### The reserved variable -/
def m7 : Mono := ⟨0, 0, 0, 0, 0, 0, 0, 1⟩
def p7 : Poly := [⟨1, m7⟩]
def d7 : DV := .sl 1 [.b false, .sl 1 [.i .u32 1], .b false, .sl 1 [.i .u32 1], .i .i64 0, .i .i64 0, .i .i64 0, .i .i64 0, .i .i64 0, .i .i64 0, .i .i64 0, .i .i64 1]
theorem d7_eq : dPoly p7 = d7 := by
  have h1 : wd 1 = [1] := wd_small (by omega) (by omega)
  have e1 : dNat 1 = .sl 1 [.i .u32 1] := by simp [dNat, h1]
  simp [dPoly, p7, pcells, tcells, rcells, d7, mcells, Mono.l, m7, e1]
def g_var7 : G := fun ds => match ds with | [.i .i64 7] => some (.tup [dPoly p7, .i .i64 0], []) | _ => none

theorem supp_step {i : Nat} (hi : i < 7) (e : Int) (v : BitVec 8) : (if 0 < e then v ||| (1#8 <<< i) else v)[7] = v[7] := by
  have h : (1#8 <<< i)[7] = false := by
    match i, hi with
    | 0, _ => decide
    | 1, _ => decide
    | 2, _ => decide
    | 3, _ => decide
    | 4, _ => decide
    | 5, _ => decide
    | 6, _ => decide
  split
  · rw [BitVec.getElem_or, h, Bool.or_false]
  · rfl
theorem supp_last (e : Int) (v : BitVec 8) : (if 0 < e then v ||| (1#8 <<< 7) else v)[7] = (v[7] || decide (0 < e)) := by
  have h : (1#8 <<< 7)[7] = true := by decide
  split
  · rename_i c
    rw [BitVec.getElem_or, h]
    simp [c]
  · rename_i c
    simp [c]
theorem supp7 (m : Mono) : (supp m)[7] = decide (0 < m.e7) := by
  simp only [supp, Mono.l, suppL]
  rw [supp_last, supp_step (by omega), supp_step (by omega), supp_step (by omega), supp_step (by omega), supp_step (by omega), supp_step (by omega), supp_step (by omega)]
  simp

theorem usesL7 : ∀ (p : Poly) (v : BitVec 8), (usesL p v)[7] = (v[7] || p.any fun t => decide (0 < t.m.e7))
  | [], v => by simp [usesL]
  | t :: p, v => by simp [usesL, usesL7 p, supp7, Bool.or_assoc]
theorem has7_eq (p : Poly) : has7 p = p.any fun t => decide (0 < t.m.e7) := by
  have := usesL7 p 0#8
  simpa [has7, uses] using this

theorem coef_none {k : Mono} : ∀ {p : Poly}, (∀ t ∈ p, t.m ≠ k) → coef p k = 0
  | [], _ => rfl
  | t :: p, h => by
    simp only [coef, if_neg (h t (List.mem_cons_self ..)), coef_none (p := p) fun u hu => h u (List.mem_cons_of_mem _ hu)]
    grind
theorem coef_some {k : Mono} {p : Poly} (h : coef p k ≠ 0) : ∃ t ∈ p, t.m = k := by
  refine Classical.byContradiction fun c => h (coef_none fun t ht e => c ⟨t, ht, e⟩)

def No7 (p : Poly) : Prop := ∀ t ∈ p, t.m.e7 = 0
theorem No7.padd {p q : Poly} (hp : No7 p) (hq : No7 q) : No7 (padd p q) := by
  intro t ht
  rcases mem_padd ht with ⟨u, hu, e⟩ | ⟨u, hu, e⟩
  · rw [← e]; exact hp u hu
  · rw [← e]; exact hq u hu
theorem No7.madeT (deg : Int) (t : RawT) : No7 (madeT 2 deg t) := by
  have h : (rawMono 2 deg t.es).e7 = 0 := by
    have := t.hl
    match h : t.es, this with
    | [a, b, c, d], _ => simp [rawMono, rawExps, ofL]
  intro u hu
  unfold Go.Ev.madeT pscale ptimes0 at hu
  split at hu
  · cases hu
  · simp only [ptimes, List.map_cons, List.map_nil, List.mem_singleton] at hu
    subst hu
    simp [Mono.add, Mono.zero, h]
theorem No7.made (deg : Int) : ∀ (x : Raw) {out : Poly}, No7 out → No7 (made 2 deg out x)
  | [], _, h => h
  | t :: x, out, h => No7.made deg x (h.padd (No7.madeT deg t))

theorem has7_l {p : Poly} (h : No7 p) : has7 (padd p7 p) = true := by
  have c : coef (padd p7 p) m7 ≠ 0 := by
    rw [coef_padd, coef_none (p := p) (fun t ht e => by have := h t ht; rw [e] at this; simp [m7] at this)]
    simp [p7, coef]
    grind
  obtain ⟨t, ht, e⟩ := coef_some c
  rw [has7_eq, List.any_eq_true]
  exact ⟨t, ht, by rw [e]; decide⟩
theorem has7_r {p : Poly} (h : No7 p) : has7 (padd p p7) = true := by
  have c : coef (padd p p7) m7 ≠ 0 := by
    rw [coef_padd, coef_none (p := p) (fun t ht e => by have := h t ht; rw [e] at this; simp [m7] at this)]
    simp [p7, coef]
    grind
  obtain ⟨t, ht, e⟩ := coef_some c
  rw [has7_eq, List.any_eq_true]
  exact ⟨t, ht, by rw [e]; decide⟩
end Go.Ev

/- The law IdealReserved answers true, from the contracts. -/
namespace Go.Ev
open Go.Pm

theorem sm7 : SmP 16000 p7 := by
  intro t ht
  simp only [p7, List.mem_singleton] at ht
  subst ht
  constructor
  · rfl
  · decide

theorem lawL_cases (x : List Raw) : lawL x = [] ∨ (∃ a, lawL x = [a]) ∨ ∃ a b, lawL x = [a, b] := by
  match x with
  | [] => exact Or.inl rfl
  | [a] => exact Or.inr (Or.inl ⟨_, rfl⟩)
  | a :: b :: r => exact Or.inr (Or.inr ⟨_, _, rfl⟩)
theorem lawL_short (x : List Raw) : ∀ p ∈ lawL x, p.length ≤ 3 := by
  intro p hp
  simp only [lawL, List.mem_map] at hp
  obtain ⟨r, _, rfl⟩ := hp
  exact (made_pb 2 (by omega) 2 (by omega) 3 r).len

noncomputable def semR : List (Nat × G) := [(n_law17_examples, g_true), (n_law17_list, g_l17list), (n_law17_small, g_l17small), (n_ref06_Var, g_var7), (n_ref06_Add, g_ref06_Add), (n_ideal_Meet, g_meet), (n_ideal_Quotient, g_quot), (n_ideal_Saturate, g_sat), (n_ideal_Eliminate, g_elim), (n_ideal_Power, g_pow)]

theorem any7_mem {l : List Poly} {p : Poly} (h : p ∈ l) (hp : has7 p = true) : any7 l = true := by
  rw [any7_eq, List.any_eq_true]; exact ⟨p, h, hp⟩

theorem law17_rets (x : List Raw) (y : Raw) (at_ : Int) : Rets KK (sem semR) false c_law17_IdealReserved [dRaws x, dRaw y, .i .u8 at_] (.b true) [] := by
  have gp := made_pb 2 (by omega) 1 (by omega) 3 y
  have n7 : No7 (lawS y) := No7.made 1 (y.take 3) (by intro t ht; cases ht)
  have lp : (lawS y).length ≤ 3 := gp.len
  have sp : SmP 16000 (lawS y) := gp.sz.sm (by omega)
  have hs : sem semR n_law17_examples [] = some (.b true, []) := rfl
  have hl : sem semR n_law17_list [dRaws x] = some (dPolys (lawL x), []) := e_l17list x
  have hp : sem semR n_law17_small [dRaw y] = some (dPoly (lawS y), []) := e_l17small y
  have hv : sem semR n_ref06_Var [.i .i64 7] = some (.tup [dPoly p7, .i .i64 0], []) := rfl
  have ha : sem semR n_ref06_Add [dPoly p7, dPoly (lawS y)] = some (dPoly (padd p7 (lawS y)), []) := e_ref06_Add _ _ (by have : p7.length = 1 := rfl; omega) sm7 sp
  have hb : sem semR n_ref06_Add [dPoly (lawS y), dPoly p7] = some (dPoly (padd (lawS y) p7), []) := e_ref06_Add _ _ (by have : p7.length = 1 := rfl; omega) sp sm7
  have h1 := has7_l n7
  have h2 := has7_r n7
  have l1 : Short (padd p7 (lawS y)) := by have := padd_length p7 (lawS y); have : p7.length = 1 := rfl; unfold Short; omega
  have l2 : Short (padd (lawS y) p7) := by have := padd_length (lawS y) p7; have : p7.length = 1 := rfl; unfold Short; omega
  have l3 : Short (lawS y) := by unfold Short; omega
  have lx := lawL_short x
  generalize padd p7 (lawS y) = s at *
  generalize padd (lawS y) p7 = t at *
  generalize lawS y = p at *
  have at1 : any7 [t] = true := any7_mem (List.mem_singleton.2 rfl) h2
  have key : ∀ odd : List Poly, s ∈ odd → odd.length ≤ 3 → (∀ q ∈ odd, Short q) → ∀ l : List Poly, l.length ≤ 3 → (∀ q ∈ l, Short q) →
      sem semR n_ideal_Meet [dPolys odd, dPolys l] = some (eArg, []) ∧ sem semR n_ideal_Meet [dPolys l, dPolys odd] = some (eArg, []) ∧
      sem semR n_ideal_Quotient [dPolys odd, dPoly p] = some (eArg, []) ∧ sem semR n_ideal_Quotient [dPolys l, dPoly t] = some (eArg, []) ∧
      sem semR n_ideal_Saturate [dPolys l, dPoly t] = some (eArg3, []) ∧ sem semR n_ideal_Saturate [dPolys odd, dPoly p] = some (eArg3, []) ∧
      sem semR n_ideal_Eliminate [dPolys odd, .i .u8 at_] = some (eArg, []) ∧
      sem semR n_ideal_Power [dPoly t, dPolys l] = some (eArgN, []) ∧ sem semR n_ideal_Power [dPoly p, dPolys odd] = some (eArgN, []) := by
    intro odd hm ho1 ho2 l hl1 hl2
    have ao : any7 odd = true := any7_mem hm h1
    have so : ShortL odd := ⟨by omega, ho2⟩
    have sl : ShortL l := ⟨by omega, hl2⟩
    exact ⟨e_meet _ _ ⟨so, sl, Or.inl ao⟩, e_meet _ _ ⟨sl, so, Or.inr ao⟩, e_quot _ _ ⟨so, l3, Or.inl ao⟩, e_quot _ _ ⟨sl, l2, Or.inr at1⟩, e_sat _ _ ⟨sl, l2, Or.inr at1⟩, e_sat _ _ ⟨so, l3, Or.inl ao⟩, e_elim _ _ ⟨so, ao⟩, e_pow _ _ ⟨sl, l2, Or.inr at1⟩, e_pow _ _ ⟨so, l3, Or.inl ao⟩⟩
  rcases lawL_cases x with hx | ⟨a, hx⟩ | ⟨a, b, hx⟩
  · rw [hx] at hl lx
    obtain ⟨m1, m2, q1, q2, s1, s2, e1, w1, w2⟩ := key [s] (by simp) (by simp) (by simpa using l1) [] (by simp) (by simp)
    refine law17_run0 x y at_ hs hl hp hv ha hb (odd := [s]) ?_ m1 m2 q1 q2 s1 s2 e1 w1 w2
    by_cases c : at_.tmod 2 = 1
    · exact Or.inl ⟨c, rfl⟩
    · exact Or.inr ⟨c, rfl⟩
  · rw [hx] at hl lx
    have la : Short a := by have := lx a (by simp); unfold Short; omega
    by_cases c : at_.tmod 2 = 1
    · obtain ⟨m1, m2, q1, q2, s1, s2, e1, w1, w2⟩ := key [s, a] (by simp) (by simp) (by simp [l1, la]) [a] (by simp) (by simp [la])
      exact law17_run1 x y at_ hs hl hp hv ha hb (Or.inl ⟨c, rfl⟩) m1 m2 q1 q2 s1 s2 e1 w1 w2
    · obtain ⟨m1, m2, q1, q2, s1, s2, e1, w1, w2⟩ := key [a, s] (by simp) (by simp) (by simp [l1, la]) [a] (by simp) (by simp [la])
      exact law17_run1 x y at_ hs hl hp hv ha hb (Or.inr ⟨c, rfl⟩) m1 m2 q1 q2 s1 s2 e1 w1 w2
  · rw [hx] at hl lx
    have la : Short a := by have := lx a (by simp); unfold Short; omega
    have lb : Short b := by have := lx b (by simp); unfold Short; omega
    by_cases c : at_.tmod 2 = 1
    · obtain ⟨m1, m2, q1, q2, s1, s2, e1, w1, w2⟩ := key [s, a, b] (by simp) (by simp) (by simp [l1, la, lb]) [a, b] (by simp) (by simp [la, lb])
      exact law17_run2 x y at_ hs hl hp hv ha hb (Or.inl ⟨c, rfl⟩) m1 m2 q1 q2 s1 s2 e1 w1 w2
    · obtain ⟨m1, m2, q1, q2, s1, s2, e1, w1, w2⟩ := key [a, b, s] (by simp) (by simp) (by simp [l1, la, lb]) [a, b] (by simp) (by simp [la, lb])
      exact law17_run2 x y at_ hs hl hp hv ha hb (Or.inr ⟨c, rfl⟩) m1 m2 q1 q2 s1 s2 e1 w1 w2
end Go.Ev

/- What the arguments of the laws read as, said as deep values. -/
namespace Go.Ev
open Go.Pm Go.Deep

/-- All cells of a memory are published. -/
def allS (hp : Hp) : Pub := ⟨fun b o => ∃ v, cellAt hp b o = some v, fun _ => False, fun _ => 1, fun _ => by simp [Pl.top]⟩

theorem allS_wf (hp : Hp) : WF (allS hp) hp := ⟨fun _ _ h => h, fun _ h => h.elim⟩

section
variable {H : Type} {enc : TypeId × Value → H} {P : Program} {w : World} {spare : Nat → Bool} {held : Bool}

theorem cellAt_of {a : Addr} {v : Value} (h : w.cell? a = some v) : a.spot = none ∧ cellAt w.heap a.block a.off = some v := by
  have hs := World.cell?_spot h
  exact ⟨hs, by rw [← cell?_eq w a hs]; exact h⟩

theorem raws_get : ∀ (q : Raw) (i : Nat), (rawsCells q)[i]? = (q[i / 5]?).bind fun r => (rawCells r)[i % 5]?
  | [], i => by simp [rawsCells]
  | r :: q, i => by
    have e0 : rawsCells (r :: q) = rawCells r ++ rawsCells q := rfl
    have e5 := rawCells_length r
    rw [e0, List.getElem?_append]
    split
    · rename_i h
      have h1 : i / 5 = 0 := by omega
      have h2 : i % 5 = i := by omega
      rw [h1, h2]; simp
    · rename_i h
      rw [raws_get q, e5]
      have h1 : i / 5 = (i - 5) / 5 + 1 := by omega
      have h2 : i % 5 = (i - 5) % 5 := by omega
      rw [h1, h2]; simp

instance : Inhabited RawT := ⟨⟨0, [0, 0, 0, 0], rfl, by omega, by simp⟩⟩

/-- A row of small numbers. -/
theorem read_raw {t5 t e : TypeId} (h5 : P.underlying t5 = some (.slice t)) (ht : P.underlying t = some (.array 5 e)) (he : P.underlying e = some (.int .i8)) (hc : P.cellsOf t = 5) (hce : P.cellsOf e = 1) {fuel : Nat} {v : Value} {x : DataW H × List MemPlace}
    (hsp : ∀ b, spare b = true) (h : DataW.trod enc P w 0 spare held fuel t5 [v] = some x) : ∃ q : Raw, V w.heap (allS w.heap) N0 (rawSl q) v := by
  rcases open_slice h5 h with ⟨h1, _⟩ | ⟨a, len, cap, m, n, D, Pl, h1, _, hl, _, hm, _, hx⟩
  · simp at h1
    subst h1
    refine ⟨[], ?_⟩
    simp only [rawSl, V]
    exact ⟨none, 0, rfl, Nat.le_refl _, rfl, ⟨fun _ => rfl, fun _ => rfl⟩, fun ad e => by cases e⟩
  · simp at h1
    subst h1
    rw [hsp, if_pos rfl] at hm
    subst hm
    -- one term
    have one : ∀ i, i < m → ∃ r : RawT, ∀ j, j < 5 → ∃ d, (rawCells r)[j]? = some d ∧ ∃ u, w.cell? (a.add (i * 5 + j)) = some u ∧ V w.heap (allS w.heap) N0 d u := by
      intro i hi
      obtain ⟨cs', hc1, hc2⟩ := hx i hi
      rw [hc] at hc1
      obtain ⟨_, hlen, hget⟩ := World.cells?_some hc1
      obtain ⟨xs, k, _, _, _, hxl, hxs⟩ := DataW.trod_array ht hc2
      have num : ∀ j, j < 5 → ∃ z : Int, cs'[j]? = some (.int .i8 z) ∧ -128 ≤ z ∧ z ≤ 127 := by
        intro j hj
        have := hxs j hj
        rw [hce, Nat.mul_one, List.getElem?_eq_getElem (by omega)] at this
        obtain ⟨z, hz1, _, hz3⟩ := DataW.trod_int he this
        have h0 := congrArg (fun l : List Value => l[0]?) hz1
        simp only [List.getElem?_take_of_lt (show 0 < 1 by omega), List.getElem?_drop, Nat.add_zero, List.getElem?_cons_zero] at h0
        exact ⟨z, h0, bounds_i8 hz3⟩
      obtain ⟨z0, k0, b0⟩ := num 0 (by omega)
      obtain ⟨z1, k1, b1⟩ := num 1 (by omega)
      obtain ⟨z2, k2, b2⟩ := num 2 (by omega)
      obtain ⟨z3, k3, b3⟩ := num 3 (by omega)
      obtain ⟨z4, k4, b4⟩ := num 4 (by omega)
      refine ⟨⟨z0, [z1, z2, z3, z4], rfl, b0, by simp; omega⟩, fun j hj => ?_⟩
      have cell : ∀ (j : Nat) (z : Int), j < 5 → cs'[j]? = some (.int .i8 z) → ∃ u, w.cell? (a.add (i * 5 + j)) = some u ∧ V w.heap (allS w.heap) N0 (.i .i8 z) u := by
        intro j z hj hz
        refine ⟨.int .i8 z, ?_, by simp only [V]⟩
        rw [← add_add, hget j hj]; exact hz
      match j, hj with
      | 0, _ => exact ⟨_, rfl, cell 0 z0 (by omega) k0⟩
      | 1, _ => exact ⟨_, rfl, cell 1 z1 (by omega) k1⟩
      | 2, _ => exact ⟨_, rfl, cell 2 z2 (by omega) k2⟩
      | 3, _ => exact ⟨_, rfl, cell 3 z3 (by omega) k3⟩
      | 4, _ => exact ⟨_, rfl, cell 4 z4 (by omega) k4⟩
    obtain ⟨R, hR⟩ := choose_lt one
    refine ⟨(List.range len).map R, ?_⟩
    simp only [rawSl, V]
    refine ⟨some a, m, by simp, by simpa using hl, rawsCells_deep _, ⟨by simp, fun h0 => ?_⟩, fun ad e hm0 => ?_⟩
    · have : len = 0 := by omega
      subst this; rfl
    · cases e
      have hsa : a.spot = none := by
        obtain ⟨d, _, u, hu, _⟩ := hR 0 (by omega) 0 (by omega)
        have := (cellAt_of hu).1
        simpa [Addr.add] using this
      refine ⟨hsa, VC.mk fun i d hd => ?_⟩
      rw [raws_get] at hd
      cases hq : ((List.range len).map R)[i / 5]? with
      | none => rw [hq] at hd; cases hd
      | some r =>
        rw [hq] at hd
        simp only [Option.bind_some] at hd
        have hlt : i / 5 < len := by
          rcases Nat.lt_or_ge (i / 5) len with g | g
          · exact g
          · rw [List.getElem?_eq_none (by simpa using g)] at hq; cases hq
        simp [hlt] at hq
        subst hq
        obtain ⟨d', k1, u, k2, k3⟩ := hR (i / 5) (by omega) (i % 5) (by omega)
        rw [hd] at k1; cases k1
        have k4 := (cellAt_of k2).2
        rw [show i / 5 * 5 + i % 5 = i by omega, add_block, add_off] at k4
        exact ⟨⟨u, k4⟩, u, k4, k3⟩

/-- A struct that holds one such row. -/
theorem read_rawT {t27 t5 t e : TypeId} {fs : Array Field} (h27 : P.underlying t27 = some (.struct fs)) (hf : ∃ f, fs[0]? = some f ∧ f.type = t5 ∧ f.offset = 0) (hc5 : P.cellsOf t5 = 1) (h5 : P.underlying t5 = some (.slice t)) (ht : P.underlying t = some (.array 5 e)) (he : P.underlying e = some (.int .i8)) (hc : P.cellsOf t = 5) (hce : P.cellsOf e = 1) {fuel : Nat} {v : Value} {x : DataW H × List MemPlace}
    (hsp : ∀ b, spare b = true) (h : DataW.trod enc P w 0 spare held fuel t27 [v] = some x) : ∃ q : Raw, V w.heap (allS w.heap) N0 (rawSl q) v := by
  obtain ⟨xs, n, _, _, _, hxl, hx⟩ := DataW.trod_struct h27 h
  obtain ⟨f, f1, f2, f3⟩ := hf
  have := hx 0 f f1
  rw [f2, f3, hc5] at this
  have hl : 0 < fs.size := by
    rcases Nat.lt_or_ge 0 fs.size with g | g
    · exact g
    · rw [Array.getElem?_eq_none g] at f1; cases f1
  rw [List.getElem?_eq_getElem (by omega)] at this
  exact read_raw h5 ht he hc hce hsp (by simpa using this)

/-- A list of such structs. -/
theorem read_raws {t22 t27 t5 t e : TypeId} {fs : Array Field} (h22 : P.underlying t22 = some (.slice t27)) (hc27 : P.cellsOf t27 = 1) (h27 : P.underlying t27 = some (.struct fs)) (hf : ∃ f, fs[0]? = some f ∧ f.type = t5 ∧ f.offset = 0) (hc5 : P.cellsOf t5 = 1) (h5 : P.underlying t5 = some (.slice t)) (ht : P.underlying t = some (.array 5 e)) (he : P.underlying e = some (.int .i8)) (hc : P.cellsOf t = 5) (hce : P.cellsOf e = 1) {fuel : Nat} {v : Value} {x : DataW H × List MemPlace}
    (hsp : ∀ b, spare b = true) (h : DataW.trod enc P w 0 spare held fuel t22 [v] = some x) : ∃ l : List Raw, V w.heap (allS w.heap) N0 (dRaws l) v := by
  rcases open_slice1 h22 hc27 h with ⟨h1, _⟩ | ⟨a, len, cap, m, n, Vs, D, Pl, h1, _, hl, _, hm, _, hx⟩
  · simp at h1
    subst h1
    refine ⟨[], ?_⟩
    simp only [dRaws, V]
    exact ⟨none, 0, rfl, Nat.le_refl _, rfl, ⟨fun _ => rfl, fun _ => rfl⟩, fun ad e => by cases e⟩
  · simp at h1
    subst h1
    rw [hsp, if_pos rfl] at hm
    subst hm
    have one : ∀ i, i < m → ∃ r : Raw, V w.heap (allS w.heap) N0 (rawSl r) (Vs i) := fun i hi => read_rawT h27 hf hc5 h5 ht he hc hce hsp (hx i hi).2
    obtain ⟨R, hR⟩ := choose_lt one
    refine ⟨(List.range len).map R, ?_⟩
    simp only [dRaws, V]
    refine ⟨some a, m, by simp, by simpa using hl, areDeep_iff.2 fun d hd => ?_, ⟨by simp, fun h0 => ?_⟩, fun ad e hm0 => ?_⟩
    · obtain ⟨r, _, rfl⟩ := List.mem_map.1 hd
      simp only [rawSl, isDeep]; exact rawsCells_deep r
    · have : len = 0 := by omega
      subst this; rfl
    · cases e
      have hsa : a.spot = none := by
        have := (cellAt_of (hx 0 (by omega)).1).1
        simpa [Addr.add] using this
      refine ⟨hsa, VC.mk fun i d hd => ?_⟩
      have hlt : i < len := by
        rcases Nat.lt_or_ge i len with g | g
        · exact g
        · rw [List.getElem?_eq_none (by simpa using g)] at hd; cases hd
      simp [hlt] at hd
      subst hd
      have k4 := (cellAt_of (hx i (by omega)).1).2
      rw [add_block, add_off] at k4
      exact ⟨⟨_, k4⟩, _, k4, hR i (by omega)⟩

/-- A struct that holds such a slice alone. -/
theorem read_one {t27 t5 t e : TypeId} {fs : Array Field} (hc27 : P.cellsOf t27 = 1) (h27 : P.underlying t27 = some (.struct fs)) (hf : ∃ f, fs[0]? = some f ∧ f.type = t5 ∧ f.offset = 0) (hc5 : P.cellsOf t5 = 1) (h5 : P.underlying t5 = some (.slice t)) (ht : P.underlying t = some (.array 5 e)) (he : P.underlying e = some (.int .i8)) (hc : P.cellsOf t = 5) (hce : P.cellsOf e = 1) {fuel : Nat} {cs : Array Value} {x : DataW H × List MemPlace}
    (hsp : ∀ b, spare b = true) (hsz : cs.size = P.cellsOf t27) (h : DataW.trod enc P w 0 spare held fuel t27 cs.toList = some x) : ∃ q : Raw, V w.heap (allS w.heap) N0 (dRaw q) (.agg cs) := by
  rw [hc27] at hsz
  obtain ⟨cl⟩ := cs
  match cl, hsz with
  | [a], _ =>
    obtain ⟨q, g⟩ := read_rawT h27 hf hc5 h5 ht he hc hce hsp (v := a) h
    refine ⟨q, ?_⟩
    have e : dRaw q = .agg [rawSl q] := rfl
    rw [e]
    simp only [V, VL]
    exact ⟨[a], rfl, a, _, rfl, g, rfl⟩

end
end Go.Ev
