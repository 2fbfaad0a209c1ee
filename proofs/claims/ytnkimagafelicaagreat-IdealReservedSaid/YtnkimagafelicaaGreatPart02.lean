/- Parts of the proof of the statement: PmBase, EvVal, EvSpec, EvSim, EvSet, EvNm, EvCdA, FMono, FPoly, FSum, FRaw, FList, FMerge, FProg, FAlg, FNorm, FLaw, FSpec, FSpec2, FSpec3, FSpec4. -/
import Derived.Test.YtnkimagafelicaaGreatPart01
import Derived.Test.YtnkimagafelicaaGreatPart00
set_option linter.unusedVariables false
set_option linter.unusedSimpArgs false
/- Polynomials as lists of terms: sums, products by a term, and what determines them. No program in sight. -/
namespace Go.Pm

structure Mono where
  e0 : Int
  e1 : Int
  e2 : Int
  e3 : Int
  e4 : Int
  e5 : Int
  e6 : Int
  e7 : Int
  deriving DecidableEq

namespace Mono
def l (m : Mono) : List Int := [m.e0, m.e1, m.e2, m.e3, m.e4, m.e5, m.e6, m.e7]
def add (a b : Mono) : Mono := ⟨a.e0 + b.e0, a.e1 + b.e1, a.e2 + b.e2, a.e3 + b.e3, a.e4 + b.e4, a.e5 + b.e5, a.e6 + b.e6, a.e7 + b.e7⟩
def sub (a b : Mono) : Mono := ⟨a.e0 - b.e0, a.e1 - b.e1, a.e2 - b.e2, a.e3 - b.e3, a.e4 - b.e4, a.e5 - b.e5, a.e6 - b.e6, a.e7 - b.e7⟩
def zero : Mono := ⟨0, 0, 0, 0, 0, 0, 0, 0⟩

theorem ext_l {a b : Mono} (h : a.l = b.l) : a = b := by
  cases a; cases b
  simp only [l, List.cons.injEq, and_true] at h
  simp only [Mono.mk.injEq]
  exact h

theorem ext_iff_e {a b : Mono} : a = b ↔ a.e0 = b.e0 ∧ a.e1 = b.e1 ∧ a.e2 = b.e2 ∧ a.e3 = b.e3 ∧ a.e4 = b.e4 ∧ a.e5 = b.e5 ∧ a.e6 = b.e6 ∧ a.e7 = b.e7 := by
  cases a; cases b; simp

theorem add_assoc (a b c : Mono) : (a.add b).add c = a.add (b.add c) := by
  simp only [ext_iff_e, add]; omega

theorem sub_zero (k : Mono) : k.sub zero = k := by
  simp only [ext_iff_e, sub, zero]; omega

theorem zero_add (k : Mono) : zero.add k = k := by
  simp only [ext_iff_e, add, zero]; omega

theorem add_zero (k : Mono) : k.add zero = k := by
  simp only [ext_iff_e, add, zero]; omega
end Mono

/-- Lists compared lexicographically. -/
def lexc : List Int → List Int → Int
  | a :: x, b :: y => if a < b then -1 else if b < a then 1 else lexc x y
  | [], [] => 0
  | [], _ :: _ => -1
  | _ :: _, [] => 1

theorem lexc_zero : ∀ {x y : List Int}, lexc x y = 0 ↔ x = y
  | [], [] => by simp [lexc]
  | [], _ :: _ => by simp [lexc]
  | _ :: _, [] => by simp [lexc]
  | a :: x, b :: y => by
    unfold lexc
    have ih := lexc_zero (x := x) (y := y)
    split
    · simp; omega
    · split
      · simp; omega
      · have : a = b := by omega
        simp [ih, this]

theorem lexc_neg : ∀ (x y : List Int), lexc y x = - lexc x y
  | [], [] => by simp [lexc]
  | [], _ :: _ => by simp [lexc]
  | _ :: _, [] => by simp [lexc]
  | a :: x, b :: y => by
    unfold lexc
    have ih := lexc_neg x y
    split <;> split <;> first | omega | (split <;> omega) | skip
    all_goals first | omega | exact ih

theorem lexc_range : ∀ (x y : List Int), lexc x y = -1 ∨ lexc x y = 0 ∨ lexc x y = 1
  | [], [] => by simp [lexc]
  | [], _ :: _ => by simp [lexc]
  | _ :: _, [] => by simp [lexc]
  | a :: x, b :: y => by
    unfold lexc
    have ih := lexc_range x y
    split
    · simp
    · split
      · simp
      · exact ih

theorem lexc_trans : ∀ {x y z : List Int}, 0 < lexc x y → 0 < lexc y z → 0 < lexc x z
  | [], [], z, h, _ => by simp [lexc] at h
  | [], _ :: _, z, h, _ => by simp [lexc] at h
  | _ :: _, [], [], _, h => by simp [lexc] at h
  | _ :: _, [], _ :: _, _, h => by simp [lexc] at h
  | _ :: _, _ :: _, [], _, _ => by simp [lexc]
  | a :: x, b :: y, c :: z, h1, h2 => by
    unfold lexc at h1 h2 ⊢
    have ih := lexc_trans (x := x) (y := y) (z := z)
    split at h1
    · omega
    · split at h2
      · omega
      · split at h1
        · split at h2
          · rw [if_neg (by omega), if_pos (by omega)]; omega
          · rw [if_neg (by omega), if_pos (by omega)]; omega
        · split at h2
          · rw [if_neg (by omega), if_pos (by omega)]; omega
          · rw [if_neg (by omega), if_neg (by omega)]; exact ih h1 h2

namespace Mono
def cmp (a b : Mono) : Int := lexc a.l b.l
theorem cmp_zero {a b : Mono} : cmp a b = 0 ↔ a = b := by
  unfold cmp; rw [lexc_zero]
  exact ⟨ext_l, fun h => by rw [h]⟩
theorem cmp_neg (a b : Mono) : cmp b a = - cmp a b := lexc_neg _ _
theorem cmp_trans {a b c : Mono} (h1 : 0 < cmp a b) (h2 : 0 < cmp b c) : 0 < cmp a c := lexc_trans h1 h2
theorem cmp_range (a b : Mono) : cmp a b = -1 ∨ cmp a b = 0 ∨ cmp a b = 1 := lexc_range _ _
theorem cmp_self (a : Mono) : cmp a a = 0 := cmp_zero.2 rfl
theorem cmp_add (k a b : Mono) : cmp (k.add a) (k.add b) = cmp a b := by
  unfold cmp l add
  simp only [lexc, Int.add_lt_add_iff_left]
end Mono

structure Tm where
  c : Rat
  m : Mono
  deriving DecidableEq

abbrev Poly := List Tm

def coef : Poly → Mono → Rat
  | [], _ => 0
  | t :: p, k => (if t.m = k then t.c else 0) + coef p k

/-- All monomials are less. -/
def Below (k : Mono) (p : Poly) : Prop := ∀ t ∈ p, 0 < Mono.cmp k t.m

def Canon : Poly → Prop
  | [] => True
  | t :: p => t.c ≠ 0 ∧ Below t.m p ∧ Canon p

theorem Below.nil (k : Mono) : Below k [] := by simp [Below]
theorem Below.cons {k : Mono} {t : Tm} {p : Poly} : Below k (t :: p) ↔ 0 < Mono.cmp k t.m ∧ Below k p := by simp [Below]
theorem Below.trans {j k : Mono} {p : Poly} (h : 0 < Mono.cmp j k) (b : Below k p) : Below j p := fun t ht => Mono.cmp_trans h (b t ht)

theorem coef_below {k : Mono} : ∀ {p : Poly}, Below k p → coef p k = 0
  | [], _ => rfl
  | t :: p, h => by
    rw [Below.cons] at h
    simp only [coef]
    rw [coef_below h.2, if_neg]
    · grind
    · intro e; rw [e, Mono.cmp_self] at h; omega

theorem Canon.tail {t : Tm} {p : Poly} (h : Canon (t :: p)) : Canon p := h.2.2

theorem Canon.ext : ∀ {p q : Poly}, Canon p → Canon q → (∀ k, coef p k = coef q k) → p = q
  | [], [], _, _, _ => rfl
  | [], t :: q, _, hq, h => by
    have := h t.m
    simp only [coef, if_true] at this
    rw [coef_below hq.2.1] at this
    exact absurd (by grind) hq.1
  | t :: p, [], hp, _, h => by
    have := h t.m
    simp only [coef, if_true] at this
    rw [coef_below hp.2.1] at this
    exact absurd (by grind) hp.1
  | s :: p, t :: q, hp, hq, h => by
    have key : s.m = t.m := by
      rcases Mono.cmp_range s.m t.m with c | c | c
      · have h1 := h t.m
        have c' : 0 < Mono.cmp t.m s.m := by rw [Mono.cmp_neg]; omega
        simp only [coef, if_true] at h1
        rw [coef_below hq.2.1, coef_below (hp.2.1.trans c'), if_neg] at h1
        · exact absurd (by grind) hq.1
        · intro e; rw [e, Mono.cmp_self] at c; omega
      · exact Mono.cmp_zero.1 c
      · have h1 := h s.m
        have c' : 0 < Mono.cmp s.m t.m := by omega
        simp only [coef, if_true] at h1
        rw [coef_below hp.2.1, coef_below (hq.2.1.trans c'), if_neg] at h1
        · exact absurd (by grind) hp.1
        · intro e; rw [e, Mono.cmp_self] at c; omega
    have hc : s.c = t.c := by
      have h1 := h s.m
      simp only [coef, if_true] at h1
      rw [coef_below hp.2.1, ← key, if_pos rfl, coef_below (key ▸ hq.2.1)] at h1
      grind
    have hst : s = t := by cases s; cases t; simp_all
    subst hst
    congr 1
    refine Canon.ext hp.2.2 hq.2.2 fun k => ?_
    have h1 := h k
    simp only [coef] at h1
    grind

theorem Canon.eq_nil {p : Poly} (h : Canon p) : p = [] ↔ ∀ k, coef p k = 0 :=
  ⟨fun e => by subst e; simp [coef], fun e => Canon.ext h (q := []) trivial fun k => by rw [e k]; rfl⟩

/-! ### Sums -/

def padd : Poly → Poly → Poly
  | [], q => q
  | p, [] => p
  | s :: p, t :: q =>
    if 0 < Mono.cmp s.m t.m then s :: padd p (t :: q)
    else if Mono.cmp s.m t.m < 0 then t :: padd (s :: p) q
    else if s.c + t.c = 0 then padd p q else ⟨s.c + t.c, s.m⟩ :: padd p q
termination_by p q => p.length + q.length

theorem padd_gt {s t : Tm} {p q : Poly} (h : 0 < Mono.cmp s.m t.m) : padd (s :: p) (t :: q) = s :: padd p (t :: q) := by rw [padd, if_pos h]
theorem padd_lt {s t : Tm} {p q : Poly} (h : Mono.cmp s.m t.m < 0) : padd (s :: p) (t :: q) = t :: padd (s :: p) q := by rw [padd, if_neg (by omega), if_pos h]
theorem padd_eq {s t : Tm} {p q : Poly} (h : Mono.cmp s.m t.m = 0) : padd (s :: p) (t :: q) = if s.c + t.c = 0 then padd p q else ⟨s.c + t.c, s.m⟩ :: padd p q := by rw [padd, if_neg (by omega), if_neg (by omega)]
theorem padd_nil (q : Poly) : padd [] q = q := by rw [padd]

theorem padd_nil_right (p : Poly) : padd p [] = p := by cases p <;> simp [padd]

theorem coef_padd (k : Mono) : ∀ (p q : Poly), coef (padd p q) k = coef p k + coef q k
  | [], q => by simp only [padd, coef]; grind
  | s :: p, [] => by simp only [padd, coef]; grind
  | s :: p, t :: q => by
    unfold padd
    split
    · simp only [coef]; rw [coef_padd k p (t :: q)]; simp only [coef]; grind
    · split
      · simp only [coef]; rw [coef_padd k (s :: p) q]; simp only [coef]; grind
      · have e : s.m = t.m := Mono.cmp_zero.1 (by have := Mono.cmp_range s.m t.m; omega)
        split
        · rw [coef_padd k p q]; simp only [coef, e]; split <;> grind
        · simp only [coef, e]; rw [coef_padd k p q]; split <;> grind
termination_by p q => p.length + q.length

theorem mem_padd {t : Tm} : ∀ {p q : Poly}, t ∈ padd p q → (∃ u ∈ p, u.m = t.m) ∨ ∃ u ∈ q, u.m = t.m
  | [], q, h => by simp only [padd] at h; exact .inr ⟨t, h, rfl⟩
  | s :: p, [], h => by simp only [padd] at h; exact .inl ⟨t, h, rfl⟩
  | s :: p, u :: q, h => by
    unfold padd at h
    split at h
    · rcases List.mem_cons.1 h with h | h
      · exact .inl ⟨s, List.mem_cons_self .., by rw [h]⟩
      · rcases mem_padd h with ⟨v, hv, e⟩ | h
        · exact .inl ⟨v, List.mem_cons_of_mem _ hv, e⟩
        · exact .inr h
    · split at h
      · rcases List.mem_cons.1 h with h | h
        · exact .inr ⟨u, List.mem_cons_self .., by rw [h]⟩
        · rcases mem_padd h with h | ⟨v, hv, e⟩
          · exact .inl h
          · exact .inr ⟨v, List.mem_cons_of_mem _ hv, e⟩
      · split at h
        · rcases mem_padd h with ⟨v, hv, e⟩ | ⟨v, hv, e⟩
          · exact .inl ⟨v, List.mem_cons_of_mem _ hv, e⟩
          · exact .inr ⟨v, List.mem_cons_of_mem _ hv, e⟩
        · rcases List.mem_cons.1 h with h | h
          · exact .inl ⟨s, List.mem_cons_self .., by rw [h]⟩
          · rcases mem_padd h with ⟨v, hv, e⟩ | ⟨v, hv, e⟩
            · exact .inl ⟨v, List.mem_cons_of_mem _ hv, e⟩
            · exact .inr ⟨v, List.mem_cons_of_mem _ hv, e⟩
termination_by p q => p.length + q.length

theorem Below.padd {k : Mono} {p q : Poly} (hp : Below k p) (hq : Below k q) : Below k (padd p q) := by
  intro t ht
  rcases mem_padd ht with ⟨u, hu, e⟩ | ⟨u, hu, e⟩
  · rw [← e]; exact hp u hu
  · rw [← e]; exact hq u hu

theorem Canon.padd : ∀ {p q : Poly}, Canon p → Canon q → Canon (padd p q)
  | [], q, _, hq => by simpa only [Pm.padd] using hq
  | s :: p, [], hp, _ => by simpa only [Pm.padd] using hp
  | s :: p, t :: q, hp, hq => by
    unfold Pm.padd
    split
    · rename_i c
      exact ⟨hp.1, Below.padd hp.2.1 (Below.cons.2 ⟨c, hq.2.1.trans c⟩), Canon.padd hp.2.2 hq⟩
    · split
      · rename_i c
        have c' : 0 < Mono.cmp t.m s.m := by rw [Mono.cmp_neg]; omega
        exact ⟨hq.1, Below.padd (Below.cons.2 ⟨c', hp.2.1.trans c'⟩) hq.2.1, Canon.padd hp hq.2.2⟩
      · have e : s.m = t.m := Mono.cmp_zero.1 (by have := Mono.cmp_range s.m t.m; omega)
        split
        · exact Canon.padd hp.2.2 hq.2.2
        · rename_i c
          exact ⟨c, Below.padd hp.2.1 (e ▸ hq.2.1), Canon.padd hp.2.2 hq.2.2⟩
termination_by p q => p.length + q.length

/-! ### A term times a polynomial -/

def ptimes (c : Rat) (m : Mono) (p : Poly) : Poly := p.map fun t => ⟨c * t.c, m.add t.m⟩

theorem Below.ptimes {c : Rat} {m k : Mono} {p : Poly} (h : Below k p) : Below (m.add k) (ptimes c m p) := by
  intro t ht
  simp only [Pm.ptimes, List.mem_map] at ht
  obtain ⟨u, hu, rfl⟩ := ht
  rw [Mono.cmp_add]; exact h u hu

theorem Canon.ptimes {c : Rat} (hc : c ≠ 0) (m : Mono) : ∀ {p : Poly}, Canon p → Canon (ptimes c m p)
  | [], _ => trivial
  | t :: p, h => ⟨by intro e; have := h.1; exact (Rat.mul_eq_zero.1 e).elim hc this, Below.ptimes h.2.1, Canon.ptimes hc m h.2.2⟩

/-! ### Products -/

/-- The product with a function of monomials. -/
def conv (p : Poly) (f : Mono → Rat) (k : Mono) : Rat :=
  match p with
  | [] => 0
  | t :: p => t.c * f (k.sub t.m) + conv p f k

/-! ### The algebra of functions of monomials -/

abbrev Fn := Mono → Rat
end Go.Pm

/- Polynomials as deep values. -/
namespace Go.Ev
open Go.Pm

/-- The words of a number, the least significant one first. -/
def wd (n : Nat) : List Nat := if h : n = 0 then [] else n % 4294967296 :: wd (n / 4294967296)
termination_by n
decreasing_by omega

theorem wd_zero : wd 0 = [] := by unfold wd; simp
theorem wd_small {n : Nat} (h0 : n ≠ 0) (h : n < 4294967296) : wd n = [n] := by
  unfold wd
  rw [dif_neg h0, Nat.mod_eq_of_lt h, Nat.div_eq_of_lt h, wd_zero]

def dNat (n : Nat) : DV := .sl (wd n).length ((wd n).map fun w : Nat => DV.i .u32 (w : Int))
def rcells (q : Rat) : List DV := [.b (decide (q.num < 0)), dNat q.num.natAbs, .b false, dNat q.den]
abbrev dRat (q : Rat) : DV := .agg (rcells q)
def mcells (m : Mono) : List DV := m.l.map (DV.i .i64 ·)
abbrev dMono (m : Mono) : DV := .agg (mcells m)
def tcells (t : Tm) : List DV := rcells t.c ++ mcells t.m
abbrev dTm (t : Tm) : DV := .agg (tcells t)
def pcells (p : Poly) : List DV := p.flatMap tcells
abbrev dPoly (p : Poly) : DV := .sl p.length (pcells p)
abbrev dPolys (l : List Poly) : DV := .sl l.length (l.map dPoly)

theorem areDeep_ints (k : IntKind) : ∀ l : List Int, areDeep (l.map (DV.i k ·)) = true
  | [] => rfl
  | n :: l => by simp only [List.map_cons, areDeep, isDeep, Bool.true_and]; exact areDeep_ints k l

theorem areDeep_words : ∀ l : List Nat, areDeep (l.map fun w : Nat => DV.i .u32 (w : Int)) = true
  | [] => rfl
  | n :: l => by simp only [List.map_cons, areDeep, isDeep, Bool.true_and]; exact areDeep_words l

theorem dNat_deep (n : Nat) : isDeep (dNat n) = true := by simp only [dNat, isDeep]; exact areDeep_words _
theorem rcells_deep (q : Rat) : areDeep (rcells q) = true := by simp [rcells, areDeep, isDeep, dNat_deep]
theorem dRat_deep (q : Rat) : isDeep (dRat q) = true := by simp only [dRat, isDeep]; exact rcells_deep q
theorem mcells_deep (m : Mono) : areDeep (mcells m) = true := areDeep_ints _ _
theorem dMono_deep (m : Mono) : isDeep (dMono m) = true := by simp only [dMono, isDeep]; exact mcells_deep m
theorem tcells_deep (t : Tm) : areDeep (tcells t) = true := areDeep_append (rcells_deep _) (mcells_deep _)
theorem pcells_deep : ∀ p, areDeep (pcells p) = true
  | [] => rfl
  | t :: p => areDeep_append (tcells_deep t) (pcells_deep p)
theorem dPoly_deep (p : Poly) : isDeep (dPoly p) = true := by simp only [dPoly, isDeep]; exact pcells_deep p
theorem rcells_length (q : Rat) : (rcells q).length = 4 := (rfl)
theorem mcells_length (m : Mono) : (mcells m).length = 8 := (rfl)
theorem tcells_length (t : Tm) : (tcells t).length = 12 := (rfl)
theorem pcells_nil : pcells [] = [] := (rfl)
theorem pcells_cons (t : Tm) (p : Poly) : pcells (t :: p) = tcells t ++ pcells p := (rfl)
theorem pcells_append (p q : Poly) : pcells (p ++ q) = pcells p ++ pcells q := List.flatMap_append
theorem pcells_length : ∀ p, (pcells p).length = p.length * 12
  | [] => rfl
  | t :: p => by rw [pcells_cons, List.length_append, tcells_length, pcells_length p, List.length_cons]; omega
theorem pcells_drop : ∀ (p : Poly) (i : Nat), (pcells p).drop (i * 12) = pcells (p.drop i)
  | p, 0 => by simp
  | [], i + 1 => by simp [pcells_nil]
  | t :: p, i + 1 => by
    rw [pcells_cons, List.drop_succ_cons, ← pcells_drop p i, show (i + 1) * 12 = 12 + i * 12 by omega, ← List.drop_drop]
    congr 1
theorem pcells_take : ∀ (p : Poly) (i : Nat), (pcells p).take (i * 12) = pcells (p.take i)
  | p, 0 => by simp [pcells_nil]
  | [], i + 1 => by simp [pcells_nil]
  | t :: p, i + 1 => by
    rw [pcells_cons, List.take_succ_cons, pcells_cons, ← pcells_take p i, show (i + 1) * 12 = 12 + i * 12 by omega, List.take_add]
    congr 1
theorem pcells_all_cell (p : Poly) : (pcells p).all isCell = true := by
  induction p with
  | nil => rfl
  | cons t p ih => rw [pcells_cons, List.all_append, ih]; rfl

/-! Parts of a row that begins with a term. -/

theorem part_tm (t : Tm) (r : List DV) : part (tcells t ++ r) 0 12 true = some (dTm t) := by
  simp [part, tcells, rcells, mcells, Mono.l, dTm]
theorem part_tm_c (t : Tm) (r : List DV) : part (tcells t ++ r) 0 4 true = some (dRat t.c) := by
  simp [part, tcells, rcells, dRat]
theorem part_tm_m (t : Tm) (r : List DV) : part ((tcells t ++ r).drop 4) 0 8 true = some (dMono t.m) := by
  simp [part, tcells, rcells, dMono, mcells, Mono.l]
end Go.Ev

/- Contracts as functions of deep values. -/
namespace Go.Ev
open Go.Pm

def ofWd : List Nat → Nat
  | [] => 0
  | w :: r => w + 4294967296 * ofWd r

theorem ofWd_wd (n : Nat) : ofWd (wd n) = n := by
  induction n using Nat.strongRecOn with
  | ind n ih =>
    unfold wd
    split
    · rename_i h; subst h; rfl
    · simp only [ofWd]
      rw [ih _ (by omega)]
      omega

theorem map_inj {α β : Type} {f : α → β} (hf : ∀ a b, f a = f b → a = b) : ∀ {x y : List α}, x.map f = y.map f → x = y
  | [], [], _ => rfl
  | [], _ :: _, h => by simp at h
  | _ :: _, [], h => by simp at h
  | a :: x, b :: y, h => by
    simp only [List.map_cons, List.cons.injEq] at h
    rw [hf _ _ h.1, map_inj hf h.2]

theorem dNat_inj {n m : Nat} (h : dNat n = dNat m) : n = m := by
  simp only [dNat, DV.sl.injEq] at h
  have := map_inj (f := fun w : Nat => DV.i .u32 (w : Int)) (fun a b e => by simp only [DV.i.injEq, true_and] at e; omega) h.2
  rw [← ofWd_wd n, this, ofWd_wd]

theorem rcells_inj {p q : Rat} (h : rcells p = rcells q) : p = q := by
  simp only [rcells, List.cons.injEq, DV.b.injEq, decide_eq_decide, and_true, true_and] at h
  obtain ⟨h1, h2, h3⟩ := h
  have h2 := dNat_inj h2
  have h3 := dNat_inj h3
  refine Rat.ext ?_ h3
  by_cases c : p.num < 0
  · have c' := h1.1 c; omega
  · have c' : ¬ q.num < 0 := fun x => c (h1.2 x); omega

theorem dRat_inj {p q : Rat} (h : dRat p = dRat q) : p = q := rcells_inj (by simpa only [dRat, DV.agg.injEq] using h)

theorem mcells_inj {a b : Mono} (h : mcells a = mcells b) : a = b :=
  Mono.ext_l (map_inj (f := (DV.i .i64 ·)) (fun x y e => by simpa only [DV.i.injEq, true_and] using e) h)

theorem dMono_inj {a b : Mono} (h : dMono a = dMono b) : a = b := mcells_inj (by simpa only [dMono, DV.agg.injEq] using h)

theorem tcells_inj {s t : Tm} (h : tcells s = tcells t) : s = t := by
  have := List.append_inj h rfl
  have h1 := rcells_inj this.1
  have h2 := mcells_inj this.2
  cases s; cases t; simp_all

theorem pcells_inj : ∀ {p q : Poly}, pcells p = pcells q → p = q
  | [], [], _ => rfl
  | [], t :: q, h => by rw [pcells_cons] at h; simp [pcells_nil, tcells, rcells] at h
  | t :: p, [], h => by rw [pcells_cons] at h; simp [pcells_nil, tcells, rcells] at h
  | s :: p, t :: q, h => by
    rw [pcells_cons, pcells_cons] at h
    have := List.append_inj h rfl
    rw [tcells_inj this.1, pcells_inj this.2]

theorem dPoly_inj {p q : Poly} (h : dPoly p = dPoly q) : p = q := pcells_inj (by simp only [dPoly, DV.sl.injEq] at h; exact h.2)

theorem dPolys_inj {l m : List Poly} (h : dPolys l = dPolys m) : l = m := map_inj (fun _ _ => dPoly_inj) (by simp only [dPolys, DV.sl.injEq] at h; exact h.2)

open Classical in
/-- What is known at the arguments of a family. -/
noncomputable def spec {α : Type} (enc : α → List DV) (cond : α → Prop) (out : α → DV × List (List DV)) (ds : List DV) : Option (DV × List (List DV)) :=
  if h : ∃ a, cond a ∧ enc a = ds then some (out h.choose) else none

theorem spec_eq {α : Type} {enc : α → List DV} {cond : α → Prop} {out : α → DV × List (List DV)} (inj : ∀ a b, enc a = enc b → a = b) {a : α} (h : cond a) : spec enc cond out (enc a) = some (out a) := by
  have hx : ∃ b, cond b ∧ enc b = enc a := ⟨a, h, rfl⟩
  unfold spec
  rw [dif_pos hx, inj _ _ hx.choose_spec.2]

theorem spec_ok {α : Type} {enc : α → List DV} {cond : α → Prop} {out : α → DV × List (List DV)} {P : Program} {f : FuncId} (h : ∀ a, cond a → FnAt P f (enc a) (out a).1 (out a).2) : FnOK P f (spec enc cond out) := by
  intro ds r outs e
  unfold spec at e
  split at e
  · rename_i hx
    have g := h _ hx.choose_spec.1
    rw [hx.choose_spec.2] at g
    simp only [Option.some.injEq] at e
    rw [e] at g
    exact g
  · cases e

/-- The functions that are known. -/
def sem : List (Nat × (List DV → Option (DV × List (List DV)))) → Sem
  | [] => fun _ _ => none
  | (n, g) :: r => fun f ds => if f = n then g ds else sem r f ds

theorem sem_ok {P : Program} : ∀ {l : List (Nat × (List DV → Option (DV × List (List DV))))}, (∀ x ∈ l, FnOK P x.1 x.2) → SemOK P (sem l)
  | [], _ => fun f ds r outs h => by cases h
  | (n, g) :: l, h => fun f ds r outs e => by
    simp only [sem] at e
    split at e
    · rename_i hf; subst hf; exact h (_, g) (List.mem_cons_self ..) ds r outs e
    · exact sem_ok (fun x hx => h x (List.mem_cons_of_mem _ hx)) f ds r outs e

/-- A function of the program whose body is known to give this. -/
theorem FnAt.of {P : Program} (hm : P.follows .mixedOrders = true) {K : Cfg} [ShOK P K] [ShC K] {cs : Sem} (hcs : SemOK P cs) {f : FuncId} {fn : Func} {fu : Fun} (h1 : P.funcs[f]? = some fn) (h2 : fn.name ≠ "runtime.NumGoroutine") (h3 : toFun P K fn = some fu)
    {ds : List DV} {r : DV} {outs : List (List DV)} (h : Rets K cs (K.fc f).own fu ds r outs) : FnAt P f ds r outs := by
  obtain ⟨k, hk⟩ := h
  exact body_ok hm hcs k _ h1 h2 h3 ds r outs hk
end Go.Ev

/- Rewriting rules that run the code of the abstract interpreter on values of which only the shape is known. -/
namespace Go.Ev

/-- The value of a slot. -/
def gt (s : St) (n : Nat) : Option DV := s.v.get n
def put (s : St) (d : Nat) (x : DV) : St := ⟨Tr.setF 24 s.v d x, s.o, s.z⟩
def obj (s : St) (h : Nat) (l : List Ob) : St := ⟨s.v, Tr.setF 24 s.o h l, s.z⟩
def frz (s : St) (z : List (Nat × Nat)) : St := ⟨s.v, s.o, z ++ s.z⟩

section
variable {s : St}

theorem gt_put {d n : Nat} {x : DV} (h : d < 16000000) : gt (put s d x) n = if n = d then some x else gt s n := by
  unfold gt put
  exact Tr.get_setF 24 s.v d x n (by omega)
theorem gt_obj {h n : Nat} {l : List Ob} : gt (obj s h l) n = gt s n := (rfl)
theorem gt_frz {n : Nat} {z : List (Nat × Nat)} : gt (frz s z) n = gt s n := (rfl)
theorem lst_put {d h : Nat} {x : DV} : lst (put s d x) h = lst s h := (rfl)
theorem lst_obj {h' h : Nat} {l : List Ob} (c : h < 16000000) : lst (obj s h l) h' = if h' = h then l else lst s h' := by
  unfold lst obj
  simp only
  rw [Tr.get_setF 24 s.o h l h' (by omega)]
  split <;> rfl
theorem lst_frz {h : Nat} {z : List (Nat × Nat)} : lst (frz s z) h = lst s h := (rfl)
theorem z_put {d : Nat} {x : DV} : (put s d x).z = s.z := (rfl)
theorem z_obj {h : Nat} {l : List Ob} : (obj s h l).z = s.z := (rfl)
theorem z_frz {z : List (Nat × Nat)} : (frz s z).z = z ++ s.z := (rfl)
theorem frz_nil : frz s [] = s := (rfl)

theorem opv_t {n : Nat} : opv s (.t n) = gt s n := (rfl)
theorem opv_c {d : DV} : opv s (.c d) = some d := (rfl)

def objs (s : St) : List (Nat × List Ob) → St
  | [] => s
  | (h, l) :: r => objs (obj s h l) r
theorem objs_nil : objs s [] = s := (rfl)
theorem objs_cons {h : Nat} {l : List Ob} {r : List (Nat × List Ob)} : objs s ((h, l) :: r) = objs (obj s h l) r := (rfl)

theorem setO_objs : ∀ (o : List (Nat × List Ob)) (s : St), (objs s o).o = setO s.o o ∧ (objs s o).v = s.v ∧ (objs s o).z = s.z
  | [], s => ⟨rfl, rfl, rfl⟩
  | (h, l) :: r, s => by
    have := setO_objs r (obj s h l)
    exact ⟨by simp only [objs, setO, this.1]; rfl, by simp only [objs, this.2.1]; rfl, by simp only [objs, this.2.2]; rfl⟩

theorem app_some {d : Nat} {x : DV} {o : List (Nat × List Ob)} {z : List (Nat × Nat)} : app s ⟨some (d, x), o, z⟩ = frz (objs (put s d x) o) z := by
  have h := setO_objs o (put s d x)
  unfold frz app
  rw [h.1, h.2.1, h.2.2]
  rfl
theorem app_none {o : List (Nat × List Ob)} {z : List (Nat × Nat)} : app s ⟨none, o, z⟩ = frz (objs s o) z := by
  have h := setO_objs o s
  unfold frz app
  rw [h.1, h.2.1, h.2.2]
theorem app_val {d : Nat} {x : DV} : app s (val d x) = put s d x := (rfl)

theorem nth_top {ob : Ob} {l : List Ob} : nth (ob :: l) l.length = if ob.k = 3 then none else some ob := by
  unfold nth
  simp
theorem setAt_top {ob ob' : Ob} {l : List Ob} : setAt (ob :: l) l.length ob' = ob' :: l := by
  unfold setAt
  simp
theorem look_lst {h e : Nat} : look s h e = nth (lst s h) e := (rfl)
theorem cnt_lst {h : Nat} : cnt s h = (lst s h).length := (rfl)
end

/-! ### Instructions -/

/-- The instructions lead to a state of which Q holds. -/
def WL (K : Cfg) (cs : Sem) (ops : List Ins) (s : St) (Q : St → Prop) : Prop :=
  match evL K cs s ops with
  | some s' => Q s'
  | none => False

/-- One change, and then the rest. -/
def WD (K : Cfg) (cs : Sem) (d : Option Dl) (r : List Ins) (s : St) (Q : St → Prop) : Prop :=
  match d with
  | some d => WL K cs r (app s d) Q
  | none => False

section
variable {K : Cfg} {cs : Sem} {s : St} {Q : St → Prop} {r : List Ins}

theorem WL_nil : WL K cs [] s Q = Q s := (rfl)
theorem WL_cons [NoSh K] {x : Ins} : WL K cs (x :: r) s Q = WD K cs (evIns K cs s x) r s Q := by
  unfold WL WD
  simp only [evL, evStep_nosh]
  cases evIns K cs s x <;> rfl
theorem WL_u [NoSh K] {i : I} : WL K cs (⟨none, i⟩ :: r) s Q = WD K cs (evI K cs s i) r s Q := WL_cons
theorem WL_g [NoSh K] {t d : Nat} {w : Bool} {i : I} : WL K cs (⟨some (t, w, d), i⟩ :: r) s Q = WD K cs (match gt s t with
    | some (.b v) => if v = w then evI K cs s i else some (val d (.tup []))
    | some (.tup []) => some (val d (.tup []))
    | _ => none) r s Q := WL_cons

theorem WD_val {d : Nat} {x : DV} : WD K cs (some (val d x)) r s Q = WL K cs r (put s d x) Q := (rfl)
theorem WD_some {d : Nat} {x : DV} {o : List (Nat × List Ob)} {z : List (Nat × Nat)} : WD K cs (some ⟨some (d, x), o, z⟩) r s Q = WL K cs r (frz (objs (put s d x) o) z) Q := by
  unfold WD; simp only [app_some]
theorem WD_none {o : List (Nat × List Ob)} {z : List (Nat × Nat)} : WD K cs (some ⟨none, o, z⟩) r s Q = WL K cs r (frz (objs s o) z) Q := by
  unfold WD; simp only [app_none]
theorem WD_new {d : Nat} {ob : Ob} {z : List (Nat × Nat)} {x : DV} : WD K cs (some (newOb s d ob z x)) r s Q = WL K cs r (frz (obj (put s d x) d (ob :: lst s d)) z) Q := by
  unfold newOb; rw [WD_some]; rfl
end

/-! ### Code -/
section
variable {K : Cfg} {cs : Sem} {s : St} {Q : Ex → St → Prop}

theorem loopN_mono {f g : St → Option (Ex × St)} (hfg : ∀ s r, f s = some r → g s = some r) : ∀ (k k' : Nat) (s : St) (r : Ex × St), k ≤ k' → loopN f k s = some r → loopN g k' s = some r
  | 0, _, _, _, _, h => by simp [loopN] at h
  | k + 1, 0, _, _, hk, _ => by omega
  | k + 1, k' + 1, s, r, hk, h => by
    simp only [loopN] at h ⊢
    cases hf : f s with
    | none => rw [hf] at h; cases h
    | some x =>
      rw [hf] at h
      rw [hfg _ _ hf]
      obtain ⟨e, s1⟩ := x
      cases e with
      | nrm => exact loopN_mono hfg k k' s1 r (by omega) h
      | exit i => exact h
      | ret => exact h

theorem evC_mono : ∀ (c : C) (k k' : Nat) (s : St) (r : Ex × St), k ≤ k' → evC K cs k c s = some r → evC K cs k' c s = some r
  | .skip, _, _, _, _, _, h => h
  | .reg _, _, _, _, _, _, h => h
  | .regD _ _, _, _, _, _, _, h => h
  | .exit _, _, _, _, _, _, h => h
  | .ret, _, _, _, _, _, h => h
  | .fail, _, _, _, _, _, h => h
  | .scope c, k, k', s, r, hk, h => by simp only [evC] at h ⊢; exact evC_mono c k k' s r hk h
  | .seq a b, k, k', s, r, hk, h => by
    simp only [evC] at h ⊢
    cases ha : evC K cs k a s with
    | none => rw [ha] at h; cases h
    | some x =>
      rw [ha] at h
      rw [evC_mono a k k' s x hk ha]
      obtain ⟨e, s1⟩ := x
      cases e with
      | nrm => exact evC_mono b k k' s1 r hk h
      | exit i => exact h
      | ret => exact h
  | .cond c a b, k, k', s, r, hk, h => by
    simp only [evC] at h ⊢
    split at h
    · exact evC_mono a k k' s r hk h
    · exact evC_mono b k k' s r hk h
    · cases h
  | .block id c, k, k', s, r, hk, h => by
    simp only [evC] at h ⊢
    cases ha : evC K cs k c s with
    | none => rw [ha] at h; cases h
    | some x =>
      rw [ha] at h
      rw [evC_mono c k k' s x hk ha]
      exact h
  | .loop c, k, k', s, r, hk, h => by
    simp only [evC] at h ⊢
    exact loopN_mono (fun s r => evC_mono c k k' s r hk) k k' s r hk h

theorem W_of {c : C} {k : Nat} {e : Ex} {s' : St} (h : evC K cs k c s = some (e, s')) (q : Q e s') : W K cs c s Q :=
  ⟨e, s', ⟨k, fun k' hk => evC_mono c k k' s _ hk h⟩, q⟩
theorem W_to {c : C} (h : W K cs c s Q) : ∃ k e s', evC K cs k c s = some (e, s') ∧ Q e s' := by
  obtain ⟨e, s', ⟨k, h1⟩, h2⟩ := h
  exact ⟨k, e, s', h1 k (Nat.le_refl _), h2⟩

theorem W_reg {ops : List Ins} : W K cs (.reg ops) s Q = WL K cs ops s fun s' => Q .nrm s' := by
  refine propext ⟨fun ⟨e, s', ⟨k0, h1⟩, h2⟩ => ?_, fun h => ?_⟩
  · have := h1 k0 (Nat.le_refl _)
    unfold WL
    simp only [evC, Option.map_eq_some_iff] at this
    obtain ⟨s1, h3, h4⟩ := this
    simp only [Prod.mk.injEq] at h4
    rw [h3, h4.2, h4.1]; exact h2
  · unfold WL at h
    split at h
    · rename_i s' hs
      exact W.reg hs h
    · exact h.elim

theorem W_skip : W K cs .skip s Q = Q .nrm s := by
  refine propext ⟨fun ⟨e, s', ⟨k0, h1⟩, h2⟩ => ?_, W.skip⟩
  have := h1 k0 (Nat.le_refl _)
  simp only [evC, Option.some.injEq, Prod.mk.injEq] at this
  rw [this.1, this.2]; exact h2
theorem W_exit {i : Nat} : W K cs (.exit i) s Q = Q (.exit i) s := by
  refine propext ⟨fun ⟨e, s', ⟨k0, h1⟩, h2⟩ => ?_, W.exit⟩
  have := h1 k0 (Nat.le_refl _)
  simp only [evC, Option.some.injEq, Prod.mk.injEq] at this
  rw [this.1, this.2]; exact h2
theorem W_ret : W K cs .ret s Q = Q .ret s := by
  refine propext ⟨fun ⟨e, s', ⟨k0, h1⟩, h2⟩ => ?_, W.ret⟩
  have := h1 k0 (Nat.le_refl _)
  simp only [evC, Option.some.injEq, Prod.mk.injEq] at this
  rw [this.1, this.2]; exact h2
theorem W_scope {c : C} : W K cs (.scope c) s Q = W K cs c s Q := by
  refine propext ⟨fun ⟨e, s', ⟨k0, h1⟩, h2⟩ => ⟨e, s', ⟨k0, fun k hk => ?_⟩, h2⟩, W.scope⟩
  have := h1 k hk
  simpa only [evC] using this

/-- What comes after the first part of a sequence. -/
def thenQ (K : Cfg) (cs : Sem) (b : C) (Q : Ex → St → Prop) : Ex → St → Prop
  | .nrm, s => W K cs b s Q
  | e, s => Q e s
theorem thenQ_nrm {b : C} : thenQ K cs b Q .nrm s = W K cs b s Q := (rfl)
theorem thenQ_exit {b : C} {i : Nat} : thenQ K cs b Q (.exit i) s = Q (.exit i) s := (rfl)
theorem thenQ_ret {b : C} : thenQ K cs b Q .ret s = Q .ret s := (rfl)

def blkQ (id : Nat) (Q : Ex → St → Prop) : Ex → St → Prop
  | .exit j, s => if j = id then Q .nrm s else Q (.exit j) s
  | e, s => Q e s
theorem blkQ_nrm {id : Nat} : blkQ id Q .nrm s = Q .nrm s := (rfl)
theorem blkQ_exit {id j : Nat} : blkQ id Q (.exit j) s = if j = id then Q .nrm s else Q (.exit j) s := (rfl)
theorem blkQ_ret {id : Nat} : blkQ id Q .ret s = Q .ret s := (rfl)

/-- A round of a loop. -/
def roundQ (I : Nat → St → Prop) (n : Nat) (Q : Ex → St → Prop) : Ex → St → Prop
  | .nrm, s => ∃ m, m < n ∧ I m s
  | e, s => Q e s
theorem roundQ_nrm {I : Nat → St → Prop} {n : Nat} : roundQ I n Q .nrm s = ∃ m, m < n ∧ I m s := (rfl)
theorem roundQ_exit {I : Nat → St → Prop} {n i : Nat} : roundQ I n Q (.exit i) s = Q (.exit i) s := (rfl)
theorem roundQ_ret {I : Nat → St → Prop} {n : Nat} : roundQ I n Q .ret s = Q .ret s := (rfl)

theorem W_seq {a b : C} : W K cs (.seq a b) s Q = W K cs a s (thenQ K cs b Q) := by
  refine propext ⟨fun h => ?_, fun h => ?_⟩
  · obtain ⟨k, e, s', h1, h2⟩ := W_to h
    simp only [evC] at h1
    cases ha : evC K cs k a s with
    | none => rw [ha] at h1; cases h1
    | some x =>
      rw [ha] at h1
      obtain ⟨e1, s1⟩ := x
      cases e1 with
      | nrm => exact W_of ha (W_of h1 h2)
      | exit i => cases h1; exact W_of ha h2
      | ret => cases h1; exact W_of ha h2
  · refine W.seq (W.mono h fun e s' hq => ?_)
    cases e <;> exact hq
theorem W_block {id : Nat} {c : C} : W K cs (.block id c) s Q = W K cs c s (blkQ id Q) := by
  refine propext ⟨fun h => ?_, fun h => ?_⟩
  · obtain ⟨k, e, s', h1, h2⟩ := W_to h
    simp only [evC] at h1
    cases ha : evC K cs k c s with
    | none => rw [ha] at h1; cases h1
    | some x =>
      rw [ha] at h1
      obtain ⟨e1, s1⟩ := x
      cases e1 with
      | nrm => cases h1; exact W_of ha h2
      | exit j =>
        refine W_of ha ?_
        simp only [blkQ]
        by_cases hj : j = id
        · simp only [hj, if_true] at h1 ⊢; cases h1; exact h2
        · simp only [hj, if_false] at h1 ⊢; cases h1; exact h2
      | ret => cases h1; exact W_of ha h2
  · refine W.block (W.mono h fun e s' hq => ?_)
    cases e <;> exact hq
theorem W_cond {c : Opd} {a b : C} : W K cs (.cond c a b) s Q = (match opv s c with
    | some (.b v) => if v = true then W K cs a s Q else W K cs b s Q
    | _ => False) := by
  refine propext ⟨fun h => ?_, fun h => ?_⟩
  · obtain ⟨k, e, s', h1, h2⟩ := W_to h
    simp only [evC] at h1
    split at h1
    · rename_i hv; simp only [hv, if_true]; exact W_of h1 h2
    · rename_i hv; simp only [hv]; exact W_of h1 h2
    · cases h1
  · split at h
    · rename_i v hv
      split at h
      · rename_i hb; subst hb; exact W.cond hv (fun _ => h) (fun x => by cases x)
      · rename_i hb
        have : v = false := by simpa using hb
        subst this; exact W.cond hv (fun x => by cases x) (fun _ => h)
    · exact h.elim
/-- One more round. -/
def moreQ (K : Cfg) (cs : Sem) (c : C) (Q : Ex → St → Prop) : Ex → St → Prop
  | .nrm, s => W K cs (.loop c) s Q
  | e, s => Q e s
theorem moreQ_nrm {c : C} : moreQ K cs c Q .nrm s = W K cs (.loop c) s Q := (rfl)
theorem moreQ_exit {c : C} {i : Nat} : moreQ K cs c Q (.exit i) s = Q (.exit i) s := (rfl)
theorem moreQ_ret {c : C} : moreQ K cs c Q .ret s = Q .ret s := (rfl)

theorem W_loop {c : C} (I : Nat → St → Prop) (n : Nat) (h0 : I n s) (step : ∀ n s, I n s → W K cs c s (roundQ I n Q)) : W K cs (.loop c) s Q :=
  W.loop I n h0 fun n s hI => W.mono (step n s hI) fun e s' hq => by cases e <;> exact hq
end
end Go.Ev

/- What the rewriting of runs needs of values, rows and arguments. -/
namespace Go.Ev
open Go.Pm

theorem fill_one {Z : List DV} {n : Nat} {v : DV} (hz : Z.length = n) (hc : (cells v).length = n) (ha : (cells v).all isCell = true) : fillL (List.replicate 1 Z).flatten [(0, n, v)] = some (cells v) := by
  subst hz
  simp only [fillL, List.replicate_one, List.flatten_cons, List.flatten_nil, List.append_nil, hc, Nat.zero_add, Nat.le_refl, ha, and_self, if_true, List.take_zero, List.nil_append, List.drop_length]

theorem fill_all {Z : List DV} {n : Nat} {v : DV} (hz : Z.length = n) (hc : (cells v).length = n) (ha : (cells v).all isCell = true) : fillL Z [(0, n, v)] = some (cells v) := by
  subst hz
  simp only [fillL, List.append_nil, hc, Nat.zero_add, Nat.le_refl, ha, and_self, if_true, List.take_zero, List.nil_append, List.drop_length]

theorem fill_tm {a0 a1 a2 a3 a4 a5 a6 a7 a8 a9 a10 a11 : DV} {c : Rat} {m : Mono} : fillL [a0, a1, a2, a3, a4, a5, a6, a7, a8, a9, a10, a11] [(0, 4, dRat c), (4, 8, dMono m)] = some (tcells ⟨c, m⟩) := by
  simp [fillL, dRat, dMono, cells, rcells, mcells, Mono.l, tcells, isCell, dNat]

theorem fill_c {a0 a1 a2 a3 : DV} {v : List DV} {c : Rat} : fillL ([a0, a1, a2, a3] ++ v) [(0, 4, dRat c)] = some (rcells c ++ v) := by
  simp [fillL, dRat, cells, rcells, isCell, dNat]

theorem cells_dTm (t : Tm) : cells (dTm t) = tcells t := (rfl)
theorem cells_dRat (c : Rat) : cells (dRat c) = rcells c := (rfl)
theorem cells_dMono (m : Mono) : cells (dMono m) = mcells m := (rfl)
theorem cells_sl (n : Nat) (l : List DV) : cells (.sl n l) = [.sl n l] := (rfl)
theorem cells_i (k : IntKind) (n : Int) : cells (.i k n) = [.i k n] := (rfl)
theorem cells_b (v : Bool) : cells (.b v) = [.b v] := (rfl)
theorem cells_agg (l : List DV) : cells (.agg l) = l := (rfl)
theorem rcells_cell (c : Rat) : (rcells c).all isCell = true := (rfl)
theorem mcells_cell (m : Mono) : (mcells m).all isCell = true := (rfl)
theorem tcells_cell (t : Tm) : (tcells t).all isCell = true := (rfl)

theorem part_rcells (c : Rat) : part (rcells c) 0 4 true = some (dRat c) := (rfl)
theorem part_mcells (m : Mono) : part (mcells m) 0 8 true = some (dMono m) := (rfl)

theorem fld_tm_c (t : Tm) : part (tcells t) 0 4 true = some (dRat t.c) := (rfl)
theorem fld_tm_m (t : Tm) : part (tcells t) 4 8 true = some (dMono t.m) := (rfl)

mutual
theorem deepen_deep (s : St) : ∀ d, isDeep d = true → deepen s d = some (d, [])
  | .b _, _ | .i _ _, _ | .nilfn, _ | .x _ _, _ | .u .., _ | .non, _ | .emp, _ => by simp [deepen]
  | .sl _ _, _ | .rop _, _ | .msl _, _ => by simp [deepen]
  | .fn f cs, h => by simp only [isDeep] at h; simp only [deepen, deepenL_deep s cs h]
  | .agg cs, h => by simp only [isDeep] at h; simp only [deepen, deepenL_deep s cs h]
  | .tup cs, h => by simp only [isDeep] at h; simp only [deepen, deepenL_deep s cs h]
  | .nil, h | .ref .., h | .ptr .., h | .mref .., h | .own .., h | .refc .., h | .bf .., h => by simp [isDeep] at h
theorem deepenL_deep (s : St) : ∀ cs, areDeep cs = true → deepenL s cs = some (cs, [])
  | [], _ => by simp [deepenL]
  | d :: r, h => by
    simp only [areDeep, Bool.and_eq_true] at h
    simp only [deepenL, deepen_deep s d h.1, deepenL_deep s r h.2, List.append_nil]
end

theorem dTm_deep (t : Tm) : isDeep (dTm t) = true := by simp only [dTm, isDeep]; exact tcells_deep t

section
variable {s : St}
theorem deepen_dTm (t : Tm) : deepen s (dTm t) = some (dTm t, []) := deepen_deep s _ (dTm_deep t)
theorem deepen_dRat (c : Rat) : deepen s (dRat c) = some (dRat c, []) := deepen_deep s _ (dRat_deep c)
theorem deepen_dMono (m : Mono) : deepen s (dMono m) = some (dMono m, []) := deepen_deep s _ (dMono_deep m)
theorem deepen_sl (n : Nat) (l : List DV) : deepen s (.sl n l) = some (.sl n l, []) := by simp [deepen]
theorem deepen_i (k : IntKind) (n : Int) : deepen s (.i k n) = some (.i k n, []) := by simp [deepen]
theorem deepen_b (v : Bool) : deepen s (.b v) = some (.b v, []) := by simp [deepen]
theorem deepen_nil : deepen s .nil = some (.sl 0 [], []) := by simp [deepen]
theorem deepen_fn0 (f : Nat) : deepen s (.fn f []) = some (.fn f [], []) := by simp [deepen, deepenL]
theorem deepen_ref (h e off n : Nat) : deepen s (.ref h e off n) = (match nth (lst s h) e with
    | some ob => if ob.k = 0 then some (.sl n ((ob.cs.drop off).take (n * ob.sz)), [(h, e)]) else if ob.k = 2 ∧ n ≠ 0 ∧ areDeep ob.cs then some (.sl n (ob.cs.drop off), [(h, e)]) else none
    | none => none) := by simp only [deepen, look_lst]; rfl

theorem argsIn_nil (b : List Bool) : argsIn s b [] = some ([], [], none) := by unfold argsIn; rfl
theorem argsIn_cons (d : DV) (r : List DV) : argsIn s [] (d :: r) = (match argsIn s [] r with
    | none => none
    | some (l, z, q) => match deepen s d with
      | some (x, y) => some (x :: l, y ++ z, q)
      | none => none) := by
  rw [argsIn]
  simp only [List.tail_nil, List.headD_nil, Bool.false_eq_true, if_false]
  rfl
end

section
variable {h c : Nat}
theorem adoptR_b (v : Bool) : adoptR h c (.b v) = (.b v, []) := (rfl)
theorem adoptR_i (k : IntKind) (n : Int) : adoptR h c (.i k n) = (.i k n, []) := (rfl)
theorem adoptR_sl (n : Nat) (l : List DV) : adoptR h c (.sl n l) = (.sl n l, []) := (rfl)
theorem adoptR_dRat (q : Rat) : adoptR h c (dRat q) = (dRat q, []) := (rfl)
theorem adoptR_dMono (m : Mono) : adoptR h c (dMono m) = (dMono m, []) := (rfl)
theorem adoptR_dTm (t : Tm) : adoptR h c (dTm t) = (dTm t, []) := (rfl)
theorem adoptR_fn (f : Nat) (l : List DV) : adoptR h c (.fn f l) = (.fn f l, []) := (rfl)
theorem adoptR_tup {l : List DV} (hl : areDeep l = true) : adoptR h c (.tup l) = (.tup l, []) := by simp only [adoptR, adoptL_deep hl]
theorem adoptR_agg {l : List DV} (hl : areDeep l = true) : adoptR h c (.agg l) = (.agg l, []) := by simp only [adoptR, adoptL_deep hl]
theorem adoptR_own (k sz off n : Nat) (cs : List DV) : adoptR h c (.own k sz cs off n) = (if k = 0 then .ref h c off n else if k = 1 then .mref h c else .ptr h c off, [⟨k, sz, cs⟩]) := (rfl)
end

theorem take_tcells (t : Tm) : (tcells t).take 12 = tcells t := (rfl)
theorem take_rcells (c : Rat) : (rcells c).take 4 = rcells c := (rfl)
theorem take_mcells (m : Mono) : (mcells m).take 8 = mcells m := (rfl)
theorem take_pcells (p : Poly) : (pcells p).take (p.length * 12) = pcells p := by rw [pcells_take, List.take_length]
theorem isCell_b (v : Bool) : isCell (.b v) = true := (rfl)
theorem isCell_i (k : IntKind) (n : Int) : isCell (.i k n) = true := (rfl)
theorem isCell_sl (n : Nat) (l : List DV) : isCell (.sl n l) = true := (rfl)
theorem isCell_nil : isCell .nil = true := (rfl)
theorem isCell_ref (h e o n : Nat) : isCell (.ref h e o n) = true := (rfl)
theorem isCell_fn (n : Nat) (l : List DV) : isCell (.fn n l) = true := (rfl)

theorem giveOne_deep {s : St} {own : Bool} {np : Nat} {d : DV} (h : isDeep d = true) : giveOne s own np d = some (d, [], []) := by
  unfold giveOne
  split
  · simp [isDeep] at h
  · rw [deepen_deep s d h]
theorem giveL_deep {s : St} {own : Bool} {np : Nat} : ∀ {l : List DV}, areDeep l = true → giveL s own np l = some (l, [], [])
  | [], _ => by simp [giveL]
  | d :: r, h => by
    simp only [areDeep, Bool.and_eq_true] at h
    simp only [giveL, giveOne_deep h.1, giveL_deep h.2, List.append_nil]
theorem areDeep_nil : areDeep [] = true := by rw [areDeep]
theorem areDeep_cons (d : DV) (r : List DV) : areDeep (d :: r) = (isDeep d && areDeep r) := by rw [areDeep]
theorem isDeep_b (v : Bool) : isDeep (.b v) = true := by rw [isDeep]
theorem isDeep_i (k : IntKind) (n : Int) : isDeep (.i k n) = true := by rw [isDeep]
theorem isDeep_sl (n : Nat) (l : List DV) : isDeep (.sl n l) = areDeep l := by rw [isDeep]
theorem isDeep_agg (l : List DV) : isDeep (.agg l) = areDeep l := by rw [isDeep]
theorem isDeep_tup (l : List DV) : isDeep (.tup l) = areDeep l := by rw [isDeep]
theorem isDeep_fn (f : Nat) (l : List DV) : isDeep (.fn f l) = areDeep l := by rw [isDeep]
theorem deepen_agg {s : St} {l : List DV} (h : areDeep l = true) : deepen s (.agg l) = some (.agg l, []) := deepen_deep s _ (by rw [isDeep]; exact h)
theorem deepen_tup {s : St} {l : List DV} (h : areDeep l = true) : deepen s (.tup l) = some (.tup l, []) := deepen_deep s _ (by rw [isDeep]; exact h)
theorem nth_top1 {ob x : Ob} {l : List Ob} : nth (ob :: x :: l) (l.length + 1) = if ob.k = 3 then none else some ob := nth_top (l := x :: l)
theorem setAt_top1 {ob ob' x : Ob} {l : List Ob} : setAt (ob :: x :: l) (l.length + 1) ob' = ob' :: x :: l := setAt_top (l := x :: l)
theorem part_single (d : DV) : part [d] 0 1 true = some (.agg [d]) := (rfl)
theorem part_head (d : DV) (r : List DV) (n : Nat) : part (d :: r) 0 n false = some d := (rfl)
theorem v_get (s : St) (n : Nat) : s.v.get n = gt s n := (rfl)
theorem gt_st0 (n : Nat) : gt st0 n = none := (rfl)
theorem lst_st0 (n : Nat) : lst st0 n = [] := (rfl)
theorem z_st0 : st0.z = [] := (rfl)
theorem fill_none {Z : List DV} : fillL Z [] = some Z := (rfl)
theorem nth_at {ob : Ob} {l : List Ob} {e : Nat} (h : e = l.length) : nth (ob :: l) e = if ob.k = 3 then none else some ob := by subst h; exact nth_top
theorem setAt_at {ob ob' : Ob} {l : List Ob} {e : Nat} (h : e = l.length) : setAt (ob :: l) e ob' = ob' :: l := by subst h; exact setAt_top

theorem drop_cons {α : Type} {p : List α} {i : Nat} (h : i < p.length) : ∃ t p', p.drop i = t :: p' ∧ p.drop (i + 1) = p' :=
  ⟨p[i], p.drop (i + 1), List.drop_eq_getElem_cons h, rfl⟩

theorem wrap_i64 {n : Int} (h1 : -9223372036854775808 ≤ n) (h2 : n ≤ 9223372036854775807) : IntKind.i64.wrap n = n := by
  refine wrap_in .i64 n ⟨?_, ?_⟩
  · simpa [IntKind.min, IntKind.signed, IntKind.bits] using h1
  · have : IntKind.max .i64 = 9223372036854775807 := by decide
    omega

attribute [simp] nth_top1 setAt_top1 bnd part_single part_head giveL_deep moreQ_nrm moreQ_exit moreQ_ret v_get fin resOf resRaws resRaw giveV giveL giveOne lentOuts fill_all fill_one W_seq W_reg W_skip W_exit W_ret W_scope W_block W_cond thenQ_nrm thenQ_exit thenQ_ret blkQ_nrm blkQ_exit blkQ_ret roundQ_nrm roundQ_exit roundQ_ret
  WL_nil WL_u WL_g WD_val WD_some WD_none WD_new evI opv_t opv_c gt_put gt_obj gt_frz lst_put lst_obj lst_frz z_put z_obj z_frz objs_nil objs_cons frz_nil nth_top setAt_top look_lst cnt_lst
  lenOf bin bin0 ibin fill_tm fill_c cells_dTm cells_dRat cells_dMono cells_sl cells_i cells_b cells_agg rcells_cell mcells_cell tcells_cell part_rcells part_mcells part_tm part_tm_c part_tm_m
  deepen_dTm deepen_dRat deepen_dMono deepen_sl deepen_i deepen_b deepen_nil deepen_fn0 deepen_ref argsIn_nil argsIn_cons opvL partsOf deepParts slCells take_tcells take_rcells take_mcells take_pcells pcells_all_cell isCell_b isCell_i isCell_sl isCell_nil isCell_ref isCell_fn bound rcells_length mcells_length tcells_length pcells_length pcells_drop pcells_cons
  doCall startL gt_st0 lst_st0 z_st0 app_val fill_none pcells_nil adoptR_b adoptR_i adoptR_sl adoptR_dRat adoptR_dMono adoptR_dTm adoptR_fn adoptR_tup adoptR_agg adoptR_own areDeep_nil areDeep_cons isDeep_b isDeep_i isDeep_sl isDeep_agg isDeep_tup isDeep_fn deepen_agg deepen_tup dRat_deep dMono_deep dTm_deep dPoly_deep pcells_deep rcells_deep mcells_deep tcells_deep fld_tm_c fld_tm_m pcells_append
end Go.Ev

/- The numbers of the functions, and how each is called. Printed by a program of mine. -/
namespace Go.Ev
abbrev n_main_main : Nat := 0
abbrev n_gosem_cut : Nat := 1
abbrev n_gosem_cut_init : Nat := 2
abbrev n_law17_IdealReserved : Nat := 3
abbrev n_law17_examples : Nat := 4
abbrev n_law17_list : Nat := 5
abbrev n_law17_small : Nat := 6
abbrev n_ref06_Var : Nat := 7
abbrev n_ref06_Add : Nat := 8
abbrev n_ideal_Meet : Nat := 9
abbrev n_ideal_Quotient : Nat := 10
abbrev n_ideal_Saturate : Nat := 11
abbrev n_ideal_Eliminate : Nat := 12
abbrev n_ideal_Power : Nat := 13
abbrev n_law17_term : Nat := 14
abbrev n_ideal_Member : Nat := 15
abbrev n_ref06_Sub : Nat := 16
abbrev n_ref06_Same : Nat := 17
abbrev n_ref14_Sum : Nat := 18
abbrev n_ideal_Equal : Nat := 19
abbrev n_law17_is : Nat := 20
abbrev n_ref06_List : Nat := 21
abbrev n_ref06_Made : Nat := 22
abbrev n_ref02_Whole : Nat := 23
abbrev n_ref04_Cmp : Nat := 24
abbrev n_ref02_Add : Nat := 25
abbrev n_ref02_Sign : Nat := 26
abbrev n_ideal_reserved : Nat := 27
abbrev n_ideal_meet : Nat := 28
abbrev n_polynomial_Constant : Nat := 29
abbrev n_rational_Whole : Nat := 30
abbrev n_mgcd_Divide : Nat := 31
abbrev n_ideal_reduced : Nat := 32
abbrev n_ideal_eliminate : Nat := 33
abbrev n_ideal_inverted : Nat := 34
abbrev n_slices_Clone_api_Poly_api_Poly : Nat := 35
abbrev n_slices_ContainsFunc_api_Poly_api_Poly : Nat := 36
abbrev n_ideal_Saturate_1 : Nat := 37
abbrev n_ideal_in : Nat := 38
abbrev n_ideal_times : Nat := 39
abbrev n_ref06_Times : Nat := 40
abbrev n_ref06_Constant : Nat := 41
abbrev n_groebner_Basis : Nat := 42
abbrev n_order_Reverse : Nat := 43
abbrev n_division_Divide : Nat := 44
abbrev n_polynomial_Add : Nat := 45
abbrev n_ref06_Scale : Nat := 46
abbrev n_ref06_SameTerm : Nat := 47
abbrev n_ref06_Mul : Nat := 48
abbrev n_slices_EqualFunc_api_Poly_api_Poly_api_Poly_api_Poly : Nat := 49
abbrev n_polynomial_Same : Nat := 50
abbrev n_ref06_abs : Nat := 51
abbrev n_ref01_Of : Nat := 52
abbrev n_ref02_lowest : Nat := 53
abbrev n_ref01_Add : Nat := 54
abbrev n_ref01_Mul : Nat := 55
abbrev n_ref01_Sign : Nat := 56
abbrev n_ideal_reserved_1 : Nat := 57
abbrev n_polynomial_Uses : Nat := 58
abbrev n_polynomial_Var : Nat := 59
abbrev n_polynomial_Sub : Nat := 60
abbrev n_rational_Sign : Nat := 61
abbrev n_rational_of : Nat := 62
abbrev n_integer_Of : Nat := 63
abbrev n_monomial_Quo : Nat := 64
abbrev n_rational_Div : Nat := 65
abbrev n_polynomial_Times : Nat := 66
abbrev n_ideal_basis : Nat := 67
abbrev n_order_Eliminating : Nat := 68
abbrev n_slices_DeleteFunc_api_Poly_api_Poly : Nat := 69
abbrev n_ideal_eliminate_1 : Nat := 70
abbrev n_slices_IndexFunc_api_Poly_api_Poly : Nat := 71
abbrev n_polynomial_Mul : Nat := 72
abbrev n_ref04_Mul : Nat := 73
abbrev n_ref02_Mul : Nat := 74
abbrev n_order_Valid : Nat := 75
abbrev n_groebner_builder_add : Nat := 76
abbrev n_groebner_ordering_element : Nat := 77
abbrev n_groebner_builder_complete : Nat := 78
abbrev n_slices_Clone_api_Order_8_int : Nat := 79
abbrev n_groebner_ordering_finish : Nat := 80
abbrev n_order_Graded : Nat := 81
abbrev n_order_unit : Nat := 82
abbrev n_division_divide : Nat := 83
abbrev n_division_leadsOf : Nat := 84
abbrev n_polynomial_merge : Nat := 85
abbrev n_rational_Add : Nat := 86
abbrev n_polynomial_Add_1 : Nat := 87
abbrev n_ref02_Same : Nat := 88
abbrev n_polynomial_Cmp : Nat := 89
abbrev n_ref01_made : Nat := 90
abbrev n_ref01_words : Nat := 91
abbrev n_ref01_Gcd : Nat := 92
abbrev n_ref01_Neg : Nat := 93
abbrev n_ref02_exact : Nat := 94
abbrev n_ref01_added : Nat := 95
abbrev n_ref01_compared : Nat := 96
abbrev n_ref01_taken : Nat := 97
abbrev n_ref01_times : Nat := 98
abbrev n_monomial_Support : Nat := 99
abbrev n_rational_Sub : Nat := 100
abbrev n_rational_Neg : Nat := 101
abbrev n_integer_Sign : Nat := 102
abbrev n_integer_natural : Nat := 103
abbrev n_integer_nat_signed : Nat := 104
abbrev n_monomial_Divides : Nat := 105
abbrev n_monomial_each : Nat := 106
abbrev n_monomial_Quo_1 : Nat := 107
abbrev n_rational_New : Nat := 108
abbrev n_rational_product : Nat := 109
abbrev n_monomial_Mul : Nat := 110
abbrev n_rational_Mul : Nat := 111
abbrev n_order_ones : Nat := 112
abbrev n_polynomial_sum_add : Nat := 113
abbrev n_polynomial_sum_poly : Nat := 114
abbrev n_ref04_Valid : Nat := 115
abbrev n_monomial_Lcm : Nat := 116
abbrev n_polynomial_Lead : Nat := 117
abbrev n_rational_Inv : Nat := 118
abbrev n_slices_MinFunc_groebner_pair_groebner_pair : Nat := 119
abbrev n_groebner_builder_before : Nat := 120
abbrev n_slices_DeleteFunc_groebner_pair_groebner_pair : Nat := 121
abbrev n_groebner_builder_complete_1 : Nat := 122
abbrev n_groebner_builder_needless : Nat := 123
abbrev n_groebner_combine : Nat := 124
abbrev n_groebner_ordering_reduce : Nat := 125
abbrev n_slices_Clone_groebner_element_groebner_element : Nat := 126
abbrev n_slices_SortStableFunc_groebner_element_groebner_element : Nat := 127
abbrev n_groebner_ordering_finish_1 : Nat := 128
abbrev n_groebner_ordering_compare : Nat := 129
abbrev n_slices_ContainsFunc_groebner_element_groebner_element : Nat := 130
abbrev n_groebner_ordering_finish_2 : Nat := 131
abbrev n_slices_Delete_groebner_element_groebner_element : Nat := 132
abbrev n_division_leadOf : Nat := 133
abbrev n_division_lead_under : Nat := 134
abbrev n_monomial_Cmp : Nat := 135
abbrev n_rational_lowest : Nat := 136
abbrev n_integer_Add : Nat := 137
abbrev n_ref02_same : Nat := 138
abbrev n_slices_CompareFunc_api_Poly_api_Poly_api_Term_api_Term : Nat := 139
abbrev n_polynomial_Cmp_1 : Nat := 140
abbrev n_rational_Cmp : Nat := 141
abbrev n_ref01_trim : Nat := 142
abbrev n_ref01_common : Nat := 143
abbrev n_ref01_DivMod : Nat := 144
abbrev n_ref01_word : Nat := 145
abbrev n_integer_Sub : Nat := 146
abbrev n_integer_Neg : Nat := 147
abbrev n_integer_nat_norm : Nat := 148
abbrev n_slices_Clone_integer_nat_uint32 : Nat := 149
abbrev n_monomial_Gcd : Nat := 150
abbrev n_integer_Mul : Nat := 151
abbrev n_monomial_Mul_1 : Nat := 152
abbrev n_monomial_Valid : Nat := 153
abbrev n_slices_SortFunc_api_Poly_api_Term : Nat := 154
abbrev n_polynomial_sum_poly_1 : Nat := 155
abbrev n_monomial_Lcm_1 : Nat := 156
abbrev n_slices_MaxFunc_api_Poly_api_Term : Nat := 157
abbrev n_polynomial_Lead_1 : Nat := 158
abbrev n_order_Cmp : Nat := 159
abbrev n_cmp_Or_int : Nat := 160
abbrev n_cmp_Compare_int : Nat := 161
abbrev n_slices_IndexFunc_groebner_pair_groebner_pair : Nat := 162
abbrev n_groebner_builder_open : Nat := 163
abbrev n_groebner_combine_1 : Nat := 164
abbrev n_slices_stableCmpFunc_groebner_element : Nat := 165
abbrev n_slices_IndexFunc_groebner_element_groebner_element : Nat := 166
abbrev n_slices_Compare_int_int : Nat := 167
abbrev n_integer_Gcd : Nat := 168
abbrev n_integer_DivMod : Nat := 169
abbrev n_integer_nat_add : Nat := 170
abbrev n_integer_nat_cmp : Nat := 171
abbrev n_integer_nat_sub : Nat := 172
abbrev n_integer_Cmp : Nat := 173
abbrev n_ref01_euclid : Nat := 174
abbrev n_ref01_number : Nat := 175
abbrev n_ref01_divided : Nat := 176
abbrev n_monomial_Gcd_1 : Nat := 177
abbrev n_integer_nat_mul : Nat := 178
abbrev n_slices_pdqsortCmpFunc_api_Term : Nat := 179
abbrev n_math_bits_Len : Nat := 180
abbrev n_cmp_isNaN_int : Nat := 181
abbrev n_slices_ContainsFunc_groebner_pair_groebner_pair : Nat := 182
abbrev n_groebner_builder_open_1 : Nat := 183
abbrev n_slices_insertionSortCmpFunc_groebner_element : Nat := 184
abbrev n_slices_symMergeCmpFunc_groebner_element : Nat := 185
abbrev n_integer_nat_div : Nat := 186
abbrev n_math_bits_Add32 : Nat := 187
abbrev n_integer_nat_at : Nat := 188
abbrev n_cmp_Compare_uint32 : Nat := 189
abbrev n_math_bits_Sub32 : Nat := 190
abbrev n_ref01_shortly : Nat := 191
abbrev n_ref01_guess : Nat := 192
abbrev n_ref01_lessen : Nat := 193
abbrev n_ref01_restore : Nat := 194
abbrev n_slices_insertionSortCmpFunc_api_Term : Nat := 195
abbrev n_slices_heapSortCmpFunc_api_Term : Nat := 196
abbrev n_slices_breakPatternsCmpFunc_api_Term : Nat := 197
abbrev n_slices_choosePivotCmpFunc_api_Term : Nat := 198
abbrev n_slices_reverseRangeCmpFunc_api_Term : Nat := 199
abbrev n_slices_partialInsertionSortCmpFunc_api_Term : Nat := 200
abbrev n_slices_partitionEqualCmpFunc_api_Term : Nat := 201
abbrev n_slices_partitionCmpFunc_api_Term : Nat := 202
abbrev n_math_bits_Len32 : Nat := 203
abbrev n_math_bits_Len64 : Nat := 204
abbrev n_slices_rotateCmpFunc_groebner_element : Nat := 205
abbrev n_integer_nat_word : Nat := 206
abbrev n_math_bits_LeadingZeros32 : Nat := 207
abbrev n_integer_nat_shl : Nat := 208
abbrev n_integer_nat_reduce : Nat := 209
abbrev n_integer_nat_shr : Nat := 210
abbrev n_cmp_isNaN_uint32 : Nat := 211
abbrev n_slices_siftDownCmpFunc_api_Term : Nat := 212
abbrev n_slices_nextPowerOfTwo : Nat := 213
abbrev n_slices_xorshift_Next : Nat := 214
abbrev n_slices_medianAdjacentCmpFunc_api_Term : Nat := 215
abbrev n_slices_medianCmpFunc_api_Term : Nat := 216
abbrev n_slices_swapRangeCmpFunc_groebner_element : Nat := 217
abbrev n_math_bits_Div32 : Nat := 218
abbrev n_slices_order2CmpFunc_api_Term : Nat := 219
abbrev n_runtime_boundsError_Error : Nat := 220
abbrev n_runtime_boundsError_RuntimeError : Nat := 221
abbrev n_runtime_errorString_Error : Nat := 222
abbrev n_runtime_errorString_RuntimeError : Nat := 223
abbrev n_runtime_plainError_Error : Nat := 224
abbrev n_runtime_plainError_RuntimeError : Nat := 225
abbrev n_runtime_errorAddressString_Error : Nat := 226
abbrev n_runtime_errorAddressString_RuntimeError : Nat := 227
abbrev n_runtime_TypeAssertionError_Error : Nat := 228
abbrev n_runtime_TypeAssertionError_RuntimeError : Nat := 229
abbrev n_runtime_PanicNilError_Error : Nat := 230
abbrev n_runtime_PanicNilError_RuntimeError : Nat := 231
abbrev n_internal_abi_Type_Align : Nat := 232
abbrev n_internal_runtime_maps_unhashableTypeError_Error : Nat := 233
abbrev n_internal_runtime_maps_unhashableTypeError_RuntimeError : Nat := 234
abbrev n_api_Errno_Error : Nat := 235
abbrev n_errors_errorString_Error : Nat := 236
abbrev n_internal_abi_Kind_String : Nat := 237
abbrev n_law19_SyzygyIs : Nat := 100000
abbrev n_law19_SyzygySchreyer : Nat := 100001
abbrev n_law19_SyzygyErrors : Nat := 100002
abbrev n_law19_SyzygyExpresses : Nat := 100003
abbrev n_law13_GroebnerMatchesReference : Nat := 100004
abbrev n_law13_GroebnerHolds : Nat := 100005
abbrev n_law13_GroebnerMembers : Nat := 100006
abbrev n_law13_GroebnerUnique : Nat := 100007
abbrev n_law13_GroebnerReduces : Nat := 100008
abbrev n_law13_GroebnerPoints : Nat := 100009
abbrev n_law13_GroebnerLinear : Nat := 100010
abbrev n_law13_GroebnerExtends : Nat := 100011
abbrev n_law13_GroebnerOrders : Nat := 100012
abbrev n_law19_SyzygyGenerates : Nat := 100013
abbrev n_law19_SyzygyPairs : Nat := 100014
abbrev n_law19_sanity : Nat := 100015
abbrev n_ref13_Polys : Nat := 100016
abbrev n_law19_poly : Nat := 100017
abbrev n_ref06_By : Nat := 100018
abbrev n_syzygy_Is : Nat := 100019
abbrev n_ref19_Is : Nat := 100020
abbrev n_ref05_Some : Nat := 100021
abbrev n_ref13_Of : Nat := 100022
abbrev n_syzygy_Schreyer : Nat := 100023
abbrev n_ref19_Schreyer : Nat := 100024
abbrev n_ref06_SameList : Nat := 100025
abbrev n_ref05_Valid : Nat := 100026
abbrev n_ref06_Nonzero : Nat := 100027
abbrev n_ref12_IsBasis : Nat := 100028
abbrev n_syzygy_Express : Nat := 100029
abbrev n_ref19_Shaped : Nat := 100030
abbrev n_ref19_Plus : Nat := 100031
abbrev n_ref06_ValidList : Nat := 100032
abbrev n_ref19_Combined : Nat := 100033
abbrev n_law13_sanity : Nat := 100034
abbrev n_law13_right : Nat := 100035
abbrev n_groebner_Holds : Nat := 100036
abbrev n_ref13_Basis : Nat := 100037
abbrev n_law13_spoil : Nat := 100038
abbrev n_ref13_Holds : Nat := 100039
abbrev n_ref13_Expressed : Nat := 100040
abbrev n_law13_sum : Nat := 100041
abbrev n_ref12_Rest : Nat := 100042
abbrev n_groebner_Reduced : Nat := 100043
abbrev n_ref02_Made : Nat := 100044
abbrev n_ref06_Eval : Nat := 100045
abbrev n_ref13_Lines : Nat := 100046
abbrev n_ref11_Echelon : Nat := 100047
abbrev n_ref06_X : Nat := 100048
abbrev n_ref06_Degree : Nat := 100049
abbrev n_ref06_Int : Nat := 100050
abbrev n_ref05_Lex : Nat := 100051
abbrev n_groebner_Extend : Nat := 100052
abbrev n_syzygy_Of : Nat := 100053
abbrev n_ref19_Small : Nat := 100054
abbrev n_ref19_Module : Nat := 100055
abbrev n_ref19_Of : Nat := 100056
abbrev n_ref19_Inside : Nat := 100057
abbrev n_ref08_Gcd : Nat := 100058
abbrev n_ref08_Divide : Nat := 100059
abbrev n_ref05_Reverse : Nat := 100060
abbrev n_division_Sum : Nat := 100061
abbrev n_ref12_Is : Nat := 100062
abbrev n_ref05_Graded : Nat := 100063
abbrev n_ref05_Eliminating : Nat := 100064
abbrev n_ref13_polys : Nat := 100065
abbrev n_ref13_finished : Nat := 100066
abbrev n_ref13_closed : Nat := 100067
abbrev n_ref13_plain : Nat := 100068
abbrev n_syzygy_Schreyer_1 : Nat := 100069
abbrev n_division_IsBasis : Nat := 100070
abbrev n_syzygy_leads : Nat := 100071
abbrev n_division_Spair : Nat := 100072
abbrev n_syzygy_vector_scaled : Nat := 100073
abbrev n_syzygy_constant : Nat := 100074
abbrev n_syzygy_quotient : Nat := 100075
abbrev n_ref19_wrong : Nat := 100076
abbrev n_ref19_pair : Nat := 100077
abbrev n_ref12_Spair : Nat := 100078
abbrev n_syzygy_vector_plus : Nat := 100079
abbrev n_ref06_Valid : Nat := 100080
abbrev n_ref05_Same : Nat := 100081
abbrev n_groebner_Holds_1 : Nat := 100082
abbrev n_ref13_Elems : Nat := 100083
abbrev n_ref12_Reduced : Nat := 100084
abbrev n_ref12_Div : Nat := 100085
abbrev n_ref06_power : Nat := 100086
abbrev n_ref11_combined : Nat := 100087
abbrev n_ref02_Neg : Nat := 100088
abbrev n_ref11_Lead : Nat := 100089
abbrev n_ref02_Inv : Nat := 100090
abbrev n_ref11_Zeros : Nat := 100091
abbrev n_ref04_Degree : Nat := 100092
abbrev n_syzygy_Of_1 : Nat := 100093
abbrev n_ref06_Uses : Nat := 100094
abbrev n_ref19_vector : Nat := 100095
abbrev n_ref08_common : Nat := 100096
abbrev n_ref08_fits : Nat := 100097
abbrev n_ref02_Div : Nat := 100098
abbrev n_ref08_mul : Nat := 100099
abbrev n_ref05_unit : Nat := 100100
abbrev n_ref12_Sum : Nat := 100101
abbrev n_ref05_In : Nat := 100102
abbrev n_ref13_needless : Nat := 100103
abbrev n_ref13_others : Nat := 100104
abbrev n_ref13_rest : Nat := 100105
abbrev n_ref05_Cmp : Nat := 100106
abbrev n_ref13_lead : Nat := 100107
abbrev n_ref04_Gcd : Nat := 100108
abbrev n_ref13_spair : Nat := 100109
abbrev n_ref13_monic : Nat := 100110
abbrev n_division_pairs : Nat := 100111
abbrev n_monomial_Degree : Nat := 100112
abbrev n_ref19_zero : Nat := 100113
abbrev n_ref06_Lead : Nat := 100114
abbrev n_ref04_Lcm : Nat := 100115
abbrev n_ref19_over : Nat := 100116
abbrev n_ref12_times : Nat := 100117
abbrev n_ref12_over : Nat := 100118
abbrev n_slices_Clone_syzygy_vector_api_Poly : Nat := 100119
abbrev n_ref02_Valid : Nat := 100120
abbrev n_ref04_Divides : Nat := 100121
abbrev n_ref12_first : Nat := 100122
abbrev n_ref02_New : Nat := 100123
abbrev n_ref04_Support : Nat := 100124
abbrev n_ref08_Normal : Nat := 100125
abbrev n_ref08_first : Nat := 100126
abbrev n_ref08_one : Nat := 100127
abbrev n_ref08_content : Nat := 100128
abbrev n_ref08_over : Nat := 100129
abbrev n_ref08_Degree : Nat := 100130
abbrev n_ref08_remainder : Nat := 100131
abbrev n_ref13_minus : Nat := 100132
abbrev n_ref05_weight : Nat := 100133
abbrev n_ref04_Quo : Nat := 100134
abbrev n_ref13_scale : Nat := 100135
abbrev n_division_pairs_1 : Nat := 100136
abbrev n_ref01_Valid : Nat := 100137
abbrev n_ref01_Cmp : Nat := 100138
abbrev n_ref04_Bit : Nat := 100139
abbrev n_ref08_Coeffs : Nat := 100140
abbrev n_ref08_Shift : Nat := 100141
def fcOf : Nat → FC
  | 43 => ⟨[], true⟩
  | 81 => ⟨[], true⟩
  | 98 => ⟨[], true⟩
  | 113 => ⟨[true, false, false], false⟩
  | 142 => ⟨[], true⟩
  | 193 => ⟨[true, false, false], false⟩
  | 194 => ⟨[true, false], false⟩
  | 208 => ⟨[], true⟩
  | 209 => ⟨[true, false], false⟩
  | 214 => ⟨[true], false⟩
  | 100022 => ⟨[], true⟩
  | 100033 => ⟨[], true⟩
  | 100060 => ⟨[], true⟩
  | 100063 => ⟨[], true⟩
  | 100066 => ⟨[], true⟩
  | 100067 => ⟨[true, false], false⟩
  | 100068 => ⟨[], true⟩
  | 100073 => ⟨[], true⟩
  | 100077 => ⟨[], true⟩
  | 100079 => ⟨[], true⟩
  | 100085 => ⟨[], true⟩
  | 100119 => ⟨[], true⟩
  | _ => ⟨[], false⟩
def KK : Cfg := { fc := fcOf, fn := fun _ => none }
instance : NoSh KK := ⟨fun _ => rfl, rfl⟩
@[simp] theorem fc_main_main : KK.fc n_main_main = ⟨[], false⟩ := rfl
@[simp] theorem fc_gosem_cut : KK.fc n_gosem_cut = ⟨[], false⟩ := rfl
@[simp] theorem fc_gosem_cut_init : KK.fc n_gosem_cut_init = ⟨[], false⟩ := rfl
@[simp] theorem fc_law17_IdealReserved : KK.fc n_law17_IdealReserved = ⟨[], false⟩ := rfl
@[simp] theorem fc_law17_examples : KK.fc n_law17_examples = ⟨[], false⟩ := rfl
@[simp] theorem fc_law17_list : KK.fc n_law17_list = ⟨[], false⟩ := rfl
@[simp] theorem fc_law17_small : KK.fc n_law17_small = ⟨[], false⟩ := rfl
@[simp] theorem fc_ref06_Var : KK.fc n_ref06_Var = ⟨[], false⟩ := rfl
@[simp] theorem fc_ref06_Add : KK.fc n_ref06_Add = ⟨[], false⟩ := rfl
@[simp] theorem fc_ideal_Meet : KK.fc n_ideal_Meet = ⟨[], false⟩ := rfl
@[simp] theorem fc_ideal_Quotient : KK.fc n_ideal_Quotient = ⟨[], false⟩ := rfl
@[simp] theorem fc_ideal_Saturate : KK.fc n_ideal_Saturate = ⟨[], false⟩ := rfl
@[simp] theorem fc_ideal_Eliminate : KK.fc n_ideal_Eliminate = ⟨[], false⟩ := rfl
@[simp] theorem fc_ideal_Power : KK.fc n_ideal_Power = ⟨[], false⟩ := rfl
@[simp] theorem fc_law17_term : KK.fc n_law17_term = ⟨[], false⟩ := rfl
@[simp] theorem fc_ideal_Member : KK.fc n_ideal_Member = ⟨[], false⟩ := rfl
@[simp] theorem fc_ref06_Sub : KK.fc n_ref06_Sub = ⟨[], false⟩ := rfl
@[simp] theorem fc_ref06_Same : KK.fc n_ref06_Same = ⟨[], false⟩ := rfl
@[simp] theorem fc_ref14_Sum : KK.fc n_ref14_Sum = ⟨[], false⟩ := rfl
@[simp] theorem fc_ideal_Equal : KK.fc n_ideal_Equal = ⟨[], false⟩ := rfl
@[simp] theorem fc_law17_is : KK.fc n_law17_is = ⟨[], false⟩ := rfl
@[simp] theorem fc_ref06_List : KK.fc n_ref06_List = ⟨[], false⟩ := rfl
@[simp] theorem fc_ref06_Made : KK.fc n_ref06_Made = ⟨[], false⟩ := rfl
@[simp] theorem fc_ref02_Whole : KK.fc n_ref02_Whole = ⟨[], false⟩ := rfl
@[simp] theorem fc_ref04_Cmp : KK.fc n_ref04_Cmp = ⟨[], false⟩ := rfl
@[simp] theorem fc_ref02_Add : KK.fc n_ref02_Add = ⟨[], false⟩ := rfl
@[simp] theorem fc_ref02_Sign : KK.fc n_ref02_Sign = ⟨[], false⟩ := rfl
@[simp] theorem fc_ideal_reserved : KK.fc n_ideal_reserved = ⟨[], false⟩ := rfl
@[simp] theorem fc_ideal_meet : KK.fc n_ideal_meet = ⟨[], false⟩ := rfl
@[simp] theorem fc_polynomial_Constant : KK.fc n_polynomial_Constant = ⟨[], false⟩ := rfl
@[simp] theorem fc_rational_Whole : KK.fc n_rational_Whole = ⟨[], false⟩ := rfl
@[simp] theorem fc_mgcd_Divide : KK.fc n_mgcd_Divide = ⟨[], false⟩ := rfl
@[simp] theorem fc_ideal_reduced : KK.fc n_ideal_reduced = ⟨[], false⟩ := rfl
@[simp] theorem fc_ideal_eliminate : KK.fc n_ideal_eliminate = ⟨[], false⟩ := rfl
@[simp] theorem fc_ideal_inverted : KK.fc n_ideal_inverted = ⟨[], false⟩ := rfl
@[simp] theorem fc_slices_Clone_api_Poly_api_Poly : KK.fc n_slices_Clone_api_Poly_api_Poly = ⟨[], false⟩ := rfl
@[simp] theorem fc_slices_ContainsFunc_api_Poly_api_Poly : KK.fc n_slices_ContainsFunc_api_Poly_api_Poly = ⟨[], false⟩ := rfl
@[simp] theorem fc_ideal_Saturate_1 : KK.fc n_ideal_Saturate_1 = ⟨[], false⟩ := rfl
@[simp] theorem fc_ideal_in : KK.fc n_ideal_in = ⟨[], false⟩ := rfl
@[simp] theorem fc_ideal_times : KK.fc n_ideal_times = ⟨[], false⟩ := rfl
@[simp] theorem fc_ref06_Times : KK.fc n_ref06_Times = ⟨[], false⟩ := rfl
@[simp] theorem fc_ref06_Constant : KK.fc n_ref06_Constant = ⟨[], false⟩ := rfl
@[simp] theorem fc_groebner_Basis : KK.fc n_groebner_Basis = ⟨[], false⟩ := rfl
@[simp] theorem fc_order_Reverse : KK.fc n_order_Reverse = ⟨[], true⟩ := rfl
@[simp] theorem fc_division_Divide : KK.fc n_division_Divide = ⟨[], false⟩ := rfl
@[simp] theorem fc_polynomial_Add : KK.fc n_polynomial_Add = ⟨[], false⟩ := rfl
@[simp] theorem fc_ref06_Scale : KK.fc n_ref06_Scale = ⟨[], false⟩ := rfl
@[simp] theorem fc_ref06_SameTerm : KK.fc n_ref06_SameTerm = ⟨[], false⟩ := rfl
@[simp] theorem fc_ref06_Mul : KK.fc n_ref06_Mul = ⟨[], false⟩ := rfl
@[simp] theorem fc_slices_EqualFunc_api_Poly_api_Poly_api_Poly_api_Poly : KK.fc n_slices_EqualFunc_api_Poly_api_Poly_api_Poly_api_Poly = ⟨[], false⟩ := rfl
@[simp] theorem fc_polynomial_Same : KK.fc n_polynomial_Same = ⟨[], false⟩ := rfl
@[simp] theorem fc_ref06_abs : KK.fc n_ref06_abs = ⟨[], false⟩ := rfl
@[simp] theorem fc_ref01_Of : KK.fc n_ref01_Of = ⟨[], false⟩ := rfl
@[simp] theorem fc_ref02_lowest : KK.fc n_ref02_lowest = ⟨[], false⟩ := rfl
@[simp] theorem fc_ref01_Add : KK.fc n_ref01_Add = ⟨[], false⟩ := rfl
@[simp] theorem fc_ref01_Mul : KK.fc n_ref01_Mul = ⟨[], false⟩ := rfl
@[simp] theorem fc_ref01_Sign : KK.fc n_ref01_Sign = ⟨[], false⟩ := rfl
@[simp] theorem fc_ideal_reserved_1 : KK.fc n_ideal_reserved_1 = ⟨[], false⟩ := rfl
@[simp] theorem fc_polynomial_Uses : KK.fc n_polynomial_Uses = ⟨[], false⟩ := rfl
@[simp] theorem fc_polynomial_Var : KK.fc n_polynomial_Var = ⟨[], false⟩ := rfl
@[simp] theorem fc_polynomial_Sub : KK.fc n_polynomial_Sub = ⟨[], false⟩ := rfl
@[simp] theorem fc_rational_Sign : KK.fc n_rational_Sign = ⟨[], false⟩ := rfl
@[simp] theorem fc_rational_of : KK.fc n_rational_of = ⟨[], false⟩ := rfl
@[simp] theorem fc_integer_Of : KK.fc n_integer_Of = ⟨[], false⟩ := rfl
@[simp] theorem fc_monomial_Quo : KK.fc n_monomial_Quo = ⟨[], false⟩ := rfl
@[simp] theorem fc_rational_Div : KK.fc n_rational_Div = ⟨[], false⟩ := rfl
@[simp] theorem fc_polynomial_Times : KK.fc n_polynomial_Times = ⟨[], false⟩ := rfl
@[simp] theorem fc_ideal_basis : KK.fc n_ideal_basis = ⟨[], false⟩ := rfl
@[simp] theorem fc_order_Eliminating : KK.fc n_order_Eliminating = ⟨[], false⟩ := rfl
@[simp] theorem fc_slices_DeleteFunc_api_Poly_api_Poly : KK.fc n_slices_DeleteFunc_api_Poly_api_Poly = ⟨[], false⟩ := rfl
@[simp] theorem fc_ideal_eliminate_1 : KK.fc n_ideal_eliminate_1 = ⟨[], false⟩ := rfl
@[simp] theorem fc_slices_IndexFunc_api_Poly_api_Poly : KK.fc n_slices_IndexFunc_api_Poly_api_Poly = ⟨[], false⟩ := rfl
@[simp] theorem fc_polynomial_Mul : KK.fc n_polynomial_Mul = ⟨[], false⟩ := rfl
@[simp] theorem fc_ref04_Mul : KK.fc n_ref04_Mul = ⟨[], false⟩ := rfl
@[simp] theorem fc_ref02_Mul : KK.fc n_ref02_Mul = ⟨[], false⟩ := rfl
@[simp] theorem fc_order_Valid : KK.fc n_order_Valid = ⟨[], false⟩ := rfl
@[simp] theorem fc_groebner_builder_add : KK.fc n_groebner_builder_add = ⟨[], false⟩ := rfl
@[simp] theorem fc_groebner_ordering_element : KK.fc n_groebner_ordering_element = ⟨[], false⟩ := rfl
@[simp] theorem fc_groebner_builder_complete : KK.fc n_groebner_builder_complete = ⟨[], false⟩ := rfl
@[simp] theorem fc_slices_Clone_api_Order_8_int : KK.fc n_slices_Clone_api_Order_8_int = ⟨[], false⟩ := rfl
@[simp] theorem fc_groebner_ordering_finish : KK.fc n_groebner_ordering_finish = ⟨[], false⟩ := rfl
@[simp] theorem fc_order_Graded : KK.fc n_order_Graded = ⟨[], true⟩ := rfl
@[simp] theorem fc_order_unit : KK.fc n_order_unit = ⟨[], false⟩ := rfl
@[simp] theorem fc_division_divide : KK.fc n_division_divide = ⟨[], false⟩ := rfl
@[simp] theorem fc_division_leadsOf : KK.fc n_division_leadsOf = ⟨[], false⟩ := rfl
@[simp] theorem fc_polynomial_merge : KK.fc n_polynomial_merge = ⟨[], false⟩ := rfl
@[simp] theorem fc_rational_Add : KK.fc n_rational_Add = ⟨[], false⟩ := rfl
@[simp] theorem fc_polynomial_Add_1 : KK.fc n_polynomial_Add_1 = ⟨[], false⟩ := rfl
@[simp] theorem fc_ref02_Same : KK.fc n_ref02_Same = ⟨[], false⟩ := rfl
@[simp] theorem fc_polynomial_Cmp : KK.fc n_polynomial_Cmp = ⟨[], false⟩ := rfl
@[simp] theorem fc_ref01_made : KK.fc n_ref01_made = ⟨[], false⟩ := rfl
@[simp] theorem fc_ref01_words : KK.fc n_ref01_words = ⟨[], false⟩ := rfl
@[simp] theorem fc_ref01_Gcd : KK.fc n_ref01_Gcd = ⟨[], false⟩ := rfl
@[simp] theorem fc_ref01_Neg : KK.fc n_ref01_Neg = ⟨[], false⟩ := rfl
@[simp] theorem fc_ref02_exact : KK.fc n_ref02_exact = ⟨[], false⟩ := rfl
@[simp] theorem fc_ref01_added : KK.fc n_ref01_added = ⟨[], false⟩ := rfl
@[simp] theorem fc_ref01_compared : KK.fc n_ref01_compared = ⟨[], false⟩ := rfl
@[simp] theorem fc_ref01_taken : KK.fc n_ref01_taken = ⟨[], false⟩ := rfl
@[simp] theorem fc_ref01_times : KK.fc n_ref01_times = ⟨[], true⟩ := rfl
@[simp] theorem fc_monomial_Support : KK.fc n_monomial_Support = ⟨[], false⟩ := rfl
@[simp] theorem fc_rational_Sub : KK.fc n_rational_Sub = ⟨[], false⟩ := rfl
@[simp] theorem fc_rational_Neg : KK.fc n_rational_Neg = ⟨[], false⟩ := rfl
@[simp] theorem fc_integer_Sign : KK.fc n_integer_Sign = ⟨[], false⟩ := rfl
@[simp] theorem fc_integer_natural : KK.fc n_integer_natural = ⟨[], false⟩ := rfl
@[simp] theorem fc_integer_nat_signed : KK.fc n_integer_nat_signed = ⟨[], false⟩ := rfl
@[simp] theorem fc_monomial_Divides : KK.fc n_monomial_Divides = ⟨[], false⟩ := rfl
@[simp] theorem fc_monomial_each : KK.fc n_monomial_each = ⟨[], false⟩ := rfl
@[simp] theorem fc_monomial_Quo_1 : KK.fc n_monomial_Quo_1 = ⟨[], false⟩ := rfl
@[simp] theorem fc_rational_New : KK.fc n_rational_New = ⟨[], false⟩ := rfl
@[simp] theorem fc_rational_product : KK.fc n_rational_product = ⟨[], false⟩ := rfl
@[simp] theorem fc_monomial_Mul : KK.fc n_monomial_Mul = ⟨[], false⟩ := rfl
@[simp] theorem fc_rational_Mul : KK.fc n_rational_Mul = ⟨[], false⟩ := rfl
@[simp] theorem fc_order_ones : KK.fc n_order_ones = ⟨[], false⟩ := rfl
@[simp] theorem fc_polynomial_sum_add : KK.fc n_polynomial_sum_add = ⟨[true, false, false], false⟩ := rfl
@[simp] theorem fc_polynomial_sum_poly : KK.fc n_polynomial_sum_poly = ⟨[], false⟩ := rfl
@[simp] theorem fc_ref04_Valid : KK.fc n_ref04_Valid = ⟨[], false⟩ := rfl
@[simp] theorem fc_monomial_Lcm : KK.fc n_monomial_Lcm = ⟨[], false⟩ := rfl
@[simp] theorem fc_polynomial_Lead : KK.fc n_polynomial_Lead = ⟨[], false⟩ := rfl
@[simp] theorem fc_rational_Inv : KK.fc n_rational_Inv = ⟨[], false⟩ := rfl
@[simp] theorem fc_slices_MinFunc_groebner_pair_groebner_pair : KK.fc n_slices_MinFunc_groebner_pair_groebner_pair = ⟨[], false⟩ := rfl
@[simp] theorem fc_groebner_builder_before : KK.fc n_groebner_builder_before = ⟨[], false⟩ := rfl
@[simp] theorem fc_slices_DeleteFunc_groebner_pair_groebner_pair : KK.fc n_slices_DeleteFunc_groebner_pair_groebner_pair = ⟨[], false⟩ := rfl
@[simp] theorem fc_groebner_builder_complete_1 : KK.fc n_groebner_builder_complete_1 = ⟨[], false⟩ := rfl
@[simp] theorem fc_groebner_builder_needless : KK.fc n_groebner_builder_needless = ⟨[], false⟩ := rfl
@[simp] theorem fc_groebner_combine : KK.fc n_groebner_combine = ⟨[], false⟩ := rfl
@[simp] theorem fc_groebner_ordering_reduce : KK.fc n_groebner_ordering_reduce = ⟨[], false⟩ := rfl
@[simp] theorem fc_slices_Clone_groebner_element_groebner_element : KK.fc n_slices_Clone_groebner_element_groebner_element = ⟨[], false⟩ := rfl
@[simp] theorem fc_slices_SortStableFunc_groebner_element_groebner_element : KK.fc n_slices_SortStableFunc_groebner_element_groebner_element = ⟨[], false⟩ := rfl
@[simp] theorem fc_groebner_ordering_finish_1 : KK.fc n_groebner_ordering_finish_1 = ⟨[], false⟩ := rfl
@[simp] theorem fc_groebner_ordering_compare : KK.fc n_groebner_ordering_compare = ⟨[], false⟩ := rfl
@[simp] theorem fc_slices_ContainsFunc_groebner_element_groebner_element : KK.fc n_slices_ContainsFunc_groebner_element_groebner_element = ⟨[], false⟩ := rfl
@[simp] theorem fc_groebner_ordering_finish_2 : KK.fc n_groebner_ordering_finish_2 = ⟨[], false⟩ := rfl
@[simp] theorem fc_slices_Delete_groebner_element_groebner_element : KK.fc n_slices_Delete_groebner_element_groebner_element = ⟨[], false⟩ := rfl
@[simp] theorem fc_division_leadOf : KK.fc n_division_leadOf = ⟨[], false⟩ := rfl
@[simp] theorem fc_division_lead_under : KK.fc n_division_lead_under = ⟨[], false⟩ := rfl
@[simp] theorem fc_monomial_Cmp : KK.fc n_monomial_Cmp = ⟨[], false⟩ := rfl
@[simp] theorem fc_rational_lowest : KK.fc n_rational_lowest = ⟨[], false⟩ := rfl
@[simp] theorem fc_integer_Add : KK.fc n_integer_Add = ⟨[], false⟩ := rfl
@[simp] theorem fc_ref02_same : KK.fc n_ref02_same = ⟨[], false⟩ := rfl
@[simp] theorem fc_slices_CompareFunc_api_Poly_api_Poly_api_Term_api_Term : KK.fc n_slices_CompareFunc_api_Poly_api_Poly_api_Term_api_Term = ⟨[], false⟩ := rfl
@[simp] theorem fc_polynomial_Cmp_1 : KK.fc n_polynomial_Cmp_1 = ⟨[], false⟩ := rfl
@[simp] theorem fc_rational_Cmp : KK.fc n_rational_Cmp = ⟨[], false⟩ := rfl
@[simp] theorem fc_ref01_trim : KK.fc n_ref01_trim = ⟨[], true⟩ := rfl
@[simp] theorem fc_ref01_common : KK.fc n_ref01_common = ⟨[], false⟩ := rfl
@[simp] theorem fc_ref01_DivMod : KK.fc n_ref01_DivMod = ⟨[], false⟩ := rfl
@[simp] theorem fc_ref01_word : KK.fc n_ref01_word = ⟨[], false⟩ := rfl
@[simp] theorem fc_integer_Sub : KK.fc n_integer_Sub = ⟨[], false⟩ := rfl
@[simp] theorem fc_integer_Neg : KK.fc n_integer_Neg = ⟨[], false⟩ := rfl
@[simp] theorem fc_integer_nat_norm : KK.fc n_integer_nat_norm = ⟨[], false⟩ := rfl
@[simp] theorem fc_slices_Clone_integer_nat_uint32 : KK.fc n_slices_Clone_integer_nat_uint32 = ⟨[], false⟩ := rfl
@[simp] theorem fc_monomial_Gcd : KK.fc n_monomial_Gcd = ⟨[], false⟩ := rfl
@[simp] theorem fc_integer_Mul : KK.fc n_integer_Mul = ⟨[], false⟩ := rfl
@[simp] theorem fc_monomial_Mul_1 : KK.fc n_monomial_Mul_1 = ⟨[], false⟩ := rfl
@[simp] theorem fc_monomial_Valid : KK.fc n_monomial_Valid = ⟨[], false⟩ := rfl
@[simp] theorem fc_slices_SortFunc_api_Poly_api_Term : KK.fc n_slices_SortFunc_api_Poly_api_Term = ⟨[], false⟩ := rfl
@[simp] theorem fc_polynomial_sum_poly_1 : KK.fc n_polynomial_sum_poly_1 = ⟨[], false⟩ := rfl
@[simp] theorem fc_monomial_Lcm_1 : KK.fc n_monomial_Lcm_1 = ⟨[], false⟩ := rfl
@[simp] theorem fc_slices_MaxFunc_api_Poly_api_Term : KK.fc n_slices_MaxFunc_api_Poly_api_Term = ⟨[], false⟩ := rfl
@[simp] theorem fc_polynomial_Lead_1 : KK.fc n_polynomial_Lead_1 = ⟨[], false⟩ := rfl
@[simp] theorem fc_order_Cmp : KK.fc n_order_Cmp = ⟨[], false⟩ := rfl
@[simp] theorem fc_cmp_Or_int : KK.fc n_cmp_Or_int = ⟨[], false⟩ := rfl
@[simp] theorem fc_cmp_Compare_int : KK.fc n_cmp_Compare_int = ⟨[], false⟩ := rfl
@[simp] theorem fc_slices_IndexFunc_groebner_pair_groebner_pair : KK.fc n_slices_IndexFunc_groebner_pair_groebner_pair = ⟨[], false⟩ := rfl
@[simp] theorem fc_groebner_builder_open : KK.fc n_groebner_builder_open = ⟨[], false⟩ := rfl
@[simp] theorem fc_groebner_combine_1 : KK.fc n_groebner_combine_1 = ⟨[], false⟩ := rfl
@[simp] theorem fc_slices_stableCmpFunc_groebner_element : KK.fc n_slices_stableCmpFunc_groebner_element = ⟨[], false⟩ := rfl
@[simp] theorem fc_slices_IndexFunc_groebner_element_groebner_element : KK.fc n_slices_IndexFunc_groebner_element_groebner_element = ⟨[], false⟩ := rfl
@[simp] theorem fc_slices_Compare_int_int : KK.fc n_slices_Compare_int_int = ⟨[], false⟩ := rfl
@[simp] theorem fc_integer_Gcd : KK.fc n_integer_Gcd = ⟨[], false⟩ := rfl
@[simp] theorem fc_integer_DivMod : KK.fc n_integer_DivMod = ⟨[], false⟩ := rfl
@[simp] theorem fc_integer_nat_add : KK.fc n_integer_nat_add = ⟨[], false⟩ := rfl
@[simp] theorem fc_integer_nat_cmp : KK.fc n_integer_nat_cmp = ⟨[], false⟩ := rfl
@[simp] theorem fc_integer_nat_sub : KK.fc n_integer_nat_sub = ⟨[], false⟩ := rfl
@[simp] theorem fc_integer_Cmp : KK.fc n_integer_Cmp = ⟨[], false⟩ := rfl
@[simp] theorem fc_ref01_euclid : KK.fc n_ref01_euclid = ⟨[], false⟩ := rfl
@[simp] theorem fc_ref01_number : KK.fc n_ref01_number = ⟨[], false⟩ := rfl
@[simp] theorem fc_ref01_divided : KK.fc n_ref01_divided = ⟨[], false⟩ := rfl
@[simp] theorem fc_monomial_Gcd_1 : KK.fc n_monomial_Gcd_1 = ⟨[], false⟩ := rfl
@[simp] theorem fc_integer_nat_mul : KK.fc n_integer_nat_mul = ⟨[], false⟩ := rfl
@[simp] theorem fc_slices_pdqsortCmpFunc_api_Term : KK.fc n_slices_pdqsortCmpFunc_api_Term = ⟨[], false⟩ := rfl
@[simp] theorem fc_math_bits_Len : KK.fc n_math_bits_Len = ⟨[], false⟩ := rfl
@[simp] theorem fc_cmp_isNaN_int : KK.fc n_cmp_isNaN_int = ⟨[], false⟩ := rfl
@[simp] theorem fc_slices_ContainsFunc_groebner_pair_groebner_pair : KK.fc n_slices_ContainsFunc_groebner_pair_groebner_pair = ⟨[], false⟩ := rfl
@[simp] theorem fc_groebner_builder_open_1 : KK.fc n_groebner_builder_open_1 = ⟨[], false⟩ := rfl
@[simp] theorem fc_slices_insertionSortCmpFunc_groebner_element : KK.fc n_slices_insertionSortCmpFunc_groebner_element = ⟨[], false⟩ := rfl
@[simp] theorem fc_slices_symMergeCmpFunc_groebner_element : KK.fc n_slices_symMergeCmpFunc_groebner_element = ⟨[], false⟩ := rfl
@[simp] theorem fc_integer_nat_div : KK.fc n_integer_nat_div = ⟨[], false⟩ := rfl
@[simp] theorem fc_math_bits_Add32 : KK.fc n_math_bits_Add32 = ⟨[], false⟩ := rfl
@[simp] theorem fc_integer_nat_at : KK.fc n_integer_nat_at = ⟨[], false⟩ := rfl
@[simp] theorem fc_cmp_Compare_uint32 : KK.fc n_cmp_Compare_uint32 = ⟨[], false⟩ := rfl
@[simp] theorem fc_math_bits_Sub32 : KK.fc n_math_bits_Sub32 = ⟨[], false⟩ := rfl
@[simp] theorem fc_ref01_shortly : KK.fc n_ref01_shortly = ⟨[], false⟩ := rfl
@[simp] theorem fc_ref01_guess : KK.fc n_ref01_guess = ⟨[], false⟩ := rfl
@[simp] theorem fc_ref01_lessen : KK.fc n_ref01_lessen = ⟨[true, false, false], false⟩ := rfl
@[simp] theorem fc_ref01_restore : KK.fc n_ref01_restore = ⟨[true, false], false⟩ := rfl
@[simp] theorem fc_slices_insertionSortCmpFunc_api_Term : KK.fc n_slices_insertionSortCmpFunc_api_Term = ⟨[], false⟩ := rfl
@[simp] theorem fc_slices_heapSortCmpFunc_api_Term : KK.fc n_slices_heapSortCmpFunc_api_Term = ⟨[], false⟩ := rfl
@[simp] theorem fc_slices_breakPatternsCmpFunc_api_Term : KK.fc n_slices_breakPatternsCmpFunc_api_Term = ⟨[], false⟩ := rfl
@[simp] theorem fc_slices_choosePivotCmpFunc_api_Term : KK.fc n_slices_choosePivotCmpFunc_api_Term = ⟨[], false⟩ := rfl
@[simp] theorem fc_slices_reverseRangeCmpFunc_api_Term : KK.fc n_slices_reverseRangeCmpFunc_api_Term = ⟨[], false⟩ := rfl
@[simp] theorem fc_slices_partialInsertionSortCmpFunc_api_Term : KK.fc n_slices_partialInsertionSortCmpFunc_api_Term = ⟨[], false⟩ := rfl
@[simp] theorem fc_slices_partitionEqualCmpFunc_api_Term : KK.fc n_slices_partitionEqualCmpFunc_api_Term = ⟨[], false⟩ := rfl
@[simp] theorem fc_slices_partitionCmpFunc_api_Term : KK.fc n_slices_partitionCmpFunc_api_Term = ⟨[], false⟩ := rfl
@[simp] theorem fc_math_bits_Len32 : KK.fc n_math_bits_Len32 = ⟨[], false⟩ := rfl
@[simp] theorem fc_math_bits_Len64 : KK.fc n_math_bits_Len64 = ⟨[], false⟩ := rfl
@[simp] theorem fc_slices_rotateCmpFunc_groebner_element : KK.fc n_slices_rotateCmpFunc_groebner_element = ⟨[], false⟩ := rfl
@[simp] theorem fc_integer_nat_word : KK.fc n_integer_nat_word = ⟨[], false⟩ := rfl
@[simp] theorem fc_math_bits_LeadingZeros32 : KK.fc n_math_bits_LeadingZeros32 = ⟨[], false⟩ := rfl
@[simp] theorem fc_integer_nat_shl : KK.fc n_integer_nat_shl = ⟨[], true⟩ := rfl
@[simp] theorem fc_integer_nat_reduce : KK.fc n_integer_nat_reduce = ⟨[true, false], false⟩ := rfl
@[simp] theorem fc_integer_nat_shr : KK.fc n_integer_nat_shr = ⟨[], false⟩ := rfl
@[simp] theorem fc_cmp_isNaN_uint32 : KK.fc n_cmp_isNaN_uint32 = ⟨[], false⟩ := rfl
@[simp] theorem fc_slices_siftDownCmpFunc_api_Term : KK.fc n_slices_siftDownCmpFunc_api_Term = ⟨[], false⟩ := rfl
@[simp] theorem fc_slices_nextPowerOfTwo : KK.fc n_slices_nextPowerOfTwo = ⟨[], false⟩ := rfl
@[simp] theorem fc_slices_xorshift_Next : KK.fc n_slices_xorshift_Next = ⟨[true], false⟩ := rfl
@[simp] theorem fc_slices_medianAdjacentCmpFunc_api_Term : KK.fc n_slices_medianAdjacentCmpFunc_api_Term = ⟨[], false⟩ := rfl
@[simp] theorem fc_slices_medianCmpFunc_api_Term : KK.fc n_slices_medianCmpFunc_api_Term = ⟨[], false⟩ := rfl
@[simp] theorem fc_slices_swapRangeCmpFunc_groebner_element : KK.fc n_slices_swapRangeCmpFunc_groebner_element = ⟨[], false⟩ := rfl
@[simp] theorem fc_math_bits_Div32 : KK.fc n_math_bits_Div32 = ⟨[], false⟩ := rfl
@[simp] theorem fc_slices_order2CmpFunc_api_Term : KK.fc n_slices_order2CmpFunc_api_Term = ⟨[], false⟩ := rfl
@[simp] theorem fc_runtime_boundsError_Error : KK.fc n_runtime_boundsError_Error = ⟨[], false⟩ := rfl
@[simp] theorem fc_runtime_boundsError_RuntimeError : KK.fc n_runtime_boundsError_RuntimeError = ⟨[], false⟩ := rfl
@[simp] theorem fc_runtime_errorString_Error : KK.fc n_runtime_errorString_Error = ⟨[], false⟩ := rfl
@[simp] theorem fc_runtime_errorString_RuntimeError : KK.fc n_runtime_errorString_RuntimeError = ⟨[], false⟩ := rfl
@[simp] theorem fc_runtime_plainError_Error : KK.fc n_runtime_plainError_Error = ⟨[], false⟩ := rfl
@[simp] theorem fc_runtime_plainError_RuntimeError : KK.fc n_runtime_plainError_RuntimeError = ⟨[], false⟩ := rfl
@[simp] theorem fc_runtime_errorAddressString_Error : KK.fc n_runtime_errorAddressString_Error = ⟨[], false⟩ := rfl
@[simp] theorem fc_runtime_errorAddressString_RuntimeError : KK.fc n_runtime_errorAddressString_RuntimeError = ⟨[], false⟩ := rfl
@[simp] theorem fc_runtime_TypeAssertionError_Error : KK.fc n_runtime_TypeAssertionError_Error = ⟨[], false⟩ := rfl
@[simp] theorem fc_runtime_TypeAssertionError_RuntimeError : KK.fc n_runtime_TypeAssertionError_RuntimeError = ⟨[], false⟩ := rfl
@[simp] theorem fc_runtime_PanicNilError_Error : KK.fc n_runtime_PanicNilError_Error = ⟨[], false⟩ := rfl
@[simp] theorem fc_runtime_PanicNilError_RuntimeError : KK.fc n_runtime_PanicNilError_RuntimeError = ⟨[], false⟩ := rfl
@[simp] theorem fc_internal_abi_Type_Align : KK.fc n_internal_abi_Type_Align = ⟨[], false⟩ := rfl
@[simp] theorem fc_internal_runtime_maps_unhashableTypeError_Error : KK.fc n_internal_runtime_maps_unhashableTypeError_Error = ⟨[], false⟩ := rfl
@[simp] theorem fc_internal_runtime_maps_unhashableTypeError_RuntimeError : KK.fc n_internal_runtime_maps_unhashableTypeError_RuntimeError = ⟨[], false⟩ := rfl
@[simp] theorem fc_api_Errno_Error : KK.fc n_api_Errno_Error = ⟨[], false⟩ := rfl
@[simp] theorem fc_errors_errorString_Error : KK.fc n_errors_errorString_Error = ⟨[], false⟩ := rfl
@[simp] theorem fc_internal_abi_Kind_String : KK.fc n_internal_abi_Kind_String = ⟨[], false⟩ := rfl
@[simp] theorem fc_law19_SyzygyIs : KK.fc n_law19_SyzygyIs = ⟨[], false⟩ := rfl
@[simp] theorem fc_law19_SyzygySchreyer : KK.fc n_law19_SyzygySchreyer = ⟨[], false⟩ := rfl
@[simp] theorem fc_law19_SyzygyErrors : KK.fc n_law19_SyzygyErrors = ⟨[], false⟩ := rfl
@[simp] theorem fc_law19_SyzygyExpresses : KK.fc n_law19_SyzygyExpresses = ⟨[], false⟩ := rfl
@[simp] theorem fc_law13_GroebnerMatchesReference : KK.fc n_law13_GroebnerMatchesReference = ⟨[], false⟩ := rfl
@[simp] theorem fc_law13_GroebnerHolds : KK.fc n_law13_GroebnerHolds = ⟨[], false⟩ := rfl
@[simp] theorem fc_law13_GroebnerMembers : KK.fc n_law13_GroebnerMembers = ⟨[], false⟩ := rfl
@[simp] theorem fc_law13_GroebnerUnique : KK.fc n_law13_GroebnerUnique = ⟨[], false⟩ := rfl
@[simp] theorem fc_law13_GroebnerReduces : KK.fc n_law13_GroebnerReduces = ⟨[], false⟩ := rfl
@[simp] theorem fc_law13_GroebnerPoints : KK.fc n_law13_GroebnerPoints = ⟨[], false⟩ := rfl
@[simp] theorem fc_law13_GroebnerLinear : KK.fc n_law13_GroebnerLinear = ⟨[], false⟩ := rfl
@[simp] theorem fc_law13_GroebnerExtends : KK.fc n_law13_GroebnerExtends = ⟨[], false⟩ := rfl
@[simp] theorem fc_law13_GroebnerOrders : KK.fc n_law13_GroebnerOrders = ⟨[], false⟩ := rfl
@[simp] theorem fc_law19_SyzygyGenerates : KK.fc n_law19_SyzygyGenerates = ⟨[], false⟩ := rfl
@[simp] theorem fc_law19_SyzygyPairs : KK.fc n_law19_SyzygyPairs = ⟨[], false⟩ := rfl
@[simp] theorem fc_law19_sanity : KK.fc n_law19_sanity = ⟨[], false⟩ := rfl
@[simp] theorem fc_ref13_Polys : KK.fc n_ref13_Polys = ⟨[], false⟩ := rfl
@[simp] theorem fc_law19_poly : KK.fc n_law19_poly = ⟨[], false⟩ := rfl
@[simp] theorem fc_ref06_By : KK.fc n_ref06_By = ⟨[], false⟩ := rfl
@[simp] theorem fc_syzygy_Is : KK.fc n_syzygy_Is = ⟨[], false⟩ := rfl
@[simp] theorem fc_ref19_Is : KK.fc n_ref19_Is = ⟨[], false⟩ := rfl
@[simp] theorem fc_ref05_Some : KK.fc n_ref05_Some = ⟨[], false⟩ := rfl
@[simp] theorem fc_ref13_Of : KK.fc n_ref13_Of = ⟨[], true⟩ := rfl
@[simp] theorem fc_syzygy_Schreyer : KK.fc n_syzygy_Schreyer = ⟨[], false⟩ := rfl
@[simp] theorem fc_ref19_Schreyer : KK.fc n_ref19_Schreyer = ⟨[], false⟩ := rfl
@[simp] theorem fc_ref06_SameList : KK.fc n_ref06_SameList = ⟨[], false⟩ := rfl
@[simp] theorem fc_ref05_Valid : KK.fc n_ref05_Valid = ⟨[], false⟩ := rfl
@[simp] theorem fc_ref06_Nonzero : KK.fc n_ref06_Nonzero = ⟨[], false⟩ := rfl
@[simp] theorem fc_ref12_IsBasis : KK.fc n_ref12_IsBasis = ⟨[], false⟩ := rfl
@[simp] theorem fc_syzygy_Express : KK.fc n_syzygy_Express = ⟨[], false⟩ := rfl
@[simp] theorem fc_ref19_Shaped : KK.fc n_ref19_Shaped = ⟨[], false⟩ := rfl
@[simp] theorem fc_ref19_Plus : KK.fc n_ref19_Plus = ⟨[], false⟩ := rfl
@[simp] theorem fc_ref06_ValidList : KK.fc n_ref06_ValidList = ⟨[], false⟩ := rfl
@[simp] theorem fc_ref19_Combined : KK.fc n_ref19_Combined = ⟨[], true⟩ := rfl
@[simp] theorem fc_law13_sanity : KK.fc n_law13_sanity = ⟨[], false⟩ := rfl
@[simp] theorem fc_law13_right : KK.fc n_law13_right = ⟨[], false⟩ := rfl
@[simp] theorem fc_groebner_Holds : KK.fc n_groebner_Holds = ⟨[], false⟩ := rfl
@[simp] theorem fc_ref13_Basis : KK.fc n_ref13_Basis = ⟨[], false⟩ := rfl
@[simp] theorem fc_law13_spoil : KK.fc n_law13_spoil = ⟨[], false⟩ := rfl
@[simp] theorem fc_ref13_Holds : KK.fc n_ref13_Holds = ⟨[], false⟩ := rfl
@[simp] theorem fc_ref13_Expressed : KK.fc n_ref13_Expressed = ⟨[], false⟩ := rfl
@[simp] theorem fc_law13_sum : KK.fc n_law13_sum = ⟨[], false⟩ := rfl
@[simp] theorem fc_ref12_Rest : KK.fc n_ref12_Rest = ⟨[], false⟩ := rfl
@[simp] theorem fc_groebner_Reduced : KK.fc n_groebner_Reduced = ⟨[], false⟩ := rfl
@[simp] theorem fc_ref02_Made : KK.fc n_ref02_Made = ⟨[], false⟩ := rfl
@[simp] theorem fc_ref06_Eval : KK.fc n_ref06_Eval = ⟨[], false⟩ := rfl
@[simp] theorem fc_ref13_Lines : KK.fc n_ref13_Lines = ⟨[], false⟩ := rfl
@[simp] theorem fc_ref11_Echelon : KK.fc n_ref11_Echelon = ⟨[], false⟩ := rfl
@[simp] theorem fc_ref06_X : KK.fc n_ref06_X = ⟨[], false⟩ := rfl
@[simp] theorem fc_ref06_Degree : KK.fc n_ref06_Degree = ⟨[], false⟩ := rfl
@[simp] theorem fc_ref06_Int : KK.fc n_ref06_Int = ⟨[], false⟩ := rfl
@[simp] theorem fc_ref05_Lex : KK.fc n_ref05_Lex = ⟨[], false⟩ := rfl
@[simp] theorem fc_groebner_Extend : KK.fc n_groebner_Extend = ⟨[], false⟩ := rfl
@[simp] theorem fc_syzygy_Of : KK.fc n_syzygy_Of = ⟨[], false⟩ := rfl
@[simp] theorem fc_ref19_Small : KK.fc n_ref19_Small = ⟨[], false⟩ := rfl
@[simp] theorem fc_ref19_Module : KK.fc n_ref19_Module = ⟨[], false⟩ := rfl
@[simp] theorem fc_ref19_Of : KK.fc n_ref19_Of = ⟨[], false⟩ := rfl
@[simp] theorem fc_ref19_Inside : KK.fc n_ref19_Inside = ⟨[], false⟩ := rfl
@[simp] theorem fc_ref08_Gcd : KK.fc n_ref08_Gcd = ⟨[], false⟩ := rfl
@[simp] theorem fc_ref08_Divide : KK.fc n_ref08_Divide = ⟨[], false⟩ := rfl
@[simp] theorem fc_ref05_Reverse : KK.fc n_ref05_Reverse = ⟨[], true⟩ := rfl
@[simp] theorem fc_division_Sum : KK.fc n_division_Sum = ⟨[], false⟩ := rfl
@[simp] theorem fc_ref12_Is : KK.fc n_ref12_Is = ⟨[], false⟩ := rfl
@[simp] theorem fc_ref05_Graded : KK.fc n_ref05_Graded = ⟨[], true⟩ := rfl
@[simp] theorem fc_ref05_Eliminating : KK.fc n_ref05_Eliminating = ⟨[], false⟩ := rfl
@[simp] theorem fc_ref13_polys : KK.fc n_ref13_polys = ⟨[], false⟩ := rfl
@[simp] theorem fc_ref13_finished : KK.fc n_ref13_finished = ⟨[], true⟩ := rfl
@[simp] theorem fc_ref13_closed : KK.fc n_ref13_closed = ⟨[true, false], false⟩ := rfl
@[simp] theorem fc_ref13_plain : KK.fc n_ref13_plain = ⟨[], true⟩ := rfl
@[simp] theorem fc_syzygy_Schreyer_1 : KK.fc n_syzygy_Schreyer_1 = ⟨[], false⟩ := rfl
@[simp] theorem fc_division_IsBasis : KK.fc n_division_IsBasis = ⟨[], false⟩ := rfl
@[simp] theorem fc_syzygy_leads : KK.fc n_syzygy_leads = ⟨[], false⟩ := rfl
@[simp] theorem fc_division_Spair : KK.fc n_division_Spair = ⟨[], false⟩ := rfl
@[simp] theorem fc_syzygy_vector_scaled : KK.fc n_syzygy_vector_scaled = ⟨[], true⟩ := rfl
@[simp] theorem fc_syzygy_constant : KK.fc n_syzygy_constant = ⟨[], false⟩ := rfl
@[simp] theorem fc_syzygy_quotient : KK.fc n_syzygy_quotient = ⟨[], false⟩ := rfl
@[simp] theorem fc_ref19_wrong : KK.fc n_ref19_wrong = ⟨[], false⟩ := rfl
@[simp] theorem fc_ref19_pair : KK.fc n_ref19_pair = ⟨[], true⟩ := rfl
@[simp] theorem fc_ref12_Spair : KK.fc n_ref12_Spair = ⟨[], false⟩ := rfl
@[simp] theorem fc_syzygy_vector_plus : KK.fc n_syzygy_vector_plus = ⟨[], true⟩ := rfl
@[simp] theorem fc_ref06_Valid : KK.fc n_ref06_Valid = ⟨[], false⟩ := rfl
@[simp] theorem fc_ref05_Same : KK.fc n_ref05_Same = ⟨[], false⟩ := rfl
@[simp] theorem fc_groebner_Holds_1 : KK.fc n_groebner_Holds_1 = ⟨[], false⟩ := rfl
@[simp] theorem fc_ref13_Elems : KK.fc n_ref13_Elems = ⟨[], false⟩ := rfl
@[simp] theorem fc_ref12_Reduced : KK.fc n_ref12_Reduced = ⟨[], false⟩ := rfl
@[simp] theorem fc_ref12_Div : KK.fc n_ref12_Div = ⟨[], true⟩ := rfl
@[simp] theorem fc_ref06_power : KK.fc n_ref06_power = ⟨[], false⟩ := rfl
@[simp] theorem fc_ref11_combined : KK.fc n_ref11_combined = ⟨[], false⟩ := rfl
@[simp] theorem fc_ref02_Neg : KK.fc n_ref02_Neg = ⟨[], false⟩ := rfl
@[simp] theorem fc_ref11_Lead : KK.fc n_ref11_Lead = ⟨[], false⟩ := rfl
@[simp] theorem fc_ref02_Inv : KK.fc n_ref02_Inv = ⟨[], false⟩ := rfl
@[simp] theorem fc_ref11_Zeros : KK.fc n_ref11_Zeros = ⟨[], false⟩ := rfl
@[simp] theorem fc_ref04_Degree : KK.fc n_ref04_Degree = ⟨[], false⟩ := rfl
@[simp] theorem fc_syzygy_Of_1 : KK.fc n_syzygy_Of_1 = ⟨[], false⟩ := rfl
@[simp] theorem fc_ref06_Uses : KK.fc n_ref06_Uses = ⟨[], false⟩ := rfl
@[simp] theorem fc_ref19_vector : KK.fc n_ref19_vector = ⟨[], false⟩ := rfl
@[simp] theorem fc_ref08_common : KK.fc n_ref08_common = ⟨[], false⟩ := rfl
@[simp] theorem fc_ref08_fits : KK.fc n_ref08_fits = ⟨[], false⟩ := rfl
@[simp] theorem fc_ref02_Div : KK.fc n_ref02_Div = ⟨[], false⟩ := rfl
@[simp] theorem fc_ref08_mul : KK.fc n_ref08_mul = ⟨[], false⟩ := rfl
@[simp] theorem fc_ref05_unit : KK.fc n_ref05_unit = ⟨[], false⟩ := rfl
@[simp] theorem fc_ref12_Sum : KK.fc n_ref12_Sum = ⟨[], false⟩ := rfl
@[simp] theorem fc_ref05_In : KK.fc n_ref05_In = ⟨[], false⟩ := rfl
@[simp] theorem fc_ref13_needless : KK.fc n_ref13_needless = ⟨[], false⟩ := rfl
@[simp] theorem fc_ref13_others : KK.fc n_ref13_others = ⟨[], false⟩ := rfl
@[simp] theorem fc_ref13_rest : KK.fc n_ref13_rest = ⟨[], false⟩ := rfl
@[simp] theorem fc_ref05_Cmp : KK.fc n_ref05_Cmp = ⟨[], false⟩ := rfl
@[simp] theorem fc_ref13_lead : KK.fc n_ref13_lead = ⟨[], false⟩ := rfl
@[simp] theorem fc_ref04_Gcd : KK.fc n_ref04_Gcd = ⟨[], false⟩ := rfl
@[simp] theorem fc_ref13_spair : KK.fc n_ref13_spair = ⟨[], false⟩ := rfl
@[simp] theorem fc_ref13_monic : KK.fc n_ref13_monic = ⟨[], false⟩ := rfl
@[simp] theorem fc_division_pairs : KK.fc n_division_pairs = ⟨[], false⟩ := rfl
@[simp] theorem fc_monomial_Degree : KK.fc n_monomial_Degree = ⟨[], false⟩ := rfl
@[simp] theorem fc_ref19_zero : KK.fc n_ref19_zero = ⟨[], false⟩ := rfl
@[simp] theorem fc_ref06_Lead : KK.fc n_ref06_Lead = ⟨[], false⟩ := rfl
@[simp] theorem fc_ref04_Lcm : KK.fc n_ref04_Lcm = ⟨[], false⟩ := rfl
@[simp] theorem fc_ref19_over : KK.fc n_ref19_over = ⟨[], false⟩ := rfl
@[simp] theorem fc_ref12_times : KK.fc n_ref12_times = ⟨[], false⟩ := rfl
@[simp] theorem fc_ref12_over : KK.fc n_ref12_over = ⟨[], false⟩ := rfl
@[simp] theorem fc_slices_Clone_syzygy_vector_api_Poly : KK.fc n_slices_Clone_syzygy_vector_api_Poly = ⟨[], true⟩ := rfl
@[simp] theorem fc_ref02_Valid : KK.fc n_ref02_Valid = ⟨[], false⟩ := rfl
@[simp] theorem fc_ref04_Divides : KK.fc n_ref04_Divides = ⟨[], false⟩ := rfl
@[simp] theorem fc_ref12_first : KK.fc n_ref12_first = ⟨[], false⟩ := rfl
@[simp] theorem fc_ref02_New : KK.fc n_ref02_New = ⟨[], false⟩ := rfl
@[simp] theorem fc_ref04_Support : KK.fc n_ref04_Support = ⟨[], false⟩ := rfl
@[simp] theorem fc_ref08_Normal : KK.fc n_ref08_Normal = ⟨[], false⟩ := rfl
@[simp] theorem fc_ref08_first : KK.fc n_ref08_first = ⟨[], false⟩ := rfl
@[simp] theorem fc_ref08_one : KK.fc n_ref08_one = ⟨[], false⟩ := rfl
@[simp] theorem fc_ref08_content : KK.fc n_ref08_content = ⟨[], false⟩ := rfl
@[simp] theorem fc_ref08_over : KK.fc n_ref08_over = ⟨[], false⟩ := rfl
@[simp] theorem fc_ref08_Degree : KK.fc n_ref08_Degree = ⟨[], false⟩ := rfl
@[simp] theorem fc_ref08_remainder : KK.fc n_ref08_remainder = ⟨[], false⟩ := rfl
@[simp] theorem fc_ref13_minus : KK.fc n_ref13_minus = ⟨[], false⟩ := rfl
@[simp] theorem fc_ref05_weight : KK.fc n_ref05_weight = ⟨[], false⟩ := rfl
@[simp] theorem fc_ref04_Quo : KK.fc n_ref04_Quo = ⟨[], false⟩ := rfl
@[simp] theorem fc_ref13_scale : KK.fc n_ref13_scale = ⟨[], false⟩ := rfl
@[simp] theorem fc_division_pairs_1 : KK.fc n_division_pairs_1 = ⟨[], false⟩ := rfl
@[simp] theorem fc_ref01_Valid : KK.fc n_ref01_Valid = ⟨[], false⟩ := rfl
@[simp] theorem fc_ref01_Cmp : KK.fc n_ref01_Cmp = ⟨[], false⟩ := rfl
@[simp] theorem fc_ref04_Bit : KK.fc n_ref04_Bit = ⟨[], false⟩ := rfl
@[simp] theorem fc_ref08_Coeffs : KK.fc n_ref08_Coeffs = ⟨[], false⟩ := rfl
@[simp] theorem fc_ref08_Shift : KK.fc n_ref08_Shift = ⟨[], false⟩ := rfl
end Go.Ev

/- Code of functions, printed from the translation by a program of mine. -/
set_option maxRecDepth 100000
namespace Go.Ev
/- eliminant/eliminantref06.Add -/
def l_ref06_Add_0 : C :=
 .seq (.seq (.reg [⟨none, .mv 10 (.t 6)⟩,
 ⟨none, .mv 11 (.t 0)⟩,
 ⟨none, .len 12 (.t 11)⟩,
 ⟨none, .bin 13 .lss (.t 10) (.t 12)⟩,
 ⟨none, .mv 14 (.t 13)⟩,
 ⟨some (14, false, 15), .mv 15 (.t 7)⟩,
 ⟨some (14, false, 16), .mv 16 (.t 1)⟩,
 ⟨some (14, false, 17), .len 17 (.t 16)⟩,
 ⟨some (14, false, 18), .bin 18 .lss (.t 15) (.t 17)⟩,
 ⟨none, .pick 19 (.t 14) (.c (.b true)) (.t 18)⟩])
 (.cond (.t 19) (.skip)
 (.exit 0)))
 (.block 1 (.seq (.seq (.reg [⟨none, .mv 20 (.t 7)⟩,
 ⟨none, .mv 21 (.t 1)⟩,
 ⟨none, .len 22 (.t 21)⟩,
 ⟨none, .bin 23 .eql (.t 20) (.t 22)⟩,
 ⟨none, .mv 24 (.t 23)⟩,
 ⟨some (24, false, 25), .mv 25 (.t 6)⟩,
 ⟨some (24, false, 26), .mv 26 (.t 0)⟩,
 ⟨some (24, false, 27), .len 27 (.t 26)⟩,
 ⟨some (24, false, 28), .bin 28 .lss (.t 25) (.t 27)⟩,
 ⟨some (24, false, 29), .mv 29 (.t 28)⟩,
 ⟨some (29, true, 30), .mv 30 (.t 0)⟩,
 ⟨some (29, true, 31), .mv 31 (.t 6)⟩,
 ⟨some (29, true, 32), .iaddrS 32 12 (.t 30) (.t 31)⟩,
 ⟨some (29, true, 33), .faddr 33 4 (.t 32)⟩,
 ⟨some (29, true, 34), .load 34 8 true (.t 33)⟩,
 ⟨some (29, true, 35), .mv 35 (.t 1)⟩,
 ⟨some (29, true, 36), .mv 36 (.t 7)⟩,
 ⟨some (29, true, 37), .iaddrS 37 12 (.t 35) (.t 36)⟩,
 ⟨some (29, true, 38), .faddr 38 4 (.t 37)⟩,
 ⟨some (29, true, 39), .load 39 8 true (.t 38)⟩,
 ⟨some (29, true, 40), .call (some 40) n_ref04_Cmp [.t 34, .t 39]⟩,
 ⟨some (29, true, 41), .bin 41 .gtr (.t 40) (.c (.i .i64 0))⟩,
 ⟨some (24, false, 42), .pick 42 (.t 29) (.t 41) (.c (.b false))⟩,
 ⟨none, .pick 43 (.t 24) (.c (.b true)) (.t 42)⟩])
 (.cond (.t 43) (.seq (.reg [⟨none, .mv 44 (.t 5)⟩,
 ⟨none, .mv 45 (.t 0)⟩,
 ⟨none, .mv 46 (.t 6)⟩,
 ⟨none, .iaddrS 47 12 (.t 45) (.t 46)⟩,
 ⟨none, .load 48 12 true (.t 47)⟩,
 ⟨none, .bslice 49 1 12 [.b false, .sl 0 [], .b false, .sl 0 [], .i .i64 0, .i .i64 0, .i .i64 0, .i .i64 0, .i .i64 0, .i .i64 0, .i .i64 0, .i .i64 0] [(0, 12, .t 48)]⟩,
 ⟨none, .append 50 12 128 (.t 44) (.t 49)⟩,
 ⟨none, .mv 5 (.t 50)⟩])
 (.seq (.reg [⟨none, .mv 51 (.t 6)⟩,
 ⟨none, .bin 52 .add (.t 51) (.c (.i .i64 1))⟩,
 ⟨none, .mv 6 (.t 52)⟩])
 (.exit 1)))
 (.skip)))
 (.seq (.seq (.reg [⟨none, .mv 53 (.t 6)⟩,
 ⟨none, .mv 54 (.t 0)⟩,
 ⟨none, .len 55 (.t 54)⟩,
 ⟨none, .bin 56 .eql (.t 53) (.t 55)⟩,
 ⟨none, .mv 57 (.t 56)⟩,
 ⟨some (57, false, 58), .mv 58 (.t 0)⟩,
 ⟨some (57, false, 59), .mv 59 (.t 6)⟩,
 ⟨some (57, false, 60), .iaddrS 60 12 (.t 58) (.t 59)⟩,
 ⟨some (57, false, 61), .faddr 61 4 (.t 60)⟩,
 ⟨some (57, false, 62), .load 62 8 true (.t 61)⟩,
 ⟨some (57, false, 63), .mv 63 (.t 1)⟩,
 ⟨some (57, false, 64), .mv 64 (.t 7)⟩,
 ⟨some (57, false, 65), .iaddrS 65 12 (.t 63) (.t 64)⟩,
 ⟨some (57, false, 66), .faddr 66 4 (.t 65)⟩,
 ⟨some (57, false, 67), .load 67 8 true (.t 66)⟩,
 ⟨some (57, false, 68), .call (some 68) n_ref04_Cmp [.t 62, .t 67]⟩,
 ⟨some (57, false, 69), .bin 69 .lss (.t 68) (.c (.i .i64 0))⟩,
 ⟨none, .pick 70 (.t 57) (.c (.b true)) (.t 69)⟩])
 (.cond (.t 70) (.seq (.reg [⟨none, .mv 71 (.t 5)⟩,
 ⟨none, .mv 72 (.t 1)⟩,
 ⟨none, .mv 73 (.t 7)⟩,
 ⟨none, .iaddrS 74 12 (.t 72) (.t 73)⟩,
 ⟨none, .load 75 12 true (.t 74)⟩,
 ⟨none, .bslice 76 1 12 [.b false, .sl 0 [], .b false, .sl 0 [], .i .i64 0, .i .i64 0, .i .i64 0, .i .i64 0, .i .i64 0, .i .i64 0, .i .i64 0, .i .i64 0] [(0, 12, .t 75)]⟩,
 ⟨none, .append 77 12 128 (.t 71) (.t 76)⟩,
 ⟨none, .mv 5 (.t 77)⟩])
 (.seq (.reg [⟨none, .mv 78 (.t 7)⟩,
 ⟨none, .bin 79 .add (.t 78) (.c (.i .i64 1))⟩,
 ⟨none, .mv 7 (.t 79)⟩])
 (.exit 1)))
 (.skip)))
 (.seq (.reg [⟨none, .mv 80 (.t 0)⟩,
 ⟨none, .mv 81 (.t 6)⟩,
 ⟨none, .iaddrS 82 12 (.t 80) (.t 81)⟩,
 ⟨none, .faddr 83 0 (.t 82)⟩,
 ⟨none, .load 84 4 true (.t 83)⟩,
 ⟨none, .mv 85 (.t 1)⟩,
 ⟨none, .mv 86 (.t 7)⟩,
 ⟨none, .iaddrS 87 12 (.t 85) (.t 86)⟩,
 ⟨none, .faddr 88 0 (.t 87)⟩,
 ⟨none, .load 89 4 true (.t 88)⟩,
 ⟨none, .call (some 90) n_ref02_Add [.t 84, .t 89]⟩,
 ⟨none, .alloc 8 [.b false, .nil, .b false, .nil]⟩,
 ⟨none, .store 4 (.t 8) (.t 90)⟩])
 (.seq (.seq (.reg [⟨none, .load 91 4 true (.t 8)⟩,
 ⟨none, .call (some 92) n_ref02_Sign [.t 91]⟩,
 ⟨none, .bin 93 .neq (.t 92) (.c (.i .i64 0))⟩])
 (.cond (.t 93) (.reg [⟨none, .mv 94 (.t 5)⟩,
 ⟨none, .load 95 4 true (.t 8)⟩,
 ⟨none, .mv 96 (.t 0)⟩,
 ⟨none, .mv 97 (.t 6)⟩,
 ⟨none, .iaddrS 98 12 (.t 96) (.t 97)⟩,
 ⟨none, .faddr 99 4 (.t 98)⟩,
 ⟨none, .load 100 8 true (.t 99)⟩,
 ⟨none, .build 101 [.b false, .nil, .b false, .nil, .i .i64 0, .i .i64 0, .i .i64 0, .i .i64 0, .i .i64 0, .i .i64 0, .i .i64 0, .i .i64 0] [(0, 4, .t 95), (4, 8, .t 100)]⟩,
 ⟨none, .bslice 102 1 12 [.b false, .sl 0 [], .b false, .sl 0 [], .i .i64 0, .i .i64 0, .i .i64 0, .i .i64 0, .i .i64 0, .i .i64 0, .i .i64 0, .i .i64 0] [(0, 12, .t 101)]⟩,
 ⟨none, .append 103 12 128 (.t 94) (.t 102)⟩,
 ⟨none, .mv 5 (.t 103)⟩])
 (.skip)))
 (.seq (.reg [⟨none, .mv 104 (.t 6)⟩,
 ⟨none, .bin 105 .add (.t 104) (.c (.i .i64 1))⟩,
 ⟨none, .mv 6 (.t 105)⟩])
 (.reg [⟨none, .mv 106 (.t 7)⟩,
 ⟨none, .bin 107 .add (.t 106) (.c (.i .i64 1))⟩,
 ⟨none, .mv 7 (.t 107)⟩])))))))
def c_ref06_Add : Fun := ⟨2, [.t 4],
 .seq (.reg [⟨none, .mv 4 (.c (.nil))⟩])
 (.seq (.reg [⟨none, .bslice 9 0 12 [.b false, .sl 0 [], .b false, .sl 0 [], .i .i64 0, .i .i64 0, .i .i64 0, .i .i64 0, .i .i64 0, .i .i64 0, .i .i64 0, .i .i64 0] []⟩,
 ⟨none, .mv 5 (.t 9)⟩])
 (.seq (.reg [⟨none, .mv 6 (.c (.i .i64 0))⟩,
 ⟨none, .mv 7 (.c (.i .i64 0))⟩])
 (.seq (.block 0 (.loop l_ref06_Add_0))
 (.seq (.reg [⟨none, .mv 108 (.t 5)⟩,
 ⟨none, .mv 4 (.t 108)⟩])
 (.ret)))))⟩
/- eliminant/eliminantref06.Times -/
def l_ref06_Times_0 : C :=
 .seq (.seq (.reg [⟨none, .mv 16 (.t 9)⟩,
 ⟨none, .mv 17 (.t 2)⟩,
 ⟨none, .len 18 (.t 17)⟩,
 ⟨none, .bin 19 .lss (.t 16) (.t 18)⟩])
 (.cond (.t 19) (.skip)
 (.exit 0)))
 (.seq (.block 1 (.seq (.reg [⟨none, .load 23 8 true (.t 4)⟩,
 ⟨none, .mv 24 (.t 2)⟩,
 ⟨none, .mv 25 (.t 9)⟩,
 ⟨none, .iaddrS 26 12 (.t 24) (.t 25)⟩,
 ⟨none, .faddr 27 4 (.t 26)⟩,
 ⟨none, .load 28 8 true (.t 27)⟩,
 ⟨none, .call (some 29) n_ref04_Mul [.t 23, .t 28]⟩,
 ⟨none, .mv 22 (.t 29)⟩,
 ⟨none, .ext 30 0 (.t 22)⟩,
 ⟨none, .ext 31 1 (.t 22)⟩,
 ⟨none, .alloc 10 [.i .i64 0, .i .i64 0, .i .i64 0, .i .i64 0, .i .i64 0, .i .i64 0, .i .i64 0, .i .i64 0]⟩,
 ⟨none, .store 8 (.t 10) (.t 30)⟩,
 ⟨none, .mv 11 (.t 31)⟩])
 (.seq (.seq (.reg [⟨none, .mv 32 (.t 11)⟩,
 ⟨none, .bin 33 .neq (.t 32) (.c (.i .i64 0))⟩])
 (.cond (.t 33) (.seq (.reg [⟨none, .mv 6 (.c (.nil))⟩,
 ⟨none, .mv 7 (.c (.i .i64 2))⟩])
 (.ret))
 (.skip)))
 (.reg [⟨none, .mv 34 (.t 8)⟩,
 ⟨none, .load 35 4 true (.t 3)⟩,
 ⟨none, .mv 36 (.t 2)⟩,
 ⟨none, .mv 37 (.t 9)⟩,
 ⟨none, .iaddrS 38 12 (.t 36) (.t 37)⟩,
 ⟨none, .faddr 39 0 (.t 38)⟩,
 ⟨none, .load 40 4 true (.t 39)⟩,
 ⟨none, .call (some 41) n_ref02_Mul [.t 35, .t 40]⟩,
 ⟨none, .load 42 8 true (.t 10)⟩,
 ⟨none, .build 43 [.b false, .nil, .b false, .nil, .i .i64 0, .i .i64 0, .i .i64 0, .i .i64 0, .i .i64 0, .i .i64 0, .i .i64 0, .i .i64 0] [(0, 4, .t 41), (4, 8, .t 42)]⟩,
 ⟨none, .bslice 44 1 12 [.b false, .sl 0 [], .b false, .sl 0 [], .i .i64 0, .i .i64 0, .i .i64 0, .i .i64 0, .i .i64 0, .i .i64 0, .i .i64 0, .i .i64 0] [(0, 12, .t 43)]⟩,
 ⟨none, .append 45 12 128 (.t 34) (.t 44)⟩,
 ⟨none, .mv 8 (.t 45)⟩]))))
 (.reg [⟨none, .mv 20 (.t 9)⟩,
 ⟨none, .bin 21 .add (.t 20) (.c (.i .i64 1))⟩,
 ⟨none, .mv 9 (.t 21)⟩]))
def c_ref06_Times : Fun := ⟨3, [.t 6, .t 7],
 .seq (.reg [⟨none, .box 3 4 (.t 0)⟩,
 ⟨none, .box 4 8 (.t 1)⟩,
 ⟨none, .mv 6 (.c (.nil))⟩,
 ⟨none, .mv 7 (.c (.i .i64 0))⟩])
 (.seq (.reg [⟨none, .bslice 12 0 12 [.b false, .sl 0 [], .b false, .sl 0 [], .i .i64 0, .i .i64 0, .i .i64 0, .i .i64 0, .i .i64 0, .i .i64 0, .i .i64 0, .i .i64 0] []⟩,
 ⟨none, .mv 8 (.t 12)⟩])
 (.seq (.seq (.reg [⟨none, .load 13 4 true (.t 3)⟩,
 ⟨none, .call (some 14) n_ref02_Sign [.t 13]⟩,
 ⟨none, .bin 15 .eql (.t 14) (.c (.i .i64 0))⟩])
 (.cond (.t 15) (.seq (.reg [⟨none, .mv 6 (.c (.nil))⟩,
 ⟨none, .mv 7 (.c (.i .i64 0))⟩])
 (.ret))
 (.skip)))
 (.seq (.seq (.reg [⟨none, .mv 9 (.c (.i .i64 0))⟩])
 (.block 0 (.loop l_ref06_Times_0)))
 (.seq (.reg [⟨none, .mv 46 (.t 8)⟩,
 ⟨none, .mv 6 (.t 46)⟩,
 ⟨none, .mv 7 (.c (.i .i64 0))⟩])
 (.ret)))))⟩
/- eliminant/eliminantref06.Scale -/
def c_ref06_Scale : Fun := ⟨2, [.t 4],
 .seq (.reg [⟨none, .box 2 4 (.t 0)⟩,
 ⟨none, .mv 4 (.c (.nil))⟩])
 (.seq (.reg [⟨none, .load 8 4 true (.t 2)⟩,
 ⟨none, .build 9 [.i .i64 0, .i .i64 0, .i .i64 0, .i .i64 0, .i .i64 0, .i .i64 0, .i .i64 0, .i .i64 0] []⟩,
 ⟨none, .mv 10 (.t 1)⟩,
 ⟨none, .call (some 11) n_ref06_Times [.t 8, .t 9, .t 10]⟩,
 ⟨none, .mv 7 (.t 11)⟩,
 ⟨none, .ext 12 0 (.t 7)⟩,
 ⟨none, .ext 13 1 (.t 7)⟩,
 ⟨none, .mv 5 (.t 12)⟩,
 ⟨none, .mv 6 (.t 13)⟩])
 (.seq (.reg [⟨none, .mv 14 (.t 5)⟩,
 ⟨none, .mv 4 (.t 14)⟩])
 (.ret)))⟩
/- eliminant/eliminantref06.Sub -/
def c_ref06_Sub : Fun := ⟨2, [.t 4],
 .seq (.reg [⟨none, .mv 4 (.c (.nil))⟩])
 (.seq (.reg [⟨none, .mv 5 (.t 0)⟩,
 ⟨none, .call (some 6) n_ref02_Whole [.c (.i .i64 (-1))]⟩,
 ⟨none, .mv 7 (.t 1)⟩,
 ⟨none, .call (some 8) n_ref06_Scale [.t 6, .t 7]⟩,
 ⟨none, .call (some 9) n_ref06_Add [.t 5, .t 8]⟩,
 ⟨none, .mv 4 (.t 9)⟩])
 (.ret))⟩
/- eliminant/eliminantref06.Mul -/
def l_ref06_Mul_0 : C :=
 .seq (.seq (.reg [⟨none, .mv 11 (.t 7)⟩,
 ⟨none, .mv 12 (.t 0)⟩,
 ⟨none, .len 13 (.t 12)⟩,
 ⟨none, .bin 14 .lss (.t 11) (.t 13)⟩])
 (.cond (.t 14) (.skip)
 (.exit 0)))
 (.seq (.block 1 (.seq (.reg [⟨none, .mv 18 (.t 0)⟩,
 ⟨none, .mv 19 (.t 7)⟩,
 ⟨none, .iaddrS 20 12 (.t 18) (.t 19)⟩,
 ⟨none, .faddr 21 0 (.t 20)⟩,
 ⟨none, .load 22 4 true (.t 21)⟩,
 ⟨none, .mv 23 (.t 0)⟩,
 ⟨none, .mv 24 (.t 7)⟩,
 ⟨none, .iaddrS 25 12 (.t 23) (.t 24)⟩,
 ⟨none, .faddr 26 4 (.t 25)⟩,
 ⟨none, .load 27 8 true (.t 26)⟩,
 ⟨none, .mv 28 (.t 1)⟩,
 ⟨none, .call (some 29) n_ref06_Times [.t 22, .t 27, .t 28]⟩,
 ⟨none, .mv 17 (.t 29)⟩,
 ⟨none, .ext 30 0 (.t 17)⟩,
 ⟨none, .ext 31 1 (.t 17)⟩,
 ⟨none, .mv 8 (.t 30)⟩,
 ⟨none, .mv 9 (.t 31)⟩])
 (.seq (.seq (.reg [⟨none, .mv 32 (.t 9)⟩,
 ⟨none, .bin 33 .neq (.t 32) (.c (.i .i64 0))⟩])
 (.cond (.t 33) (.seq (.reg [⟨none, .mv 34 (.t 9)⟩,
 ⟨none, .mv 4 (.c (.nil))⟩,
 ⟨none, .mv 5 (.t 34)⟩])
 (.ret))
 (.skip)))
 (.reg [⟨none, .mv 35 (.t 6)⟩,
 ⟨none, .mv 36 (.t 8)⟩,
 ⟨none, .call (some 37) n_ref06_Add [.t 35, .t 36]⟩,
 ⟨none, .mv 6 (.t 37)⟩]))))
 (.reg [⟨none, .mv 15 (.t 7)⟩,
 ⟨none, .bin 16 .add (.t 15) (.c (.i .i64 1))⟩,
 ⟨none, .mv 7 (.t 16)⟩]))
def c_ref06_Mul : Fun := ⟨2, [.t 4, .t 5],
 .seq (.reg [⟨none, .mv 4 (.c (.nil))⟩,
 ⟨none, .mv 5 (.c (.i .i64 0))⟩])
 (.seq (.reg [⟨none, .bslice 10 0 12 [.b false, .sl 0 [], .b false, .sl 0 [], .i .i64 0, .i .i64 0, .i .i64 0, .i .i64 0, .i .i64 0, .i .i64 0, .i .i64 0, .i .i64 0] []⟩,
 ⟨none, .mv 6 (.t 10)⟩])
 (.seq (.seq (.reg [⟨none, .mv 7 (.c (.i .i64 0))⟩])
 (.block 0 (.loop l_ref06_Mul_0)))
 (.seq (.reg [⟨none, .mv 38 (.t 6)⟩,
 ⟨none, .mv 4 (.t 38)⟩,
 ⟨none, .mv 5 (.c (.i .i64 0))⟩])
 (.ret))))⟩
/- eliminant/eliminantref06.By -/
/- eliminant/eliminantref06.Made -/
def l_ref06_Made_0 : C :=
 .seq (.seq (.reg [⟨none, .mv 29 (.t 13)⟩,
 ⟨none, .mv 30 (.t 1)⟩,
 ⟨none, .bin 31 .lss (.t 29) (.t 30)⟩,
 ⟨none, .mv 32 (.t 31)⟩,
 ⟨some (32, true, 33), .mv 33 (.t 13)⟩,
 ⟨some (32, true, 34), .bin 34 .lss (.t 33) (.c (.i .i64 4))⟩,
 ⟨none, .pick 35 (.t 32) (.t 34) (.c (.b false))⟩])
 (.cond (.t 35) (.skip)
 (.exit 2)))
 (.seq (.block 3 (.seq (.reg [⟨none, .mv 38 (.t 13)⟩,
 ⟨none, .faddr 39 0 (.t 4)⟩,
 ⟨none, .load 40 1 false (.t 39)⟩,
 ⟨none, .mv 41 (.t 10)⟩,
 ⟨none, .mv 42 (.t 13)⟩,
 ⟨none, .bin 43 .add (.c (.i .i64 1)) (.t 42)⟩,
 ⟨none, .iaddrS 44 5 (.t 40) (.t 41)⟩,
 ⟨none, .iaddrA 45 5 1 (.t 44) (.t 43)⟩,
 ⟨none, .load 46 1 false (.t 45)⟩,
 ⟨none, .call (some 47) n_ref06_abs [.t 46]⟩,
 ⟨none, .mv 48 (.t 12)⟩,
 ⟨none, .bin 49 .add (.t 48) (.c (.i .i64 1))⟩,
 ⟨none, .bin 50 .rem (.t 47) (.t 49)⟩,
 ⟨none, .iaddrA 51 8 1 (.t 11) (.t 38)⟩,
 ⟨none, .store 1 (.t 51) (.t 50)⟩])
 (.reg [⟨none, .mv 52 (.t 12)⟩,
 ⟨none, .mv 53 (.t 13)⟩,
 ⟨none, .iaddrA 54 8 1 (.t 11) (.t 53)⟩,
 ⟨none, .load 55 1 false (.t 54)⟩,
 ⟨none, .bin 56 .sub (.t 52) (.t 55)⟩,
 ⟨none, .mv 12 (.t 56)⟩])))
 (.reg [⟨none, .mv 36 (.t 13)⟩,
 ⟨none, .bin 37 .add (.t 36) (.c (.i .i64 1))⟩,
 ⟨none, .mv 13 (.t 37)⟩]))
def l_ref06_Made_1 : C :=
 .seq (.seq (.reg [⟨none, .mv 15 (.t 10)⟩,
 ⟨none, .faddr 16 0 (.t 4)⟩,
 ⟨none, .load 17 1 false (.t 16)⟩,
 ⟨none, .len 18 (.t 17)⟩,
 ⟨none, .bin 19 .lss (.t 15) (.t 18)⟩,
 ⟨none, .mv 20 (.t 19)⟩,
 ⟨some (20, true, 21), .mv 21 (.t 10)⟩,
 ⟨some (20, true, 22), .mv 22 (.t 3)⟩,
 ⟨some (20, true, 23), .bin 23 .lss (.t 21) (.t 22)⟩,
 ⟨none, .pick 24 (.t 20) (.t 23) (.c (.b false))⟩])
 (.cond (.t 24) (.skip)
 (.exit 0)))
 (.seq (.block 1 (.seq (.reg [⟨none, .build 27 [.i .i64 0, .i .i64 0, .i .i64 0, .i .i64 0, .i .i64 0, .i .i64 0, .i .i64 0, .i .i64 0] []⟩,
 ⟨none, .alloc 11 [.i .i64 0, .i .i64 0, .i .i64 0, .i .i64 0, .i .i64 0, .i .i64 0, .i .i64 0, .i .i64 0]⟩,
 ⟨none, .store 8 (.t 11) (.t 27)⟩])
 (.seq (.reg [⟨none, .mv 28 (.t 2)⟩,
 ⟨none, .mv 12 (.t 28)⟩])
 (.seq (.seq (.reg [⟨none, .mv 13 (.c (.i .i64 0))⟩])
 (.block 2 (.loop l_ref06_Made_0)))
 (.reg [⟨none, .mv 57 (.t 9)⟩,
 ⟨none, .faddr 58 0 (.t 4)⟩,
 ⟨none, .load 59 1 false (.t 58)⟩,
 ⟨none, .mv 60 (.t 10)⟩,
 ⟨none, .iaddrS 61 5 (.t 59) (.t 60)⟩,
 ⟨none, .iaddrA 62 5 1 (.t 61) (.c (.i .i64 0))⟩,
 ⟨none, .load 63 1 false (.t 62)⟩,
 ⟨none, .bin 64 .rem (.t 63) (.c (.i .i8 4))⟩,
 ⟨none, .conv 65 .i64 (.t 64)⟩,
 ⟨none, .call (some 66) n_ref02_Whole [.t 65]⟩,
 ⟨none, .call (some 67) n_ref02_Whole [.c (.i .i64 1)]⟩,
 ⟨none, .load 68 8 true (.t 11)⟩,
 ⟨none, .build 69 [.b false, .nil, .b false, .nil, .i .i64 0, .i .i64 0, .i .i64 0, .i .i64 0, .i .i64 0, .i .i64 0, .i .i64 0, .i .i64 0] [(0, 4, .t 67), (4, 8, .t 68)]⟩,
 ⟨none, .bslice 70 1 12 [.b false, .sl 0 [], .b false, .sl 0 [], .i .i64 0, .i .i64 0, .i .i64 0, .i .i64 0, .i .i64 0, .i .i64 0, .i .i64 0, .i .i64 0] [(0, 12, .t 69)]⟩,
 ⟨none, .call (some 71) n_ref06_Scale [.t 66, .t 70]⟩,
 ⟨none, .call (some 72) n_ref06_Add [.t 57, .t 71]⟩,
 ⟨none, .mv 9 (.t 72)⟩])))))
 (.reg [⟨none, .mv 25 (.t 10)⟩,
 ⟨none, .bin 26 .add (.t 25) (.c (.i .i64 1))⟩,
 ⟨none, .mv 10 (.t 26)⟩]))
def c_ref06_Made : Fun := ⟨4, [.t 8],
 .seq (.reg [⟨none, .box 4 1 (.t 0)⟩,
 ⟨none, .mv 8 (.c (.nil))⟩])
 (.seq (.reg [⟨none, .bslice 14 0 12 [.b false, .sl 0 [], .b false, .sl 0 [], .i .i64 0, .i .i64 0, .i .i64 0, .i .i64 0, .i .i64 0, .i .i64 0, .i .i64 0, .i .i64 0] []⟩,
 ⟨none, .mv 9 (.t 14)⟩])
 (.seq (.seq (.reg [⟨none, .mv 10 (.c (.i .i64 0))⟩])
 (.block 0 (.loop l_ref06_Made_1)))
 (.seq (.reg [⟨none, .mv 73 (.t 9)⟩,
 ⟨none, .mv 8 (.t 73)⟩])
 (.ret))))⟩
/- eliminant/eliminantref06.List -/
def l_ref06_List_0 : C :=
 .seq (.seq (.reg [⟨none, .mv 14 (.t 12)⟩,
 ⟨none, .mv 15 (.t 0)⟩,
 ⟨none, .len 16 (.t 15)⟩,
 ⟨none, .bin 17 .lss (.t 14) (.t 16)⟩,
 ⟨none, .mv 18 (.t 17)⟩,
 ⟨some (18, true, 19), .mv 19 (.t 12)⟩,
 ⟨some (18, true, 20), .mv 20 (.t 4)⟩,
 ⟨some (18, true, 21), .bin 21 .lss (.t 19) (.t 20)⟩,
 ⟨none, .pick 22 (.t 18) (.t 21) (.c (.b false))⟩])
 (.cond (.t 22) (.skip)
 (.exit 0)))
 (.seq (.block 1 (.reg [⟨none, .mv 25 (.t 11)⟩,
 ⟨none, .mv 26 (.t 0)⟩,
 ⟨none, .mv 27 (.t 12)⟩,
 ⟨none, .iaddrS 28 1 (.t 26) (.t 27)⟩,
 ⟨none, .load 29 1 true (.t 28)⟩,
 ⟨none, .mv 30 (.t 1)⟩,
 ⟨none, .mv 31 (.t 2)⟩,
 ⟨none, .mv 32 (.t 3)⟩,
 ⟨none, .call (some 33) n_ref06_Made [.t 29, .t 30, .t 31, .t 32]⟩,
 ⟨none, .bslice 34 1 1 [.sl 0 []] [(0, 1, .t 33)]⟩,
 ⟨none, .append 35 1 24 (.t 25) (.t 34)⟩,
 ⟨none, .mv 11 (.t 35)⟩]))
 (.reg [⟨none, .mv 23 (.t 12)⟩,
 ⟨none, .bin 24 .add (.t 23) (.c (.i .i64 1))⟩,
 ⟨none, .mv 12 (.t 24)⟩]))
def c_ref06_List : Fun := ⟨5, [.t 10],
 .seq (.reg [⟨none, .mv 10 (.c (.nil))⟩])
 (.seq (.reg [⟨none, .bslice 13 0 1 [.sl 0 []] []⟩,
 ⟨none, .mv 11 (.t 13)⟩])
 (.seq (.seq (.reg [⟨none, .mv 12 (.c (.i .i64 0))⟩])
 (.block 0 (.loop l_ref06_List_0)))
 (.seq (.reg [⟨none, .mv 36 (.t 11)⟩,
 ⟨none, .mv 10 (.t 36)⟩])
 (.ret))))⟩
/- eliminant/eliminantref06.abs -/
def c_ref06_abs : Fun := ⟨1, [.t 2],
 .seq (.reg [⟨none, .mv 2 (.c (.i .i64 0))⟩])
 (.seq (.seq (.reg [⟨none, .mv 3 (.t 0)⟩,
 ⟨none, .bin 4 .lss (.t 3) (.c (.i .i8 0))⟩])
 (.cond (.t 4) (.seq (.reg [⟨none, .mv 5 (.t 0)⟩,
 ⟨none, .conv 6 .i64 (.t 5)⟩,
 ⟨none, .un 7 .neg (.t 6)⟩,
 ⟨none, .mv 2 (.t 7)⟩])
 (.ret))
 (.skip)))
 (.seq (.reg [⟨none, .mv 8 (.t 0)⟩,
 ⟨none, .conv 9 .i64 (.t 8)⟩,
 ⟨none, .mv 2 (.t 9)⟩])
 (.ret)))⟩
/- eliminant/eliminantref13.Polys -/
/- eliminant/eliminantref04.Cmp -/
def l_ref04_Cmp_0 : C :=
 .seq (.seq (.reg [⟨none, .mv 6 (.t 5)⟩,
 ⟨none, .bin 7 .lss (.t 6) (.c (.i .i64 8))⟩])
 (.cond (.t 7) (.skip)
 (.exit 0)))
 (.seq (.block 1 (.seq (.seq (.reg [⟨none, .mv 10 (.t 5)⟩,
 ⟨none, .iaddrA 11 8 1 (.t 2) (.t 10)⟩,
 ⟨none, .load 12 1 false (.t 11)⟩,
 ⟨none, .mv 13 (.t 5)⟩,
 ⟨none, .iaddrA 14 8 1 (.t 3) (.t 13)⟩,
 ⟨none, .load 15 1 false (.t 14)⟩,
 ⟨none, .bin 16 .lss (.t 12) (.t 15)⟩])
 (.cond (.t 16) (.seq (.reg [⟨none, .mv 4 (.c (.i .i64 (-1)))⟩])
 (.ret))
 (.skip)))
 (.seq (.reg [⟨none, .mv 17 (.t 5)⟩,
 ⟨none, .iaddrA 18 8 1 (.t 2) (.t 17)⟩,
 ⟨none, .load 19 1 false (.t 18)⟩,
 ⟨none, .mv 20 (.t 5)⟩,
 ⟨none, .iaddrA 21 8 1 (.t 3) (.t 20)⟩,
 ⟨none, .load 22 1 false (.t 21)⟩,
 ⟨none, .bin 23 .gtr (.t 19) (.t 22)⟩])
 (.cond (.t 23) (.seq (.reg [⟨none, .mv 4 (.c (.i .i64 1))⟩])
 (.ret))
 (.skip)))))
 (.reg [⟨none, .mv 8 (.t 5)⟩,
 ⟨none, .bin 9 .add (.t 8) (.c (.i .i64 1))⟩,
 ⟨none, .mv 5 (.t 9)⟩]))
def c_ref04_Cmp : Fun := ⟨2, [.t 4],
 .seq (.reg [⟨none, .box 2 8 (.t 0)⟩,
 ⟨none, .box 3 8 (.t 1)⟩,
 ⟨none, .mv 4 (.c (.i .i64 0))⟩])
 (.seq (.seq (.reg [⟨none, .mv 5 (.c (.i .i64 0))⟩])
 (.block 0 (.loop l_ref04_Cmp_0)))
 (.seq (.reg [⟨none, .mv 4 (.c (.i .i64 0))⟩])
 (.ret)))⟩
/- eliminant/eliminantref04.Mul -/
def l_ref04_Mul_0 : C :=
 .seq (.seq (.reg [⟨none, .mv 7 (.t 6)⟩,
 ⟨none, .bin 8 .lss (.t 7) (.c (.i .i64 8))⟩])
 (.cond (.t 8) (.skip)
 (.exit 0)))
 (.seq (.block 1 (.reg [⟨none, .mv 11 (.t 6)⟩,
 ⟨none, .iaddrA 12 8 1 (.t 2) (.t 11)⟩,
 ⟨none, .load 13 1 false (.t 12)⟩,
 ⟨none, .mv 14 (.t 6)⟩,
 ⟨none, .iaddrA 15 8 1 (.t 3) (.t 14)⟩,
 ⟨none, .load 16 1 false (.t 15)⟩,
 ⟨none, .bin 17 .add (.t 13) (.t 16)⟩,
 ⟨none, .iaddrA 18 8 1 (.t 2) (.t 11)⟩,
 ⟨none, .store 1 (.t 18) (.t 17)⟩]))
 (.reg [⟨none, .mv 9 (.t 6)⟩,
 ⟨none, .bin 10 .add (.t 9) (.c (.i .i64 1))⟩,
 ⟨none, .mv 6 (.t 10)⟩]))
def c_ref04_Mul : Fun := ⟨2, [.c 4 8 true, .t 5],
 .seq (.reg [⟨none, .box 2 8 (.t 0)⟩,
 ⟨none, .box 3 8 (.t 1)⟩,
 ⟨none, .alloc 4 [.i .i64 0, .i .i64 0, .i .i64 0, .i .i64 0, .i .i64 0, .i .i64 0, .i .i64 0, .i .i64 0]⟩,
 ⟨none, .mv 5 (.c (.i .i64 0))⟩])
 (.seq (.seq (.reg [⟨none, .mv 6 (.c (.i .i64 0))⟩])
 (.block 0 (.loop l_ref04_Mul_0)))
 (.seq (.seq (.reg [⟨none, .load 19 8 true (.t 2)⟩,
 ⟨none, .call (some 20) n_ref04_Valid [.t 19]⟩,
 ⟨none, .un 21 .not (.t 20)⟩])
 (.cond (.t 21) (.seq (.reg [⟨none, .build 22 [.i .i64 0, .i .i64 0, .i .i64 0, .i .i64 0, .i .i64 0, .i .i64 0, .i .i64 0, .i .i64 0] []⟩,
 ⟨none, .store 8 (.t 4) (.t 22)⟩,
 ⟨none, .mv 5 (.c (.i .i64 2))⟩])
 (.ret))
 (.skip)))
 (.seq (.reg [⟨none, .load 23 8 true (.t 2)⟩,
 ⟨none, .store 8 (.t 4) (.t 23)⟩,
 ⟨none, .mv 5 (.c (.i .i64 0))⟩])
 (.ret))))⟩
/- eliminant/eliminantref06.Same -/
def l_ref06_Same_0 : C :=
 .seq (.seq (.reg [⟨none, .mv 11 (.t 5)⟩,
 ⟨none, .mv 12 (.t 0)⟩,
 ⟨none, .len 13 (.t 12)⟩,
 ⟨none, .bin 14 .lss (.t 11) (.t 13)⟩])
 (.cond (.t 14) (.skip)
 (.exit 0)))
 (.seq (.block 1 (.seq (.reg [⟨none, .mv 17 (.t 0)⟩,
 ⟨none, .mv 18 (.t 5)⟩,
 ⟨none, .iaddrS 19 12 (.t 17) (.t 18)⟩,
 ⟨none, .load 20 12 true (.t 19)⟩,
 ⟨none, .mv 21 (.t 1)⟩,
 ⟨none, .mv 22 (.t 5)⟩,
 ⟨none, .iaddrS 23 12 (.t 21) (.t 22)⟩,
 ⟨none, .load 24 12 true (.t 23)⟩,
 ⟨none, .call (some 25) n_ref06_SameTerm [.t 20, .t 24]⟩,
 ⟨none, .un 26 .not (.t 25)⟩])
 (.cond (.t 26) (.seq (.reg [⟨none, .mv 4 (.c (.b false))⟩])
 (.ret))
 (.skip))))
 (.reg [⟨none, .mv 15 (.t 5)⟩,
 ⟨none, .bin 16 .add (.t 15) (.c (.i .i64 1))⟩,
 ⟨none, .mv 5 (.t 16)⟩]))
def c_ref06_Same : Fun := ⟨2, [.t 4],
 .seq (.reg [⟨none, .mv 4 (.c (.b false))⟩])
 (.seq (.seq (.reg [⟨none, .mv 6 (.t 0)⟩,
 ⟨none, .len 7 (.t 6)⟩,
 ⟨none, .mv 8 (.t 1)⟩,
 ⟨none, .len 9 (.t 8)⟩,
 ⟨none, .bin 10 .neq (.t 7) (.t 9)⟩])
 (.cond (.t 10) (.seq (.reg [⟨none, .mv 4 (.c (.b false))⟩])
 (.ret))
 (.skip)))
 (.seq (.seq (.reg [⟨none, .mv 5 (.c (.i .i64 0))⟩])
 (.block 0 (.loop l_ref06_Same_0)))
 (.seq (.reg [⟨none, .mv 4 (.c (.b true))⟩])
 (.ret))))⟩
/- eliminant/eliminantref06.SameTerm -/
def c_ref06_SameTerm : Fun := ⟨2, [.t 4],
 .seq (.reg [⟨none, .box 2 12 (.t 0)⟩,
 ⟨none, .box 3 12 (.t 1)⟩,
 ⟨none, .mv 4 (.c (.b false))⟩])
 (.seq (.reg [⟨none, .faddr 5 4 (.t 2)⟩,
 ⟨none, .load 6 8 true (.t 5)⟩,
 ⟨none, .faddr 7 4 (.t 3)⟩,
 ⟨none, .load 8 8 true (.t 7)⟩,
 ⟨none, .eqa 9 8 false (.t 6) (.t 8)⟩,
 ⟨none, .mv 10 (.t 9)⟩,
 ⟨some (10, true, 11), .faddr 11 0 (.t 2)⟩,
 ⟨some (10, true, 12), .load 12 4 true (.t 11)⟩,
 ⟨some (10, true, 13), .faddr 13 0 (.t 3)⟩,
 ⟨some (10, true, 14), .load 14 4 true (.t 13)⟩,
 ⟨some (10, true, 15), .call (some 15) n_ref02_Same [.t 12, .t 14]⟩,
 ⟨none, .pick 16 (.t 10) (.t 15) (.c (.b false))⟩,
 ⟨none, .mv 4 (.t 16)⟩])
 (.ret))⟩
/- eliminant/eliminantref12.Sum -/
/- eliminant/eliminantref12.Is -/
/- eliminant/eliminantref19.Is -/
/- eliminant/polynomial.Add -/
def c_polynomial_Add : Fun := ⟨2, [.t 4],
 .seq (.reg [⟨none, .mv 4 (.c (.nil))⟩])
 (.seq (.reg [⟨none, .mv 5 (.t 0)⟩,
 ⟨none, .mv 6 (.t 1)⟩,
 ⟨none, .call (some 7) n_polynomial_merge [.t 5, .t 6, .c (.fn n_rational_Add []), .c (.fn n_polynomial_Add_1 [])]⟩,
 ⟨none, .mv 4 (.t 7)⟩])
 (.ret))⟩
/- eliminant/polynomial.merge -/
def l_polynomial_merge_0 : C :=
 .seq (.seq (.reg [⟨none, .mv 20 (.t 0)⟩,
 ⟨none, .len 21 (.t 20)⟩,
 ⟨none, .bin 22 .gtr (.t 21) (.c (.i .i64 0))⟩,
 ⟨none, .mv 23 (.t 22)⟩,
 ⟨some (23, true, 24), .mv 24 (.t 1)⟩,
 ⟨some (23, true, 25), .len 25 (.t 24)⟩,
 ⟨some (23, true, 26), .bin 26 .gtr (.t 25) (.c (.i .i64 0))⟩,
 ⟨none, .pick 27 (.t 23) (.t 26) (.c (.b false))⟩])
 (.cond (.t 27) (.skip)
 (.exit 0)))
 (.block 1 (.seq (.reg [⟨none, .mv 28 (.t 0)⟩,
 ⟨none, .iaddrS 29 12 (.t 28) (.c (.i .i64 0))⟩,
 ⟨none, .faddr 30 4 (.t 29)⟩,
 ⟨none, .load 31 8 true (.t 30)⟩,
 ⟨none, .mv 32 (.t 1)⟩,
 ⟨none, .iaddrS 33 12 (.t 32) (.c (.i .i64 0))⟩,
 ⟨none, .faddr 34 4 (.t 33)⟩,
 ⟨none, .load 35 8 true (.t 34)⟩,
 ⟨none, .call (some 36) n_monomial_Cmp [.t 31, .t 35]⟩,
 ⟨none, .mv 10 (.t 36)⟩])
 (.block 2 (.seq (.reg [⟨none, .mv 64 (.t 10)⟩,
 ⟨none, .bin 65 .gtr (.t 64) (.c (.i .i64 0))⟩,
 ⟨none, .mv 63 (.t 65)⟩])
 (.cond (.t 63) (.reg [⟨none, .mv 66 (.t 9)⟩,
 ⟨none, .mv 67 (.t 0)⟩,
 ⟨none, .iaddrS 68 12 (.t 67) (.c (.i .i64 0))⟩,
 ⟨none, .load 69 12 true (.t 68)⟩,
 ⟨none, .bslice 70 1 12 [.b false, .sl 0 [], .b false, .sl 0 [], .i .i64 0, .i .i64 0, .i .i64 0, .i .i64 0, .i .i64 0, .i .i64 0, .i .i64 0, .i .i64 0] [(0, 12, .t 69)]⟩,
 ⟨none, .append 71 12 128 (.t 66) (.t 70)⟩,
 ⟨none, .mv 72 (.t 0)⟩,
 ⟨none, .slice 73 12 (.t 72) (some (.c (.i .i64 1))) none none⟩,
 ⟨none, .mv 9 (.t 71)⟩,
 ⟨none, .mv 0 (.t 73)⟩])
 (.seq (.reg [⟨none, .mv 75 (.t 10)⟩,
 ⟨none, .bin 76 .lss (.t 75) (.c (.i .i64 0))⟩,
 ⟨none, .mv 74 (.t 76)⟩])
 (.cond (.t 74) (.reg [⟨none, .mv 77 (.t 9)⟩,
 ⟨none, .mv 78 (.t 3)⟩,
 ⟨none, .mv 79 (.t 1)⟩,
 ⟨none, .iaddrS 80 12 (.t 79) (.c (.i .i64 0))⟩,
 ⟨none, .faddr 81 0 (.t 80)⟩,
 ⟨none, .load 82 4 true (.t 81)⟩,
 ⟨none, .callv (some 83) (.t 78) [.t 82]⟩,
 ⟨none, .mv 84 (.t 1)⟩,
 ⟨none, .iaddrS 85 12 (.t 84) (.c (.i .i64 0))⟩,
 ⟨none, .faddr 86 4 (.t 85)⟩,
 ⟨none, .load 87 8 true (.t 86)⟩,
 ⟨none, .build 88 [.b false, .nil, .b false, .nil, .i .i64 0, .i .i64 0, .i .i64 0, .i .i64 0, .i .i64 0, .i .i64 0, .i .i64 0, .i .i64 0] [(0, 4, .t 83), (4, 8, .t 87)]⟩,
 ⟨none, .bslice 89 1 12 [.b false, .sl 0 [], .b false, .sl 0 [], .i .i64 0, .i .i64 0, .i .i64 0, .i .i64 0, .i .i64 0, .i .i64 0, .i .i64 0, .i .i64 0] [(0, 12, .t 88)]⟩,
 ⟨none, .append 90 12 128 (.t 77) (.t 89)⟩,
 ⟨none, .mv 91 (.t 1)⟩,
 ⟨none, .slice 92 12 (.t 91) (some (.c (.i .i64 1))) none none⟩,
 ⟨none, .mv 9 (.t 90)⟩,
 ⟨none, .mv 1 (.t 92)⟩])
 (.seq (.seq (.reg [⟨none, .mv 37 (.t 2)⟩,
 ⟨none, .mv 38 (.t 0)⟩,
 ⟨none, .iaddrS 39 12 (.t 38) (.c (.i .i64 0))⟩,
 ⟨none, .faddr 40 0 (.t 39)⟩,
 ⟨none, .load 41 4 true (.t 40)⟩,
 ⟨none, .mv 42 (.t 1)⟩,
 ⟨none, .iaddrS 43 12 (.t 42) (.c (.i .i64 0))⟩,
 ⟨none, .faddr 44 0 (.t 43)⟩,
 ⟨none, .load 45 4 true (.t 44)⟩,
 ⟨none, .callv (some 46) (.t 37) [.t 41, .t 45]⟩,
 ⟨none, .alloc 11 [.b false, .nil, .b false, .nil]⟩,
 ⟨none, .store 4 (.t 11) (.t 46)⟩])
 (.seq (.reg [⟨none, .load 47 4 true (.t 11)⟩,
 ⟨none, .call (some 48) n_rational_Sign [.t 47]⟩,
 ⟨none, .bin 49 .neq (.t 48) (.c (.i .i64 0))⟩])
 (.cond (.t 49) (.reg [⟨none, .mv 50 (.t 9)⟩,
 ⟨none, .load 51 4 true (.t 11)⟩,
 ⟨none, .mv 52 (.t 0)⟩,
 ⟨none, .iaddrS 53 12 (.t 52) (.c (.i .i64 0))⟩,
 ⟨none, .faddr 54 4 (.t 53)⟩,
 ⟨none, .load 55 8 true (.t 54)⟩,
 ⟨none, .build 56 [.b false, .nil, .b false, .nil, .i .i64 0, .i .i64 0, .i .i64 0, .i .i64 0, .i .i64 0, .i .i64 0, .i .i64 0, .i .i64 0] [(0, 4, .t 51), (4, 8, .t 55)]⟩,
 ⟨none, .bslice 57 1 12 [.b false, .sl 0 [], .b false, .sl 0 [], .i .i64 0, .i .i64 0, .i .i64 0, .i .i64 0, .i .i64 0, .i .i64 0, .i .i64 0, .i .i64 0] [(0, 12, .t 56)]⟩,
 ⟨none, .append 58 12 128 (.t 50) (.t 57)⟩,
 ⟨none, .mv 9 (.t 58)⟩])
 (.skip))))
 (.reg [⟨none, .mv 59 (.t 0)⟩,
 ⟨none, .slice 60 12 (.t 59) (some (.c (.i .i64 1))) none none⟩,
 ⟨none, .mv 61 (.t 1)⟩,
 ⟨none, .slice 62 12 (.t 61) (some (.c (.i .i64 1))) none none⟩,
 ⟨none, .mv 0 (.t 60)⟩,
 ⟨none, .mv 1 (.t 62)⟩])))))))))
def l_polynomial_merge_1 : C :=
 .seq (.reg [⟨none, .bin 99 .lss (.t 98) (.t 97)⟩])
 (.seq (.cond (.t 99) (.skip)
 (.exit 3))
 (.seq (.block 4 (.seq (.reg [⟨none, .iaddrS 100 12 (.t 96) (.t 98)⟩,
 ⟨none, .load 101 12 true (.t 100)⟩,
 ⟨none, .alloc 13 [.b false, .nil, .b false, .nil, .i .i64 0, .i .i64 0, .i .i64 0, .i .i64 0, .i .i64 0, .i .i64 0, .i .i64 0, .i .i64 0]⟩,
 ⟨none, .store 12 (.t 13) (.t 101)⟩])
 (.reg [⟨none, .mv 102 (.t 9)⟩,
 ⟨none, .mv 103 (.t 3)⟩,
 ⟨none, .faddr 104 0 (.t 13)⟩,
 ⟨none, .load 105 4 true (.t 104)⟩,
 ⟨none, .callv (some 106) (.t 103) [.t 105]⟩,
 ⟨none, .faddr 107 4 (.t 13)⟩,
 ⟨none, .load 108 8 true (.t 107)⟩,
 ⟨none, .build 109 [.b false, .nil, .b false, .nil, .i .i64 0, .i .i64 0, .i .i64 0, .i .i64 0, .i .i64 0, .i .i64 0, .i .i64 0, .i .i64 0] [(0, 4, .t 106), (4, 8, .t 108)]⟩,
 ⟨none, .bslice 110 1 12 [.b false, .sl 0 [], .b false, .sl 0 [], .i .i64 0, .i .i64 0, .i .i64 0, .i .i64 0, .i .i64 0, .i .i64 0, .i .i64 0, .i .i64 0] [(0, 12, .t 109)]⟩,
 ⟨none, .append 111 12 128 (.t 102) (.t 110)⟩,
 ⟨none, .mv 9 (.t 111)⟩])))
 (.reg [⟨none, .bin 112 .add (.t 98) (.c (.i .i64 1))⟩,
 ⟨none, .mv 98 (.t 112)⟩])))
def c_polynomial_merge : Fun := ⟨4, [.t 8],
 .seq (.reg [⟨none, .mv 8 (.c (.nil))⟩])
 (.seq (.reg [⟨none, .mv 14 (.t 0)⟩,
 ⟨none, .len 15 (.t 14)⟩,
 ⟨none, .mv 16 (.t 1)⟩,
 ⟨none, .len 17 (.t 16)⟩,
 ⟨none, .bin 18 .add (.t 15) (.t 17)⟩,
 ⟨none, .mkslice 19 12 [.b false, .sl 0 [], .b false, .sl 0 [], .i .i64 0, .i .i64 0, .i .i64 0, .i .i64 0, .i .i64 0, .i .i64 0, .i .i64 0, .i .i64 0] (.c (.i .i64 0)) (.t 18)⟩,
 ⟨none, .mv 9 (.t 19)⟩])
 (.seq (.block 0 (.loop l_polynomial_merge_0))
 (.seq (.reg [⟨none, .mv 93 (.t 9)⟩,
 ⟨none, .mv 94 (.t 0)⟩,
 ⟨none, .append 95 12 128 (.t 93) (.t 94)⟩,
 ⟨none, .mv 9 (.t 95)⟩])
 (.seq (.seq (.reg [⟨none, .mv 96 (.t 1)⟩,
 ⟨none, .len 97 (.t 96)⟩,
 ⟨none, .mv 98 (.c (.i .i64 0))⟩])
 (.block 3 (.loop l_polynomial_merge_1)))
 (.seq (.reg [⟨none, .mv 113 (.t 9)⟩,
 ⟨none, .mv 8 (.t 113)⟩])
 (.ret))))))⟩
/- eliminant/polynomial.Add$1 -/
def c_polynomial_Add_1 : Fun := ⟨1, [.c 2 4 true],
 .seq (.reg [⟨none, .box 1 4 (.t 0)⟩,
 ⟨none, .alloc 2 [.b false, .nil, .b false, .nil]⟩])
 (.seq (.reg [⟨none, .load 3 4 true (.t 1)⟩,
 ⟨none, .store 4 (.t 2) (.t 3)⟩])
 (.ret))⟩
/- eliminant/polynomial.Mul -/
def l_polynomial_Mul_0 : C :=
 .seq (.reg [⟨none, .bin 23 .lss (.t 22) (.t 21)⟩])
 (.seq (.cond (.t 23) (.skip)
 (.exit 2))
 (.seq (.block 3 (.seq (.reg [⟨none, .iaddrS 24 12 (.t 20) (.t 22)⟩,
 ⟨none, .load 25 12 true (.t 24)⟩,
 ⟨none, .alloc 10 [.b false, .nil, .b false, .nil, .i .i64 0, .i .i64 0, .i .i64 0, .i .i64 0, .i .i64 0, .i .i64 0, .i .i64 0, .i .i64 0]⟩,
 ⟨none, .store 12 (.t 10) (.t 25)⟩])
 (.seq (.reg [⟨none, .faddr 27 4 (.t 8)⟩,
 ⟨none, .load 28 8 true (.t 27)⟩,
 ⟨none, .faddr 29 4 (.t 10)⟩,
 ⟨none, .load 30 8 true (.t 29)⟩,
 ⟨none, .call (some 31) n_monomial_Mul [.t 28, .t 30]⟩,
 ⟨none, .mv 26 (.t 31)⟩,
 ⟨none, .ext 32 0 (.t 26)⟩,
 ⟨none, .ext 33 1 (.t 26)⟩,
 ⟨none, .alloc 11 [.i .i64 0, .i .i64 0, .i .i64 0, .i .i64 0, .i .i64 0, .i .i64 0, .i .i64 0, .i .i64 0]⟩,
 ⟨none, .store 8 (.t 11) (.t 32)⟩,
 ⟨none, .mv 12 (.t 33)⟩])
 (.seq (.seq (.reg [⟨none, .mv 34 (.t 12)⟩,
 ⟨none, .bin 35 .neq (.t 34) (.c (.i .i64 0))⟩])
 (.cond (.t 35) (.seq (.reg [⟨none, .mv 4 (.c (.nil))⟩,
 ⟨none, .mv 5 (.c (.i .i64 2))⟩])
 (.ret))
 (.skip)))
 (.reg [⟨none, .mv 36 (.t 6)⟩,
 ⟨none, .faddr 37 0 (.t 8)⟩,
 ⟨none, .load 38 4 true (.t 37)⟩,
 ⟨none, .faddr 39 0 (.t 10)⟩,
 ⟨none, .load 40 4 true (.t 39)⟩,
 ⟨none, .call (some 41) n_rational_Mul [.t 38, .t 40]⟩,
 ⟨none, .load 42 8 true (.t 11)⟩,
 ⟨none, .call (some 43) n_polynomial_sum_add [.t 36, .t 41, .t 42]⟩])))))
 (.reg [⟨none, .bin 44 .add (.t 22) (.c (.i .i64 1))⟩,
 ⟨none, .mv 22 (.t 44)⟩])))
def l_polynomial_Mul_1 : C :=
 .seq (.reg [⟨none, .bin 17 .lss (.t 16) (.t 15)⟩])
 (.seq (.cond (.t 17) (.skip)
 (.exit 0))
 (.seq (.block 1 (.seq (.reg [⟨none, .iaddrS 18 12 (.t 14) (.t 16)⟩,
 ⟨none, .load 19 12 true (.t 18)⟩,
 ⟨none, .alloc 8 [.b false, .nil, .b false, .nil, .i .i64 0, .i .i64 0, .i .i64 0, .i .i64 0, .i .i64 0, .i .i64 0, .i .i64 0, .i .i64 0]⟩,
 ⟨none, .store 12 (.t 8) (.t 19)⟩])
 (.seq (.reg [⟨none, .mv 20 (.t 1)⟩,
 ⟨none, .len 21 (.t 20)⟩,
 ⟨none, .mv 22 (.c (.i .i64 0))⟩])
 (.block 2 (.loop l_polynomial_Mul_0)))))
 (.reg [⟨none, .bin 45 .add (.t 16) (.c (.i .i64 1))⟩,
 ⟨none, .mv 16 (.t 45)⟩])))
def c_polynomial_Mul : Fun := ⟨2, [.t 4, .t 5],
 .seq (.reg [⟨none, .mv 4 (.c (.nil))⟩,
 ⟨none, .mv 5 (.c (.i .i64 0))⟩])
 (.seq (.reg [⟨none, .mkmap 13⟩,
 ⟨none, .mv 6 (.t 13)⟩])
 (.seq (.seq (.reg [⟨none, .mv 14 (.t 0)⟩,
 ⟨none, .len 15 (.t 14)⟩,
 ⟨none, .mv 16 (.c (.i .i64 0))⟩])
 (.block 0 (.loop l_polynomial_Mul_1)))
 (.seq (.reg [⟨none, .mv 46 (.t 6)⟩,
 ⟨none, .call (some 47) n_polynomial_sum_poly [.t 46]⟩,
 ⟨none, .mv 4 (.t 47)⟩,
 ⟨none, .mv 5 (.c (.i .i64 0))⟩])
 (.ret))))⟩
/- (eliminant/polynomial.sum).add -/
def c_polynomial_sum_add : Fun := ⟨3, [],
 .seq (.reg [⟨none, .box 4 4 (.t 1)⟩,
 ⟨none, .box 5 8 (.t 2)⟩])
 (.seq (.seq (.reg [⟨none, .mv 9 (.t 0)⟩,
 ⟨none, .load 10 8 true (.t 5)⟩,
 ⟨none, .lookup 11 8 (.agg [.b false, .nil, .b false, .nil]) (.t 9) (.t 10) true⟩,
 ⟨none, .mv 8 (.t 11)⟩,
 ⟨none, .ext 12 0 (.t 8)⟩,
 ⟨none, .ext 13 1 (.t 8)⟩,
 ⟨none, .alloc 6 [.b false, .nil, .b false, .nil]⟩,
 ⟨none, .store 4 (.t 6) (.t 12)⟩,
 ⟨none, .mv 7 (.t 13)⟩])
 (.seq (.reg [⟨none, .mv 14 (.t 7)⟩])
 (.cond (.t 14) (.reg [⟨none, .load 15 4 true (.t 6)⟩,
 ⟨none, .load 16 4 true (.t 4)⟩,
 ⟨none, .call (some 17) n_rational_Add [.t 15, .t 16]⟩,
 ⟨none, .store 4 (.t 4) (.t 17)⟩])
 (.skip))))
 (.reg [⟨none, .mv 18 (.t 0)⟩,
 ⟨none, .load 19 8 true (.t 5)⟩,
 ⟨none, .load 20 4 true (.t 4)⟩,
 ⟨none, .mupd 8 (.t 18) (.t 19) (.t 20)⟩]))⟩
/- (eliminant/polynomial.sum).poly -/
/- (eliminant/polynomial.sum).poly$1 -/
def c_polynomial_sum_poly_1 : Fun := ⟨2, [.t 4],
 .seq (.reg [⟨none, .box 2 12 (.t 0)⟩,
 ⟨none, .box 3 12 (.t 1)⟩,
 ⟨none, .mv 4 (.c (.i .i64 0))⟩])
 (.seq (.reg [⟨none, .faddr 5 4 (.t 3)⟩,
 ⟨none, .load 6 8 true (.t 5)⟩,
 ⟨none, .faddr 7 4 (.t 2)⟩,
 ⟨none, .load 8 8 true (.t 7)⟩,
 ⟨none, .call (some 9) n_monomial_Cmp [.t 6, .t 8]⟩,
 ⟨none, .mv 4 (.t 9)⟩])
 (.ret))⟩
/- eliminant/division.Sum -/
/- eliminant/syzygy.Is -/
/- eliminant/monomial.Mul -/
def c_monomial_Mul : Fun := ⟨2, [.c 4 8 true, .t 5],
 .seq (.reg [⟨none, .box 2 8 (.t 0)⟩,
 ⟨none, .box 3 8 (.t 1)⟩,
 ⟨none, .alloc 4 [.i .i64 0, .i .i64 0, .i .i64 0, .i .i64 0, .i .i64 0, .i .i64 0, .i .i64 0, .i .i64 0]⟩,
 ⟨none, .mv 5 (.c (.i .i64 0))⟩])
 (.seq (.reg [⟨none, .load 7 8 true (.t 2)⟩,
 ⟨none, .load 8 8 true (.t 3)⟩,
 ⟨none, .call (some 9) n_monomial_each [.t 7, .t 8, .c (.fn n_monomial_Mul_1 [])]⟩,
 ⟨none, .alloc 6 [.i .i64 0, .i .i64 0, .i .i64 0, .i .i64 0, .i .i64 0, .i .i64 0, .i .i64 0, .i .i64 0]⟩,
 ⟨none, .store 8 (.t 6) (.t 9)⟩])
 (.seq (.seq (.reg [⟨none, .load 10 8 true (.t 6)⟩,
 ⟨none, .call (some 11) n_monomial_Valid [.t 10]⟩,
 ⟨none, .un 12 .not (.t 11)⟩])
 (.cond (.t 12) (.seq (.reg [⟨none, .build 13 [.i .i64 0, .i .i64 0, .i .i64 0, .i .i64 0, .i .i64 0, .i .i64 0, .i .i64 0, .i .i64 0] []⟩,
 ⟨none, .store 8 (.t 4) (.t 13)⟩,
 ⟨none, .mv 5 (.c (.i .i64 2))⟩])
 (.ret))
 (.skip)))
 (.seq (.reg [⟨none, .load 14 8 true (.t 6)⟩,
 ⟨none, .store 8 (.t 4) (.t 14)⟩,
 ⟨none, .mv 5 (.c (.i .i64 0))⟩])
 (.ret))))⟩
/- eliminant/monomial.Mul$1 -/
def c_monomial_Mul_1 : Fun := ⟨2, [.t 4],
 .seq (.reg [⟨none, .mv 4 (.c (.i .i64 0))⟩])
 (.seq (.reg [⟨none, .mv 5 (.t 0)⟩,
 ⟨none, .mv 6 (.t 1)⟩,
 ⟨none, .bin 7 .add (.t 5) (.t 6)⟩,
 ⟨none, .mv 4 (.t 7)⟩])
 (.ret))⟩
/- eliminant/monomial.each -/
def l_monomial_each_0 : C :=
 .seq (.reg [⟨none, .bin 9 .lss (.t 8) (.c (.i .i64 8))⟩])
 (.seq (.cond (.t 9) (.skip)
 (.exit 0))
 (.seq (.block 1 (.seq (.reg [⟨none, .mv 10 (.t 8)⟩,
 ⟨none, .mv 7 (.t 10)⟩])
 (.reg [⟨none, .mv 11 (.t 7)⟩,
 ⟨none, .mv 12 (.t 2)⟩,
 ⟨none, .mv 13 (.t 7)⟩,
 ⟨none, .iaddrA 14 8 1 (.t 3) (.t 13)⟩,
 ⟨none, .load 15 1 false (.t 14)⟩,
 ⟨none, .mv 16 (.t 7)⟩,
 ⟨none, .iaddrA 17 8 1 (.t 4) (.t 16)⟩,
 ⟨none, .load 18 1 false (.t 17)⟩,
 ⟨none, .callv (some 19) (.t 12) [.t 15, .t 18]⟩,
 ⟨none, .iaddrA 20 8 1 (.t 3) (.t 11)⟩,
 ⟨none, .store 1 (.t 20) (.t 19)⟩])))
 (.reg [⟨none, .bin 21 .add (.t 8) (.c (.i .i64 1))⟩,
 ⟨none, .mv 8 (.t 21)⟩])))
def c_monomial_each : Fun := ⟨3, [.c 6 8 true],
 .seq (.reg [⟨none, .box 3 8 (.t 0)⟩,
 ⟨none, .box 4 8 (.t 1)⟩,
 ⟨none, .alloc 6 [.i .i64 0, .i .i64 0, .i .i64 0, .i .i64 0, .i .i64 0, .i .i64 0, .i .i64 0, .i .i64 0]⟩])
 (.seq (.seq (.reg [⟨none, .mv 8 (.c (.i .i64 0))⟩])
 (.block 0 (.loop l_monomial_each_0)))
 (.seq (.reg [⟨none, .load 22 8 true (.t 3)⟩,
 ⟨none, .store 8 (.t 6) (.t 22)⟩])
 (.ret)))⟩
/- eliminant/monomial.Valid -/
def l_monomial_Valid_0 : C :=
 .seq (.reg [⟨none, .bin 7 .lss (.t 6) (.c (.i .i64 8))⟩])
 (.seq (.cond (.t 7) (.skip)
 (.exit 0))
 (.seq (.block 1 (.seq (.reg [⟨none, .idx 8 8 1 false (.t 5) (.t 6)⟩,
 ⟨none, .mv 4 (.t 8)⟩])
 (.seq (.reg [⟨none, .mv 9 (.t 4)⟩,
 ⟨none, .bin 10 .lss (.t 9) (.c (.i .i64 0))⟩,
 ⟨none, .mv 11 (.t 10)⟩,
 ⟨some (11, false, 12), .mv 12 (.t 4)⟩,
 ⟨some (11, false, 13), .bin 13 .gtr (.t 12) (.c (.i .i64 65535))⟩,
 ⟨none, .pick 14 (.t 11) (.c (.b true)) (.t 13)⟩])
 (.cond (.t 14) (.seq (.reg [⟨none, .mv 2 (.c (.b false))⟩])
 (.ret))
 (.skip)))))
 (.reg [⟨none, .bin 15 .add (.t 6) (.c (.i .i64 1))⟩,
 ⟨none, .mv 6 (.t 15)⟩])))
def c_monomial_Valid : Fun := ⟨1, [.t 2],
 .seq (.reg [⟨none, .box 1 8 (.t 0)⟩,
 ⟨none, .mv 2 (.c (.b false))⟩])
 (.seq (.seq (.reg [⟨none, .load 5 8 true (.t 1)⟩,
 ⟨none, .mv 6 (.c (.i .i64 0))⟩])
 (.block 0 (.loop l_monomial_Valid_0)))
 (.seq (.reg [⟨none, .mv 2 (.c (.b true))⟩])
 (.ret)))⟩
/- eliminant/monomial.Cmp -/
def c_monomial_Cmp : Fun := ⟨2, [.t 4],
 .seq (.reg [⟨none, .box 2 8 (.t 0)⟩,
 ⟨none, .box 3 8 (.t 1)⟩,
 ⟨none, .mv 4 (.c (.i .i64 0))⟩])
 (.seq (.reg [⟨none, .sliceA 5 8 (.t 2)⟩,
 ⟨none, .sliceA 6 8 (.t 3)⟩,
 ⟨none, .call (some 7) n_slices_Compare_int_int [.t 5, .t 6]⟩,
 ⟨none, .mv 4 (.t 7)⟩])
 (.ret))⟩
/- slices.Compare[[]int,int] -/
def l_slices_Compare_int_int_0 : C :=
 .seq (.reg [⟨none, .bin 12 .lss (.t 11) (.t 10)⟩])
 (.seq (.cond (.t 12) (.skip)
 (.exit 0))
 (.seq (.block 1 (.seq (.reg [⟨none, .mv 13 (.t 11)⟩,
 ⟨none, .iaddrS 14 1 (.t 9) (.t 11)⟩,
 ⟨none, .load 15 1 false (.t 14)⟩,
 ⟨none, .mv 5 (.t 13)⟩,
 ⟨none, .mv 6 (.t 15)⟩])
 (.seq (.seq (.reg [⟨none, .mv 16 (.t 5)⟩,
 ⟨none, .mv 17 (.t 1)⟩,
 ⟨none, .len 18 (.t 17)⟩,
 ⟨none, .bin 19 .geq (.t 16) (.t 18)⟩])
 (.cond (.t 19) (.seq (.reg [⟨none, .mv 4 (.c (.i .i64 1))⟩])
 (.ret))
 (.skip)))
 (.seq (.reg [⟨none, .mv 20 (.t 1)⟩,
 ⟨none, .mv 21 (.t 5)⟩,
 ⟨none, .iaddrS 22 1 (.t 20) (.t 21)⟩,
 ⟨none, .load 23 1 false (.t 22)⟩,
 ⟨none, .mv 7 (.t 23)⟩])
 (.seq (.reg [⟨none, .mv 24 (.t 6)⟩,
 ⟨none, .mv 25 (.t 7)⟩,
 ⟨none, .call (some 26) n_cmp_Compare_int [.t 24, .t 25]⟩,
 ⟨none, .mv 8 (.t 26)⟩])
 (.seq (.reg [⟨none, .mv 27 (.t 8)⟩,
 ⟨none, .bin 28 .neq (.t 27) (.c (.i .i64 0))⟩])
 (.cond (.t 28) (.seq (.reg [⟨none, .mv 29 (.t 8)⟩,
 ⟨none, .mv 4 (.t 29)⟩])
 (.ret))
 (.skip))))))))
 (.reg [⟨none, .bin 30 .add (.t 11) (.c (.i .i64 1))⟩,
 ⟨none, .mv 11 (.t 30)⟩])))
def c_slices_Compare_int_int : Fun := ⟨2, [.t 4],
 .seq (.reg [⟨none, .mv 4 (.c (.i .i64 0))⟩])
 (.seq (.seq (.reg [⟨none, .mv 9 (.t 0)⟩,
 ⟨none, .len 10 (.t 9)⟩,
 ⟨none, .mv 11 (.c (.i .i64 0))⟩])
 (.block 0 (.loop l_slices_Compare_int_int_0)))
 (.seq (.seq (.reg [⟨none, .mv 31 (.t 0)⟩,
 ⟨none, .len 32 (.t 31)⟩,
 ⟨none, .mv 33 (.t 1)⟩,
 ⟨none, .len 34 (.t 33)⟩,
 ⟨none, .bin 35 .lss (.t 32) (.t 34)⟩])
 (.cond (.t 35) (.seq (.reg [⟨none, .mv 4 (.c (.i .i64 (-1)))⟩])
 (.ret))
 (.skip)))
 (.seq (.reg [⟨none, .mv 4 (.c (.i .i64 0))⟩])
 (.ret))))⟩
/- cmp.Compare[int] -/
def c_cmp_Compare_int : Fun := ⟨2, [.t 4],
 .seq (.reg [⟨none, .mv 4 (.c (.i .i64 0))⟩])
 (.seq (.reg [⟨none, .mv 7 (.t 0)⟩,
 ⟨none, .call (some 8) n_cmp_isNaN_int [.t 7]⟩,
 ⟨none, .mv 5 (.t 8)⟩])
 (.seq (.reg [⟨none, .mv 9 (.t 1)⟩,
 ⟨none, .call (some 10) n_cmp_isNaN_int [.t 9]⟩,
 ⟨none, .mv 6 (.t 10)⟩])
 (.seq (.seq (.reg [⟨none, .mv 11 (.t 5)⟩])
 (.cond (.t 11) (.seq (.seq (.reg [⟨none, .mv 12 (.t 6)⟩])
 (.cond (.t 12) (.seq (.reg [⟨none, .mv 4 (.c (.i .i64 0))⟩])
 (.ret))
 (.skip)))
 (.seq (.reg [⟨none, .mv 4 (.c (.i .i64 (-1)))⟩])
 (.ret)))
 (.skip)))
 (.seq (.seq (.reg [⟨none, .mv 13 (.t 6)⟩])
 (.cond (.t 13) (.seq (.reg [⟨none, .mv 4 (.c (.i .i64 1))⟩])
 (.ret))
 (.skip)))
 (.seq (.seq (.reg [⟨none, .mv 14 (.t 0)⟩,
 ⟨none, .mv 15 (.t 1)⟩,
 ⟨none, .bin 16 .lss (.t 14) (.t 15)⟩])
 (.cond (.t 16) (.seq (.reg [⟨none, .mv 4 (.c (.i .i64 (-1)))⟩])
 (.ret))
 (.skip)))
 (.seq (.seq (.reg [⟨none, .mv 17 (.t 0)⟩,
 ⟨none, .mv 18 (.t 1)⟩,
 ⟨none, .bin 19 .gtr (.t 17) (.t 18)⟩])
 (.cond (.t 19) (.seq (.reg [⟨none, .mv 4 (.c (.i .i64 1))⟩])
 (.ret))
 (.skip)))
 (.seq (.reg [⟨none, .mv 4 (.c (.i .i64 0))⟩])
 (.ret))))))))⟩
/- eliminant/eliminantlaw19.poly -/
/- eliminant/eliminantlaw19.SyzygyIs -/
/- eliminant/eliminantlaw19.sanity -/
/- eliminant/rational.Sign -/
def c_rational_Sign : Fun := ⟨1, [.t 2],
 .seq (.reg [⟨none, .box 1 4 (.t 0)⟩,
 ⟨none, .mv 2 (.c (.i .i64 0))⟩])
 (.seq (.reg [⟨none, .faddr 3 0 (.t 1)⟩,
 ⟨none, .load 4 2 true (.t 3)⟩,
 ⟨none, .call (some 5) n_integer_Sign [.t 4]⟩,
 ⟨none, .mv 2 (.t 5)⟩])
 (.ret))⟩
/- eliminant/eliminantref02.Sign -/
def c_ref02_Sign : Fun := ⟨1, [.t 2],
 .seq (.reg [⟨none, .box 1 4 (.t 0)⟩,
 ⟨none, .mv 2 (.c (.i .i64 0))⟩])
 (.seq (.reg [⟨none, .faddr 3 0 (.t 1)⟩,
 ⟨none, .load 4 2 true (.t 3)⟩,
 ⟨none, .call (some 5) n_ref01_Sign [.t 4]⟩,
 ⟨none, .mv 2 (.t 5)⟩])
 (.ret))⟩
/- eliminant/integer.Sign -/
def c_integer_Sign : Fun := ⟨1, [.t 2],
 .seq (.reg [⟨none, .box 1 2 (.t 0)⟩,
 ⟨none, .mv 2 (.c (.i .i64 0))⟩])
 (.seq (.seq (.reg [⟨none, .faddr 3 0 (.t 1)⟩,
 ⟨none, .load 4 1 false (.t 3)⟩])
 (.cond (.t 4) (.seq (.reg [⟨none, .mv 2 (.c (.i .i64 (-1)))⟩])
 (.ret))
 (.skip)))
 (.seq (.reg [⟨none, .faddr 5 1 (.t 1)⟩,
 ⟨none, .load 6 1 false (.t 5)⟩,
 ⟨none, .len 7 (.t 6)⟩,
 ⟨none, .mnx 8 false (.t 7) (.c (.i .i64 1))⟩,
 ⟨none, .mv 2 (.t 8)⟩])
 (.ret)))⟩
/- eliminant/eliminantref01.Sign -/
def c_ref01_Sign : Fun := ⟨1, [.t 2],
 .seq (.reg [⟨none, .box 1 2 (.t 0)⟩,
 ⟨none, .mv 2 (.c (.i .i64 0))⟩])
 (.seq (.seq (.reg [⟨none, .faddr 3 0 (.t 1)⟩,
 ⟨none, .load 4 1 false (.t 3)⟩])
 (.cond (.t 4) (.seq (.reg [⟨none, .mv 2 (.c (.i .i64 (-1)))⟩])
 (.ret))
 (.skip)))
 (.seq (.reg [⟨none, .faddr 5 1 (.t 1)⟩,
 ⟨none, .load 6 1 false (.t 5)⟩,
 ⟨none, .len 7 (.t 6)⟩,
 ⟨none, .mnx 8 false (.t 7) (.c (.i .i64 1))⟩,
 ⟨none, .mv 2 (.t 8)⟩])
 (.ret)))⟩
/- eliminant/eliminantref02.Whole -/
def c_ref02_Whole : Fun := ⟨1, [.c 2 4 true],
 .seq (.reg [⟨none, .alloc 2 [.b false, .nil, .b false, .nil]⟩])
 (.seq (.reg [⟨none, .mv 3 (.t 0)⟩,
 ⟨none, .call (some 4) n_ref01_Of [.t 3]⟩,
 ⟨none, .call (some 5) n_ref01_Of [.c (.i .i64 1)]⟩,
 ⟨none, .build 6 [.b false, .nil, .b false, .nil] [(0, 2, .t 4), (2, 2, .t 5)]⟩,
 ⟨none, .store 4 (.t 2) (.t 6)⟩])
 (.ret))⟩
/- cmp.isNaN[int] -/
def c_cmp_isNaN_int : Fun := ⟨1, [.t 2],
 .seq (.reg [⟨none, .mv 2 (.c (.b false))⟩])
 (.seq (.reg [⟨none, .mv 3 (.t 0)⟩,
 ⟨none, .mv 4 (.t 0)⟩,
 ⟨none, .bin 5 .neq (.t 3) (.t 4)⟩,
 ⟨none, .mv 2 (.t 5)⟩])
 (.ret))⟩
/- eliminant/eliminantref04.Valid -/
def l_ref04_Valid_0 : C :=
 .seq (.seq (.reg [⟨none, .mv 4 (.t 3)⟩,
 ⟨none, .bin 5 .lss (.t 4) (.c (.i .i64 8))⟩])
 (.cond (.t 5) (.skip)
 (.exit 0)))
 (.seq (.block 1 (.seq (.reg [⟨none, .mv 8 (.t 3)⟩,
 ⟨none, .iaddrA 9 8 1 (.t 1) (.t 8)⟩,
 ⟨none, .load 10 1 false (.t 9)⟩,
 ⟨none, .bin 11 .lss (.t 10) (.c (.i .i64 0))⟩,
 ⟨none, .mv 12 (.t 11)⟩,
 ⟨some (12, false, 13), .mv 13 (.t 3)⟩,
 ⟨some (12, false, 14), .iaddrA 14 8 1 (.t 1) (.t 13)⟩,
 ⟨some (12, false, 15), .load 15 1 false (.t 14)⟩,
 ⟨some (12, false, 16), .bin 16 .gtr (.t 15) (.c (.i .i64 65535))⟩,
 ⟨none, .pick 17 (.t 12) (.c (.b true)) (.t 16)⟩])
 (.cond (.t 17) (.seq (.reg [⟨none, .mv 2 (.c (.b false))⟩])
 (.ret))
 (.skip))))
 (.reg [⟨none, .mv 6 (.t 3)⟩,
 ⟨none, .bin 7 .add (.t 6) (.c (.i .i64 1))⟩,
 ⟨none, .mv 3 (.t 7)⟩]))
def c_ref04_Valid : Fun := ⟨1, [.t 2],
 .seq (.reg [⟨none, .box 1 8 (.t 0)⟩,
 ⟨none, .mv 2 (.c (.b false))⟩])
 (.seq (.seq (.reg [⟨none, .mv 3 (.c (.i .i64 0))⟩])
 (.block 0 (.loop l_ref04_Valid_0)))
 (.seq (.reg [⟨none, .mv 2 (.c (.b true))⟩])
 (.ret)))⟩
/- eliminant/eliminantref04.Divides -/
/- eliminant/eliminantref04.Quo -/
/- eliminant/eliminantref04.Lcm -/
/- eliminant/eliminantref04.Gcd -/
/- eliminant/eliminantref04.Degree -/
/- eliminant/eliminantref04.Support -/
/- eliminant/eliminantref02.Same -/
def c_ref02_Same : Fun := ⟨2, [.t 4],
 .seq (.reg [⟨none, .box 2 4 (.t 0)⟩,
 ⟨none, .box 3 4 (.t 1)⟩,
 ⟨none, .mv 4 (.c (.b false))⟩])
 (.seq (.reg [⟨none, .faddr 5 0 (.t 2)⟩,
 ⟨none, .load 6 2 true (.t 5)⟩,
 ⟨none, .faddr 7 0 (.t 3)⟩,
 ⟨none, .load 8 2 true (.t 7)⟩,
 ⟨none, .call (some 9) n_ref02_same [.t 6, .t 8]⟩,
 ⟨none, .mv 10 (.t 9)⟩,
 ⟨some (10, true, 11), .faddr 11 2 (.t 2)⟩,
 ⟨some (10, true, 12), .load 12 2 true (.t 11)⟩,
 ⟨some (10, true, 13), .faddr 13 2 (.t 3)⟩,
 ⟨some (10, true, 14), .load 14 2 true (.t 13)⟩,
 ⟨some (10, true, 15), .call (some 15) n_ref02_same [.t 12, .t 14]⟩,
 ⟨none, .pick 16 (.t 10) (.t 15) (.c (.b false))⟩,
 ⟨none, .mv 4 (.t 16)⟩])
 (.ret))⟩
/- eliminant/eliminantref02.same -/
def l_ref02_same_0 : C :=
 .seq (.seq (.reg [⟨none, .mv 20 (.t 5)⟩,
 ⟨none, .faddr 21 1 (.t 2)⟩,
 ⟨none, .load 22 1 false (.t 21)⟩,
 ⟨none, .len 23 (.t 22)⟩,
 ⟨none, .bin 24 .lss (.t 20) (.t 23)⟩])
 (.cond (.t 24) (.skip)
 (.exit 0)))
 (.seq (.block 1 (.seq (.reg [⟨none, .faddr 27 1 (.t 2)⟩,
 ⟨none, .load 28 1 false (.t 27)⟩,
 ⟨none, .mv 29 (.t 5)⟩,
 ⟨none, .iaddrS 30 1 (.t 28) (.t 29)⟩,
 ⟨none, .load 31 1 false (.t 30)⟩,
 ⟨none, .faddr 32 1 (.t 3)⟩,
 ⟨none, .load 33 1 false (.t 32)⟩,
 ⟨none, .mv 34 (.t 5)⟩,
 ⟨none, .iaddrS 35 1 (.t 33) (.t 34)⟩,
 ⟨none, .load 36 1 false (.t 35)⟩,
 ⟨none, .bin 37 .neq (.t 31) (.t 36)⟩])
 (.cond (.t 37) (.seq (.reg [⟨none, .mv 4 (.c (.b false))⟩])
 (.ret))
 (.skip))))
 (.reg [⟨none, .mv 25 (.t 5)⟩,
 ⟨none, .bin 26 .add (.t 25) (.c (.i .i64 1))⟩,
 ⟨none, .mv 5 (.t 26)⟩]))
def c_ref02_same : Fun := ⟨2, [.t 4],
 .seq (.reg [⟨none, .box 2 2 (.t 0)⟩,
 ⟨none, .box 3 2 (.t 1)⟩,
 ⟨none, .mv 4 (.c (.b false))⟩])
 (.seq (.seq (.reg [⟨none, .faddr 6 0 (.t 2)⟩,
 ⟨none, .load 7 1 false (.t 6)⟩,
 ⟨none, .faddr 8 0 (.t 3)⟩,
 ⟨none, .load 9 1 false (.t 8)⟩,
 ⟨none, .beq 10 true (.t 7) (.t 9)⟩,
 ⟨none, .mv 11 (.t 10)⟩,
 ⟨some (11, false, 12), .faddr 12 1 (.t 2)⟩,
 ⟨some (11, false, 13), .load 13 1 false (.t 12)⟩,
 ⟨some (11, false, 14), .len 14 (.t 13)⟩,
 ⟨some (11, false, 15), .faddr 15 1 (.t 3)⟩,
 ⟨some (11, false, 16), .load 16 1 false (.t 15)⟩,
 ⟨some (11, false, 17), .len 17 (.t 16)⟩,
 ⟨some (11, false, 18), .bin 18 .neq (.t 14) (.t 17)⟩,
 ⟨none, .pick 19 (.t 11) (.c (.b true)) (.t 18)⟩])
 (.cond (.t 19) (.seq (.reg [⟨none, .mv 4 (.c (.b false))⟩])
 (.ret))
 (.skip)))
 (.seq (.seq (.reg [⟨none, .mv 5 (.c (.i .i64 0))⟩])
 (.block 0 (.loop l_ref02_same_0)))
 (.seq (.reg [⟨none, .mv 4 (.c (.b true))⟩])
 (.ret))))⟩
end Go.Ev

/- Monomials: what the functions of both implementations give. -/
namespace Go.Ev
open Go.Pm

namespace Mo
def zip (f : Int → Int → Int) (a b : Mono) : Mono := ⟨f a.e0 b.e0, f a.e1 b.e1, f a.e2 b.e2, f a.e3 b.e3, f a.e4 b.e4, f a.e5 b.e5, f a.e6 b.e6, f a.e7 b.e7⟩
/-- All exponents lie between 0 and a bound. -/
def bd (d : Int) (m : Mono) : Prop := ∀ e ∈ m.l, 0 ≤ e ∧ e ≤ d
instance (d : Int) (m : Mono) : Decidable (bd d m) := inferInstanceAs (Decidable (∀ e ∈ m.l, 0 ≤ e ∧ e ≤ d))
theorem bd_mono {d d' : Int} {m : Mono} (h : bd d m) (hd : d ≤ d') : bd d' m := fun e he => ⟨(h e he).1, Int.le_trans (h e he).2 hd⟩
theorem bd_iff {d : Int} {m : Mono} : bd d m ↔ (0 ≤ m.e0 ∧ m.e0 ≤ d) ∧ (0 ≤ m.e1 ∧ m.e1 ≤ d) ∧ (0 ≤ m.e2 ∧ m.e2 ≤ d) ∧ (0 ≤ m.e3 ∧ m.e3 ≤ d) ∧ (0 ≤ m.e4 ∧ m.e4 ≤ d) ∧ (0 ≤ m.e5 ∧ m.e5 ≤ d) ∧ (0 ≤ m.e6 ∧ m.e6 ≤ d) ∧ (0 ≤ m.e7 ∧ m.e7 ≤ d) := by
  simp [bd, Mono.l]
theorem bd_add {d d' : Int} {a b : Mono} (h : bd d a) (g : bd d' b) : bd (d + d') (a.add b) := by
  rw [bd_iff] at *
  simp only [Mono.add]; omega
theorem bd_zero {d : Int} (h : 0 ≤ d) : bd d Mono.zero := by rw [bd_iff]; simp [Mono.zero, h]
end Mo

theorem mcells_zero : mcells Mono.zero = [.i .i64 0, .i .i64 0, .i .i64 0, .i .i64 0, .i .i64 0, .i .i64 0, .i .i64 0, .i .i64 0] := rfl
theorem l_length (m : Mono) : m.l.length = 8 := (rfl)

theorem part_ints {k : IntKind} {l : List Int} {i : Nat} {x : Int} {r : List Int} (h : l.drop i = x :: r) : part (l.map (DV.i k ·)) i 1 false = some (.i k x) := by
  have : l[i]? = some x := by rw [← List.head?_drop, h]; rfl
  simp [part, this]

theorem fill_ints {k : IntKind} {l : List Int} {i : Nat} {x v : Int} {r : List Int} (h : l.drop i = x :: r) : fillL (l.map (DV.i k ·)) [(i, 1, .i k v)] = some ((l.take i ++ v :: r).map (DV.i k ·)) := by
  have h1 : i < l.length := by
    have := congrArg List.length h
    rw [List.length_drop, List.length_cons] at this
    omega
  have h2 : l.drop (i + 1) = r := by rw [← List.drop_drop, h]; rfl
  simp [fillL, cells, isCell, List.map_take, List.map_drop, ← h2]
  omega

theorem mono_drop (a : Mono) {i : Nat} (h : i < 8) : ∃ x r, a.l.drop i = x :: r ∧ a.l.drop (i + 1) = r ∧ part (mcells a) i 1 false = some (.i .i64 x) := by
  obtain ⟨x, r, h1, h2⟩ := drop_cons (p := a.l) (i := i) (by simpa [Mono.l] using h)
  exact ⟨x, r, h1, h2, part_ints h1⟩

theorem nth_one {ob : Ob} : nth [ob] 0 = if ob.k = 3 then none else some ob := nth_top
theorem setAt_one {ob ob' : Ob} : setAt [ob] 0 ob' = [ob'] := setAt_top
attribute [simp] nth_one setAt_one un un0 conv l_length

def ICmp (a b : Mono) (n : Nat) (s : St) : Prop := ∃ i, n = 8 - i ∧ i ≤ 8 ∧ lexc (a.l.drop i) (b.l.drop i) = Mono.cmp a b ∧ gt s 5 = some (.i .i64 (i : Nat)) ∧ gt s 2 = some (.ptr 2 0 0) ∧ gt s 3 = some (.ptr 3 0 0) ∧
  lst s 2 = [⟨2, 0, mcells a⟩] ∧ lst s 3 = [⟨2, 0, mcells b⟩] ∧ s.z = []

set_option maxHeartbeats 2000000 in
theorem ref04_Cmp_rets (cs : Sem) (a b : Mono) : Rets KK cs false c_ref04_Cmp [dMono a, dMono b] (.i .i64 (Mono.cmp a b)) [] := by
  refine Rets.of rfl ?_
  unfold c_ref04_Cmp
  simp
  apply W_loop (ICmp a b) 8
  · exact ⟨0, by simp [Mono.cmp]⟩
  rintro n s ⟨i, hn, hi, hc, h5, h2, h3, g2, g3, hz⟩
  by_cases hi' : i < 8
  · obtain ⟨x, xs, hx, hx1, px⟩ := mono_drop a hi'
    obtain ⟨y, ys, hy, hy1, py⟩ := mono_drop b hi'
    have c0 : (i : Int) < 8 := by omega
    have w1 : IntKind.i64.wrap ((i : Int) + 1) = (i : Int) + 1 := wrap_i64 (by omega) (by omega)
    rw [hx, hy] at hc
    unfold lexc at hc
    have hc := hc.symm
    by_cases c1 : x < y
    · rw [if_pos c1] at hc
      simp [l_ref04_Cmp_0, h5, h2, h3, g2, g3, c0, px, py, c1, hc]
    · rw [if_neg c1] at hc
      by_cases c2 : y < x
      · rw [if_pos c2] at hc
        simp [l_ref04_Cmp_0, h5, h2, h3, g2, g3, c0, px, py, c1, c2, hc]
      · rw [if_neg c2] at hc
        simp [l_ref04_Cmp_0, h5, h2, h3, g2, g3, c0, px, py, c1, c2, w1]
        exact ⟨8 - (i + 1), by omega, i + 1, rfl, by omega, by rw [hx1, hy1]; exact hc.symm, by simp [h5, h2, h3, g2, g3, hz]⟩
  · have e : i = 8 := by omega
    subst e
    have : Mono.cmp a b = 0 := by rw [← hc]; simp [Mono.l, lexc]
    simp [l_ref04_Cmp_0, h5, h2, h3, this]

theorem bd_split {d : Int} {a : Mono} {i : Nat} {x : Int} {xs : List Int} (hx : a.l.drop i = x :: xs) (h : ∀ e ∈ a.l.take i, 0 ≤ e ∧ e ≤ d) : (0 ≤ x ∧ x ≤ d) → ∀ e ∈ a.l.take (i + 1), 0 ≤ e ∧ e ≤ d := by
  intro hd e he
  have e1 : a.l.take (i + 1) = a.l.take i ++ [x] := by rw [List.take_add, hx]; rfl
  rw [e1, List.mem_append] at he
  rcases he with he | he
  · exact h e he
  · simp at he; subst he; exact hd

theorem bd_not {d : Int} {a : Mono} {i : Nat} {x : Int} {xs : List Int} (hx : a.l.drop i = x :: xs) (hd : ¬ (0 ≤ x ∧ x ≤ d)) : ¬ Mo.bd d a := fun h => hd (h x (List.mem_of_mem_drop (by rw [hx]; exact List.mem_cons_self ..)))

def IVal (a : Mono) (sl : Nat) (n : Nat) (s : St) : Prop := ∃ i, n = 8 - i ∧ i ≤ 8 ∧ (∀ e ∈ a.l.take i, 0 ≤ e ∧ e ≤ 65535) ∧ gt s sl = some (.i .i64 (i : Nat)) ∧ gt s 1 = some (.ptr 1 0 0) ∧ lst s 1 = [⟨2, 0, mcells a⟩] ∧ s.z = []

set_option maxHeartbeats 2000000 in
theorem ref04_Valid_rets (cs : Sem) (a : Mono) : Rets KK cs false c_ref04_Valid [dMono a] (.b (decide (Mo.bd 65535 a))) [] := by
  refine Rets.of rfl ?_
  unfold c_ref04_Valid
  simp
  apply W_loop (IVal a 3) 8
  · exact ⟨0, by simp⟩
  rintro n s ⟨i, hn, hi, hc, h5, h2, g2, hz⟩
  by_cases hi' : i < 8
  · obtain ⟨x, xs, hx, hx1, px⟩ := mono_drop a hi'
    have c0 : (i : Int) < 8 := by omega
    have w1 : IntKind.i64.wrap ((i : Int) + 1) = (i : Int) + 1 := wrap_i64 (by omega) (by omega)
    by_cases c1 : x < 0
    · have := bd_not (d := 65535) hx (by omega)
      simp [l_ref04_Valid_0, h5, h2, g2, c0, px, c1, this]
    · by_cases c2 : 65535 < x
      · have := bd_not (d := 65535) hx (by omega)
        simp [l_ref04_Valid_0, h5, h2, g2, c0, px, c1, c2, this]
      · simp [l_ref04_Valid_0, h5, h2, g2, c0, px, c1, c2, w1]
        exact ⟨8 - (i + 1), by omega, i + 1, rfl, by omega, bd_split hx hc (by omega), by simp [h5, h2, g2, hz]⟩
  · have e : i = 8 := by omega
    subst e
    have : Mo.bd 65535 a := fun e he => hc e (by rw [List.take_of_length_le (by simp)]; exact he)
    simp [l_ref04_Valid_0, h5, h2, this]

/-- A row of integers in the making: the first i are done. -/
structure Zp (f : Int → Int → Int) (a b : List Int) (i : Nat) (Z : List Int) : Prop where
  done : ∃ d, d.length = i ∧ Z = d ++ a.drop i ∧ d ++ List.zipWith f (a.drop i) (b.drop i) = List.zipWith f a b

theorem Zp.start (f : Int → Int → Int) (a b : List Int) : Zp f a b 0 a := ⟨⟨[], rfl, by simp, by simp⟩⟩
theorem Zp.drop {f : Int → Int → Int} {a b Z : List Int} {i : Nat} (h : Zp f a b i Z) : Z.drop i = a.drop i := by
  obtain ⟨d, h1, h2, _⟩ := h.done
  rw [h2, ← h1, List.drop_left]
theorem Zp.step {f : Int → Int → Int} {a b Z : List Int} {i : Nat} {x y : Int} {xs ys : List Int} (h : Zp f a b i Z) (hx : a.drop i = x :: xs) (hy : b.drop i = y :: ys) : Zp f a b (i + 1) (Z.take i ++ f x y :: xs) := by
  obtain ⟨d, h1, h2, h3⟩ := h.done
  have e1 : a.drop (i + 1) = xs := by rw [← List.drop_drop, hx]; rfl
  have e2 : b.drop (i + 1) = ys := by rw [← List.drop_drop, hy]; rfl
  refine ⟨⟨d ++ [f x y], by simp [h1], ?_, ?_⟩⟩
  · rw [h2, ← h1, List.take_left, h1, e1]; simp
  · rw [e1, e2, ← h3, hx, hy]; simp
theorem Zp.fin {f : Int → Int → Int} {a b Z : List Int} {i : Nat} (h : Zp f a b i Z) (hi : a.length ≤ i) : Z = List.zipWith f a b := by
  obtain ⟨d, h1, h2, h3⟩ := h.done
  rw [← h3, h2, List.drop_eq_nil_of_le hi]; simp

theorem z_mcells {Z : List Int} {m : Mono} (h : Z = m.l) : Z.map (DV.i .i64 ·) = mcells m := by rw [h]; rfl

def IMul (a b : Mono) (n : Nat) (s : St) : Prop := ∃ i Z, n = 8 - i ∧ i ≤ 8 ∧ Zp (fun x y => x + y) a.l b.l i Z ∧ gt s 6 = some (.i .i64 (i : Nat)) ∧ gt s 2 = some (.ptr 2 0 0) ∧ gt s 3 = some (.ptr 3 0 0) ∧ gt s 4 = some (.ptr 4 0 0) ∧
  lst s 2 = [⟨2, 0, Z.map (DV.i .i64 ·)⟩] ∧ lst s 3 = [⟨2, 0, mcells b⟩] ∧ lst s 4 = [⟨2, 0, mcells Mono.zero⟩] ∧ s.z = []

set_option maxHeartbeats 2000000 in
theorem ref04_Mul_rets (cs : Sem) (hval : ∀ a, cs n_ref04_Valid [dMono a] = some (.b (decide (Mo.bd 65535 a)), [])) (a b : Mono) (ha : Mo.bd 65535 a) (hb : Mo.bd 65535 b) :
    Rets KK cs false c_ref04_Mul [dMono a, dMono b] (.tup [dMono (if Mo.bd 65535 (a.add b) then a.add b else Mono.zero), .i .i64 (if Mo.bd 65535 (a.add b) then 0 else 2)]) [] := by
  refine Rets.of rfl ?_
  unfold c_ref04_Mul
  simp
  apply W_loop (IMul a b) 8
  · exact ⟨0, a.l, by simp [mcells, Mono.zero, Mono.l, Zp.start]⟩
  rintro n s ⟨i, Z, hn, hi, hZ, h6, h2, h3, h4, g2, g3, g4, hz⟩
  by_cases hi' : i < 8
  · obtain ⟨x, xs, hx, hx1, px⟩ := mono_drop a hi'
    obtain ⟨y, ys, hy, hy1, py⟩ := mono_drop b hi'
    have c0 : (i : Int) < 8 := by omega
    have w1 : IntKind.i64.wrap ((i : Int) + 1) = (i : Int) + 1 := wrap_i64 (by omega) (by omega)
    have bx := ha x (List.mem_of_mem_drop (by rw [hx]; exact List.mem_cons_self ..))
    have bY := hb y (List.mem_of_mem_drop (by rw [hy]; exact List.mem_cons_self ..))
    have w2 : IntKind.i64.wrap (x + y) = x + y := wrap_i64 (by omega) (by omega)
    have pz := part_ints (k := .i64) (hZ.drop.trans hx)
    have fz := fill_ints (k := .i64) (v := x + y) (hZ.drop.trans hx)
    simp [l_ref04_Mul_0, h6, h2, h3, h4, g2, g3, g4, hz, c0, pz, py, fz, w1, w2, -List.map_append, -List.map_cons, -List.map_take]
    exact ⟨8 - (i + 1), by omega, i + 1, _, rfl, by omega, hZ.step hx hy, by simp [h2, h3, h4, g2, g3, g4, hz, -List.map_append, -List.map_cons, -List.map_take]⟩
  · have e : i = 8 := by omega
    subst e
    have hZ' : Z = (a.add b).l := hZ.fin (by simp)
    rw [z_mcells hZ'] at g2
    by_cases hv : Mo.bd 65535 (a.add b)
    · simp [l_ref04_Mul_0, h6, h2, h3, h4, g2, g3, g4, hz, hval, hv]
    · simp [l_ref04_Mul_0, h6, h2, h3, h4, g2, g3, g4, hz, hval, hv, ← mcells_zero]

/-! ### The program's functions -/

theorem cmp_isNaN_int_rets (cs : Sem) (x : Int) : Rets KK cs false c_cmp_isNaN_int [.i .i64 x] (.b false) [] := by
  refine Rets.of rfl ?_
  unfold c_cmp_isNaN_int
  simp

set_option maxHeartbeats 2000000 in
theorem cmp_Compare_int_rets (cs : Sem) (hnan : ∀ x, cs n_cmp_isNaN_int [.i .i64 x] = some (.b false, [])) (x y : Int) : Rets KK cs false c_cmp_Compare_int [.i .i64 x, .i .i64 y] (.i .i64 (if x < y then -1 else if y < x then 1 else 0)) [] := by
  refine Rets.of rfl ?_
  unfold c_cmp_Compare_int
  by_cases c1 : x < y
  · simp [hnan, c1]
  · by_cases c2 : y < x
    · simp [hnan, c1, c2]
    · simp [hnan, c1, c2]

def ISCmp (a b : Mono) (n : Nat) (s : St) : Prop := ∃ i, n = 8 - i ∧ i ≤ 8 ∧ lexc (a.l.drop i) (b.l.drop i) = Mono.cmp a b ∧ gt s 11 = some (.i .i64 (i : Nat)) ∧ gt s 9 = some (.sl 8 (mcells a)) ∧ gt s 10 = some (.i .i64 8) ∧ gt s 0 = some (.sl 8 (mcells a)) ∧ gt s 1 = some (.sl 8 (mcells b)) ∧ s.z = []

theorem part_mdrop {a : Mono} {i : Nat} {x : Int} {r : List Int} (h : a.l.drop i = x :: r) : part ((mcells a).drop i) 0 1 false = some (.i .i64 x) := by
  have : (mcells a).drop i = (x :: r).map (DV.i .i64 ·) := by rw [← h, List.map_drop]; rfl
  rw [this]; rfl

set_option maxHeartbeats 2000000 in
theorem slices_Compare_rets (cs : Sem) (hcmp : ∀ x y, cs n_cmp_Compare_int [.i .i64 x, .i .i64 y] = some (.i .i64 (if x < y then -1 else if y < x then 1 else 0), [])) (a b : Mono) :
    Rets KK cs false c_slices_Compare_int_int [.sl 8 (mcells a), .sl 8 (mcells b)] (.i .i64 (Mono.cmp a b)) [] := by
  refine Rets.of rfl ?_
  unfold c_slices_Compare_int_int
  simp
  apply W_loop (ISCmp a b) 8
  · exact ⟨0, by simp [Mono.cmp]⟩
  rintro n s ⟨i, hn, hi, hc, h11, h9, h10, h0, h1, hz⟩
  by_cases hi' : i < 8
  · obtain ⟨x, xs, hx, hx1, px⟩ := mono_drop a hi'
    obtain ⟨y, ys, hy, hy1, py⟩ := mono_drop b hi'
    have c0 : (i : Int) < 8 := by omega
    have c00 : ¬ (8 : Int) ≤ i := by omega
    have w1 : IntKind.i64.wrap ((i : Int) + 1) = (i : Int) + 1 := wrap_i64 (by omega) (by omega)
    have qx := part_mdrop hx
    have qy := part_mdrop hy
    rw [hx, hy] at hc
    unfold lexc at hc
    have hc := hc.symm
    by_cases c1 : x < y
    · rw [if_pos c1] at hc
      simp [l_slices_Compare_int_int_0, h11, h9, h10, h0, h1, c0, c00, qx, qy, hcmp, c1, hc]
    · rw [if_neg c1] at hc
      by_cases c2 : y < x
      · rw [if_pos c2] at hc
        simp [l_slices_Compare_int_int_0, h11, h9, h10, h0, h1, c0, c00, qx, qy, hcmp, c1, c2, hc]
      · rw [if_neg c2] at hc
        simp [l_slices_Compare_int_int_0, h11, h9, h10, h0, h1, c0, c00, qx, qy, hcmp, c1, c2, w1]
        exact ⟨8 - (i + 1), by omega, i + 1, rfl, by omega, by rw [hx1, hy1]; exact hc.symm, by simp [h9, h10, h0, h1, hz]⟩
  · have e : i = 8 := by omega
    subst e
    have : Mono.cmp a b = 0 := by rw [← hc]; simp [Mono.l, lexc]
    simp [l_slices_Compare_int_int_0, h11, h9, h10, h0, h1, this]

theorem monomial_Cmp_rets (cs : Sem) (a b : Mono) (h : cs n_slices_Compare_int_int [.sl 8 (mcells a), .sl 8 (mcells b)] = some (.i .i64 (Mono.cmp a b), [])) :
    Rets KK cs false c_monomial_Cmp [dMono a, dMono b] (.i .i64 (Mono.cmp a b)) [] := by
  refine Rets.of rfl ?_
  unfold c_monomial_Cmp
  simp [h]
end Go.Ev

/- Polynomials: what the functions of the reference give. -/
namespace Go.Ev
open Go.Pm

def sgn (a : Rat) : Int := if a < 0 then -1 else if a = 0 then 0 else 1

theorem sgn_zero {a : Rat} : sgn a = 0 ↔ a = 0 := by
  unfold sgn
  constructor
  · intro h
    split at h
    · omega
    · split at h
      · assumption
      · omega
  · intro h; subst h; rfl

theorem sgn_beq {a : Rat} (h : a ≠ 0) : (sgn a == 0) = false := by simpa [sgn_zero] using h

/-- All monomials of a polynomial lie between bounds. -/
def Bd (d : Int) (p : Poly) : Prop := ∀ t ∈ p, Mo.bd d t.m

theorem Bd.mono {d d' : Int} {p : Poly} (h : Bd d p) (hd : d ≤ d') : Bd d' p := fun t ht => Mo.bd_mono (h t ht) hd
theorem Bd.nil (d : Int) : Bd d [] := by simp [Bd]
theorem Bd.padd {d : Int} {p q : Poly} (hp : Bd d p) (hq : Bd d q) : Bd d (padd p q) := by
  intro t ht
  rcases mem_padd ht with ⟨u, hu, e⟩ | ⟨u, hu, e⟩
  · rw [← e]; exact hp u hu
  · rw [← e]; exact hq u hu
theorem Bd.ptimes {d d' : Int} {c : Rat} {m : Mono} {p : Poly} (hm : Mo.bd d m) (hp : Bd d' p) : Bd (d + d') (ptimes c m p) := by
  intro t ht
  simp only [Pm.ptimes, List.mem_map] at ht
  obtain ⟨u, hu, rfl⟩ := ht
  exact Mo.bd_add hm (hp u hu)
theorem padd_length : ∀ (p q : Poly), (padd p q).length ≤ p.length + q.length
  | [], q => by simp [padd]
  | s :: p, [] => by simp [padd]
  | s :: p, t :: q => by
    unfold padd
    split
    · have := padd_length p (t :: q); simp at this ⊢; omega
    · split
      · have := padd_length (s :: p) q; simp at this ⊢; omega
      · have := padd_length p q
        split
        · simp; omega
        · simp; omega
termination_by p q => p.length + q.length

theorem ptimes_length (c : Rat) (m : Mono) (p : Poly) : (ptimes c m p).length = p.length := by simp [ptimes]

/-- What is used of numbers and monomials. -/
structure RefArith (cs : Sem) : Prop where
  cmp : ∀ a b, cs n_ref04_Cmp [dMono a, dMono b] = some (.i .i64 (Mono.cmp a b), [])
  mmul : ∀ a b, Mo.bd 65535 a → Mo.bd 65535 b → cs n_ref04_Mul [dMono a, dMono b] = some (.tup [dMono (if Mo.bd 65535 (a.add b) then a.add b else Mono.zero), .i .i64 (if Mo.bd 65535 (a.add b) then 0 else 2)], [])
  sign : ∀ a, cs n_ref02_Sign [dRat a] = some (.i .i64 (sgn a), [])
  whole : ∀ n : Int, -100 ≤ n → n ≤ 100 → cs n_ref02_Whole [.i .i64 n] = some (dRat (n : Rat), [])

def IAdd (p q : Poly) (n : Nat) (s : St) : Prop :=
  ∃ i k out dead e, n = (p.length - i) + (q.length - k) ∧ i ≤ p.length ∧ k ≤ q.length ∧ out ++ padd (p.drop i) (q.drop k) = padd p q ∧ out.length ≤ i + k ∧ e = dead.length ∧ gt s 0 = some (.sl p.length (pcells p)) ∧ gt s 1 = some (.sl q.length (pcells q)) ∧
    gt s 6 = some (.i .i64 (i : Nat)) ∧ gt s 7 = some (.i .i64 (k : Nat)) ∧ gt s 5 = some (.ref 9 e 0 (List.length out)) ∧ lst s 9 = ⟨0, 12, pcells out⟩ :: dead ∧ s.z = []

set_option maxHeartbeats 1000000 in
theorem ref06_Add_rets (cs : Sem) (A : RefArith cs) (p q : Poly) (hlen : p.length + q.length ≤ 1000000)
    (hadd : ∀ s ∈ p, ∀ t ∈ q, cs n_ref02_Add [dRat s.c, dRat t.c] = some (dRat (s.c + t.c), [])) : Rets KK cs false c_ref06_Add [dPoly p, dPoly q] (dPoly (padd p q)) [] := by
  have hcmp := A.cmp
  have hsign := A.sign
  refine Rets.of rfl ?_
  unfold c_ref06_Add
  simp
  apply W_loop (IAdd p q) (p.length + q.length)
  · exact ⟨0, 0, [], [], 0, by simp⟩
  rintro n s ⟨i, k, out, dead, e, hn, hi, hk, hout, hol, he, h0, h1, h6, h7, h5, h9, hz⟩
  have w1 : IntKind.i64.wrap ((i : Int) + 1) = (i : Int) + 1 := wrap_i64 (by omega) (by omega)
  have w2 : IntKind.i64.wrap ((k : Int) + 1) = (k : Int) + 1 := wrap_i64 (by omega) (by omega)
  have hb : ¬ 274877906943 < out.length := by omega
  by_cases hi' : i < p.length
  · obtain ⟨t, p', hp, hp1⟩ := drop_cons hi'
    have b2 : ((i : Int) == (p.length : Int)) = false := by simp; omega
    by_cases hk' : k < q.length
    · obtain ⟨u, q', hq, hq1⟩ := drop_cons hk'
      have b1 : ((k : Int) == (q.length : Int)) = false := by simp; omega
      have hadd := hadd t (List.mem_of_mem_drop (by rw [hp]; exact List.mem_cons_self ..)) u (List.mem_of_mem_drop (by rw [hq]; exact List.mem_cons_self ..))
      rw [hp, hq] at hout
      by_cases c1 : 0 < Mono.cmp t.m u.m
      · rw [padd_gt c1] at hout
        simp [l_ref06_Add_0, h0, h1, h5, h6, h7, h9, hz, hi', hk', hp, hq, b1, b2, hcmp, c1, nth_at he, setAt_at he, w1, he, hb]
        refine ⟨(p.length - (i + 1)) + (q.length - k), by omega, i + 1, k, out ++ [t], ⟨3, 12, pcells out⟩ :: dead, dead.length + 1, rfl, by omega, by omega, ?_, by simp; omega, ?_⟩
        · rw [hp1, hq]; simpa using hout
        · simp [hz, h0, h1, h7]
      · by_cases c2 : Mono.cmp t.m u.m < 0
        · rw [padd_lt c2] at hout
          simp [l_ref06_Add_0, h0, h1, h5, h6, h7, h9, hz, hi', hk', hp, hq, b1, b2, hcmp, c1, c2, nth_at he, setAt_at he, w2, he, hb]
          refine ⟨(p.length - i) + (q.length - (k + 1)), by omega, i, k + 1, out ++ [u], ⟨3, 12, pcells out⟩ :: dead, dead.length + 1, rfl, by omega, by omega, ?_, by simp; omega, ?_⟩
          · rw [hq1, hp]; simpa using hout
          · simp [hz, h0, h1, h6]
        · rw [padd_eq (by omega)] at hout
          by_cases c3 : t.c + u.c = 0
          · rw [if_pos c3] at hout
            simp [l_ref06_Add_0, h0, h1, h5, h6, h7, h9, hz, hi', hk', hp, hq, b1, b2, hcmp, hadd, hsign, sgn_zero, c1, c2, c3, nth_at he, setAt_at he, w1, w2, he, hb]
            refine ⟨(p.length - (i + 1)) + (q.length - (k + 1)), by omega, i + 1, k + 1, out, dead, e, rfl, by omega, by omega, ?_, by omega, ?_⟩
            · rw [hp1, hq1]; exact hout
            · simp [hz, h0, h1, h5, h9, he]
          · rw [if_neg c3] at hout
            have c4 := sgn_beq c3
            simp [l_ref06_Add_0, h0, h1, h5, h6, h7, h9, hz, hi', hk', hp, hq, b1, b2, hcmp, hadd, hsign, sgn_zero, c1, c2, c3, c4, nth_at he, setAt_at he, w1, w2, he, hb]
            refine ⟨(p.length - (i + 1)) + (q.length - (k + 1)), by omega, i + 1, k + 1, out ++ [⟨t.c + u.c, t.m⟩], ⟨3, 12, pcells out⟩ :: dead, dead.length + 1, rfl, by omega, by omega, ?_, by simp; omega, ?_⟩
            · rw [hp1, hq1]; simpa using hout
            · simp [hz, h0, h1]
    · have e1 : k = q.length := by omega
      have b1 : ((k : Int) == (q.length : Int)) = true := by simp [e1]
      rw [hp, e1, List.drop_length, padd_nil_right] at hout
      simp [l_ref06_Add_0, h0, h1, h5, h6, h7, h9, hz, hi', hk', hp, b1, b2, nth_at he, setAt_at he, w1, he, hb]
      refine ⟨(p.length - (i + 1)) + (q.length - k), by omega, i + 1, k, out ++ [t], ⟨3, 12, pcells out⟩ :: dead, dead.length + 1, rfl, by omega, by omega, ?_, by simp; omega, ?_⟩
      · rw [hp1, e1, List.drop_length, padd_nil_right]; simpa using hout
      · simp [hz, h0, h1, h7]
  · have e2 : i = p.length := by omega
    have b2 : ((i : Int) == (p.length : Int)) = true := by simp [e2]
    by_cases hk' : k < q.length
    · obtain ⟨u, q', hq, hq1⟩ := drop_cons hk'
      have b1 : ((k : Int) == (q.length : Int)) = false := by simp; omega
      rw [hq, e2, List.drop_length, padd_nil] at hout
      simp [l_ref06_Add_0, h0, h1, h5, h6, h7, h9, hz, hi', hk', hq, b1, b2, nth_at he, setAt_at he, w2, he, hb]
      refine ⟨(p.length - i) + (q.length - (k + 1)), by omega, i, k + 1, out ++ [u], ⟨3, 12, pcells out⟩ :: dead, dead.length + 1, rfl, by omega, by omega, ?_, by simp; omega, ?_⟩
      · rw [hq1, e2, List.drop_length, padd_nil]; simpa using hout
      · simp [hz, h0, h1, h6]
    · have e1 : k = q.length := by omega
      rw [e1, e2, List.drop_length, List.drop_length, padd_nil, List.append_nil] at hout
      simp [l_ref06_Add_0, h0, h1, h5, h6, h7, h9, hz, hi', hk', nth_at he, he, hb, hout]

def ITimes (c : Rat) (m : Mono) (p : Poly) (n : Nat) (s : St) : Prop :=
  ∃ i dead e, n = p.length - i ∧ i ≤ p.length ∧ e = dead.length ∧ gt s 2 = some (.sl p.length (pcells p)) ∧ gt s 9 = some (.i .i64 (i : Nat)) ∧ gt s 8 = some (.ref 12 e 0 i) ∧ gt s 3 = some (.ptr 3 0 0) ∧ gt s 4 = some (.ptr 4 0 0) ∧
    lst s 12 = ⟨0, 12, pcells (ptimes c m (p.take i))⟩ :: dead ∧ lst s 3 = [⟨2, 0, rcells c⟩] ∧ lst s 4 = [⟨2, 0, mcells m⟩] ∧ s.z = []

theorem ptimes_take {c : Rat} {m : Mono} {p : Poly} {i : Nat} {t : Tm} {p' : Poly} (h : p.drop i = t :: p') : ptimes c m (p.take (i + 1)) = ptimes c m (p.take i) ++ [⟨c * t.c, m.add t.m⟩] := by
  have : p.take (i + 1) = p.take i ++ [t] := by rw [List.take_add, h]; rfl
  rw [this]; simp [ptimes]

/-- A product by a term; the number may be 0. -/
def ptimes0 (c : Rat) (m : Mono) (p : Poly) : Poly := if c = 0 then [] else ptimes c m p

set_option maxHeartbeats 1000000 in
theorem ref06_Times_rets (cs : Sem) (A : RefArith cs) (c : Rat) (m : Mono) (p : Poly) (hlen : p.length ≤ 1000000) (d d' : Int) (hm : Mo.bd d m) (hp : Bd d' p) (hd0 : 0 ≤ d) (hd0' : 0 ≤ d') (hd : d + d' ≤ 65535)
    (hmul : ∀ t ∈ p, cs n_ref02_Mul [dRat c, dRat t.c] = some (dRat (c * t.c), [])) :
    Rets KK cs false c_ref06_Times [dRat c, dMono m, dPoly p] (.tup [dPoly (ptimes0 c m p), .i .i64 0]) [] := by
  have hmm := A.mmul
  have hsign := A.sign
  refine Rets.of rfl ?_
  unfold c_ref06_Times
  by_cases c0 : c = 0
  · simp [c0, hsign, sgn_zero, ptimes0]
  · have s0 := sgn_beq c0
    simp [hsign, s0]
    apply W_loop (ITimes c m p) p.length
    · exact ⟨0, [], 0, by simp [ptimes]⟩
    rintro n s ⟨i, dead, e, hn, hi, he, h2, h9, h8, h3, h4, g12, g3, g4, hz⟩
    have w1 : IntKind.i64.wrap ((i : Int) + 1) = (i : Int) + 1 := wrap_i64 (by omega) (by omega)
    have hb : ¬ 274877906943 < i := by omega
    by_cases hi' : i < p.length
    · obtain ⟨t, p', hq, hq1⟩ := drop_cons hi'
      have hlen2 : (ptimes c m (p.take i)).length = i := by rw [ptimes_length, List.length_take]; omega
      have ht : t ∈ p := List.mem_of_mem_drop (by rw [hq]; exact List.mem_cons_self ..)
      have b1 : Mo.bd 65535 m := Mo.bd_mono hm (by omega)
      have b2 : Mo.bd 65535 t.m := Mo.bd_mono (hp t ht) (by omega)
      have b3 : Mo.bd 65535 (m.add t.m) := Mo.bd_mono (Mo.bd_add hm (hp t ht)) (by omega)
      have hmul := hmul t ht
      have k1 := hmm m t.m b1 b2
      simp only [b3, if_true] at k1
      simp [l_ref06_Times_0, h2, h3, h4, h8, h9, g12, g3, g4, hz, hi', hq, k1, hmul, nth_at he, setAt_at he, w1, he, hb, hlen2]
      refine ⟨p.length - (i + 1), by omega, i + 1, ⟨3, 12, pcells (ptimes c m (p.take i))⟩ :: dead, dead.length + 1, rfl, by omega, rfl, ?_⟩
      rw [ptimes_take hq]
      simp [h2, h3, h4, g3, g4, hz]
    · have e1 : i = p.length := by omega
      have e2 : p.take i = p := by rw [e1, List.take_length]
      have e3 : (ptimes c m p).length = p.length := ptimes_length ..
      rw [e2] at g12
      have e4 : (pcells (ptimes c m p)).take (i * 12) = pcells (ptimes c m p) := by rw [e1, ← e3]; exact take_pcells _
      simp [l_ref06_Times_0, h2, h3, h4, h8, h9, g12, g3, g4, hz, hi', nth_at he, he, ptimes0, c0, e3, e4, e1]
      rw [← e3]; exact take_pcells _

theorem Bd.ptimes0 {d d' : Int} {c : Rat} {m : Mono} {p : Poly} (hm : Mo.bd d m) (hp : Bd d' p) : Bd (d + d') (ptimes0 c m p) := by
  unfold Ev.ptimes0; split
  · exact Bd.nil _
  · exact Bd.ptimes hm hp
theorem ptimes0_length (c : Rat) (m : Mono) (p : Poly) : (ptimes0 c m p).length ≤ p.length := by
  unfold ptimes0; split
  · simp
  · rw [ptimes_length]; omega

def pscale (c : Rat) (p : Poly) : Poly := ptimes0 c Mono.zero p

theorem ref06_Scale_rets (cs : Sem) (c : Rat) (p : Poly) (h : cs n_ref06_Times [dRat c, dMono Mono.zero, dPoly p] = some (.tup [dPoly (pscale c p), .i .i64 0], [])) :
    Rets KK cs false c_ref06_Scale [dRat c, dPoly p] (dPoly (pscale c p)) [] := by
  refine Rets.of rfl ?_
  unfold c_ref06_Scale
  simp [h, ← mcells_zero]

def psub (p q : Poly) : Poly := padd p (pscale (-1) q)

/-! ### Products -/

/-- The product, also where a coefficient is 0. -/
def pmul0 : Poly → Poly → Poly → Poly
  | out, [], _ => out
  | out, t :: p, q => pmul0 (padd out (ptimes0 t.c t.m q)) p q

theorem pmul0_length (q : Poly) : ∀ (p out : Poly), (pmul0 out p q).length ≤ out.length + p.length * q.length
  | [], out => by simp [pmul0]
  | t :: p, out => by
    have h1 := pmul0_length q p (padd out (ptimes0 t.c t.m q))
    have h2 := padd_length out (ptimes0 t.c t.m q)
    have h3 := ptimes0_length t.c t.m q
    simp only [pmul0, List.length_cons, Nat.add_mul, Nat.one_mul]
    omega

/-- A slot holds a polynomial: a value, or the empty row that was made at a slot. -/
def Holds0 (s : St) (sl home : Nat) (out : Poly) : Prop :=
  gt s sl = some (dPoly out) ∨ (out = [] ∧ gt s sl = some (.ref home 0 0 0) ∧ lst s home = [⟨0, 12, []⟩])

end Go.Ev

/- Sums of products, equality, and the polynomials that raw numbers describe. -/
namespace Go.Ev
open Go.Pm

end Go.Ev

/- Polynomials that raw numbers describe. -/
namespace Go.Ev
open Go.Pm

/-- A raw term: the coefficient and four exponents. -/
structure RawT where
  c : Int
  es : List Int
  hl : es.length = 4
  hc : -128 ≤ c ∧ c ≤ 127
  he : ∀ e ∈ es, -128 ≤ e ∧ e ≤ 127

abbrev Raw := List RawT
def rawCells (t : RawT) : List DV := (t.c :: t.es).map (DV.i .i8 ·)
def rawsCells (x : Raw) : List DV := x.flatMap rawCells
abbrev dRaw (x : Raw) : DV := .agg [.sl x.length (rawsCells x)]

theorem rawCells_length (t : RawT) : (rawCells t).length = 5 := by simp [rawCells, t.hl]
theorem rawsCells_drop : ∀ (x : Raw) (i : Nat), (rawsCells x).drop (i * 5) = rawsCells (x.drop i)
  | x, 0 => by simp
  | [], i + 1 => by simp [rawsCells]
  | t :: x, i + 1 => by
    have : rawsCells (t :: x) = rawCells t ++ rawsCells x := rfl
    rw [this, List.drop_succ_cons, ← rawsCells_drop x i, show (i + 1) * 5 = 5 + i * 5 by omega, ← List.drop_drop]
    congr 1
    have := rawCells_length t
    rw [List.drop_append_of_le_length (by omega), List.drop_of_length_le (by omega), List.nil_append]
theorem rawsCells_deep (x : Raw) : areDeep (rawsCells x) = true := by
  induction x with
  | nil => rfl
  | cons t x ih => exact areDeep_append (areDeep_ints _ _) ih

def iabs (e : Int) : Int := if e < 0 then -e else e

def rawExps : List Int → Int → List Int
  | [], _ => []
  | e :: r, left => (iabs e % (left + 1)) :: rawExps r (left - iabs e % (left + 1))

theorem rawExps_length : ∀ (es : List Int) (left : Int), (rawExps es left).length = es.length
  | [], _ => rfl
  | e :: r, left => by simp [rawExps, rawExps_length r]

def ofL (l : List Int) : Mono := ⟨l.getD 0 0, l.getD 1 0, l.getD 2 0, l.getD 3 0, l.getD 4 0, l.getD 5 0, l.getD 6 0, l.getD 7 0⟩
theorem ofL_l {l : List Int} (h : l.length = 8) : (ofL l).l = l := by
  match l, h with
  | [a, b, c, d, e, f, g, i], _ => rfl

def rawMono (n : Nat) (deg : Int) (es : List Int) : Mono := ofL (rawExps (es.take n) deg ++ List.replicate (8 - n) 0)

def madeT (n : Nat) (deg : Int) (t : RawT) : Poly := pscale ((t.c.tmod 4 : Int) : Rat) [⟨1, rawMono n deg t.es⟩]
def made (n : Nat) (deg : Int) : Poly → Raw → Poly
  | out, [] => out
  | out, t :: x => made n deg (padd out (madeT n deg t)) x

theorem made_append (n : Nat) (deg : Int) : ∀ (a b : Raw) (out : Poly), made n deg out (a ++ b) = made n deg (made n deg out a) b
  | [], _, _ => rfl
  | t :: a, b, out => by simp only [List.cons_append, made]; exact made_append n deg a b _

theorem ref06_abs_rets (cs : Sem) (e : Int) (h : -128 ≤ e ∧ e ≤ 127) : Rets KK cs false c_ref06_abs [.i .i8 e] (.i .i64 (iabs e)) [] := by
  have w1 : IntKind.i64.wrap e = e := wrap_i64 (by omega) (by omega)
  have w2 : IntKind.i64.wrap (0 - e) = -e := by rw [wrap_i64 (by omega) (by omega)]; omega
  have w3 : IntKind.i64.wrap (-e) = -e := by rw [wrap_i64 (by omega) (by omega)]
  refine Rets.of rfl ?_
  unfold c_ref06_abs iabs
  by_cases c : e < 0
  · simp [c, w1, w2, w3]
  · simp [c, w1]

/-- What the rounds over the terms keep. -/
def KMade (x : Raw) (N : Nat) (deg : Int) (terms k : Nat) (out : Poly) (s : St) : Prop :=
  gt s 1 = some (.i .i64 (N : Nat)) ∧ gt s 2 = some (.i .i64 deg) ∧ gt s 3 = some (.i .i64 (terms : Nat)) ∧ gt s 4 = some (.ptr 4 0 0) ∧ lst s 4 = [⟨2, 0, [.sl x.length (rawsCells x)]⟩] ∧
  gt s 10 = some (.i .i64 (k : Nat)) ∧ Holds0 s 9 14 out ∧ (∀ e, ¬ (11, e) ∈ s.z)

/-- The rounds over the variables. -/
def IVar (x : Raw) (N : Nat) (deg : Int) (terms k : Nat) (out : Poly) (t : RawT) (n : Nat) (s : St) : Prop :=
  ∃ i d left Ls, n = N - i ∧ i ≤ N ∧ List.length d = i ∧ d ++ rawExps ((t.es.take N).drop i) left = rawExps (t.es.take N) deg ∧ 0 ≤ left ∧ left ≤ deg ∧ gt s 13 = some (.i .i64 (i : Nat)) ∧ gt s 12 = some (.i .i64 left) ∧
    gt s 11 = some (.ptr 11 (List.length Ls) 0) ∧ lst s 11 = ⟨2, 0, (d ++ List.replicate (8 - i) 0).map (DV.i .i64 ·)⟩ :: Ls ∧ KMade x N deg terms k out s

def IMade (x : Raw) (N : Nat) (deg : Int) (terms : Nat) (n : Nat) (s : St) : Prop :=
  ∃ k out, n = x.length - k ∧ k ≤ x.length ∧ k ≤ terms ∧ out = made N deg [] ((x.take terms).take k) ∧ KMade x N deg terms k out s

theorem zeros8 : (List.replicate 8 (0 : Int)).map (DV.i .i64 ·) = [DV.i .i64 0, DV.i .i64 0, DV.i .i64 0, DV.i .i64 0, DV.i .i64 0, DV.i .i64 0, DV.i .i64 0, DV.i .i64 0] := rfl

theorem pscale_length (c : Rat) (p : Poly) : (pscale c p).length ≤ p.length := ptimes0_length ..

set_option maxHeartbeats 2000000 in
theorem ref06_Made_rets (cs : Sem) (x : Raw) (N : Nat) (deg : Int) (terms : Nat) (hN : N ≤ 4) (hd : 0 ≤ deg ∧ deg ≤ 1000) (ht : terms ≤ 1000)
    (habs : ∀ e : Int, -128 ≤ e ∧ e ≤ 127 → cs n_ref06_abs [.i .i8 e] = some (.i .i64 (iabs e), []))
    (hwhole : ∀ n : Int, -100 ≤ n → n ≤ 100 → cs n_ref02_Whole [.i .i64 n] = some (dRat (n : Rat), []))
    (hscale : ∀ (t : RawT), cs n_ref06_Scale [dRat ((t.c.tmod 4 : Int) : Rat), dPoly [⟨1, rawMono N deg t.es⟩]] = some (dPoly (madeT N deg t), []))
    (hadd : ∀ a t b, x.take terms = a ++ t :: b → cs n_ref06_Add [dPoly (made N deg [] a), dPoly (madeT N deg t)] = some (dPoly (padd (made N deg [] a) (madeT N deg t)), [])) :
    Rets KK cs false c_ref06_Made [dRaw x, .i .i64 N, .i .i64 deg, .i .i64 terms] (dPoly (made N deg [] (x.take terms))) [] := by
  refine Rets.of rfl ?_
  unfold c_ref06_Made
  simp
  apply W_loop (IMade x N deg terms) x.length
  · exact ⟨0, [], by simp [KMade, Holds0, made]⟩
  rintro n s ⟨k, out, hn, hk, hkt, hout, h1, h2, h3, h4, g4, h10, h9, hz⟩
  have w1 : IntKind.i64.wrap ((k : Int) + 1) = (k : Int) + 1 := wrap_i64 (by omega) (by omega)
  by_cases hk' : k < x.length
  · by_cases hk2 : k < terms
    · obtain ⟨t, x', hx, hx1⟩ := drop_cons hk'
      simp [l_ref06_Made_1, h1, h2, h3, h4, g4, h10, hk', hk2, hz]
      apply W_loop (IVar x N deg terms k out t) N
      · refine ⟨0, [], deg, lst s 11, ?_⟩
        simp [h1, h2, h3, h4, g4, h10, hz, KMade, hd.1, zeros8, Holds0]
        exact h9
      rintro n2 s2 ⟨i, d, left, Ls, hn2, hi, hdl, hex, hl0, hl1, h13, h12, h11, g11, h1, h2, h3, h4, g4, h10, h9, hz⟩
      by_cases hi' : i < N
      · have c4 : (i : Int) < 4 := by omega
        obtain ⟨e, es', he, he1⟩ := drop_cons (p := t.es.take N) (i := i) (by rw [List.length_take, t.hl]; omega)
        have he4 : e ∈ t.es := List.mem_of_mem_take (List.mem_of_mem_drop (by rw [he]; exact List.mem_cons_self ..))
        have ev := t.he e he4
        have a0 : 0 ≤ iabs e := by unfold iabs; split <;> omega
        have v0 : 0 ≤ iabs e % (left + 1) := Int.emod_nonneg _ (by omega)
        have v1 : iabs e % (left + 1) < left + 1 := Int.emod_lt_of_pos _ (by omega)
        have w2 : IntKind.i64.wrap (1 + (i : Int)) = 1 + (i : Int) := wrap_i64 (by omega) (by omega)
        have w3 : IntKind.i64.wrap ((i : Int) + 1) = (i : Int) + 1 := wrap_i64 (by omega) (by omega)
        have w4 : IntKind.i64.wrap (left + 1) = left + 1 := wrap_i64 (by omega) (by omega)
        have w5 : (iabs e).tmod (left + 1) = iabs e % (left + 1) := Int.tmod_eq_emod_of_nonneg a0
        have w6 : IntKind.i64.wrap (left - iabs e % (left + 1)) = left - iabs e % (left + 1) := wrap_i64 (by omega) (by omega)
        have nz : ¬ left + 1 = 0 := by omega
        have tn : (1 + (i : Int)).toNat = 1 + i := by omega
        have c5 : (0 : Int) ≤ 1 + i := by omega
        have c6 : (1 : Int) + i < 5 := by omega
        have c8 : (i : Int) < 8 := by omega
        have pr : part (List.drop (1 + i) (rawsCells (t :: x'))) 0 1 false = some (.i .i8 e) := by
          have e1 : t.es[i]? = some e := by
            have := congrArg List.head? he
            rw [List.head?_drop, List.getElem?_take] at this
            simpa [hi'] using this
          have e2 : rawsCells (t :: x') = .i .i8 t.c :: (t.es.map (DV.i .i8 ·) ++ rawsCells x') := rfl
          have e3 : i < t.es.length := by rw [t.hl]; omega
          rw [e2, show 1 + i = i + 1 by omega, List.drop_succ_cons, List.drop_append_of_le_length (by simp; omega)]
          rw [← List.map_drop, List.drop_eq_getElem_cons e3]
          rw [List.getElem?_eq_getElem e3] at e1
          simp only [Option.some.injEq] at e1
          rw [List.map_cons, e1]; rfl
        have hk1 := habs e ev
        have hrep : List.replicate (8 - i) (0 : Int) = 0 :: List.replicate (7 - i) 0 := by
          rw [show 8 - i = (7 - i) + 1 by omega]; rfl
        have hdr : (d ++ List.replicate (8 - i) (0 : Int)).drop i = 0 :: List.replicate (7 - i) 0 := by
          rw [← hdl, List.drop_left, hdl, hrep]
        have fz := fill_ints (k := .i64) (v := iabs e % (left + 1)) hdr
        have htk : (d ++ List.replicate (8 - i) (0 : Int)).take i = d := by rw [← hdl, List.take_left]
        rw [htk] at fz
        have pz : part ((d ++ iabs e % (left + 1) :: List.replicate (7 - i) (0 : Int)).map (DV.i .i64 ·)) i 1 false = some (.i .i64 (iabs e % (left + 1))) :=
          part_ints (r := List.replicate (7 - i) 0) (by rw [← hdl, List.drop_left])
        simp [l_ref06_Made_0, h1, h2, h3, h4, g4, h10, h11, h12, h13, g11, hi', c4, hk', w2, w3, w4, w5, w6, nz, tn, c5, c6, c8, rawsCells_drop, hx, pr, hk1, fz, pz, hz, -List.drop_drop, -List.map_append, -List.map_cons]
        refine ⟨N - (i + 1), by omega, i + 1, d ++ [iabs e % (left + 1)], left - iabs e % (left + 1), Ls, rfl, by omega, by simp [hdl], ?_, by omega, by omega, ?_⟩
        · rw [he1, ← hex, he]; simp [rawExps]
        · simp [h1, h2, h3, h4, g4, h10, h11, hz, KMade, Holds0]
          exact h9
      · have e1 : i = N := by omega
        have c4 : ¬ (i : Int) < N := by omega
        have hm : d = rawExps (t.es.take N) deg := by
          rw [← hex, e1, List.drop_of_length_le (by rw [List.length_take]; omega)]; simp [rawExps]
        have g11' : lst s2 11 = ⟨2, 0, mcells (rawMono N deg t.es)⟩ :: Ls := by
          rw [g11]
          congr 2
          refine z_mcells ?_
          unfold rawMono
          rw [ofL_l, hm, e1]
          rw [List.length_append, rawExps_length, List.length_take, List.length_replicate, t.hl]; omega
        have cr : -3 ≤ t.c.tmod 4 ∧ t.c.tmod 4 ≤ 3 := by
          have := Int.tmod_lt_of_pos t.c (b := 4) (by omega)
          have := Int.lt_tmod_of_pos t.c (b := 4) (by omega)
          omega
        have w2 : IntKind.i64.wrap (t.c.tmod 4) = t.c.tmod 4 := wrap_i64 (by omega) (by omega)
        have hw1 := hwhole (t.c.tmod 4) (by omega) (by omega)
        have hw2 := hwhole 1 (by decide) (by decide)
        rw [show (((1 : Int) : Int) : Rat) = 1 from rfl] at hw2
        have hs := hscale t
        have hsplit : (x.take terms).drop k = t :: (x.take terms).drop (k + 1) := by
          rw [List.drop_take, hx, List.drop_take, hx1, show terms - k = (terms - (k + 1)) + 1 by omega, List.take_succ_cons]
        have ha := hadd ((x.take terms).take k) t ((x.take terms).drop (k + 1)) (by rw [← hsplit, List.take_append_drop])
        rw [← hout] at ha
        have pr : part (rawsCells (t :: x')) 0 1 false = some (.i .i8 t.c) := rfl
        have hstep : padd out (madeT N deg t) = made N deg [] ((x.take terms).take (k + 1)) := by
          have : (x.take terms).take (k + 1) = (x.take terms).take k ++ [t] := by rw [List.take_add, hsplit]; rfl
          rw [this, made_append, ← hout]; rfl
        rw [show dPoly [⟨1, rawMono N deg t.es⟩] = .sl 1 (tcells ⟨1, rawMono N deg t.es⟩) from rfl] at hs
        rcases h9 with h9 | ⟨rfl, h9, g14⟩
        · simp [l_ref06_Made_0, h1, h2, h3, h4, g4, h10, h11, h12, h13, g11', h9, hk', hi', c4, w1, w2, rawsCells_drop, hx, pr, hw1, hw2, hs] at ha ⊢
          simp [ha, w1, h10]
          refine ⟨x.length - (k + 1), by omega, k + 1, _, rfl, by omega, by omega, hstep, ?_⟩
          simp [h1, h2, h3, h4, g4, hz, KMade, Holds0]
        · simp [dPoly] at ha
          simp [l_ref06_Made_0, h1, h2, h3, h4, g4, h10, h11, h12, h13, g11', h9, g14, hk', hi', c4, w1, w2, rawsCells_drop, hx, pr, hw1, hw2, hs] at ha ⊢
          simp [ha, w1, h10]
          refine ⟨x.length - (k + 1), by omega, k + 1, _, rfl, by omega, by omega, hstep, ?_⟩
          simp [h1, h2, h3, h4, g4, hz, KMade, Holds0]
    · have e1 : x.take terms = (x.take terms).take k := by rw [List.take_take]; congr 1; omega
      have hout : out = made N deg [] (x.take terms) := by
        rw [hout, ← e1]
      rcases h9 with h9 | ⟨rfl, h9, g14⟩
      · simp [l_ref06_Made_1, h1, h2, h3, h4, g4, h10, h9, hk', hk2, hout]
      · simp [l_ref06_Made_1, h1, h2, h3, h4, g4, h10, h9, g14, hk', hk2, ← hout]
  · have hout : out = made N deg [] (x.take terms) := by
      rw [hout, List.take_of_length_le (l := x.take terms) (by rw [List.length_take]; omega)]
    rcases h9 with h9 | ⟨rfl, h9, g14⟩
    · simp [l_ref06_Made_1, h1, h2, h3, h4, g4, h10, h9, hk', hout]
    · simp [l_ref06_Made_1, h1, h2, h3, h4, g4, h10, h9, g14, hk', ← hout]
end Go.Ev

/- Lists of polynomials that raw numbers describe; equality. -/
namespace Go.Ev
open Go.Pm

def rawSl (x : Raw) : DV := .sl x.length (rawsCells x)
abbrev dRaws (l : List Raw) : DV := .sl l.length (l.map rawSl)

theorem part_raws {l : List Raw} {i : Nat} {x : Raw} {r : List Raw} (h : l.drop i = x :: r) : part ((l.map rawSl).drop i) 0 1 true = some (dRaw x) := by
  have : (l.map rawSl).drop i = (x :: r).map rawSl := by rw [← h, List.map_drop]
  rw [this]; rfl

theorem rawSl_deep (l : List Raw) : areDeep (l.map rawSl) = true := by
  induction l with
  | nil => rfl
  | cons x l ih => simp only [List.map_cons, areDeep, ih, Bool.and_true]; simp only [rawSl, isDeep]; exact rawsCells_deep x

def IList (l : List Raw) (N terms most : Nat) (deg : Int) (n : Nat) (s : St) : Prop :=
  ∃ i dead, n = l.length - i ∧ i ≤ l.length ∧ i ≤ most ∧ gt s 0 = some (dRaws l) ∧ gt s 1 = some (.i .i64 (N : Nat)) ∧ gt s 2 = some (.i .i64 deg) ∧ gt s 3 = some (.i .i64 (terms : Nat)) ∧ gt s 4 = some (.i .i64 (most : Nat)) ∧ gt s 12 = some (.i .i64 (i : Nat)) ∧
    gt s 11 = some (.ref 13 (List.length dead) 0 i) ∧ lst s 13 = ⟨0, 1, ((l.take i).map fun x => made N deg [] (x.take terms)).map dPoly⟩ :: dead

set_option maxHeartbeats 2000000 in
theorem ref06_List_rets (cs : Sem) (l : List Raw) (N : Nat) (deg : Int) (terms most : Nat) (hl : most ≤ 1000)
    (hmade : ∀ x, cs n_ref06_Made [dRaw x, .i .i64 N, .i .i64 deg, .i .i64 terms] = some (dPoly (made N deg [] (x.take terms)), [])) :
    Rets KK cs false c_ref06_List [dRaws l, .i .i64 N, .i .i64 deg, .i .i64 terms, .i .i64 most] (dPolys ((l.take most).map fun x => made N deg [] (x.take terms))) [] := by
  refine Rets.of rfl ?_
  unfold c_ref06_List
  simp
  apply W_loop (IList l N terms most deg) l.length
  · exact ⟨0, [], by simp⟩
  rintro n s ⟨i, dead, hn, hi, him, h0, h1, h2, h3, h4, h12, h11, g13⟩
  have w1 : IntKind.i64.wrap ((i : Int) + 1) = (i : Int) + 1 := wrap_i64 (by omega) (by omega)
  have hb : ¬ 274877906943 < i := by omega
  by_cases hi' : i < l.length
  · have hll : min i l.length = i := by omega
    have hll2 : min (i + 1) l.length = i + 1 := by omega
    by_cases hi2 : i < most
    · obtain ⟨x, l', hx, hx1⟩ := drop_cons hi'
      have px := part_raws hx
      have k := hmade x
      have htk : l.take (i + 1) = l.take i ++ [x] := by rw [List.take_add, hx]; rfl
      simp [l_ref06_List_0, rawsCells_deep, h0, h1, h2, h3, h4, h12, h11, g13, hi', hi2, hll, px, k, w1, hb, -List.map_take, -List.map_drop]
      refine ⟨l.length - (i + 1), by omega, i + 1, ⟨3, 1, ((l.take i).map fun x => made N deg [] (x.take terms)).map dPoly⟩ :: dead, rfl, by omega, by omega, ?_⟩
      rw [htk]
      simp [h0, h1, h2, h3, h4, -List.map_take, -List.map_drop]
    · have e : i = most := by omega
      simp [l_ref06_List_0, rawsCells_deep, h0, h4, h12, h11, g13, hi', hi2, hll, -List.map_take, -List.map_drop]
      rw [e, Nat.min_eq_left (by omega)]
      simp
      rw [List.take_of_length_le (by simp; omega)]
  · have e : i = l.length := by omega
    have e2 : l.take i = l := by rw [e, List.take_length]
    have e3 : l.take most = l := by rw [List.take_of_length_le (by omega)]
    rw [e2] at g13
    simp [l_ref06_List_0, rawsCells_deep, h0, h4, h12, h11, g13, hi', e3, -List.map_take, -List.map_drop]
    rw [e]
    simp
    omega

/-! ### Equality -/

end Go.Ev

/- Sums and differences of the program. -/
namespace Go.Ev
open Go.Pm

section
variable {f : Rat → Rat → Rat} {g : Rat → Rat}
end

theorem one_le (n : Nat) : (1 : Int) ≤ (n : Int) + 1 := by omega
attribute [simp] one_le

end Go.Ev

/- Sums, products and sums of products of the program. -/
namespace Go.Ev
open Go.Pm

/-! ### The map of a product -/

abbrev Ent := List (Mono × Rat)
def dEnt (e : Mono × Rat) : DV := .tup [dMono e.1, dRat e.2]

theorem ent_deep (es : Ent) : areDeep (es.map dEnt) = true := by
  induction es with
  | nil => rfl
  | cons e es ih => simp [dEnt, areDeep_cons, ih]

/-! ### Products -/

/-! ### Sums of products -/

end Go.Ev

/- The algebra of syzygies: which sums of products are 0. -/
namespace Go.Ev
open Go.Pm

theorem Canon.ptimes0 {c : Rat} {m : Mono} {p : Poly} (h : Canon p) : Canon (ptimes0 c m p) := by
  unfold Ev.ptimes0
  split
  · exact trivial
  · rename_i hc; exact Canon.ptimes hc m h

theorem Canon.pmul0 {q : Poly} (hq : Canon q) : ∀ {p out : Poly}, Canon out → Canon (pmul0 out p q)
  | [], _, h => h
  | t :: p, out, h => show Canon (Ev.pmul0 (padd out (Ev.ptimes0 t.c t.m q)) p q) from Canon.pmul0 hq (Canon.padd h (Canon.ptimes0 hq))

theorem Canon.psub {p q : Poly} (hp : Canon p) (hq : Canon q) : Canon (psub p q) := Canon.padd hp (Canon.ptimes0 hq)

theorem Bd.psub {d : Int} {p q : Poly} (hp : Bd d p) (hq : Bd d q) : Bd d (psub p q) := by
  refine Bd.padd hp ?_
  have := Bd.ptimes0 (c := -1) (Mo.bd_zero (d := 0) (by omega)) hq
  simpa [pscale] using this

theorem Bd.pmul0 {d d' : Int} {q : Poly} (hq : Bd d' q) : ∀ {p out : Poly}, Bd d p → Bd (d + d') out → Bd (d + d') (pmul0 out p q)
  | [], _, _, h => h
  | t :: p, out, hp, h => show Bd _ (Ev.pmul0 (Pm.padd out (Ev.ptimes0 t.c t.m q)) p q) from
    Bd.pmul0 hq (fun u hu => hp u (List.mem_cons_of_mem _ hu)) (Bd.padd h (Bd.ptimes0 (hp t (List.mem_cons_self ..)) hq))

theorem psub_length (p q : Poly) : (psub p q).length ≤ p.length + q.length := by
  have h1 := padd_length p (pscale (-1) q)
  have h2 := pscale_length (-1) q
  unfold psub; omega

/-- A sum of products. -/
def sumc : List Poly → List Poly → Mono → Rat
  | q :: qs, l :: ls, k => Pm.conv q (coef l) k + sumc qs ls k
  | _, _, _ => 0

def ZS (q l : List Poly) : Prop := ∀ k, sumc q l k = 0

/-! ### Exchanging two elements -/

/-! ### Polynomials made of raw numbers -/

theorem mono_bd_ofL {d : Int} (hd : 0 ≤ d) : ∀ {l : List Int}, l.length = 8 → (∀ e ∈ l, 0 ≤ e ∧ e ≤ d) → Mo.bd d (ofL l) := by
  intro l hl h e he
  rw [ofL_l hl] at he
  exact h e he

theorem rawExps_bd : ∀ (es : List Int) (left : Int), 0 ≤ left → ∀ e ∈ rawExps es left, 0 ≤ e ∧ e ≤ left
  | [], _, _, e, h => by simp [rawExps] at h
  | x :: es, left, h0, e, h => by
    have a0 : 0 ≤ iabs x := by unfold iabs; split <;> omega
    have v0 : 0 ≤ iabs x % (left + 1) := Int.emod_nonneg _ (by omega)
    have v1 : iabs x % (left + 1) < left + 1 := Int.emod_lt_of_pos _ (by omega)
    simp only [rawExps, List.mem_cons] at h
    rcases h with rfl | h
    · omega
    · have := rawExps_bd es _ (by omega) e h
      omega

theorem rawMono_bd {N : Nat} (hN : N ≤ 4) {deg : Int} (hd : 0 ≤ deg) (t : RawT) : Mo.bd deg (rawMono N deg t.es) := by
  refine mono_bd_ofL hd ?_ fun e he => ?_
  · rw [List.length_append, rawExps_length, List.length_take, List.length_replicate, t.hl]; omega
  · rw [List.mem_append] at he
    rcases he with he | he
    · exact rawExps_bd _ _ hd e he
    · rw [List.mem_replicate] at he; omega

theorem madeT_good {N : Nat} (hN : N ≤ 4) {deg : Int} (hd : 0 ≤ deg) (t : RawT) : Canon (madeT N deg t) ∧ Bd deg (madeT N deg t) := by
  have c1 : Canon [⟨1, rawMono N deg t.es⟩] := ⟨show (1 : Rat) ≠ 0 by simp, Below.nil _, trivial⟩
  have b1 : Bd deg [⟨1, rawMono N deg t.es⟩] := by
    intro u hu
    simp only [List.mem_singleton] at hu
    subst hu
    exact rawMono_bd hN hd t
  refine ⟨Canon.ptimes0 c1, ?_⟩
  have := Bd.ptimes0 (c := ((t.c.tmod 4 : Int) : Rat)) (Mo.bd_zero (d := 0) (by omega)) b1
  simpa [madeT, pscale] using this

theorem made_good {N : Nat} (hN : N ≤ 4) {deg : Int} (hd : 0 ≤ deg) : ∀ (x : Raw) (out : Poly), Canon out → Bd deg out → Canon (made N deg out x) ∧ Bd deg (made N deg out x) ∧ (made N deg out x).length ≤ out.length + x.length
  | [], out, h1, h2 => ⟨h1, h2, by simp [made]⟩
  | t :: x, out, h1, h2 => by
    have g := madeT_good hN hd t
    have h := made_good hN hd x (padd out (madeT N deg t)) (Canon.padd h1 g.1) (Bd.padd h2 g.2)
    have l1 : (madeT N deg t).length ≤ 1 := pscale_length ..
    have l2 := padd_length out (madeT N deg t)
    refine ⟨h.1, h.2.1, ?_⟩
    have := h.2.2
    simp only [made, List.length_cons] at this ⊢
    omega
end Go.Ev

/- Whole coefficients, and the sum of their absolute values. -/
namespace Go.Ev
open Go.Pm

def nm (a : Rat) : Nat := a.num.natAbs

theorem whole_eq {a : Rat} (h : a.den = 1) : a = (a.num : Rat) := Rat.ext (by simp) (by simpa using h)
theorem whole_int (n : Int) : ((n : Int) : Rat).den = 1 := by simp
theorem num_int (n : Int) : ((n : Int) : Rat).num = n := by simp

theorem whole_add {a b : Rat} (ha : a.den = 1) (hb : b.den = 1) : (a + b).den = 1 ∧ (a + b).num = a.num + b.num := by
  have e : a + b = ((a.num + b.num : Int) : Rat) := by rw [whole_eq ha, whole_eq hb]; simp [Rat.intCast_add]
  rw [e]; exact ⟨whole_int _, num_int _⟩
theorem whole_mul {a b : Rat} (ha : a.den = 1) (hb : b.den = 1) : (a * b).den = 1 ∧ (a * b).num = a.num * b.num := by
  have e : a * b = ((a.num * b.num : Int) : Rat) := by rw [whole_eq ha, whole_eq hb]; simp [Rat.intCast_mul]
  rw [e]; exact ⟨whole_int _, num_int _⟩

theorem nm_add {a b : Rat} (ha : a.den = 1) (hb : b.den = 1) : nm (a + b) ≤ nm a + nm b := by
  unfold nm; rw [(whole_add ha hb).2]; omega
theorem nm_mul {a b : Rat} (ha : a.den = 1) (hb : b.den = 1) : nm (a * b) = nm a * nm b := by
  unfold nm; rw [(whole_mul ha hb).2, Int.natAbs_mul]

def N1 : Poly → Nat
  | [] => 0
  | t :: p => nm t.c + N1 p

/-- Whole coefficients, of a bounded sum. -/
structure Sz (n : Nat) (p : Poly) : Prop where
  wh : ∀ t ∈ p, t.c.den = 1
  le : N1 p ≤ n

theorem Sz.mono {n m : Nat} {p : Poly} (h : Sz n p) (hm : n ≤ m) : Sz m p := ⟨h.wh, by have := h.le; omega⟩
theorem Sz.nil (n : Nat) : Sz n [] := ⟨by simp, by simp [N1]⟩
theorem Sz.tail {n : Nat} {t : Tm} {p : Poly} (h : Sz n (t :: p)) : Sz (n - nm t.c) p := ⟨fun u hu => h.wh u (List.mem_cons_of_mem _ hu), by have := h.le; simp only [N1] at this; omega⟩
theorem N1_mem {t : Tm} : ∀ {p : Poly}, t ∈ p → nm t.c ≤ N1 p
  | u :: p, h => by
    simp only [N1]
    rcases List.mem_cons.1 h with rfl | h
    · omega
    · have := N1_mem h; omega
theorem Sz.mem {n : Nat} {t : Tm} {p : Poly} (h : Sz n p) (ht : t ∈ p) : t.c.den = 1 ∧ nm t.c ≤ n := ⟨h.wh t ht, by have := N1_mem ht; have := h.le; omega⟩
theorem wh_padd : ∀ {p q : Poly}, (∀ t ∈ p, t.c.den = 1) → (∀ t ∈ q, t.c.den = 1) → (∀ t ∈ padd p q, t.c.den = 1) ∧ N1 (padd p q) ≤ N1 p + N1 q
  | [], q, _, hq => by rw [padd_nil]; exact ⟨hq, by simp [N1]⟩
  | s :: p, [], hp, _ => by rw [padd_nil_right]; exact ⟨hp, by simp [N1]⟩
  | s :: p, t :: q, hp, hq => by
    have hs := hp s (List.mem_cons_self ..)
    have ht := hq t (List.mem_cons_self ..)
    have hp' : ∀ u ∈ p, u.c.den = 1 := fun u hu => hp u (List.mem_cons_of_mem _ hu)
    have hq' : ∀ u ∈ q, u.c.den = 1 := fun u hu => hq u (List.mem_cons_of_mem _ hu)
    by_cases c1 : 0 < Mono.cmp s.m t.m
    · rw [padd_gt c1]
      have ih := wh_padd hp' hq
      refine ⟨fun u hu => ?_, ?_⟩
      · rcases List.mem_cons.1 hu with rfl | hu
        · exact hs
        · exact ih.1 u hu
      · have := ih.2; simp only [N1] at this ⊢; omega
    · by_cases c2 : Mono.cmp s.m t.m < 0
      · rw [padd_lt c2]
        have ih := wh_padd hp hq'
        refine ⟨fun u hu => ?_, ?_⟩
        · rcases List.mem_cons.1 hu with rfl | hu
          · exact ht
          · exact ih.1 u hu
        · have := ih.2; simp only [N1] at this ⊢; omega
      · rw [padd_eq (by omega)]
        have ih := wh_padd hp' hq'
        split
        · refine ⟨ih.1, ?_⟩
          have := ih.2; simp only [N1]; omega
        · refine ⟨fun u hu => ?_, ?_⟩
          · rcases List.mem_cons.1 hu with rfl | hu
            · exact (whole_add hs ht).1
            · exact ih.1 u hu
          · have := ih.2; have := nm_add hs ht; simp only [N1]; omega
termination_by p q => p.length + q.length

theorem Sz.padd {n m : Nat} {p q : Poly} (hp : Sz n p) (hq : Sz m q) : Sz (n + m) (padd p q) := by
  have h := wh_padd hp.wh hq.wh
  exact ⟨h.1, by have := h.2; have := hp.le; have := hq.le; omega⟩

theorem N1_ptimes {c : Rat} (hc : c.den = 1) (m : Mono) : ∀ {p : Poly}, (∀ t ∈ p, t.c.den = 1) → (∀ t ∈ ptimes c m p, t.c.den = 1) ∧ N1 (ptimes c m p) = nm c * N1 p
  | [], _ => ⟨by simp [ptimes], by simp [ptimes, N1]⟩
  | t :: p, h => by
    have ih := N1_ptimes hc m (p := p) fun u hu => h u (List.mem_cons_of_mem _ hu)
    have ht := h t (List.mem_cons_self ..)
    have e : ptimes c m (t :: p) = ⟨c * t.c, m.add t.m⟩ :: ptimes c m p := rfl
    rw [e]
    refine ⟨fun u hu => ?_, ?_⟩
    · rcases List.mem_cons.1 hu with rfl | hu
      · exact (whole_mul hc ht).1
      · exact ih.1 u hu
    · simp only [N1, ih.2, nm_mul hc ht]; rw [Nat.mul_add]

theorem Sz.ptimes0 {n : Nat} {c : Rat} (hc : c.den = 1) (m : Mono) {p : Poly} (hp : Sz n p) : Sz (nm c * n) (ptimes0 c m p) := by
  unfold Ev.ptimes0
  split
  · exact Sz.nil _
  · have h := N1_ptimes hc m hp.wh
    exact ⟨h.1, by rw [h.2]; exact Nat.mul_le_mul_left _ hp.le⟩

theorem Sz.pscale {n : Nat} {c : Rat} (hc : c.den = 1) {p : Poly} (hp : Sz n p) : Sz (nm c * n) (pscale c p) := Sz.ptimes0 hc _ hp

theorem Sz.psub {n m : Nat} {p q : Poly} (hp : Sz n p) (hq : Sz m q) : Sz (n + m) (psub p q) := by
  have h1 : ((-1 : Rat)).den = 1 := by decide
  have h2 : nm (-1 : Rat) = 1 := by decide
  have := Sz.pscale h1 hq
  rw [h2, Nat.one_mul] at this
  exact Sz.padd hp this

theorem Sz.pmul0 {m : Nat} {q : Poly} (hq : Sz m q) : ∀ {p out : Poly} {k : Nat}, (∀ t ∈ p, t.c.den = 1) → Sz k out → Sz (k + N1 p * m) (pmul0 out p q)
  | [], out, k, _, h => by simpa [Ev.pmul0, N1] using h
  | t :: p, out, k, hp, h => by
    have ht := hp t (List.mem_cons_self ..)
    have h1 := Sz.padd h (Sz.ptimes0 ht t.m hq)
    have h2 := Sz.pmul0 hq (p := p) (fun u hu => hp u (List.mem_cons_of_mem _ hu)) h1
    have e : k + N1 (t :: p) * m = k + nm t.c * m + N1 p * m := by simp only [N1]; rw [Nat.add_mul]; omega
    rw [e]; exact h2

theorem Sz.mul {n m : Nat} {p q : Poly} (hp : Sz n p) (hq : Sz m q) : Sz (n * m) (Ev.pmul0 [] p q) := by
  have h := Sz.pmul0 hq hp.wh (Sz.nil 0)
  rw [Nat.zero_add] at h
  exact h.mono (Nat.mul_le_mul_right _ hp.le)

theorem Sz.madeT (N : Nat) (deg : Int) (t : RawT) : Sz 3 (madeT N deg t) := by
  have h := Sz.pscale (c := ((t.c.tmod 4 : Int) : Rat)) (whole_int _) (n := 1) (p := [⟨1, rawMono N deg t.es⟩]) ⟨by simp, by simp [N1]; decide⟩
  refine h.mono ?_
  unfold nm
  rw [num_int]
  have := Int.tmod_lt_of_pos t.c (b := 4) (by omega)
  have := Int.lt_tmod_of_pos t.c (b := 4) (by omega)
  omega

theorem Sz.made (N : Nat) (deg : Int) : ∀ (x : Raw) {out : Poly} {k : Nat}, Sz k out → Sz (k + 3 * x.length) (made N deg out x)
  | [], out, k, h => by simpa [Ev.made] using h
  | t :: x, out, k, h => by
    have h1 := Sz.made N deg x (Sz.padd h (Sz.madeT N deg t))
    refine h1.mono ?_
    simp only [List.length_cons]; omega

/-! ### The map of a product -/

def N1e : Ent → Nat
  | [] => 0
  | e :: r => nm e.2 + N1e r

structure Sze (n : Nat) (es : Ent) : Prop where
  wh : ∀ e ∈ es, e.2.den = 1
  le : N1e es ≤ n

end Go.Ev

/- The law SyzygyIs. -/
namespace Go.Ev
open Go.Pm

structure Fine (p : Poly) : Prop where
  canon : Canon p
  bd : Bd 10 p
  len : p.length ≤ 100
  sz : Sz 120 p

structure FineL (p : Poly) : Prop where
  fine : Fine p
  sz : Sz 9 p

def lawP (x : Raw) : Poly := made 2 1 [] (x.take 2)

open Classical in
/-- What the law is proved from. -/
structure LawUses (cs : Sem) : Prop where
  sanity : cs n_law19_sanity [] = some (.b true, [])
  poly : ∀ x, cs n_law19_poly [dRaw x] = some (dPoly (lawP x), [])
  polys : ∀ (l : List Raw) (o : Int), cs n_ref13_Polys [.agg [dRaws l, .i .u8 o]] = some (dPolys ((l.take 3).map fun x => made 2 2 [] (x.take 3)), [])
  add : ∀ p q, Fine p → Fine q → cs n_ref06_Add [dPoly p, dPoly q] = some (dPoly (padd p q), [])
  sub : ∀ p q, Fine p → Fine q → cs n_ref06_Sub [dPoly p, dPoly q] = some (dPoly (psub p q), [])
  by_ : ∀ p q, Fine p → FineL q → cs n_ref06_By [dPoly p, dPoly q] = some (dPoly (pmul0 [] p q), [])
  is : ∀ q l, q.length ≤ 4 → l.length ≤ 4 → (∀ p ∈ q, Fine p) → (∀ p ∈ l, FineL p) → cs n_syzygy_Is [dPolys q, dPolys l] = some (.b (decide (q.length = l.length ∧ ZS q l)), [])
  ris : ∀ q l, q.length ≤ 4 → l.length ≤ 4 → (∀ p ∈ q, Fine p) → (∀ p ∈ l, FineL p) → cs n_ref19_Is [dPolys q, dPolys l] = some (.b (decide (q.length = l.length ∧ ZS q l)), [])

/-- Bounds of a polynomial: canonical, of a degree, of so many terms, with so small coefficients. -/
structure PB (d : Int) (n N : Nat) (p : Poly) : Prop where
  canon : Canon p
  bd : Bd d p
  len : p.length ≤ n
  sz : Sz N p

section
variable {d : Int} {n N : Nat} {p : Poly}
theorem PB.fine (h : PB d n N p) (hd : d ≤ 10) (hn : n ≤ 100) (hN : N ≤ 120) : Fine p := ⟨h.canon, h.bd.mono hd, by have := h.len; omega, h.sz.mono hN⟩
theorem PB.mono {d' : Int} {n' : Nat} (h : PB d n N p) (hd : d ≤ d') (hn : n ≤ n') : PB d' n' N p := ⟨h.canon, h.bd.mono hd, by have := h.len; omega, h.sz⟩
theorem PB.nil (d : Int) : PB d 0 0 [] := ⟨trivial, Bd.nil _, by simp, Sz.nil _⟩
theorem PB.add {m M : Nat} {q : Poly} (h : PB d n N p) (g : PB d m M q) : PB d (n + m) (N + M) (padd p q) := ⟨Canon.padd h.canon g.canon, Bd.padd h.bd g.bd, by have := padd_length p q; have := h.len; have := g.len; omega, Sz.padd h.sz g.sz⟩
theorem PB.sub {m M : Nat} {q : Poly} (h : PB d n N p) (g : PB d m M q) : PB d (n + m) (N + M) (psub p q) := ⟨Canon.psub h.canon g.canon, Bd.psub h.bd g.bd, by have := psub_length p q; have := h.len; have := g.len; omega, Sz.psub h.sz g.sz⟩
theorem PB.mul {e : Int} {m M : Nat} {q : Poly} (h : PB d n N p) (g : PB e m M q) : PB (d + e) (n * m) (N * M) (pmul0 [] p q) :=
  ⟨Canon.pmul0 g.canon trivial, Bd.pmul0 g.bd h.bd (Bd.nil _), by have := pmul0_length q p []; have := Nat.mul_le_mul h.len g.len; simp at *; omega, Sz.mul h.sz g.sz⟩
end

theorem made_pb (N : Nat) (hN : N ≤ 4) (deg : Int) (hd : 0 ≤ deg) (n : Nat) (x : Raw) : PB deg n (3 * n) (made N deg [] (x.take n)) := by
  have h := made_good hN hd (x.take n) [] trivial (Bd.nil _)
  have hl : (x.take n).length ≤ n := by rw [List.length_take]; omega
  refine ⟨h.1, h.2.1, ?_, (Sz.made N deg (x.take n) (Sz.nil 0)).mono (by omega)⟩
  have := h.2.2
  simp only [List.length_nil] at this
  omega

end Go.Ev

/- The contracts as functions, and how they follow from the contracts of their callees. -/
namespace Go.Ev
open Go.Pm

/-- A function of the program has this code. -/
def Has (P : Program) (f : Nat) (c : Fun) : Prop := ∃ fn, P.funcs[f]? = some fn ∧ fn.name ≠ "runtime.NumGoroutine" ∧ toFun P KK fn = some c

abbrev G := List DV → Option (DV × List (List DV))

theorem ok_of {P : Program} (hm : P.follows .mixedOrders = true) {l : List (Nat × G)} (hl : ∀ x ∈ l, FnOK P x.1 x.2) {f : Nat} {c : Fun} (hh : Has P f c) {own : Bool} (ho : (KK.fc f).own = own)
    {α : Type} {enc : α → List DV} {cond : α → Prop} {out : α → DV × List (List DV)} (h : ∀ a, cond a → Rets KK (sem l) own c (enc a) (out a).1 (out a).2) : FnOK P f (spec enc cond out) := by
  obtain ⟨fn, h1, h2, h3⟩ := hh
  exact spec_ok fun a ha => FnAt.of hm (sem_ok hl) h1 h2 h3 (by rw [ho]; exact h a ha)

/-! ### Families of arguments -/
section
theorem inj_m : ∀ a b : Mono, [dMono a] = [dMono b] → a = b := fun a b h => dMono_inj (by simpa using h)
theorem inj_r : ∀ a b : Rat, [dRat a] = [dRat b] → a = b := fun a b h => dRat_inj (by simpa using h)
theorem inj_mm : ∀ a b : Mono × Mono, [dMono a.1, dMono a.2] = [dMono b.1, dMono b.2] → a = b := by
  intro a b h
  simp only [List.cons.injEq, and_true] at h
  exact Prod.ext (dMono_inj h.1) (dMono_inj h.2)
theorem inj_rr : ∀ a b : Rat × Rat, [dRat a.1, dRat a.2] = [dRat b.1, dRat b.2] → a = b := by
  intro a b h
  simp only [List.cons.injEq, and_true] at h
  exact Prod.ext (dRat_inj h.1) (dRat_inj h.2)
theorem inj_pp : ∀ a b : Poly × Poly, [dPoly a.1, dPoly a.2] = [dPoly b.1, dPoly b.2] → a = b := by
  intro a b h
  simp only [List.cons.injEq, and_true] at h
  exact Prod.ext (dPoly_inj h.1) (dPoly_inj h.2)
theorem inj_rp : ∀ a b : Rat × Poly, [dRat a.1, dPoly a.2] = [dRat b.1, dPoly b.2] → a = b := by
  intro a b h
  simp only [List.cons.injEq, and_true] at h
  exact Prod.ext (dRat_inj h.1) (dPoly_inj h.2)
theorem inj_rmp : ∀ a b : Rat × Mono × Poly, [dRat a.1, dMono a.2.1, dPoly a.2.2] = [dRat b.1, dMono b.2.1, dPoly b.2.2] → a = b := by
  intro a b h
  simp only [List.cons.injEq, and_true] at h
  exact Prod.ext (dRat_inj h.1) (Prod.ext (dMono_inj h.2.1) (dPoly_inj h.2.2))
theorem inj_ll : ∀ a b : List Poly × List Poly, [dPolys a.1, dPolys a.2] = [dPolys b.1, dPolys b.2] → a = b := by
  intro a b h
  simp only [List.cons.injEq, and_true] at h
  exact Prod.ext (dPolys_inj h.1) (dPolys_inj h.2)
theorem inj_i (k : IntKind) : ∀ a b : Int, [DV.i k a] = [DV.i k b] → a = b := fun a b h => by simpa using h
theorem inj_ii (k : IntKind) : ∀ a b : Int × Int, [DV.i k a.1, DV.i k a.2] = [DV.i k b.1, DV.i k b.2] → a = b := by
  intro a b h
  simp at h
  exact Prod.ext h.1 h.2
theorem dEnt_inj {a b : Mono × Rat} (h : dEnt a = dEnt b) : a = b := by
  simp only [dEnt, DV.tup.injEq, List.cons.injEq, and_true] at h
  exact Prod.ext (dMono_inj h.1) (dRat_inj h.2)
theorem rawCells_inj {s t : RawT} (h : rawCells s = rawCells t) : s = t := by
  have := map_inj (f := (DV.i .i8 ·)) (fun a b e => by simpa using e) h
  cases s; cases t; simp_all
theorem rawsCells_inj : ∀ {x y : Raw}, rawsCells x = rawsCells y → x = y
  | [], [], _ => rfl
  | [], t :: y, h => by have := congrArg List.length h; simp [rawsCells, rawCells_length] at this; have h2 := rawCells_length t; omega
  | t :: x, [], h => by have := congrArg List.length h; simp [rawsCells, rawCells_length] at this
  | s :: x, t :: y, h => by
    have e : ∀ (t : RawT) (x : Raw), rawsCells (t :: x) = rawCells t ++ rawsCells x := fun _ _ => rfl
    rw [e, e] at h
    have := List.append_inj h (by rw [rawCells_length, rawCells_length])
    rw [rawCells_inj this.1, rawsCells_inj this.2]
theorem dRaw_inj {x y : Raw} (h : dRaw x = dRaw y) : x = y := by
  simp only [DV.agg.injEq, List.cons.injEq, DV.sl.injEq, and_true] at h
  exact rawsCells_inj h.2
theorem rawSl_inj {x y : Raw} (h : rawSl x = rawSl y) : x = y := by
  simp only [rawSl, DV.sl.injEq] at h
  exact rawsCells_inj h.2
theorem dRaws_inj {x y : List Raw} (h : dRaws x = dRaws y) : x = y := by
  simp only [DV.sl.injEq] at h
  exact map_inj (fun a b e => rawSl_inj e) h.2
end

/-! ### Monomials -/
section
variable {P : Program}

noncomputable def g_ref04_Cmp : G := spec (fun a : Mono × Mono => [dMono a.1, dMono a.2]) (fun _ => True) (fun a => (.i .i64 (Mono.cmp a.1 a.2), []))
theorem e_ref04_Cmp (a b : Mono) : g_ref04_Cmp [dMono a, dMono b] = some (.i .i64 (Mono.cmp a b), []) := spec_eq (a := (a, b)) inj_mm trivial
theorem ok_ref04_Cmp (hm : P.follows .mixedOrders = true) (hh : Has P n_ref04_Cmp c_ref04_Cmp) : FnOK P n_ref04_Cmp g_ref04_Cmp := ok_of hm (l := []) (by simp) hh rfl fun a _ => ref04_Cmp_rets _ a.1 a.2

noncomputable def g_ref04_Valid : G := spec (fun a : Mono => [dMono a]) (fun _ => True) (fun a => (.b (decide (Mo.bd 65535 a)), []))
theorem e_ref04_Valid (a : Mono) : g_ref04_Valid [dMono a] = some (.b (decide (Mo.bd 65535 a)), []) := spec_eq inj_m trivial
theorem ok_ref04_Valid (hm : P.follows .mixedOrders = true) (hh : Has P n_ref04_Valid c_ref04_Valid) : FnOK P n_ref04_Valid g_ref04_Valid := ok_of hm (l := []) (by simp) hh rfl fun a _ => ref04_Valid_rets _ a

noncomputable def g_ref04_Mul : G := spec (fun a : Mono × Mono => [dMono a.1, dMono a.2]) (fun a => Mo.bd 65535 a.1 ∧ Mo.bd 65535 a.2) (fun a => (.tup [dMono (if Mo.bd 65535 (a.1.add a.2) then a.1.add a.2 else Mono.zero), .i .i64 (if Mo.bd 65535 (a.1.add a.2) then 0 else 2)], []))
theorem e_ref04_Mul (a b : Mono) (ha : Mo.bd 65535 a) (hb : Mo.bd 65535 b) : g_ref04_Mul [dMono a, dMono b] = some (.tup [dMono (if Mo.bd 65535 (a.add b) then a.add b else Mono.zero), .i .i64 (if Mo.bd 65535 (a.add b) then 0 else 2)], []) := spec_eq (a := (a, b)) inj_mm ⟨ha, hb⟩
theorem ok_ref04_Mul (hm : P.follows .mixedOrders = true) (hh : Has P n_ref04_Mul c_ref04_Mul) (h1 : FnOK P n_ref04_Valid g_ref04_Valid) : FnOK P n_ref04_Mul g_ref04_Mul :=
  ok_of hm (l := [(n_ref04_Valid, g_ref04_Valid)]) (by simpa using h1) hh rfl fun a ha => ref04_Mul_rets _ (fun b => e_ref04_Valid b) a.1 a.2 ha.1 ha.2

noncomputable def g_monomial_Mul : G := spec (fun a : Mono × Mono => [dMono a.1, dMono a.2]) (fun a => Mo.bd 65535 a.1 ∧ Mo.bd 65535 a.2) (fun a => (.tup [dMono (if Mo.bd 65535 (a.1.add a.2) then a.1.add a.2 else Mono.zero), .i .i64 (if Mo.bd 65535 (a.1.add a.2) then 0 else 2)], []))
noncomputable def g_isNaN : G := spec (fun a : Int => [.i .i64 a]) (fun _ => True) (fun _ => (.b false, []))
theorem e_isNaN (x : Int) : g_isNaN [.i .i64 x] = some (.b false, []) := spec_eq (inj_i .i64) trivial
theorem ok_isNaN (hm : P.follows .mixedOrders = true) (hh : Has P n_cmp_isNaN_int c_cmp_isNaN_int) : FnOK P n_cmp_isNaN_int g_isNaN := ok_of hm (l := []) (by simp) hh rfl fun a _ => cmp_isNaN_int_rets _ a

noncomputable def g_cmp_int : G := spec (fun a : Int × Int => [.i .i64 a.1, .i .i64 a.2]) (fun _ => True) (fun a => (.i .i64 (if a.1 < a.2 then -1 else if a.2 < a.1 then 1 else 0), []))
theorem e_cmp_int (x y : Int) : g_cmp_int [.i .i64 x, .i .i64 y] = some (.i .i64 (if x < y then -1 else if y < x then 1 else 0), []) := spec_eq (a := (x, y)) (inj_ii .i64) trivial
theorem ok_cmp_int (hm : P.follows .mixedOrders = true) (hh : Has P n_cmp_Compare_int c_cmp_Compare_int) (h1 : FnOK P n_cmp_isNaN_int g_isNaN) : FnOK P n_cmp_Compare_int g_cmp_int :=
  ok_of hm (l := [(n_cmp_isNaN_int, g_isNaN)]) (by simpa using h1) hh rfl fun a _ => cmp_Compare_int_rets _ (fun x => e_isNaN x) a.1 a.2

theorem inj_ss : ∀ a b : Mono × Mono, [DV.sl 8 (mcells a.1), DV.sl 8 (mcells a.2)] = [DV.sl 8 (mcells b.1), DV.sl 8 (mcells b.2)] → a = b := by
  intro a b h
  simp only [List.cons.injEq, DV.sl.injEq, true_and, and_true] at h
  exact Prod.ext (mcells_inj h.1) (mcells_inj h.2)
noncomputable def g_slices_Compare : G := spec (fun a : Mono × Mono => [.sl 8 (mcells a.1), .sl 8 (mcells a.2)]) (fun _ => True) (fun a => (.i .i64 (Mono.cmp a.1 a.2), []))
theorem e_slices_Compare (a b : Mono) : g_slices_Compare [.sl 8 (mcells a), .sl 8 (mcells b)] = some (.i .i64 (Mono.cmp a b), []) := spec_eq (a := (a, b)) inj_ss trivial
theorem ok_slices_Compare (hm : P.follows .mixedOrders = true) (hh : Has P n_slices_Compare_int_int c_slices_Compare_int_int) (h1 : FnOK P n_cmp_Compare_int g_cmp_int) : FnOK P n_slices_Compare_int_int g_slices_Compare :=
  ok_of hm (l := [(n_cmp_Compare_int, g_cmp_int)]) (by simpa using h1) hh rfl fun a _ => slices_Compare_rets _ (fun x y => e_cmp_int x y) a.1 a.2

noncomputable def g_monomial_Cmp : G := spec (fun a : Mono × Mono => [dMono a.1, dMono a.2]) (fun _ => True) (fun a => (.i .i64 (Mono.cmp a.1 a.2), []))
theorem e_monomial_Cmp (a b : Mono) : g_monomial_Cmp [dMono a, dMono b] = some (.i .i64 (Mono.cmp a b), []) := spec_eq (a := (a, b)) inj_mm trivial
theorem ok_monomial_Cmp (hm : P.follows .mixedOrders = true) (hh : Has P n_monomial_Cmp c_monomial_Cmp) (h1 : FnOK P n_slices_Compare_int_int g_slices_Compare) : FnOK P n_monomial_Cmp g_monomial_Cmp :=
  ok_of hm (l := [(n_slices_Compare_int_int, g_slices_Compare)]) (by simpa using h1) hh rfl fun a _ => monomial_Cmp_rets _ a.1 a.2 (e_slices_Compare _ _)
end
end Go.Ev

/- Contracts of the functions on polynomials, from the contracts of numbers. -/
namespace Go.Ev
open Go.Pm

/-- What is known of numbers: signs of all, sums and products of small whole ones. -/
def Sm (B : Nat) (a : Rat) : Prop := a.den = 1 ∧ nm a ≤ B

structure NumG where
  n : Nat
  g : G

section
variable {P : Program}

noncomputable def g_sign : G := spec (fun a : Rat => [dRat a]) (fun _ => True) (fun a => (.i .i64 (sgn a), []))
theorem e_sign (a : Rat) : g_sign [dRat a] = some (.i .i64 (sgn a), []) := spec_eq inj_r trivial
noncomputable def g_add : G := spec (fun a : Rat × Rat => [dRat a.1, dRat a.2]) (fun a => Sm 16000 a.1 ∧ Sm 16000 a.2) (fun a => (dRat (a.1 + a.2), []))
theorem e_add (a b : Rat) (ha : Sm 16000 a) (hb : Sm 16000 b) : g_add [dRat a, dRat b] = some (dRat (a + b), []) := spec_eq (a := (a, b)) inj_rr ⟨ha, hb⟩
noncomputable def g_mul : G := spec (fun a : Rat × Rat => [dRat a.1, dRat a.2]) (fun a => Sm 16000 a.1 ∧ Sm 16000 a.2) (fun a => (dRat (a.1 * a.2), []))
theorem e_mul (a b : Rat) (ha : Sm 16000 a) (hb : Sm 16000 b) : g_mul [dRat a, dRat b] = some (dRat (a * b), []) := spec_eq (a := (a, b)) inj_rr ⟨ha, hb⟩
noncomputable def g_whole : G := spec (fun a : Int => [.i .i64 a]) (fun a => -100 ≤ a ∧ a ≤ 100) (fun a => (dRat (a : Rat), []))
theorem e_whole (a : Int) (h1 : -100 ≤ a) (h2 : a ≤ 100) : g_whole [.i .i64 a] = some (dRat (a : Rat), []) := spec_eq (inj_i .i64) ⟨h1, h2⟩

/-- What the contracts of the reference rest on. -/
structure RefNums (P : Program) : Prop where
  hm : P.follows .mixedOrders = true
  sign : FnOK P n_ref02_Sign g_sign
  add : FnOK P n_ref02_Add g_add
  mul : FnOK P n_ref02_Mul g_mul
  whole : FnOK P n_ref02_Whole g_whole
  cmp : FnOK P n_ref04_Cmp g_ref04_Cmp
  mmul : FnOK P n_ref04_Mul g_ref04_Mul

noncomputable def refL : List (Nat × G) := [(n_ref02_Sign, g_sign), (n_ref02_Add, g_add), (n_ref02_Mul, g_mul), (n_ref02_Whole, g_whole), (n_ref04_Cmp, g_ref04_Cmp), (n_ref04_Mul, g_ref04_Mul)]

theorem RefNums.ok (R : RefNums P) : ∀ x ∈ refL, FnOK P x.1 x.2 := by
  simp only [refL, List.mem_cons, List.not_mem_nil, or_false, forall_eq_or_imp, forall_eq]
  exact ⟨R.sign, R.add, R.mul, R.whole, R.cmp, R.mmul⟩

theorem refArith (l : List (Nat × G)) : RefArith (sem (refL ++ l)) where
  cmp a b := e_ref04_Cmp a b
  mmul a b ha hb := e_ref04_Mul a b ha hb
  sign a := e_sign a
  whole n h1 h2 := e_whole n h1 h2

theorem sem_add (l : List (Nat × G)) (a b : Rat) (ha : Sm 16000 a) (hb : Sm 16000 b) : sem (refL ++ l) n_ref02_Add [dRat a, dRat b] = some (dRat (a + b), []) := e_add a b ha hb
theorem sem_mul (l : List (Nat × G)) (a b : Rat) (ha : Sm 16000 a) (hb : Sm 16000 b) : sem (refL ++ l) n_ref02_Mul [dRat a, dRat b] = some (dRat (a * b), []) := e_mul a b ha hb

/-- The terms of a polynomial are small. -/
def SmP (B : Nat) (p : Poly) : Prop := ∀ t ∈ p, Sm B t.c
theorem Sz.sm {n B : Nat} {p : Poly} (h : Sz n p) (hB : n ≤ B) : SmP B p := fun t ht => ⟨(h.mem ht).1, by have := (h.mem ht).2; omega⟩

noncomputable def g_ref06_Add : G := spec (fun a : Poly × Poly => [dPoly a.1, dPoly a.2]) (fun a => a.1.length + a.2.length ≤ 1000000 ∧ SmP 16000 a.1 ∧ SmP 16000 a.2) (fun a => (dPoly (padd a.1 a.2), []))
theorem e_ref06_Add (p q : Poly) (h : p.length + q.length ≤ 1000000) (hp : SmP 16000 p) (hq : SmP 16000 q) : g_ref06_Add [dPoly p, dPoly q] = some (dPoly (padd p q), []) := spec_eq (a := (p, q)) inj_pp ⟨h, hp, hq⟩
theorem ok_ref06_Add (R : RefNums P) (hh : Has P n_ref06_Add c_ref06_Add) : FnOK P n_ref06_Add g_ref06_Add :=
  ok_of R.hm (l := refL ++ []) (by simpa using R.ok) hh rfl fun a h => ref06_Add_rets _ (refArith []) a.1 a.2 h.1 fun s hs t ht => sem_add [] _ _ (h.2.1 s hs) (h.2.2 t ht)

noncomputable def g_ref06_Times : G := spec (fun a : Rat × Mono × Poly => [dRat a.1, dMono a.2.1, dPoly a.2.2]) (fun a => a.2.2.length ≤ 1000000 ∧ Mo.bd 30000 a.2.1 ∧ Bd 30000 a.2.2 ∧ Sm 16000 a.1 ∧ SmP 16000 a.2.2) (fun a => (.tup [dPoly (ptimes0 a.1 a.2.1 a.2.2), .i .i64 0], []))
theorem e_ref06_Times (c : Rat) (m : Mono) (p : Poly) (h : p.length ≤ 1000000 ∧ Mo.bd 30000 m ∧ Bd 30000 p ∧ Sm 16000 c ∧ SmP 16000 p) : g_ref06_Times [dRat c, dMono m, dPoly p] = some (.tup [dPoly (ptimes0 c m p), .i .i64 0], []) := spec_eq (a := (c, m, p)) inj_rmp h
theorem ok_ref06_Times (R : RefNums P) (hh : Has P n_ref06_Times c_ref06_Times) : FnOK P n_ref06_Times g_ref06_Times :=
  ok_of R.hm (l := refL ++ []) (by simpa using R.ok) hh rfl fun a h => ref06_Times_rets _ (refArith []) a.1 a.2.1 a.2.2 h.1 30000 30000 h.2.1 h.2.2.1 (by omega) (by omega) (by omega) fun t ht => sem_mul [] _ _ h.2.2.2.1 (h.2.2.2.2 t ht)

noncomputable def g_ref06_Scale : G := spec (fun a : Rat × Poly => [dRat a.1, dPoly a.2]) (fun a => a.2.length ≤ 1000000 ∧ Bd 30000 a.2 ∧ Sm 16000 a.1 ∧ SmP 16000 a.2) (fun a => (dPoly (pscale a.1 a.2), []))
theorem e_ref06_Scale (c : Rat) (p : Poly) (h : p.length ≤ 1000000 ∧ Bd 30000 p ∧ Sm 16000 c ∧ SmP 16000 p) : g_ref06_Scale [dRat c, dPoly p] = some (dPoly (pscale c p), []) := spec_eq (a := (c, p)) inj_rp h
theorem ok_ref06_Scale (hm : P.follows .mixedOrders = true) (hh : Has P n_ref06_Scale c_ref06_Scale) (h1 : FnOK P n_ref06_Times g_ref06_Times) : FnOK P n_ref06_Scale g_ref06_Scale :=
  ok_of hm (l := [(n_ref06_Times, g_ref06_Times)]) (by simpa using h1) hh rfl fun a h => ref06_Scale_rets _ a.1 a.2 (e_ref06_Times _ _ _ ⟨h.1, Mo.bd_zero (by omega), h.2⟩)

/-- A pair of polynomials whose product is small. -/
structure MulOk (p q : Poly) : Prop where
  len : p.length * q.length + q.length + p.length ≤ 100000
  bp : Bd 10000 p
  bq : Bd 10000 q
  wp : ∀ t ∈ p, t.c.den = 1
  wq : ∀ t ∈ q, t.c.den = 1
  sp : N1 p ≤ 16000
  sq : N1 q ≤ 16000
  small : N1 p * N1 q ≤ 16000

end
end Go.Ev

/- Contracts of sums, equality and raw polynomials of the reference. -/
namespace Go.Ev
open Go.Pm
section
variable {P : Program}

noncomputable def g_abs : G := spec (fun a : Int => [.i .i8 a]) (fun a => -128 ≤ a ∧ a ≤ 127) (fun a => (.i .i64 (iabs a), []))
theorem e_abs (a : Int) (h : -128 ≤ a ∧ a ≤ 127) : g_abs [.i .i8 a] = some (.i .i64 (iabs a), []) := spec_eq (inj_i .i8) h
theorem ok_abs (hm : P.follows .mixedOrders = true) (hh : Has P n_ref06_abs c_ref06_abs) : FnOK P n_ref06_abs g_abs := ok_of hm (l := []) (by simp) hh rfl fun a h => ref06_abs_rets _ a h

theorem inj_made : ∀ a b : Raw × Nat × Int × Nat, [dRaw a.1, DV.i .i64 (a.2.1 : Int), DV.i .i64 a.2.2.1, DV.i .i64 (a.2.2.2 : Int)] = [dRaw b.1, DV.i .i64 (b.2.1 : Int), DV.i .i64 b.2.2.1, DV.i .i64 (b.2.2.2 : Int)] → a = b := by
  intro a b h
  simp only [List.cons.injEq, DV.i.injEq, true_and, and_true] at h
  obtain ⟨h1, h2, h3, h4⟩ := h
  have e1 : dRaw a.1 = dRaw b.1 := by first | exact h1 | simpa using h1
  exact Prod.ext (dRaw_inj e1) (Prod.ext (by omega) (Prod.ext h3 (by omega)))
noncomputable def g_made : G := spec (fun a : Raw × Nat × Int × Nat => [dRaw a.1, .i .i64 (a.2.1 : Int), .i .i64 a.2.2.1, .i .i64 (a.2.2.2 : Int)]) (fun a => a.2.1 ≤ 4 ∧ (0 ≤ a.2.2.1 ∧ a.2.2.1 ≤ 100) ∧ a.2.2.2 ≤ 100) (fun a => (dPoly (made a.2.1 a.2.2.1 [] (a.1.take a.2.2.2)), []))
theorem e_made (x : Raw) (N : Nat) (deg : Int) (n : Nat) (h : N ≤ 4 ∧ (0 ≤ deg ∧ deg ≤ 100) ∧ n ≤ 100) : g_made [dRaw x, .i .i64 (N : Int), .i .i64 deg, .i .i64 (n : Int)] = some (dPoly (made N deg [] (x.take n)), []) := spec_eq (a := (x, N, deg, n)) inj_made h
theorem ok_made (R : RefNums P) (hh : Has P n_ref06_Made c_ref06_Made) (h1 : FnOK P n_ref06_abs g_abs) (h2 : FnOK P n_ref06_Scale g_ref06_Scale) (h3 : FnOK P n_ref06_Add g_ref06_Add) : FnOK P n_ref06_Made g_made :=
  ok_of R.hm (l := [(n_ref06_abs, g_abs), (n_ref02_Whole, g_whole), (n_ref06_Scale, g_ref06_Scale), (n_ref06_Add, g_ref06_Add)]) (by simpa using ⟨h1, R.whole, h2, h3⟩) hh rfl fun ⟨x, N, deg, n⟩ h => by
    have h : N ≤ 4 ∧ (0 ≤ deg ∧ deg ≤ 100) ∧ n ≤ 100 := h
    refine ref06_Made_rets _ x N deg n h.1 ⟨h.2.1.1, by omega⟩ (by omega) (fun e he => e_abs e he) (fun k h1 h2 => e_whole k h1 h2) (fun t => ?_) (fun a t b hx => ?_)
    · have b1 := rawMono_bd h.1 h.2.1.1 t
      have c1 : Sm 16000 ((t.c.tmod 4 : Int) : Rat) := by
        refine ⟨whole_int _, ?_⟩
        unfold nm; rw [num_int]
        have := Int.tmod_lt_of_pos t.c (b := 4) (by omega)
        have := Int.lt_tmod_of_pos t.c (b := 4) (by omega)
        omega
      exact e_ref06_Scale _ _ ⟨by simp, fun u hu => by simp only [List.mem_singleton] at hu; subst hu; exact Mo.bd_mono b1 (by omega), c1, fun u hu => by simp only [List.mem_singleton] at hu; subst hu; exact ⟨by simp, by show nm (1 : Rat) ≤ 16000; decide⟩⟩
    · have ha : a.length ≤ 100 := by
        have := congrArg List.length hx
        simp only [List.length_append, List.length_cons, List.length_take] at this
        omega
      have g1 := made_good h.1 h.2.1.1 a [] trivial (Bd.nil _)
      have s1 := Sz.made N deg a (Sz.nil 0)
      have l1 : (madeT N deg t).length ≤ 1 := pscale_length ..
      have l2 := g1.2.2
      simp only [List.length_nil] at l2
      exact e_ref06_Add _ _ (by omega) (s1.sm (by omega)) ((Sz.madeT N deg t).sm (by omega))

theorem inj_list : ∀ a b : List Raw × Nat × Int × Nat × Nat, [dRaws a.1, DV.i .i64 (a.2.1 : Int), DV.i .i64 a.2.2.1, DV.i .i64 (a.2.2.2.1 : Int), DV.i .i64 (a.2.2.2.2 : Int)] = [dRaws b.1, DV.i .i64 (b.2.1 : Int), DV.i .i64 b.2.2.1, DV.i .i64 (b.2.2.2.1 : Int), DV.i .i64 (b.2.2.2.2 : Int)] → a = b := by
  intro a b h
  simp only [List.cons.injEq, DV.i.injEq, true_and, and_true] at h
  obtain ⟨h1, h2, h3, h4, h5⟩ := h
  exact Prod.ext (dRaws_inj h1) (Prod.ext (by omega) (Prod.ext h3 (Prod.ext (by omega) (by omega))))
noncomputable def g_list : G := spec (fun a : List Raw × Nat × Int × Nat × Nat => [dRaws a.1, .i .i64 (a.2.1 : Int), .i .i64 a.2.2.1, .i .i64 (a.2.2.2.1 : Int), .i .i64 (a.2.2.2.2 : Int)]) (fun a => (a.2.1 ≤ 4 ∧ (0 ≤ a.2.2.1 ∧ a.2.2.1 ≤ 100) ∧ a.2.2.2.1 ≤ 100) ∧ a.2.2.2.2 ≤ 100)
  (fun a => (dPolys ((a.1.take a.2.2.2.2).map fun x => made a.2.1 a.2.2.1 [] (x.take a.2.2.2.1)), []))
theorem e_list (l : List Raw) (N : Nat) (deg : Int) (n m : Nat) (h : (N ≤ 4 ∧ (0 ≤ deg ∧ deg ≤ 100) ∧ n ≤ 100) ∧ m ≤ 100) : g_list [dRaws l, .i .i64 (N : Int), .i .i64 deg, .i .i64 (n : Int), .i .i64 (m : Int)] = some (dPolys ((l.take m).map fun x => made N deg [] (x.take n)), []) := spec_eq (a := (l, N, deg, n, m)) inj_list h
theorem ok_list (hm : P.follows .mixedOrders = true) (hh : Has P n_ref06_List c_ref06_List) (h1 : FnOK P n_ref06_Made g_made) : FnOK P n_ref06_List g_list :=
  ok_of hm (l := [(n_ref06_Made, g_made)]) (by simpa using h1) hh rfl fun ⟨l, N, deg, n, m⟩ h => ref06_List_rets _ l N deg n m (by have : m ≤ 100 := h.2; omega) fun x => e_made x N deg n h.1

/-! ### Sums of products -/

/-- Lists whose sum of products is small. -/
structure SumOk (q l : List Poly) : Prop where
  lq : q.length ≤ 4
  ll : l.length ≤ 4
  fq : ∀ p ∈ q, Fine p
  fl : ∀ p ∈ l, FineL p

end
end Go.Ev

/- Contracts of the program's functions on polynomials; the law. -/
namespace Go.Ev
open Go.Pm

/-! ### The polynomial of a map -/

def insT (t : Tm) : Poly → Poly
  | [] => [t]
  | u :: p => if 0 < Mono.cmp t.m u.m then t :: u :: p else u :: insT t p

def polyOf : Ent → Poly
  | [] => []
  | (m, c) :: r => if c = 0 then polyOf r else insT ⟨c, m⟩ (polyOf r)

def KeysOk (es : Ent) : Prop := (es.map (·.1)).Nodup

theorem mem_insT {t u : Tm} : ∀ {p : Poly}, u ∈ insT t p ↔ u = t ∨ u ∈ p
  | [] => by simp [insT]
  | v :: p => by
    unfold insT
    split
    · simp
    · rw [List.mem_cons, mem_insT (p := p)]; simp only [List.mem_cons]
      constructor
      · rintro (h | h | h) <;> simp [h]
      · rintro (h | h | h) <;> simp [h]

theorem Canon.insT {t : Tm} (ht : t.c ≠ 0) : ∀ {p : Poly}, (∀ u ∈ p, u.m ≠ t.m) → Canon p → Canon (insT t p)
  | [], _, _ => ⟨ht, Below.nil _, trivial⟩
  | u :: p, hn, h => by
    unfold Ev.insT
    split
    · rename_i c
      exact ⟨ht, Below.cons.2 ⟨c, h.2.1.trans c⟩, h⟩
    · rename_i c
      have c' : 0 < Mono.cmp u.m t.m := by
        have hne := hn u (List.mem_cons_self ..)
        have h0 : Mono.cmp t.m u.m ≠ 0 := fun e => hne (Mono.cmp_zero.1 e).symm
        rw [Mono.cmp_neg]; omega
      refine ⟨h.1, fun v hv => ?_, Canon.insT ht (fun v hv => hn v (List.mem_cons_of_mem _ hv)) h.2.2⟩
      rcases mem_insT.1 hv with rfl | hv
      · exact c'
      · exact h.2.1 v hv

theorem mem_polyOf {u : Tm} : ∀ {es : Ent}, u ∈ polyOf es → (u.m, u.c) ∈ es ∧ u.c ≠ 0
  | [], h => by simp [polyOf] at h
  | (m, c) :: r, h => by
    unfold polyOf at h
    split at h
    · have := mem_polyOf h; exact ⟨List.mem_cons_of_mem _ this.1, this.2⟩
    · rename_i hc
      rcases mem_insT.1 h with rfl | h
      · exact ⟨List.mem_cons_self .., hc⟩
      · have := mem_polyOf h; exact ⟨List.mem_cons_of_mem _ this.1, this.2⟩

theorem Canon.polyOf : ∀ {es : Ent}, KeysOk es → Canon (polyOf es)
  | [], _ => trivial
  | (m, c) :: r, h => by
    simp only [KeysOk, List.map_cons, List.nodup_cons] at h
    have ih := Canon.polyOf (es := r) h.2
    unfold Ev.polyOf
    split
    · exact ih
    · rename_i hc
      refine Canon.insT hc (fun u hu e => h.1 ?_) ih
      have := (mem_polyOf hu).1
      have e' : u.m = m := e
      rw [← e']; exact List.mem_map_of_mem (f := (·.1)) this

theorem N1_insT (t : Tm) : ∀ p, N1 (insT t p) = nm t.c + N1 p
  | [] => rfl
  | u :: p => by unfold insT; split <;> simp only [N1, N1_insT t p]; omega
theorem Sze.polyOf : ∀ {es : Ent} {n : Nat}, Sze n es → Sz n (polyOf es)
  | [], n, _ => Sz.nil n
  | (m, c) :: r, n, h => by
    have hl := h.le
    simp only [N1e] at hl
    have ih := Sze.polyOf (es := r) (n := N1e r) ⟨fun e he => h.wh e (List.mem_cons_of_mem _ he), Nat.le_refl _⟩
    unfold Ev.polyOf
    split
    · exact ih.mono (by omega)
    · refine ⟨fun u hu => ?_, ?_⟩
      · rcases mem_insT.1 hu with rfl | hu
        · exact h.wh (m, c) (List.mem_cons_self ..)
        · exact ih.wh u hu
      · rw [N1_insT]; have := ih.le; simp only; omega

/-! ### The map of a product -/

/-! ### The contracts -/
section
variable {P : Program}

structure ProgNums (P : Program) : Prop where
  hm : P.follows .mixedOrders = true
  sign : FnOK P n_rational_Sign g_sign
  add : FnOK P n_rational_Add g_add
  mul : FnOK P n_rational_Mul g_mul
  cmp : FnOK P n_monomial_Cmp g_monomial_Cmp
  mmul : FnOK P n_monomial_Mul g_monomial_Mul

theorem inj_ent : ∀ a b : Ent, [DV.msl (a.map dEnt)] = [DV.msl (b.map dEnt)] → a = b := by
  intro a b h
  simp only [List.cons.injEq, DV.msl.injEq, and_true] at h
  exact map_inj (fun x y e => dEnt_inj e) h
noncomputable def g_sumpoly : G := spec (fun a : Ent => [.msl (a.map dEnt)]) (fun a => KeysOk a ∧ a.length ≤ 1000000) (fun a => (dPoly (polyOf a), []))
theorem e_sumpoly (es : Ent) (h : KeysOk es ∧ es.length ≤ 1000000) : g_sumpoly [.msl (es.map dEnt)] = some (dPoly (polyOf es), []) := spec_eq inj_ent h

def g_true : G := fun ds => if ds.isEmpty then some (.b true, []) else none

end
end Go.Ev
