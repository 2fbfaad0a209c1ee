/- Parts of the proof of the statement: FSort, FPolyOf, FPolyFn, SLay, SPoly, FMemo, FPolyC, FNumC, STab, SNum0, SM0, EvCdH, EvShare, EvCdE. -/
import Derived.Test.YtnkimagafelicaaGreatPart03
import Derived.Shelf.SlSortCmp.PdqK
import Derived.Shelf.SlGeneric
import Derived.Ground.SlsfProg
import Derived.Test.YtnkimagafelicaaGreatChecked
import Derived.Test.YtnkimagafelicaaGreatPart00
import Derived.Test.YtnkimagafelicaaGreatPart02
import Derived.Test.YtnkimagafelicaaGreatPart01
set_option linter.unusedVariables false
set_option linter.unusedSimpArgs false
/- slices.SortFunc at the terms of a polynomial, said of deep values. -/
namespace Go.Ev
open Go.Pm Go.Proofs Go.Sort Go.Shelf

/-- A term, of whatever coefficient. -/
structure Q4 where
  a : DV
  b : DV
  c : DV
  d : DV
  m : Mono

def Q4.cells (q : Q4) : List DV := q.a :: q.b :: q.c :: q.d :: mcells q.m
def Q4.ok (q : Q4) : Prop := areDeep q.cells = true ∧ q.cells.all isCell = true

theorem Q4.cells_inj {p q : Q4} (h : p.cells = q.cells) : p = q := by
  simp only [Q4.cells, List.cons.injEq] at h
  obtain ⟨h1, h2, h3, h4, h5⟩ := h
  have h5 := mcells_inj h5
  cases p; cases q; simp_all

theorem Q4.cells_length (q : Q4) : q.cells.length = 12 := by simp [Q4.cells]

noncomputable def g_cmpQ : G := spec (fun a : Q4 × Q4 => [.agg a.1.cells, .agg a.2.cells]) (fun a => a.1.ok ∧ a.2.ok) (fun a => (.i .i64 (Mono.cmp a.2.m a.1.m), []))

/-- An element of the row. -/
structure El (hp : Hp) (S : Pub) where
  q : Q4
  vs : List Value
  ok : q.ok
  v : VL hp S N0 q.cells vs

instance (hp : Hp) (S : Pub) : Inhabited (El hp S) := ⟨⟨⟨.b false, .non, .b false, .non, Mono.zero⟩, [.bool false, .slice none 0 0, .bool false, .slice none 0 0, .int .i64 0, .int .i64 0, .int .i64 0, .int .i64 0, .int .i64 0, .int .i64 0, .int .i64 0, .int .i64 0], by
  constructor <;> rfl, by simp [Q4.cells, mcells, Mono.zero, Mono.l, VL, V]⟩⟩

variable {P : Program}

def cfEl {hp : Hp} {S : Pub} (x y : El hp S) : Int := Mono.cmp y.q.m x.q.m

theorem ltEl {hp : Hp} {S : Pub} {x y : El hp S} : ltOf cfEl x y = true ↔ 0 < Mono.cmp x.q.m y.q.m := by
  have e := Mono.cmp_neg x.q.m y.q.m
  unfold ltOf cfEl
  rw [decide_eq_true_iff, e]
  omega

theorem swoEl (hp : Hp) (S : Pub) : SWO (ltOf (cfEl (hp := hp) (S := S))) where
  irrefl x := by
    cases h : ltOf cfEl x x
    · rfl
    · have := ltEl.1 h; rw [Mono.cmp_self] at this; omega
  trans x y z h1 h2 := ltEl.2 (Mono.cmp_trans (ltEl.1 h1) (ltEl.1 h2))
  ntrans x y z h1 h2 := by
    cases h : ltOf cfEl x z
    · rfl
    · exfalso
      have h3 := ltEl.1 h
      have g1 : ¬ 0 < Mono.cmp x.q.m y.q.m := fun g => by rw [ltEl.2 g] at h1; cases h1
      have g2 : ¬ 0 < Mono.cmp y.q.m z.q.m := fun g => by rw [ltEl.2 g] at h2; cases h2
      rcases Mono.cmp_range x.q.m y.q.m with c | c | c
      · have e := Mono.cmp_neg x.q.m y.q.m
        have := Mono.cmp_trans (a := y.q.m) (b := x.q.m) (c := z.q.m) (by omega) h3
        exact g2 this
      · have := Mono.cmp_zero.1 c
        rw [this] at h3; exact g2 h3
      · omega

theorem El.len {hp : Hp} {S : Pub} (x : El hp S) : x.vs.length = 12 := by rw [VL.length x.v, Q4.cells_length]
theorem El.one {hp : Hp} {S : Pub} (x : El hp S) : ∀ v ∈ x.vs, v.oneCell' = true := areCells_ok x.v x.ok.2

theorem els_of {hp : Hp} {S : Pub} : ∀ {qs : List Q4} {us : List Value}, (∀ q ∈ qs, q.ok) → VL hp S N0 (qs.flatMap Q4.cells) us → ∃ l : List (El hp S), l.map El.q = qs ∧ l.flatMap El.vs = us
  | [], us, _, h => ⟨[], rfl, by simp only [List.flatMap_nil, VL] at h; simp [h]⟩
  | q :: r, us, hq, h => by
    rw [List.flatMap_cons] at h
    have h1 := VL.take 12 h
    have h2 := VL.drop 12 h
    rw [List.take_left' (Q4.cells_length q)] at h1
    rw [List.drop_left' (Q4.cells_length q)] at h2
    obtain ⟨l, e1, e2⟩ := els_of (fun p hp => hq p (List.mem_cons_of_mem _ hp)) h2
    exact ⟨⟨q, us.take 12, hq q (List.mem_cons_self ..), h1⟩ :: l, by simp [e1], by simp [e2]⟩

theorem flat_get {α : Type} {f : α → List Value} {k : Nat} (hk : 0 < k) (hf : ∀ x, (f x).length = k) : ∀ (l : List α) (j : Nat), (l.flatMap f)[j]? = (l[j / k]?).bind fun x => (f x)[j % k]?
  | [], j => by simp
  | x :: r, j => by
    rw [List.flatMap_cons, List.getElem?_append, hf]
    split
    · rename_i h
      rw [Nat.div_eq_of_lt h, Nat.mod_eq_of_lt h]; simp
    · rename_i h
      rw [flat_get hk hf r (j - k)]
      have e : j = (j - k) + k := by omega
      conv => rhs; rw [e, Nat.add_div_right _ hk, Nat.add_mod_right]
      simp

theorem flatK_toList {hp : Hp} {S : Pub} (d : Array (El hp S)) : (flatK El.vs 12 d).toList = d.toList.flatMap El.vs := by
  apply List.ext_getElem?
  intro j
  rw [flat_get (by omega) El.len]
  simp only [flatK, Array.toList_map, Array.toList_range, List.getElem?_map]
  by_cases h : j < d.size * 12
  · rw [List.getElem?_range h]
    have hd : j / 12 < d.size := by omega
    have hl := El.len d[j / 12]
    simp only [Option.map_some, Array.getElem?_toList]
    rw [Array.getElem?_eq_getElem hd, getElem!_pos d (j / 12) hd]
    simp only [Option.bind_some]
    have hm : j % 12 < (d[j / 12]).vs.length := by omega
    rw [List.getElem?_eq_getElem hm, getElem!_pos (d[j / 12]).vs (j % 12) hm]
  · rw [List.getElem?_eq_none (by simp; omega)]
    have : d.toList[j / 12]? = none := List.getElem?_eq_none (by simp; omega)
    rw [this]; rfl

/-! ### The call -/

theorem grow_of {w w' : World} (t : Tw w w') (hs : w.heap.size ≤ w'.heap.size) (old : ∀ b, b < w.heap.size → w'.heap[b]? = w.heap[b]?) : ∃ q os, w' = grow (w.drewN q) os := by
  refine ⟨w'.drawn - w.drawn, w'.heap.extract w.heap.size w'.heap.size, ?_⟩
  have e1 : w.heap ++ w'.heap.extract w.heap.size w'.heap.size = w'.heap := by
    apply Array.ext_getElem?
    intro i
    rw [Array.getElem?_append]
    split
    · rename_i h; exact (old i h).symm
    · rename_i h
      rw [Array.getElem?_extract]
      split
      · congr 1; omega
      · rw [Array.getElem?_eq_none (by omega)]
  have e2 : w.drawn + (w'.drawn - w.drawn) = w'.drawn := by have := t.drawn; omega
  obtain ⟨h, tp, dr, os, out⟩ := w'
  have h1 := t.os; have h2 := t.tape; have h3 := t.output
  simp only at h1 h2 h3 e1 e2
  subst h1 h2 h3
  unfold grow World.drewN
  simp only [e1, e2]

theorem cmpLays_of {hp0 : Hp} {S : Pub} {w : World} (hw : w.heap = hp0) {g : Nat} (hg : FnOK P g g_cmpQ) (wf : WF S hp0) {blk : Nat} (un : (∀ o, ¬ S.c blk o) ∧ ¬ S.m blk) (n : Nat) (hblk : blk < w.heap.size) :
    CmpLays P g #[] (El.vs (hp := hp0) (S := S)) 12 cfEl blk 0 n w := by
  intro m os dk hdk x y
  subst hw
  have hoth : ∀ b, b < w.heap.size → b ≠ blk → (sortWorldK El.vs 12 w blk 0 m dk os).heap[b]? = w.heap[b]? := by
    intro b hb hne
    unfold sortWorldK grow putRowK putRow mapBlock Sort.ahead
    simp only
    rw [Array.getElem?_append_left (by simpa using hb), Array.getElem?_modify, if_neg (Ne.symm hne)]
  have hsz : w.heap.size ≤ (sortWorldK El.vs 12 w blk 0 m dk os).heap.size := by
    unfold sortWorldK grow putRowK putRow mapBlock Sort.ahead
    simp
  have kp : Keeps S w.heap (sortWorldK El.vs 12 w blk 0 m dk os).heap := by
    constructor
    · intro b o hc
      obtain ⟨v, hv⟩ := wf.1 b o hc
      exact cellAt_of_eq (hoth b (lt_of_cell hv) (by rintro rfl; exact un.1 o hc))
    · intro b hc
      obtain ⟨e, c, hv⟩ := wf.2 b hc
      exact hoth b (lt_of_get hv) (by rintro rfl; exact un.2 hc)
  generalize sortWorldK El.vs 12 w blk 0 m dk os = W at *
  have hW : WF S W.heap := ⟨fun b o hc => by rw [kp.1 b o hc]; exact wf.1 b o hc, fun b hc => by rw [kp.2 b hc]; exact wf.2 b hc⟩
  have hx : V W.heap S N0 (.agg x.q.cells) (.agg x.vs.toArray) := V.mono kp (Sub.refl _) Later.of_none _ _ (by simp only [V]; exact ⟨_, rfl, x.v⟩)
  have hy : V W.heap S N0 (.agg y.q.cells) (.agg y.vs.toArray) := V.mono kp (Sub.refl _) Later.of_none _ _ (by simp only [V]; exact ⟨_, rfl, y.v⟩)
  have hds : areDeep [DV.agg x.q.cells, .agg y.q.cells] = true := by simp [areDeep, isDeep, x.ok.1, y.ok.1]
  have hspec : g_cmpQ [DV.agg x.q.cells, .agg y.q.cells] = some (.i .i64 (Mono.cmp y.q.m x.q.m), []) :=
    spec_eq (enc := fun a : Q4 × Q4 => [DV.agg a.1.cells, .agg a.2.cells]) (out := fun a => (DV.i .i64 (Mono.cmp a.2.m a.1.m), [])) (a := (x.q, y.q)) (fun a b h => by
      simp only [List.cons.injEq, DV.agg.injEq, and_true] at h
      exact Prod.ext (Q4.cells_inj h.1) (Q4.cells_inj h.2)) ⟨x.ok, y.ok⟩
  have hc := (hg _ _ _ hspec).2 W S [.agg x.vs.toArray, .agg y.vs.toArray] [] hW (ArgsR_of hds (by simp only [VL]; exact ⟨_, _, rfl, hx, _, _, rfl, hy, rfl⟩)) ⟨by simp, by simp⟩
  rw [Array.append_empty]
  refine Calls.mono hc fun e w' he => ?_
  obtain ⟨v, S', rfl, dn⟩ := he
  obtain ⟨news, _, _, _, n4⟩ := dn.res
  have hv := n4 0 0 (fun h e => if h = 0 then (news[e]?).map (fun p => some (p.1, p.2.sz)) else none) (fun i p hi => by simp [hi])
  rw [adoptR_i] at hv
  simp only [V] at hv
  subst hv
  exact ⟨rfl, grow_of dn.tw dn.size fun b hb => dn.old b hb (by simp)⟩

/-- Terms in order: none is above an earlier one. -/
def Sorted (qs : List Q4) : Prop := qs.Pairwise fun p q => ¬ 0 < Mono.cmp q.m p.m

/-- What slices.SortFunc does to a row of elements of twelve cells. -/
def SortLaw (P : Program) (F : FuncId) : Prop := ∀ (α : Type) [Inhabited α] (enc : α → List Value) (_ : ∀ x, (enc x).length = 12) (_ : ∀ x, ∀ v ∈ enc x, v.oneCell' = true) (cf : α → α → Int) (_ : SWO (ltOf cf)) (g : Nat) (cb : Array Value) (blk off cap : Nat) (d : Array α) (w : World)
    (_ : ∀ args w, (callFunc g args).run P w = .ok (.enter g args) w) (_ : CmpLays P g cb enc 12 cf blk off d.size w) (_ : HoldsK enc 12 w blk off d) (_ : blk < w.heap.size) (_ : d.size < 4611686018427387904),
    Calls P F #[.slice (some ⟨blk, off, none⟩) d.size cap, .func (.func g) #[] cb] w fun e w' =>
      e = .returned (.tuple #[]) ∧ ∃ d' n os, PermIn 0 d.size d d' ∧ SortedIn (ltOf cf) 0 d.size d' ∧ w' = sortWorldK enc 12 w blk off n d' os

theorem sort_ok {F : FuncId} (L : SortLaw P F) {g : Nat} (hg : FnOK P g g_cmpQ) {w : World} {S : Pub} (wf : WF S w.heap) {blk cap : Nat} (un : (∀ o, ¬ S.c blk o) ∧ ¬ S.m blk)
    {arr : Array Value} {E : TypeId} {us t : List Value} (hb : w.heap[blk]? = some (.cells arr E (0, 0))) (ha : arr.toList = us ++ t) {qs : List Q4} (hq : ∀ q ∈ qs, q.ok) (hv : VL w.heap S N0 (qs.flatMap Q4.cells) us) (hn : qs.length ≤ 1000000) :
    Calls P F #[.slice (some ⟨blk, 0, none⟩) qs.length cap, .func (.func g) #[] #[]] w fun e w' => e = .returned (.tuple #[]) ∧ ∃ qs' : List Q4, qs'.Perm qs ∧ Sorted qs' ∧ Tw w w' ∧ w.heap.size ≤ w'.heap.size ∧
      (∀ b, b < w.heap.size → b ≠ blk → w'.heap[b]? = w.heap[b]?) ∧ ∃ arr' us' t', w'.heap[blk]? = some (.cells arr' E (0, 0)) ∧ arr'.size = arr.size ∧ arr'.toList = us' ++ t' ∧ VL w'.heap S N0 (qs'.flatMap Q4.cells) us' := by
  obtain ⟨l, l1, l2⟩ := els_of (hp := w.heap) (S := S) hq hv
  have hblk := lt_of_get hb
  have hlen : l.length = qs.length := by rw [← l1]; simp
  have hus : us.length = l.length * 12 := by
    have := VL.length hv
    rw [this, hlen]
    clear l1 l2 hv hn hlen this hq
    induction qs with
    | nil => rfl
    | cons q r ih => rw [List.flatMap_cons, List.length_append, ih, Q4.cells_length]; simp; omega
  have hsp : ((1 : Nat) = 1) := rfl
  have known : ∀ args w', (callFunc g args).run P w' = .ok (.enter g args) w' := by
    have hd : (default : El w.heap S).q.ok := (default : El w.heap S).ok
    have hspec : g_cmpQ [DV.agg (default : El w.heap S).q.cells, .agg (default : El w.heap S).q.cells] = some (.i .i64 (Mono.cmp (default : El w.heap S).q.m (default : El w.heap S).q.m), []) :=
      spec_eq (enc := fun a : Q4 × Q4 => [DV.agg a.1.cells, .agg a.2.cells]) (out := fun a => (DV.i .i64 (Mono.cmp a.2.m a.1.m), [])) (a := ((default : El w.heap S).q, (default : El w.heap S).q)) (fun a b h => by
        simp only [List.cons.injEq, DV.agg.injEq, and_true] at h
        exact Prod.ext (Q4.cells_inj h.1) (Q4.cells_inj h.2)) ⟨hd, hd⟩
    exact fun args w' => run_callFunc (hg _ _ _ hspec).1 args w'
  have hH : HoldsK El.vs 12 w blk 0 l.toArray := by
    intro j hj
    rw [size_flatK] at hj
    have hju : j < us.length := by rw [hus]; simpa using hj
    have e1 : (flatK El.vs 12 l.toArray)[j]! = us[j] := by
      have h2 := flatK_toList l.toArray
      rw [List.toList_toArray, l2] at h2
      have h3 : (flatK El.vs 12 l.toArray)[j]? = us[j]? := by rw [← Array.getElem?_toList, h2]
      rw [getElem!_def, h3, List.getElem?_eq_getElem hju]
    have harr : arr[j]? = some us[j] := by
      rw [← Array.getElem?_toList, ha, List.getElem?_append_left hju, List.getElem?_eq_getElem hju]
    refine ⟨?_, by simp [World.frozen?, hb]⟩
    simp only [World.cell?, hb]
    simp [harr, e1]
  have hmain := L (El w.heap S) El.vs El.len El.one cfEl (swoEl w.heap S) g #[] blk 0 cap l.toArray w known (cmpLays_of rfl hg wf un _ hblk) hH hblk (by simp; omega)
  rw [show l.toArray.size = qs.length by simp [hlen]] at hmain
  refine Calls.mono hmain fun e w' he => ?_
  obtain ⟨rfl, d', n, os, hp, hs, rfl⟩ := he
  have hd'len : d'.size = qs.length := by have := hp.1; simpa [hlen] using this
  have hperm : d'.toList.Perm l := by
    have := hp.2.2
    simp only [Array.toList_extract, List.extract_eq_take_drop, List.drop_zero, Nat.sub_zero] at this
    rw [List.take_of_length_le (by simp [hd'len, hlen]), List.take_of_length_le (by simp [hlen])] at this
    exact this
  have hoth : ∀ b, b < w.heap.size → b ≠ blk → (sortWorldK El.vs 12 w blk 0 n d' os).heap[b]? = w.heap[b]? := by
    intro b hb hne
    unfold sortWorldK grow putRowK putRow mapBlock Sort.ahead
    simp only
    rw [Array.getElem?_append_left (by simpa using hb), Array.getElem?_modify, if_neg (Ne.symm hne)]
  have hsz : w.heap.size ≤ (sortWorldK El.vs 12 w blk 0 n d' os).heap.size := by
    unfold sortWorldK grow putRowK putRow mapBlock Sort.ahead
    simp
  have hat : (sortWorldK El.vs 12 w blk 0 n d' os).heap[blk]? = some (.cells (putCells id 0 (flatK El.vs 12 d') arr) E (0, 0)) := by
    unfold sortWorldK grow putRowK putRow mapBlock Sort.ahead
    simp only
    rw [Array.getElem?_append_left (by simpa using hblk), Array.getElem?_modify, if_pos rfl, hb]
    rfl
  have htw : Tw w (sortWorldK El.vs 12 w blk 0 n d' os) := ⟨rfl, rfl, rfl, Nat.le_add_right _ _⟩
  generalize sortWorldK El.vs 12 w blk 0 n d' os = W at *
  have kp : Keeps S w.heap W.heap := by
    constructor
    · intro b o hc
      obtain ⟨v, hv⟩ := wf.1 b o hc
      exact cellAt_of_eq (hoth b (lt_of_cell hv) (by rintro rfl; exact un.1 o hc))
    · intro b hc
      obtain ⟨e, c, hv⟩ := wf.2 b hc
      exact hoth b (lt_of_get hv) (by rintro rfl; exact un.2 hc)
  have hF := flatK_toList d'
  have hFs : (flatK El.vs 12 d').size = us.length := by rw [size_flatK, hus, hd'len, hlen]
  refine ⟨rfl, d'.toList.map El.q, by rw [← l1]; exact hperm.map _, ?_, htw, hsz, hoth, _, (flatK El.vs 12 d').toList, t, hat, by simp [putCells], ?_, ?_⟩
  · unfold Sorted
    rw [List.pairwise_map, List.pairwise_iff_getElem]
    intro i j hi hj hij
    have := hs i j (Nat.zero_le _) hij (by simpa [hd'len] using hj)
    rw [getElem!_pos d' i (by simpa using hi), getElem!_pos d' j (by simpa using hj)] at this
    intro h
    have h2 := (ltEl (x := d'[j]'(by simpa using hj)) (y := d'[i]'(by simpa using hi))).2 (by simpa using h)
    rw [h2] at this; cases this
  · apply List.ext_getElem?
    intro i
    rw [Array.getElem?_toList]
    unfold putCells
    rw [Array.getElem?_mapIdx, List.getElem?_append]
    have hl : (flatK El.vs 12 d').toList.length = us.length := by simpa using hFs
    rw [hl]
    have ha' : arr[i]? = (us ++ t)[i]? := by rw [← ha, Array.getElem?_toList]
    rw [ha', List.getElem?_append]
    by_cases h : i < us.length
    · rw [if_pos h, if_pos h, List.getElem?_eq_getElem h]
      simp only [Option.map_some]
      rw [if_pos ⟨Nat.zero_le _, by rw [hFs]; omega⟩]
      have h3 : i < (flatK El.vs 12 d').size := by omega
      rw [Array.getElem?_toList, Array.getElem?_eq_getElem h3]
      have h4 : (flatK El.vs 12 d')[i - 0]! = (flatK El.vs 12 d')[i] := by
        rw [Nat.sub_zero]; exact getElem!_pos (flatK El.vs 12 d') i h3
      rw [h4]; rfl
    · rw [if_neg h, if_neg h]
      cases t[i - us.length]? with
      | none => rfl
      | some v =>
        simp only [Option.map_some]
        rw [if_neg (by rw [hFs]; omega)]
  · rw [hF]
    clear hs hp hperm hd'len hFs hF hat
    generalize d'.toList = dl
    induction dl with
    | nil => simp [VL]
    | cons x r ih => simp only [List.map_cons, List.flatMap_cons]; exact VL.append (VL.mono kp (Sub.refl _) Later.of_none _ _ x.v) ih
end Go.Ev

/- The polynomial of a map: the terms that are not zero, in order. -/
namespace Go.Ev
open Go.Pm Go.Proofs Go.Sort Go.Shelf

/-! ### The plain law -/

def qOf (t : Tm) : Q4 := ⟨.b (decide (t.c.num < 0)), dNat t.c.num.natAbs, .b false, dNat t.c.den, t.m⟩
theorem qOf_cells (t : Tm) : (qOf t).cells = tcells t := rfl
theorem qOf_ok (t : Tm) : (qOf t).ok := ⟨by rw [qOf_cells]; exact tcells_deep t, by rw [qOf_cells]; exact tcells_cell t⟩
theorem qOf_flat (T : Poly) : (T.map qOf).flatMap Q4.cells = pcells T := by
  unfold pcells
  rw [List.flatMap_map]
  rfl

theorem insT_perm (t : Tm) : ∀ p, (insT t p).Perm (t :: p)
  | [] => by simp [insT]
  | u :: p => by
    unfold insT
    split
    · exact .refl _
    · exact ((insT_perm t p).cons u).trans (.swap ..)

theorem polyOf_perm : ∀ es : Ent, (polyOf es).Perm (es.filterMap termOf)
  | [] => by simp [polyOf]
  | (m, c) :: r => by
    unfold polyOf
    by_cases h : c = 0
    · rw [if_pos h, List.filterMap_cons_none (by simp [termOf, h])]; exact polyOf_perm r
    · rw [if_neg h, List.filterMap_cons_some (b := ⟨c, m⟩) (by simp [termOf, h])]
      exact (insT_perm _ _).trans ((polyOf_perm r).cons _)

theorem keys_one : ∀ {es : Ent} {m : Mono} {c c' : Rat}, KeysOk es → (m, c) ∈ es → (m, c') ∈ es → c = c'
  | [], _, _, _, _, h, _ => by simp at h
  | (k, v) :: r, m, c, c', hk, h, h' => by
    simp only [KeysOk, List.map_cons, List.nodup_cons] at hk
    rcases List.mem_cons.1 h with e | h <;> rcases List.mem_cons.1 h' with e' | h'
    · cases e; cases e'; rfl
    · cases e; exact absurd (List.mem_map.2 ⟨_, h', rfl⟩) hk.1
    · cases e'; exact absurd (List.mem_map.2 ⟨_, h, rfl⟩) hk.1
    · exact keys_one (es := r) hk.2 h h'

theorem sorted_polyOf {es : Ent} (h : KeysOk es) : Sorted ((polyOf es).map qOf) := by
  have hc := Canon.polyOf h
  unfold Sorted
  rw [List.pairwise_map]
  generalize polyOf es = p at hc
  induction p with
  | nil => exact .nil
  | cons t p ih =>
    refine .cons (fun u hu => ?_) (ih hc.2.2)
    have := hc.2.1 u hu
    have e := Mono.cmp_neg t.m u.m
    show ¬ 0 < Mono.cmp u.m t.m
    omega

theorem perm_eq {α : Type} {R : α → α → Prop} : ∀ {l l' : List α}, (∀ a b, a ∈ l → b ∈ l → R a b → R b a → a = b) → l.Pairwise R → l'.Pairwise R → l.Perm l' → l = l'
  | [], l', _, _, _, hp => by have := hp.nil_eq; exact this
  | a :: l, [], _, _, _, hp => by have := hp.length_eq; simp at this
  | a :: l, b :: l', ha, h1, h2, hp => by
    have hab : a = b := by
      have m1 : a ∈ b :: l' := hp.subset (List.mem_cons_self ..)
      have m2 : b ∈ a :: l := hp.symm.subset (List.mem_cons_self ..)
      rcases List.mem_cons.1 m1 with e | m1
      · exact e
      · rcases List.mem_cons.1 m2 with e | m2
        · exact e.symm
        · exact ha a b (List.mem_cons_self ..) (List.mem_cons_of_mem _ m2) ((List.pairwise_cons.1 h1).1 b m2) ((List.pairwise_cons.1 h2).1 a m1)
    subst hab
    congr 1
    exact perm_eq (fun x y hx hy => ha x y (List.mem_cons_of_mem _ hx) (List.mem_cons_of_mem _ hy)) (List.pairwise_cons.1 h1).2 (List.pairwise_cons.1 h2).2 hp.cons_inv

theorem poly_sorted {es : Ent} (h : KeysOk es) {qs : List Q4} (hp : qs.Perm ((es.filterMap termOf).map qOf)) (hs : Sorted qs) : qs = (polyOf es).map qOf := by
  refine perm_eq (R := fun p q : Q4 => ¬ 0 < Mono.cmp q.m p.m) (fun a b ha hb h1 h2 => ?_) hs (sorted_polyOf h) (hp.trans ((polyOf_perm es).map qOf).symm)
  have hm : a.m = b.m := by
    have e := Mono.cmp_neg a.m b.m
    exact Mono.cmp_zero.1 (by omega)
  obtain ⟨t, ht, rfl⟩ := List.mem_map.1 (hp.subset ha)
  obtain ⟨u, hu, rfl⟩ := List.mem_map.1 (hp.subset hb)
  obtain ⟨⟨m1, c1⟩, g1, g2⟩ := List.mem_filterMap.1 ht
  obtain ⟨⟨m2, c2⟩, g3, g4⟩ := List.mem_filterMap.1 hu
  unfold termOf at g2 g4
  split at g2
  · cases g2
  · split at g4
    · cases g4
    · cases g2; cases g4
      simp only [qOf] at hm
      subst hm
      have := keys_one h g1 g3
      subst this
      rfl

theorem termsAt_all {es : Ent} {don : List Nat} (hn : don.Nodup) (hl : ∀ i ∈ don, i < es.length) (ha : ∀ i, i < es.length → i ∈ don) : (termsAt es don).Perm (es.filterMap termOf) := by
  have hp : don.Perm (List.range es.length) := by
    refine (List.perm_ext_iff_of_nodup hn List.nodup_range).2 fun i => ?_
    rw [List.mem_range]
    exact ⟨hl i, ha i⟩
  have h1 : (termsAt es don).Perm (termsAt es (List.range es.length)) := hp.filterMap _
  have h2 : termsAt es (List.range es.length) = es.filterMap termOf := by
    unfold termsAt
    have : es.filterMap termOf = ((List.range es.length).filterMap (es[·]?)).filterMap termOf := by rw [range_get]
    rw [this, List.filterMap_filterMap]
  rw [← h2]; exact h1

/-! ### The comparison -/

variable {P : Program}

theorem cmpQ_rets (cs : Sem) (hcmp : ∀ a b, cs n_monomial_Cmp [dMono a, dMono b] = some (.i .i64 (Mono.cmp a b), [])) (p q : Q4) (hp : p.ok) (hq : q.ok) :
    Rets KK cs false c_polynomial_sum_poly_1 [.agg p.cells, .agg q.cells] (.i .i64 (Mono.cmp q.m p.m)) [] := by
  obtain ⟨a1, a2, a3, a4, m⟩ := p
  obtain ⟨b1, b2, b3, b4, k⟩ := q
  have e : ∀ (x1 x2 x3 x4 : DV) (m : Mono), part (x1 :: x2 :: x3 :: x4 :: mcells m) 4 8 true = some (dMono m) := fun _ _ _ _ _ => rfl
  obtain ⟨hp1, hp2⟩ := hp
  obtain ⟨hq1, hq2⟩ := hq
  simp only [Q4.cells] at *
  refine Rets.of rfl ?_
  unfold c_polynomial_sum_poly_1
  simp [hp1, hq1, hp2, hq2, hcmp, e]

theorem ok_cmpQ (hm : P.follows .mixedOrders = true) (hh : Has P n_polynomial_sum_poly_1 c_polynomial_sum_poly_1) (h1 : FnOK P n_monomial_Cmp g_monomial_Cmp) : FnOK P n_polynomial_sum_poly_1 g_cmpQ :=
  ok_of hm (l := [(n_monomial_Cmp, g_monomial_Cmp)]) (by simpa using h1) hh rfl fun a h => cmpQ_rets _ (fun a b => e_monomial_Cmp a b) a.1 a.2 h.1 h.2

/-! ### The walk -/

theorem ops_call {ops : Array Oper} {Q : Exit → Act → World → Prop} {i : Nat} {r : List Nat} {a : Act} {w : World} {o : Oper} {F : FuncId} {args : Array Value} (ho : ops[i]? = some o) (hg : o.guard = none)
    (hrun : (execOp a.eval o).run P w = .ok (.enter F args) w) (h : Calls P F args w fun e w' => ∃ v, e = .returned v ∧ wpOps P ops Q r (a.put o.dst v) w') : wpOps P ops Q (i :: r) a w := by
  have hw : Region.wanted o (yielded ops a.tmps) = true := by simp [Region.wanted, hg]
  simp only [wpOps, ho, hw, if_true]
  left
  unfold Oper.wp
  rw [hrun, Oper.upon_enter]
  refine Calls.mono h fun e w' he => ?_
  obtain ⟨v, rfl, h⟩ := he
  exact h

theorem Fr.init {w : World} {S : Pub} (wf : WF S w.heap) {d : DV} {v : Value} (hd : V w.heap S N0 d v) {a : Array Value} (ha : a.getD 0 undef = v) : Fr w.heap.size ⟨fun _ => False, S, fun _ => none, []⟩ S N0 (put st0 0 d) a w.heap := by
  refine ⟨fun i x h => ?_, fun h e ob ho => ?_, fun h e => ?_, fun h e p hp => (by cases hp), fun h e h' e' b sz sz' hp => (by cases hp), fun h e hz => ?_, wf.1, wf.2, fun b o h => .inl h, fun b h => .inl h, fun p b h => (by cases h), fun q hq => nomatch hq⟩
  · have h : gt (put st0 0 d) i = some x := h
    rw [gt_put (by omega), gt_st0] at h
    split at h
    · rename_i hi; cases h; subst hi; rw [ha]; exact hd
    · cases h
  · rw [lst_put, lst_st0] at ho; simp [nth] at ho
  · rw [lst_put, lst_st0]; simp
  · have : (put st0 0 d).z = [] := rfl
    rw [this] at hz; cases hz

/-- What the function is. -/
structure PolyFn (P : Program) (fn : Func) (r0 r1 r2 r3 r4 r5 r6 r7 r8 : Array Oper) (o20 o21 o30 o31 o40 o70 o71 o80 o81 : Oper) : Prop where
  body : ∃ i0 i1 i2 i3 i4 i5 i6 i7 i8, fn.body = some (.seq (.region i0 r0 false) (.seq (.region i1 r1 false) (.seq (.seq (.region i2 r2 false) (.block 0 (.loop (.seq (.region i3 r3 false) (.seq (.cond (.tmp 10) .skip (.exit 0)) (.block 1 (.seq (.region i4 r4 false) (.seq (.region i5 r5 false) (.cond (.tmp 16) (.region i6 r6 false) .skip)))))))))
    (.seq (.region i7 r7 false) (.seq (.region i8 r8 false) .ret)))))
  name : fn.name ≠ "runtime.NumGoroutine"
  ntmps : fn.ntmps = 26
  res : fn.results = #[.tmp 2]
  ops : Ops P r3 r4 r5 r6 o30 o31 o40
  t0 : toInsL P 26 r0 r0.toList = some [⟨none, .mv 2 (.c (.nil))⟩]
  t1 : toInsL P 26 r1 r1.toList = some [⟨none, .bslice 6 0 12 [.b false, .sl 0 [], .b false, .sl 0 [], .i .i64 0, .i .i64 0, .i .i64 0, .i .i64 0, .i .i64 0, .i .i64 0, .i .i64 0, .i .i64 0] []⟩, ⟨none, .mv 3 (.t 6)⟩]
  e2 : r2 = #[o20, o21]
  p20 : o20.op = .move (.tmp 0)
  d20 : o20.dst = some 7
  g20 : o20.guard = none
  p21 : ∃ ty k e, o21.op = .range ty (.tmp 7) ∧ P.underlying ty = some (.map k e)
  d21 : o21.dst = some 8
  g21 : o21.guard = none
  e7 : r7 = #[o70, o71]
  p70 : o70.op = .move (.tmp 3)
  d70 : o70.dst = some 23
  g70 : o70.guard = none
  p71 : ∃ c : Call, o71.op = .call c ∧ c.callee = .value (.func n_slices_SortFunc_api_Poly_api_Term) ∧ c.args = #[.tmp 23, .func n_polynomial_sum_poly_1]
  d71 : o71.dst = some 24
  g71 : o71.guard = none
  e8 : r8 = #[o80, o81]
  p80 : o80.op = .move (.tmp 3)
  d80 : o80.dst = some 25
  g80 : o80.guard = none
  p81 : o81.op = .assign (.tmp 25)
  d81 : o81.dst = some 2
  g81 : o81.guard = none

theorem run01 (cs : Sem) (d : DV) : WL KK cs [⟨none, .mv 2 (.c (.nil))⟩] (put st0 0 d) fun s => gt s 0 = some d ∧ s = put (put st0 0 d) 2 .nil := by
  simp
theorem run02 (cs : Sem) (d : DV) : WL KK cs [⟨none, .bslice 6 0 12 [.b false, .sl 0 [], .b false, .sl 0 [], .i .i64 0, .i .i64 0, .i .i64 0, .i .i64 0, .i .i64 0, .i .i64 0, .i .i64 0, .i .i64 0] []⟩, ⟨none, .mv 3 (.t 6)⟩] (put (put st0 0 d) 2 .nil) fun s =>
    gt s 0 = some d ∧ gt s 3 = some (.ref 6 0 0 0) ∧ look s 6 0 = some ⟨0, 12, []⟩ ∧ s.z = [] := by
  simp [nth]

noncomputable def g_sort0 : G := spec (fun _ : Unit => [.emp, .fn n_polynomial_sum_poly_1 []]) (fun _ => True) (fun _ => (.tup [], []))
theorem e_sort0 : g_sort0 [.emp, .fn n_polynomial_sum_poly_1 []] = some (.tup [], []) := spec_eq (a := ()) (fun _ _ _ => rfl) trivial
end Go.Ev

/- The function that makes a polynomial of a map: what it answers. -/
namespace Go.Ev
open Go.Pm Go.Proofs Go.Sort Go.Shelf
open Go.ChangeMaps (setBlock)
variable {P : Program}

/-- The end of the function: the row is sorted and handed back. -/
theorem poly_end {fn : Func} {r0 r1 r2 r3 r4 r5 r6 r7 r8 : Array Oper} {o20 o21 o30 o31 o40 o70 o71 o80 o81 : Oper} (X : PolyFn P fn r0 r1 r2 r3 r4 r5 r6 r7 r8 o20 o21 o30 o31 o40 o70 o71 o80 o81) (ks : Known P n_slices_SortFunc_api_Poly_api_Term)
    {i7 i8 : Nat} {a : Act} {w : World} (hsz : a.tmps.size = 26) {Q : Exit → Act → World → Prop} {x3 : Value} (h3 : a.tmps.getD 3 undef = x3)
    (hc : Calls P n_slices_SortFunc_api_Poly_api_Term #[x3, .func (.func n_polynomial_sum_poly_1) #[] #[]] w fun e w' => ∃ v, e = .returned v ∧ ∀ a', a'.tmps.getD 2 undef = x3 → a'.defers = a.defers → Q .ret a' w') :
    (Code.seq (.region i7 r7 false) (.seq (.region i8 r8 false) .ret)).wp P Q a w := by
  have e7 := X.e7
  have e8 := X.e8
  subst e7 e8
  refine wp_seq (wp_region ?_)
  show wpOps P #[o70, o71] _ [0, 1] a w
  refine ops_one (i := 0) (o := o70) rfl X.g70 (v := x3) (w' := w) ?_ ?_
  · unfold execOp; rw [X.p70]
    have : a.eval (.tmp 3) = x3 := h3
    simp [this]
  rw [X.d70]
  obtain ⟨c, hc1, hc2, hc3⟩ := X.p71
  have h23 : (a.put (some 23) x3).eval (.tmp 23) = x3 := put_get (by omega)
  refine ops_call (i := 1) (o := o71) rfl X.g71 (F := n_slices_SortFunc_api_Poly_api_Term) (args := #[x3, .func (.func n_polynomial_sum_poly_1) #[] #[]]) ?_ ?_
  · rw [← run_callFunc ks]
    unfold execOp; rw [hc1]
    have e1 : (a.put (some 23) x3).eval (.func n_slices_SortFunc_api_Poly_api_Term) = .func (.func n_slices_SortFunc_api_Poly_api_Term) #[] #[] := rfl
    have e2 : (a.put (some 23) x3).eval (.func n_polynomial_sum_poly_1) = .func (.func n_polynomial_sum_poly_1) #[] #[] := rfl
    simp only [resolve, hc2, hc3, e1]
    simp only [Deferred.ofValue, Sem.run_bind, Sem.run_pure, Result.andThen_ok, invoke]
    simp [h23, e2]
  rw [X.d71]
  refine Calls.mono hc fun e w' he => ?_
  obtain ⟨v, rfl, hQ⟩ := he
  refine ⟨v, rfl, ?_⟩
  have h3b : ((a.put (some 23) x3).put (some 24) v).tmps.getD 3 undef = x3 := by rw [getD_put (by simp), getD_put (by simp)]; exact h3
  have hs2 : ((a.put (some 23) x3).put (some 24) v).tmps.size = 26 := by simp [put_some, hsz]
  have hd2 : ((a.put (some 23) x3).put (some 24) v).defers = a.defers := rfl
  generalize (a.put (some 23) x3).put (some 24) v = a2 at *
  refine wp_seq (wp_region ?_)
  show wpOps P #[o80, o81] _ [0, 1] a2 w'
  refine ops_one (i := 0) (o := o80) rfl X.g80 (v := x3) (w' := w') ?_ ?_
  · unfold execOp; rw [X.p80]
    have : a2.eval (.tmp 3) = x3 := h3b
    simp [this]
  rw [X.d80]
  refine ops_one (i := 1) (o := o81) rfl X.g81 (v := x3) (w' := w') ?_ ?_
  · unfold execOp; rw [X.p81]
    have : (a2.put (some 25) x3).eval (.tmp 25) = x3 := put_get (by omega)
    simp [this]
  rw [X.d81]
  exact wp_ret (hQ _ (put_get (by simp [put_some, hs2])) hd2)

theorem msl_row {w : World} {S : Pub} {N : Nm} {es : List DV} {v : Value} (h : V w.heap S N (.msl es) v) (hd : areDeep es = true) : ∃ bm ms clk, v = .map (some bm) ∧ S.m bm ∧ w.heap[bm]? = some (.map ms clk) ∧ MapOK ms clk ∧ VM w.heap S N0 es ms.toList := by
  simp only [V] at h
  obtain ⟨r, ms, clk, h1, h2, h3, h4, h5⟩ := h
  exact ⟨r, ms, clk, h1, h2, h3, h4.2, VM.deep _ _ hd h5⟩

/-- What the loop is entered with. -/
theorem poly_start {es : Ent} (hlen : es.length ≤ 1000000) {w0 w1 : World} {S0 S1 : Pub} {N1 : Nm} {s1 : St} {a1 : Act} (f1 : Fr w0.heap.size ⟨fun _ => False, S0, fun _ => none, []⟩ S1 N1 s1 a1.tmps w1.heap) (hsz : a1.tmps.size = 26) (hdf : a1.defers = [])
    (g0 : gt s1 0 = some (.msl (es.map dEnt))) (g3 : gt s1 3 = some (.ref 6 0 0 0)) (g6 : look s1 6 0 = some ⟨0, 12, []⟩) (gz : s1.z = []) (g7 : gt s1 7 = none) (g8 : gt s1 8 = none) :
    ∃ bm ms clk blk, a1.tmps.getD 0 undef = .map (some bm) ∧ w1.heap[bm]? = some (.map ms clk) ∧ (w0.heap.size ≤ blk) ∧
      Fixed (w1.alloc (.mapIter (some bm) clk #[] clk)) S1 w1.heap.size bm blk clk clk ms es ∧
      J (w1.alloc (.mapIter (some bm) clk #[] clk)) S1 w1.heap.size bm blk clk ms es [] ((a1.put (some 7) (.map (some bm))).put (some 8) (.pointer (some ⟨w1.heap.size, 0, none⟩))) (w1.alloc (.mapIter (some bm) clk #[] clk)) := by
  obtain ⟨bm, ms, clk, h1, h2, h3, h4, h5⟩ := msl_row (f1.slots 0 _ g0) (ent_deep es)
  obtain ⟨blk, q1, q2, q3⟩ := f1.obs 6 0 _ g6
  have hbase : w0.heap.size ≤ blk := by
    rcases q3 with q3 | q3
    · exact q3
    · exact q3.elim
  have hz : ¬ ((6, 0) ∈ s1.z) := by rw [gz]; simp
  have wf := WF.of f1
  have un : (∀ o, ¬ S1.c blk o) ∧ ¬ S1.m blk := OB.unpub wf (OB.unnamed (by rfl) (fun h => (hz h).elim) q2)
  have hblk := q2.block
  have hbm := lt_of_get h3
  have hbb : bm ≠ blk := by rintro rfl; exact un.2 h2
  have g : Grows w1.heap (w1.alloc (.mapIter (some bm) clk #[] clk)).heap := Grows.push _ _
  have hnew : (w1.alloc (.mapIter (some bm) clk #[] clk)).heap[w1.heap.size]? = some (.mapIter (some bm) clk #[] clk) := heap_alloc_new w1 _
  have hsize : (w1.alloc (.mapIter (some bm) clk #[] clk)).heap.size = w1.heap.size + 1 := by
    show (w1.heap.push _).size = _
    simp
  have f2 : Fr w0.heap.size ⟨fun _ => False, S0, fun _ => none, []⟩ S1 N1 s1 ((a1.put (some 7) (.map (some bm))).put (some 8) (.pointer (some ⟨w1.heap.size, 0, none⟩))).tmps (w1.alloc (.mapIter (some bm) clk #[] clk)).heap :=
    FR.junk (FR.junk (FR.grows f1 g) g7) g8
  have kp := f1.keeps g
  refine ⟨bm, ms, clk, blk, h1, h3, hbase, ?_⟩
  generalize hw2 : w1.alloc (.mapIter (some bm) clk #[] clk) = w2 at *
  refine ⟨⟨WF.of f2, by omega, ⟨_, _, hnew⟩, (g.2 bm hbm).trans h3, by omega, hbb, by omega, by omega, un, VM.mono kp (Sub.refl _) Later.of_none _ _ h5, h4, rfl, hlen⟩, ?_⟩
  refine ⟨⟨S1, _, Sub.refl _, FR.restart f2 (base' := w2.heap.size) (L' := ⟨fun b => b = blk, S1, fun _ => none, []⟩) (fun _ => rfl) rfl (t := 3) (f2.slots 3 _ g3) g6 q1 rfl hz (.inr rfl) (fun b o h => .inl h) (fun b h => .inl h) (stP (termsAt es [])).v.get
    (fun i d hd hi => ?_) ?_ (lst (stP (termsAt es []))) (stP_lst _) _ (fun p hp => ?_)⟩, by simp [put_some, hsz], hdf, ?_, ⟨#[], clk, hnew, Nat.le_refl _, rfl⟩, Nat.le_refl _, fun _ _ _ _ => rfl, fun _ => Nat.le_refl _, Tw.refl _, by simp, by simp⟩
  · rw [stP_v, if_neg hi] at hd; cases hd
  · rw [stP_v, if_pos rfl]; rfl
  · have : (stP (termsAt es [])).z = [] := rfl
    rw [this] at hp; cases hp
  · exact put_get (by simp [put_some, hsz])

theorem V_emp {hp : Hp} {S : Pub} {N N' : Nm} {h e : Nat} {x : Value} (hv : V hp S N (.ref h e 0 0) x) : V hp S N' .emp x := by
  simp only [V] at hv ⊢
  obtain ⟨a, cap, r, h1, h2, h3, h4, h5⟩ := hv
  exact ⟨a, cap, h1, fun _ => h3⟩

set_option maxHeartbeats 1000000 in
theorem ok_sumpoly {fn : Func} {r0 r1 r2 r3 r4 r5 r6 r7 r8 : Array Oper} {o20 o21 o30 o31 o40 o70 o71 o80 o81 : Oper} (hm : P.follows .mixedOrders = true) (hf : P.funcs[n_polynomial_sum_poly]? = some fn) (X : PolyFn P fn r0 r1 r2 r3 r4 r5 r6 r7 r8 o20 o21 o30 o31 o40 o70 o71 o80 o81)
    (hsign : FnOK P n_rational_Sign g_sign) (hcmp : FnOK P n_polynomial_sum_poly_1 g_cmpQ) (hsort0 : FnOK P n_slices_SortFunc_api_Poly_api_Term g_sort0) (L : SortLaw P n_slices_SortFunc_api_Poly_api_Term) : FnOK P n_polynomial_sum_poly g_sumpoly := by
  refine spec_ok fun es hes => ?_
  obtain ⟨hk, hlen⟩ := hes
  have ks : Known P n_slices_SortFunc_api_Poly_api_Term := (hsort0 _ _ _ e_sort0).1
  have hsem : SemOK P (sem [(n_rational_Sign, g_sign)]) := sem_ok (by simpa using hsign)
  obtain ⟨i0, i1, i2, i3, i4, i5, i6, i7, i8, hbody⟩ := X.body
  have hmd : isDeep (.msl (es.map dEnt)) = true := by simp only [isDeep]; exact ent_deep es
  refine FnAt.hand hf X.name hbody hmd (dPoly_deep _) X.res fun w S v a wf hv ha hd => ?_
  have hasz : a.tmps.size = 26 := by rw [ha, X.ntmps]; simp
  have ha0 : a.tmps.getD 0 undef = v := by rw [ha, Array.getD_eq_getD_getElem?, Array.getElem?_append_left (by simp)]; simp
  -- the first two regions
  obtain ⟨s1, ev1, _, rfl⟩ := WL_ev (run01 (sem [(n_rational_Sign, g_sign)]) (.msl (es.map dEnt)))
  refine wp_seq (region_ok (K := KK) hm (by omega) hsem X.t0 (by simp) (Fr.init wf hv ha0) (Nat.le_refl _) (by omega) ev1 fun a1 w1 out1 => ?_)
  obtain ⟨S1, N1, u1, f1, u3, u4, u5, u6⟩ := out1
  obtain ⟨s2, ev2, g0, g3, g6, gz⟩ := WL_ev (run02 (sem [(n_rational_Sign, g_sign)]) (.msl (es.map dEnt)))
  have g78 : gt s2 7 = none ∧ gt s2 8 = none := by
    have := WL_ev (K := KK) (cs := sem [(n_rational_Sign, g_sign)]) (ops := [⟨none, .bslice 6 0 12 [.b false, .sl 0 [], .b false, .sl 0 [], .i .i64 0, .i .i64 0, .i .i64 0, .i .i64 0, .i .i64 0, .i .i64 0, .i .i64 0, .i .i64 0] []⟩, ⟨none, .mv 3 (.t 6)⟩]) (s := put (put st0 0 (.msl (es.map dEnt))) 2 .nil) (Q := fun s => gt s 7 = none ∧ gt s 8 = none) (by simp)
    obtain ⟨sf, e1, e2⟩ := this
    rw [ev2] at e1; cases e1
    exact e2
  refine wp_seq (region_ok (K := KK) hm (by omega) hsem X.t1 (by simp) f1 u5.1 (by omega) ev2 fun a2 w2 out2 => ?_)
  obtain ⟨S2, N2, t1, f2, t3, t4, t5, t6⟩ := out2
  have hsz2 : a2.tmps.size = 26 := by omega
  have hdf2 : a2.defers = [] := (t4.trans u4).trans hd
  have sub2 : Sub S S2 := u1.trans t1
  have keep2 := u5.trans t5
  have tw2 := u6.trans t6
  have newc2 : ∀ b o, S2.c b o → S.c b o ∨ w.heap.size ≤ b := fun b o h => (f2.oldc b o h).imp id fun h => h.resolve_right id
  have newm2 : ∀ b, S2.m b → S.m b ∨ w.heap.size ≤ b := fun b h => (f2.oldm b h).imp id fun h => h.resolve_right id
  obtain ⟨bm, ms, clk, blk, hbm, hbh, hblk, F, j⟩ := poly_start hlen f2 hsz2 hdf2 g0 g3 g6 gz g78.1 g78.2
  -- the map is asked for its entries
  have e2 := X.e2
  subst e2
  refine wp_seq (wp_seq (wp_region ?_))
  show wpOps P #[o20, o21] _ [0, 1] a2 w2
  refine ops_one (i := 0) (o := o20) rfl X.g20 (v := .map (some bm)) (w' := w2) ?_ ?_
  · unfold execOp; rw [X.p20]
    have : a2.eval (.tmp 0) = .map (some bm) := hbm
    simp [this]
  rw [X.d20]
  obtain ⟨ty, kt, et, p21, pu⟩ := X.p21
  refine ops_one (i := 1) (o := o21) rfl X.g21 (v := .pointer (some ⟨w2.heap.size, 0, none⟩)) (w' := w2.alloc (.mapIter (some bm) clk #[] clk)) ?_ ?_
  · unfold execOp; rw [p21]
    have : (a2.put (some 7) (.map (some bm))).eval (.tmp 7) = .map (some bm) := put_get (by omega)
    simp [this, run_range_map w2 ty kt et bm ms clk pu hbh]
  rw [X.d21]
  have hgr3 : Grows w2.heap (w2.alloc (.mapIter (some bm) clk #[] clk)).heap := Grows.push _ _
  have tw3 : Tw w (w2.alloc (.mapIter (some bm) clk #[] clk)) := tw2.trans ⟨rfl, rfl, rfl, Nat.le_refl _⟩
  have keep3 : Keep w.heap.size ⟨fun _ => False, S, fun _ => none, []⟩ w.heap (w2.alloc (.mapIter (some bm) clk #[] clk)).heap := keep2.trans (Keep.grows keep2.1 hgr3)
  have hrsz : w.heap.size ≤ w2.heap.size := keep2.1
  generalize w2.alloc (.mapIter (some bm) clk #[] clk) = w3 at *
  generalize (a2.put (some 7) (.map (some bm))).put (some 8) (.pointer (some ⟨w2.heap.size, 0, none⟩)) = a3 at *
  -- the loop
  refine wp_block (wp_loop (fun a w => ∃ don, J w3 S2 w2.heap.size bm blk clk ms es don a w) (fun a w => es.length - (match w.heap[w2.heap.size]? with
    | some (.mapIter _ _ seen _) => seen.size
    | _ => 0)) ⟨[], j⟩ fun a4 w4 hI => ?_)
  obtain ⟨don, j4⟩ := hI
  have lenseen : ∀ {don : List Nat} {a : Act} {w : World}, J w3 S2 w2.heap.size bm blk clk ms es don a w → (match w.heap[w2.heap.size]? with
    | some (.mapIter _ _ seen _) => seen.size
    | _ => 0) = don.length := by
    intro don a w j
    obtain ⟨seen, c, h1, h2, h3⟩ := j.iter
    rw [h1]
    simp only
    rw [← Array.length_toList, h3]
    have hms : ms.size = es.length := by have := VM.length F.vm; simpa using this
    have : ∀ l : List Nat, (∀ i ∈ l, i < es.length) → (l.filterMap fun i => ms[i]?.map (·.born)).length = l.length := by
      intro l
      induction l with
      | nil => intro _; rfl
      | cons x r ih =>
        intro hl
        have hx := hl x (List.mem_cons_self ..)
        have hx2 : x < ms.size := by omega
        rw [List.filterMap_cons_some (b := ms[x].born) (by rw [Array.getElem?_eq_getElem hx2]; rfl)]
        simp [ih fun i hi => hl i (List.mem_cons_of_mem _ hi)]
    exact this don j.lt
  refine wp_mono (round_walk X.ops hsem (fun q => e_sign q) F j4) fun e a5 w5 h => ?_
  cases e with
  | normal =>
    obtain ⟨k, hkd, j5⟩ := h
    refine ⟨⟨_, j5⟩, ?_⟩
    rw [lenseen j5, lenseen j4]
    have := nodup_le j5.nodup j5.lt
    simp at this ⊢; omega
  | exit id =>
    cases id with
    | succ n => exact h.elim
    | zero =>
    obtain ⟨j5, hall⟩ := h
    show (Code.seq (.region i7 r7 false) (.seq (.region i8 r8 false) .ret)).wp P _ a5 w5
    have hperm := termsAt_all j5.nodup j5.lt hall
    obtain ⟨S5, N5, sub5, f5⟩ := j5.fr
    have keep5 : (∀ b, b < w.heap.size → w5.heap[b]? = w.heap[b]?) := fun b hb => (j5.old b (by have := keep3.1; omega) (by omega) (by omega)).trans (keep3.2.1 b hb (by simp))
    have size5 : w.heap.size ≤ w5.heap.size := Nat.le_trans keep3.1 j5.grow
    have rows5 : ∀ b, rowSize w.heap b ≤ rowSize w5.heap b := fun b => Nat.le_trans (keep3.2.2 b) (j5.rows b)
    have tw5 : Tw w w5 := tw3.trans j5.tw
    have newc5 : ∀ b o, S5.c b o → S.c b o ∨ w.heap.size ≤ b := fun b o h => by
      rcases f5.oldc b o h with h | h | h
      · exact newc2 b o h
      · have := keep3.1; right; omega
      · right; have : b = blk := h; omega
    have newm5 : ∀ b, S5.m b → S.m b ∨ w.heap.size ≤ b := fun b h => by
      rcases f5.oldm b h with h | h | h
      · exact newm2 b h
      · have := keep3.1; right; omega
      · right; have : b = blk := h; omega
    have sub05 : Sub S S5 := sub2.trans sub5
    have hv3 := f5.slots 3 _ (by rw [stP_v, if_pos rfl])
    have hlook : look (stP (termsAt es don)) 3 0 = some ⟨0, 12, pcells (termsAt es don)⟩ := by rw [look_lst, stP_lst, if_pos rfl]; simp [nth]
    obtain ⟨b5, q1, q2, q3⟩ := f5.obs 3 0 _ hlook
    have hb5 : w.heap.size ≤ b5 := by
      rcases q3 with q3 | q3
      · have := keep3.1; omega
      · have : b5 = blk := q3; omega
    have wf5 := WF.of f5
    have hz5 : (stP (termsAt es don)).z = [] := rfl
    have un5 : (∀ o, ¬ S5.c b5 o) ∧ ¬ S5.m b5 := OB.unpub wf5 (OB.unnamed (pcells_deep _) (fun h => by rw [hz5] at h; cases h) q2)
    refine poly_end X ks j5.size rfl ?_
    by_cases hT : termsAt es don = []
    · -- no term
      rw [hT] at hv3
      have hve := V_emp (N' := N0) hv3
      have hP : polyOf es = [] := by
        have := (polyOf_perm es).trans hperm.symm
        rw [hT] at this
        exact this.eq_nil
      have hc := (hsort0 _ _ _ e_sort0).2 w5 S5 [a5.tmps.getD 3 undef, .func (.func n_polynomial_sum_poly_1) #[] #[]] [] wf5 (ArgsR_of (by rfl) (by
        simp only [VL]
        exact ⟨_, _, rfl, hve, _, _, rfl, by simp only [V, VL]; exact ⟨[], rfl, rfl⟩, rfl⟩)) ⟨by simp, by simp⟩
      refine Calls.mono hc fun e w6 he => ?_
      obtain ⟨v6, S6, rfl, dn⟩ := he
      refine ⟨v6, rfl, fun a' ha' hd' => ⟨rfl, hd'.trans j5.defers, S6, sub05.trans dn.sub, dn.wf, Nat.le_trans size5 dn.size, fun b hb => (dn.old b (by omega) (by simp)).trans (keep5 b hb), fun b => Nat.le_trans (rows5 b) (dn.rows b), fun b o h => ?_, fun b h => ?_, ?_, tw5.trans dn.tw⟩⟩
      · rcases dn.newc b o h with h | h
        · exact newc5 b o h
        · right; omega
      · rcases dn.newm b h with h | h
        · exact newm5 b h
        · right; omega
      · rw [ha', hP]
        simp only [V] at hve
        obtain ⟨ad, cap, h1, h2⟩ := hve
        simp only [List.length_nil, pcells_nil, V]
        exact ⟨some ad, cap, h1, Nat.zero_le _, rfl, ⟨by simp, by simp⟩, fun ad' e hc => by cases e; exact ⟨h2 hc, by simp only [VC]⟩⟩
    · -- terms
      rcases q2 with ⟨c1, _⟩ | ⟨c1, arr, E, vs, t, c2, c3, c4, c5, c6⟩
      · cases c1
      have hTl : 0 < (termsAt es don).length := List.length_pos_iff.2 hT
      simp only [V] at hv3
      obtain ⟨ad, cap, rr, x1, x2, x3, x4, x5⟩ := hv3
      rw [q1] at x4; cases x4
      obtain ⟨y1, y2, y3⟩ := x5 b5 12 rfl (by omega)
      have had : ad = ⟨b5, 0, none⟩ := by
        obtain ⟨bb, oo, sp⟩ := ad
        simp only at x3 y1 y2
        subst x3 y1 y2
        rfl
      have hvl : VL w5.heap S5 N0 (((termsAt es don).map qOf).flatMap Q4.cells) vs := by rw [qOf_flat]; exact VL.deep _ _ (pcells_deep _) c4
      have hTm : (termsAt es don).length ≤ 1000000 := Nat.le_trans (termsAt_length _ _) (Nat.le_trans (nodup_le j5.nodup j5.lt) hlen)
      have hc := sort_ok (cap := cap) L hcmp wf5 un5 c2 c3 (qs := (termsAt es don).map qOf) (fun q hq => by obtain ⟨t, _, rfl⟩ := List.mem_map.1 hq; exact qOf_ok t) hvl (by simpa using hTm)
      rw [List.length_map] at hc
      rw [x1, had]
      refine Calls.mono hc fun e w6 he => ?_
      obtain ⟨rfl, qs', p1, p2, p3, p4, p5, arr', us', t', p6, p7, p8, p9⟩ := he
      have hqs : qs' = (polyOf es).map qOf := poly_sorted hk (p1.trans (hperm.map _)) p2
      rw [hqs, qOf_flat] at p9
      have hPl : (polyOf es).length = (termsAt es don).length := by
        have := p1.length_eq
        rw [hqs] at this
        simpa using this
      -- what is published in the end
      have hl9 := VL.length p9
      have keepS : Keeps S5 w5.heap w6.heap := by
        constructor
        · intro b o h
          obtain ⟨v, hv⟩ := wf5.1 b o h
          exact cellAt_of_eq (p5 b (lt_of_cell hv) (by rintro rfl; exact un5.1 o h))
        · intro b h
          obtain ⟨x, y, hv⟩ := wf5.2 b h
          exact p5 b (lt_of_get hv) (by rintro rfl; exact un5.2 h)
      let S6 : Pub := ⟨fun b o => S5.c b o ∨ (b = b5 ∧ o < (pcells (polyOf es)).length), S5.m, S5.r, S5.ok⟩
      have sub6 : Sub S5 S6 := ⟨fun _ _ h => .inl h, fun _ h => h, rfl⟩
      have wf6 : WF S6 w6.heap := by
        constructor
        · intro b o h
          rcases h with h | ⟨rfl, h⟩
          · rw [keepS.1 b o h]; exact wf5.1 b o h
          · have hlt : o < us'.length := by omega
            refine ⟨us'[o], ?_⟩
            simp only [cellAt, p6]
            rw [← Array.getElem?_toList, p8, List.getElem?_append_left hlt, List.getElem?_eq_getElem hlt]
        · intro b h
          rw [keepS.2 b h]; exact wf5.2 b h
      refine ⟨_, rfl, fun a' ha' hd' => ⟨rfl, hd'.trans j5.defers, S6, sub05.trans sub6, wf6, Nat.le_trans size5 p4, fun b hb => (p5 b (by omega) (by omega)).trans (keep5 b hb), fun b => Nat.le_trans (rows5 b) ?_, fun b o h => ?_, fun b h => newm5 b h, ?_, tw5.trans p3⟩⟩
      · by_cases hb : b = b5
        · subst hb
          simp only [rowSize, c2, p6]; omega
        · rcases Nat.lt_or_ge b w5.heap.size with hb2 | hb2
          · exact rowSize_of_eq (p5 b hb2 hb)
          · simp [rowSize, Array.getElem?_eq_none hb2]
      · rcases h with h | ⟨rfl, _⟩
        · exact newc5 b o h
        · exact .inr hb5
      · rw [ha']
        simp only [V]
        refine ⟨some ⟨b5, 0, none⟩, cap, by rw [hPl], by omega, pcells_deep _, ⟨by simp, fun h => by omega⟩, fun ad' e _ => ?_⟩
        cases e
        refine ⟨rfl, ?_⟩
        have := VC.of_row p6 p8 (VL.mono (Keeps.refl S5 w6.heap) sub6 (Later.refl _ _) _ _ p9) (fun o ho => .inr ⟨rfl, ho⟩) 0
        simpa using this
  | _ => exact h.elim
end Go.Ev

/- SortFunc at the terms of a polynomial, in the program. -/
namespace Go.Proofs
open Go.Shelf Go.RowKit Go.Lib Go.Sort
set_option maxRecDepth 100000
def Tryz.sortTerms_ren : Go.Shelf.Ren := ⟨fun | 14 => 179 | 15 => 180 | 20 => 195 | 21 => 196 | 22 => 197 | 23 => 198 | 24 => 199 | 25 => 200 | 26 => 201 | 27 => 202 | 28 => 203 | 29 => 204 | 46 => 212 | 47 => 213 | 48 => 214 | 49 => 215 | 50 => 216 | 57 => 219 | n => n, fun | 24 => 63 | 22 => 29 | 3 => 3 | 25 => 181 | 4 => 4 | 0 => 0 | 46 => 226 | 45 => 225 | 50 => 230 | 66 => 239 | 39 => 101 | 55 => 136 | 70 => 243 | 76 => 245 | 77 => 246 | 53 => 183 | 5 => 5 | 9 => 9 | n => n, fun | n => n⟩
theorem Tryz.sortTerms : Go.Proofs.SlLaysF0.n14 Tryz.prog Tryz.sortTerms_ren := {
  mixed := by kernel_rfl
  f14 := ⟨Tryz.f179.name, by decide, Tryz.func179.trans (congrArg some (by kernel_rfl))⟩
  f15 := Tryz.func180.trans (congrArg some (by kernel_rfl))
  f20 := ⟨Tryz.f195.name, by decide, Tryz.func195.trans (congrArg some (by kernel_rfl))⟩
  f21 := ⟨Tryz.f196.name, by decide, Tryz.func196.trans (congrArg some (by kernel_rfl))⟩
  f22 := ⟨Tryz.f197.name, by decide, Tryz.func197.trans (congrArg some (by kernel_rfl))⟩
  f23 := ⟨Tryz.f198.name, by decide, Tryz.func198.trans (congrArg some (by kernel_rfl))⟩
  f24 := ⟨Tryz.f199.name, by decide, Tryz.func199.trans (congrArg some (by kernel_rfl))⟩
  f25 := ⟨Tryz.f200.name, by decide, Tryz.func200.trans (congrArg some (by kernel_rfl))⟩
  f26 := ⟨Tryz.f201.name, by decide, Tryz.func201.trans (congrArg some (by kernel_rfl))⟩
  f27 := ⟨Tryz.f202.name, by decide, Tryz.func202.trans (congrArg some (by kernel_rfl))⟩
  f28 := Tryz.func203.trans (congrArg some (by kernel_rfl))
  f29 := Tryz.func204.trans (congrArg some (by kernel_rfl))
  f46 := ⟨Tryz.f212.name, by decide, Tryz.func212.trans (congrArg some (by kernel_rfl))⟩
  f47 := Tryz.func213.trans (congrArg some (by kernel_rfl))
  f48 := Tryz.func214.trans (congrArg some (by kernel_rfl))
  f49 := ⟨Tryz.f215.name, by decide, Tryz.func215.trans (congrArg some (by kernel_rfl))⟩
  f50 := ⟨Tryz.f216.name, by decide, Tryz.func216.trans (congrArg some (by kernel_rfl))⟩
  f57 := ⟨Tryz.f219.name, by decide, Tryz.func219.trans (congrArg some (by kernel_rfl))⟩
  t0 := Tryz.underlying0
  a0 := Tryz.isAgg0
  z0 := Tryz.sizeOf0
  v0 := Tryz.zeroValue0
  t3 := Tryz.underlying3
  a3 := Tryz.isAgg3
  z3 := Tryz.sizeOf3
  v3 := Tryz.zeroValue3
  t4 := Tryz.underlying4
  a4 := Tryz.isAgg4
  z4 := Tryz.sizeOf4
  v4 := Tryz.zeroValue4
  t5 := Tryz.underlying5
  a5 := Tryz.isAgg5
  z5 := Tryz.sizeOf5
  v5 := Tryz.zeroValue5
  t9 := Tryz.underlying9
  a9 := Tryz.isAgg9
  z9 := Tryz.sizeOf9
  v9 := Tryz.zeroValue9
  t22 := Tryz.underlying29
  a22 := Tryz.isAgg29
  z22 := Tryz.sizeOf29
  v22 := Tryz.zeroValue29
  t25 := Tryz.underlying181
  a25 := Tryz.isAgg181
  z25 := Tryz.sizeOf181
  v25 := Tryz.zeroValue181
  t39 := Tryz.underlying101
  a39 := Tryz.isAgg101
  z39 := Tryz.sizeOf101
  v39 := Tryz.zeroValue101
  t45 := Tryz.underlying225
  a45 := Tryz.isAgg225
  z45 := Tryz.sizeOf225
  v45 := Tryz.zeroValue225
  t46 := Tryz.underlying226
  a46 := Tryz.isAgg226
  z46 := Tryz.sizeOf226
  v46 := Tryz.zeroValue226
  t50 := Tryz.underlying230
  a50 := Tryz.isAgg230
  z50 := Tryz.sizeOf230
  v50 := Tryz.zeroValue230
  t53 := Tryz.underlying183
  a53 := Tryz.isAgg183
  z53 := Tryz.sizeOf183
  v53 := Tryz.zeroValue183
  t55 := Tryz.underlying136
  a55 := Tryz.isAgg136
  z55 := Tryz.sizeOf136
  v55 := Tryz.zeroValue136
  t66 := Tryz.underlying239
  a66 := Tryz.isAgg239
  z66 := Tryz.sizeOf239
  v66 := Tryz.zeroValue239
  t70 := Tryz.underlying243
  a70 := Tryz.isAgg243
  z70 := Tryz.sizeOf243
  v70 := Tryz.zeroValue243
  t76 := Tryz.underlying245
  a76 := Tryz.isAgg245
  z76 := Tryz.sizeOf245
  v76 := Tryz.zeroValue245
  t77 := Tryz.underlying246
  a77 := Tryz.isAgg246
  z77 := Tryz.sizeOf246
  v77 := Tryz.zeroValue246 }

set_option maxHeartbeats 2000000 in
theorem Tryz.sortLaw : Go.Ev.SortLaw Tryz.prog 154 := by
  intro α _ enc hk h1 cf hO g cb blk off cap d w eg hcmp hH hblk hsz
  have hlim : Lib.bitLen d.size < 4611686018427387904 := Nat.lt_of_le_of_lt (Lib.bitLen_le d.size 62 (by omega) (by omega)) (by omega)
  have hp := AnyQ.pdqsortCmpFunc_all Tryz.sortTerms 12 Tryz.isAgg63 Tryz.sizeOf63 enc cf g cb hO blk off cap d w eg hcmp ⟨hk, h1, hH, hblk⟩ (d.size + 1) 0 d.size (Lib.bitLen d.size) d w (by omega) rfl (SWK.start hH) (Nat.zero_le _) (Nat.le_refl _) hsz hlim (Or.inl rfl)
  have hl : Calls Tryz.prog 180 #[.int .u64 (d.size : Int)] w fun e w' => e = .returned (.int .i64 (Lib.bitLen d.size : Nat)) ∧ w' = w := by
    have h := Any.bits_Len (SlLaysF0.n15.bits (P := Tryz.prog) (ρ := Tryz.sortTerms_ren) { Tryz.sortTerms with }) (d.size : Int) w (by omega) (by omega)
    rwa [Int.toNat_natCast] at h
  have wr : IntKind.u64.wrap (d.size : Int) = d.size := by simp [IntKind.wrap, IntKind.bits, IntKind.signed]; omega
  change Calls Tryz.prog 179 _ _ _ at hp
  clear hH hcmp hk h1
  refine Calls.mono (R := fun e w' => e = .returned (.tuple #[]) ∧ SWK enc 12 w blk off (pdq (ltOf cf) d 0 d.size (Lib.bitLen d.size) true true) w') ?_ ?_
  · generalize pdq (ltOf cf) d 0 d.size (Lib.bitLen d.size) true true = r at hp ⊢
    go_enter Tryz.func154, Tryz.ntmps154
    go_wp2_with (first | (go_at_call 180; refine hl.mono ?_; rintro e w' ⟨rfl, rfl⟩) | (go_at_call 179; refine hp.mono ?_; rintro e w' ⟨rfl, hw'⟩))
    go_end0
    exact ⟨rfl, hw'⟩
  · intro e w' he
    obtain ⟨rfl, n, os, rfl⟩ := he
    have h := pdq_sorts (ltOf cf) hO d 0 d.size (Lib.bitLen d.size) true true (Nat.zero_le _) (Nat.le_refl _) (Or.inl rfl)
    exact ⟨rfl, _, n, os, h.1, h.2, rfl⟩
end Go.Proofs

/- The function that makes a polynomial of a map, in the program. -/
namespace Go.Ev
open Go Go.Pm Go.Proofs
set_option maxRecDepth 100000

/-! ### SortFunc at an empty list -/
def KSL : List (Nat × Fun) := [(n_slices_SortFunc_api_Poly_api_Term, c_slices_SortFunc_api_Poly_api_Term), (n_slices_pdqsortCmpFunc_api_Term, c_slices_pdqsortCmpFunc_api_Term), (n_slices_insertionSortCmpFunc_api_Term, c_slices_insertionSortCmpFunc_api_Term), (n_math_bits_Len, c_math_bits_Len), (n_math_bits_Len64, c_math_bits_Len64)]
def KS : Cfg := { fc := fcOf, fn := fun f => (KSL.find? (·.1 == f)).map (·.2) }
instance : NoSh KS := ⟨fun _ => rfl, rfl⟩
theorem KS_all : ∀ x ∈ KSL, HasK KS Tryz.prog x.1 x.2 := by
  simp only [KSL, List.forall_mem_cons, List.not_mem_nil, false_implies, implies_true, and_true]
  exact ⟨⟨_, Tryz.func154, ne_of_beq (by kernel_rfl), by kernel_rfl⟩, ⟨_, Tryz.func179, ne_of_beq (by kernel_rfl), by kernel_rfl⟩, ⟨_, Tryz.func195, ne_of_beq (by kernel_rfl), by kernel_rfl⟩, ⟨_, Tryz.func180, ne_of_beq (by kernel_rfl), by kernel_rfl⟩, ⟨_, Tryz.func204, ne_of_beq (by kernel_rfl), by kernel_rfl⟩⟩
def runS : Sem := evFn KS (fun _ => none) 20
theorem runS_ok : SemOK Tryz.prog runS := run_ok hm_prog KS_all (ov := fun _ => none) (fun _ _ h => by cases h) 20
theorem ok_sort0 : FnOK Tryz.prog n_slices_SortFunc_api_Poly_api_Term g_sort0 := spec_ok fun _ _ => (runS_ok n_slices_SortFunc_api_Poly_api_Term).at (by kernel_rfl)

/-! ### The comparison, the function -/
theorem s_isNaN : FnOK Tryz.prog n_cmp_isNaN_int g_isNaN := ok_isNaN hm_prog has_cmp_isNaN_int
theorem s_cmp_int : FnOK Tryz.prog n_cmp_Compare_int g_cmp_int := ok_cmp_int hm_prog has_cmp_Compare_int s_isNaN
theorem s_Compare : FnOK Tryz.prog n_slices_Compare_int_int g_slices_Compare := ok_slices_Compare hm_prog has_slices_Compare_int_int s_cmp_int
theorem s_monomial_Cmp : FnOK Tryz.prog n_monomial_Cmp g_monomial_Cmp := ok_monomial_Cmp hm_prog has_monomial_Cmp s_Compare
theorem s_cmpQ : FnOK Tryz.prog n_polynomial_sum_poly_1 g_cmpQ := ok_cmpQ hm_prog ⟨_, Tryz.func155, ne_of_beq (by kernel_rfl), by kernel_rfl⟩ s_monomial_Cmp
theorem s_sign : FnOK Tryz.prog n_rational_Sign g_sign := ok_sign_prog hm_prog has_rational_Sign has_integer_Sign

theorem polyFn : ∃ r0 r1 r2 r3 r4 r5 r6 r7 r8 o20 o21 o30 o31 o40 o70 o71 o80 o81, PolyFn Tryz.prog Tryz.f114 r0 r1 r2 r3 r4 r5 r6 r7 r8 o20 o21 o30 o31 o40 o70 o71 o80 o81 :=
  ⟨_, _, _, _, _, _, _, _, _, _, _, _, _, _, _, _, _, _, {
    body := ⟨_, _, _, _, _, _, _, _, _, rfl⟩
    name := ne_of_beq (by kernel_rfl)
    ntmps := rfl
    res := rfl
    ops := { e3 := rfl, p30 := rfl, d30 := rfl, g30 := rfl, p31 := rfl, d31 := rfl, g31 := rfl, e40 := rfl, s4 := rfl, p40 := rfl, d40 := rfl, g40 := rfl, t4 := by kernel_rfl, t5 := by kernel_rfl, t6 := by kernel_rfl, k4 := by kernel_rfl, k5 := by kernel_rfl, k6 := by kernel_rfl }
    t0 := by kernel_rfl
    t1 := by kernel_rfl
    e2 := rfl
    p20 := rfl
    d20 := rfl
    g20 := rfl
    p21 := ⟨_, _, _, rfl, Tryz.underlying151⟩
    d21 := rfl
    g21 := rfl
    e7 := rfl
    p70 := rfl
    d70 := rfl
    g70 := rfl
    p71 := ⟨_, rfl, rfl, rfl⟩
    d71 := rfl
    g71 := rfl
    e8 := rfl
    p80 := rfl
    d80 := rfl
    g80 := rfl
    p81 := rfl
    d81 := rfl
    g81 := rfl }⟩

theorem s_sumpoly : FnOK Tryz.prog n_polynomial_sum_poly g_sumpoly := by
  obtain ⟨r0, r1, r2, r3, r4, r5, r6, r7, r8, o20, o21, o30, o31, o40, o70, o71, o80, o81, X⟩ := polyFn
  exact ok_sumpoly hm_prog Tryz.func114 X s_sign s_cmpQ ok_sort0 Tryz.sortLaw
end Go.Ev

/- Answers that are known already, for runs in pieces. -/
namespace Go.Ev
open Go.Pm

mutual
def eqD : DV → DV → Bool
  | .b v, .b w => v == w
  | .i k n, .i l m => k == l && n == m
  | .nilfn, .nilfn => true
  | .sl n cs, .sl m ds => n == m && eqDL cs ds
  | .fn f cs, .fn g ds => f == g && eqDL cs ds
  | .agg cs, .agg ds => eqDL cs ds
  | .tup cs, .tup ds => eqDL cs ds
  | _, _ => false
def eqDL : List DV → List DV → Bool
  | [], [] => true
  | x :: r, y :: t => eqDL r t && eqD x y
  | _, _ => false
end

mutual
theorem eqD_ok : ∀ {x y : DV}, eqD x y = true → x = y
  | .b v, .b w, h => by simp [eqD] at h; rw [h]
  | .i k n, .i l m, h => by simp [eqD] at h; rw [h.1, h.2]
  | .nilfn, .nilfn, _ => rfl
  | .sl n cs, .sl m ds, h => by simp [eqD] at h; rw [h.1, eqDL_ok h.2]
  | .fn f cs, .fn g ds, h => by simp [eqD] at h; rw [h.1, eqDL_ok h.2]
  | .agg cs, .agg ds, h => by simp [eqD] at h; rw [eqDL_ok h]
  | .tup cs, .tup ds, h => by simp [eqD] at h; rw [eqDL_ok h]
  | .nil, y, h => by cases y <;> simp [eqD] at h
  | .ref .., y, h => by cases y <;> simp [eqD] at h
  | .ptr .., y, h => by cases y <;> simp [eqD] at h
  | .rop _, y, h => by cases y <;> simp [eqD] at h
  | .mref .., y, h => by cases y <;> simp [eqD] at h
  | .msl _, y, h => by cases y <;> simp [eqD] at h
  | .own .., y, h => by cases y <;> simp [eqD] at h
  | .x .., y, h => by cases y <;> simp [eqD] at h
  | .u .., y, h => by cases y <;> simp [eqD] at h
  | .non, y, h => by cases y <;> simp [eqD] at h
  | .emp, y, h => by cases y <;> simp [eqD] at h
  | .refc .., y, h => by cases y <;> simp [eqD] at h
  | .bf .., y, h => by cases y <;> simp [eqD] at h
theorem eqDL_ok : ∀ {x y : List DV}, eqDL x y = true → x = y
  | [], [], _ => rfl
  | x :: r, y :: t, h => by simp [eqDL] at h; rw [eqD_ok h.2, eqDL_ok h.1]
  | [], _ :: _, h => by simp [eqDL] at h
  | _ :: _, [], h => by simp [eqDL] at h
end

/-! ### By function -/
abbrev Ans := List (List DV × DV)
def ansG : Ans → G
  | [], _ => none
  | (a, r) :: l, ds => if eqDL a ds then some (r, []) else ansG l ds
def AnsOK (P : Program) (n : Nat) (l : Ans) : Prop := ∀ x ∈ l, FnAt P n x.1 x.2 []
theorem ansG_ok {P : Program} {n : Nat} : ∀ {l : Ans}, AnsOK P n l → FnOK P n (ansG l)
  | [], _, ds, r, outs, h => by simp [ansG] at h
  | (a, r) :: l, hl, ds, r', outs, h => by
    unfold ansG at h
    split at h
    · rename_i hc
      have := eqDL_ok hc
      subst this
      cases h
      exact hl _ (List.mem_cons_self ..)
    · exact ansG_ok (fun x hx => hl x (List.mem_cons_of_mem _ hx)) ds r' outs h
theorem ans_of {P : Program} {run : Sem} (hr : SemOK P run) (n : Nat) {l : Ans} (h : l.map (fun x => run n x.1) = l.map (fun x => some (x.2, []))) : AnsOK P n l :=
  fun x hx => (hr n).at (List.map_inj_left.1 h x hx)
theorem ans_app {P : Program} {n : Nat} {l m : Ans} (h : AnsOK P n l) (k : AnsOK P n m) : AnsOK P n (l ++ m) := fun x hx => (List.mem_append.1 hx).elim (h x) (k x)

def ovA (T : List (Nat × Ans)) (ov : Nat → Option (Sem → G)) : Nat → Option (Sem → G) := fun n =>
  match T.find? (fun t => t.1 == n) with
  | some t => some fun _ => ansG t.2
  | none => ov n
theorem ovA_ok {P : Program} {T : List (Nat × Ans)} (hT : ∀ t ∈ T, AnsOK P t.1 t.2) {ov : Nat → Option (Sem → G)} (h : ∀ f g, ov f = some g → ∀ cs, SemOK P cs → FnOK P f (g cs)) : ∀ f g, ovA T ov f = some g → ∀ cs, SemOK P cs → FnOK P f (g cs) := by
  intro f g hg cs hcs
  unfold ovA at hg
  split at hg
  · rename_i t ht
    cases hg
    have h2 := List.find?_some ht
    simp only [beq_iff_eq] at h2
    subst h2
    exact ansG_ok (hT t (List.mem_of_find?_eq_some ht))
  · exact h f g hg cs hcs
end Go.Ev

/- The polynomial of a map, computed: whole coefficients of one word. -/
namespace Go.Ev
open Go.Pm

def parseE : DV → Option (Mono × Int)
  | .tup [.agg [.i .i64 e0, .i .i64 e1, .i .i64 e2, .i .i64 e3, .i .i64 e4, .i .i64 e5, .i .i64 e6, .i .i64 e7], .agg [.b s, .sl k ws, .b false, .sl 1 [.i .u32 1]]] =>
    match k, ws with
    | 0, [] => if s then none else some (⟨e0, e1, e2, e3, e4, e5, e6, e7⟩, 0)
    | 1, [.i .u32 w] => if 0 < w ∧ w < 4294967296 then some (⟨e0, e1, e2, e3, e4, e5, e6, e7⟩, if s then -w else w) else none
    | _, _ => none
  | _ => none

def parseL : List DV → Option (List (Mono × Int))
  | [] => some []
  | d :: r => match parseE d, parseL r with
    | some x, some l => some (x :: l)
    | _, _ => none

def insI (t : Mono × Int) : List (Mono × Int) → List (Mono × Int)
  | [] => [t]
  | u :: p => if 0 < Mono.cmp t.1 u.1 then t :: u :: p else u :: insI t p

def polyI : List (Mono × Int) → List (Mono × Int)
  | [] => []
  | (m, c) :: r => if c = 0 then polyI r else insI (m, c) (polyI r)

def wholeCells (x : Int) : List DV := cells (whole x)

def keysB : List (Mono × Int) → Bool
  | [] => true
  | (m, _) :: r => r.all (fun x => x.1 != m) && keysB r

def polyG : G := fun ds =>
  match ds with
  | [.msl es] => match parseL es with
    | some l => if keysB l ∧ l.length ≤ 1000000 then (let p := polyI l; some (.sl p.length (p.flatMap fun t => wholeCells t.2 ++ mcells t.1), [])) else none
    | none => none
  | _ => none

def toR (x : Mono × Int) : Mono × Rat := (x.1, (x.2 : Rat))
def toT (x : Mono × Int) : Tm := ⟨(x.2 : Rat), x.1⟩

theorem parseE_ok {d : DV} {x : Mono × Int} (h : parseE d = some x) : d = dEnt (toR x) ∧ x.2.natAbs < 4294967296 := by
  unfold parseE at h
  split at h
  · rename_i e0 e1 e2 e3 e4 e5 e6 e7 s k ws
    split at h
    · split at h
      · cases h
      · rename_i hs
        cases h
        refine ⟨?_, by simp⟩
        have := whole_dRat (x := 0) (by decide)
        simp only [toR, dEnt]
        rw [← this]
        cases s
        · rfl
        · simp at hs
    · split at h
      · rename_i w hw
        cases h
        have hb : (if s then -w else w).natAbs < 4294967296 := by split <;> omega
        refine ⟨?_, hb⟩
        simp only [toR, dEnt]
        rw [← whole_dRat hb]
        cases s
        · have h1 : ¬ w < 0 := by omega
          have h2 : ¬ w = 0 := by omega
          simp [whole, h1, h2, mcells, Mono.l]
        · have h1 : 0 < w := by omega
          have h2 : ¬ w = 0 := by omega
          simp [whole, h1, h2, mcells, Mono.l]
      · cases h
    · cases h
  · cases h

theorem parseL_ok : ∀ {es : List DV} {l : List (Mono × Int)}, parseL es = some l → es = (l.map toR).map dEnt ∧ ∀ x ∈ l, x.2.natAbs < 4294967296
  | [], l, h => by simp [parseL] at h; subst h; simp
  | d :: r, l, h => by
    simp only [parseL] at h
    split at h
    · rename_i x l' h1 h2
      cases h
      obtain ⟨e1, b1⟩ := parseE_ok h1
      obtain ⟨e2, b2⟩ := parseL_ok h2
      refine ⟨by simp [← e2, e1], fun y hy => ?_⟩
      rcases List.mem_cons.1 hy with rfl | hy
      · exact b1
      · exact b2 y hy
    · cases h

theorem insI_ok (t : Mono × Int) : ∀ p, (insI t p).map toT = insT (toT t) (p.map toT)
  | [] => rfl
  | u :: p => by
    unfold insI
    simp only [List.map_cons, insT]
    have e : (toT t).m = t.1 ∧ (toT u).m = u.1 := ⟨rfl, rfl⟩
    rw [e.1, e.2]
    split
    · simp
    · simp [insI_ok t p]

theorem polyI_ok : ∀ l : List (Mono × Int), (polyI l).map toT = polyOf (l.map toR)
  | [] => rfl
  | (m, c) :: r => by
    simp only [polyI, List.map_cons, toR, polyOf]
    by_cases h : c = 0
    · simp [h, polyI_ok r, toR]
    · have h' : ¬ (c : Rat) = 0 := by simpa using h
      rw [if_neg h, if_neg h', insI_ok, polyI_ok r]; rfl

theorem mem_insI {t u : Mono × Int} : ∀ {p}, u ∈ insI t p → u = t ∨ u ∈ p
  | [], h => by simp [insI] at h; exact .inl h
  | v :: p, h => by
    unfold insI at h
    split at h
    · simpa using h
    · rcases List.mem_cons.1 h with h | h
      · exact .inr (by simp [h])
      · exact (mem_insI h).imp id fun h => List.mem_cons_of_mem _ h
theorem mem_polyI {u : Mono × Int} : ∀ {l}, u ∈ polyI l → u ∈ l
  | [], h => by simp [polyI] at h
  | (m, c) :: r, h => by
    unfold polyI at h
    split at h
    · exact List.mem_cons_of_mem _ (mem_polyI h)
    · rcases mem_insI h with h | h
      · simp [h]
      · exact List.mem_cons_of_mem _ (mem_polyI h)

theorem keysB_ok : ∀ {l : List (Mono × Int)}, keysB l = true → KeysOk (l.map toR)
  | [], _ => by simp [KeysOk]
  | (m, c) :: r, h => by
    simp only [keysB, Bool.and_eq_true] at h
    simp only [KeysOk, List.map_cons, List.nodup_cons]
    refine ⟨fun hm => ?_, keysB_ok (l := r) h.2⟩
    simp only [List.mem_map] at hm
    obtain ⟨y, ⟨x, hx, rfl⟩, hy⟩ := hm
    have := List.all_eq_true.1 h.1 x hx
    simp only [toR] at hy
    rw [hy] at this
    simp at this

theorem cells_whole {p : List (Mono × Int)} (h : ∀ x ∈ p, x.2.natAbs < 4294967296) : (p.flatMap fun t => wholeCells t.2 ++ mcells t.1) = pcells (p.map toT) := by
  induction p with
  | nil => rfl
  | cons t p ih =>
    rw [List.flatMap_cons, List.map_cons, pcells_cons, ih fun x hx => h x (List.mem_cons_of_mem _ hx)]
    congr 1
    unfold wholeCells tcells
    rw [whole_dRat (h t (List.mem_cons_self ..))]
    rfl

theorem ok_polyG {P : Program} (h : FnOK P n_polynomial_sum_poly g_sumpoly) : FnOK P n_polynomial_sum_poly polyG := by
  intro ds r outs hg
  unfold polyG at hg
  split at hg
  · rename_i es
    split at hg
    · rename_i l hl
      split at hg
      · rename_i hc
        simp only [Option.some.injEq, Prod.mk.injEq] at hg
        obtain ⟨rfl, rfl⟩ := hg
        obtain ⟨e1, b1⟩ := parseL_ok hl
        subst e1
        have := h.at (e_sumpoly (l.map toR) ⟨keysB_ok hc.1, by simpa using hc.2⟩)
        rw [← polyI_ok, dPoly, ← cells_whole (fun x hx => b1 x (mem_polyI hx)), List.length_map] at this
        exact this
      · cases hg
    · cases hg
  · cases hg
end Go.Ev

/- Sums and products of small whole numbers, computed. -/
namespace Go.Ev
open Go.Pm

def parseW : DV → Option Int
  | .agg [.b s, .sl k ws, .b false, .sl 1 [.i .u32 1]] =>
    match k, ws with
    | 0, [] => if s then none else some 0
    | 1, [.i .u32 w] => if 0 < w ∧ w ≤ 16000 then some (if s then -w else w) else none
    | _, _ => none
  | _ => none

theorem parseW_ok {d : DV} {x : Int} (h : parseW d = some x) : d = dRat (x : Rat) ∧ x.natAbs ≤ 16000 := by
  unfold parseW at h
  split at h
  · rename_i s k ws
    split at h
    · split at h
      · cases h
      · rename_i hs
        cases h
        refine ⟨?_, by simp⟩
        have := whole_dRat (x := 0) (by decide)
        rw [← this]
        cases s
        · rfl
        · simp at hs
    · split at h
      · rename_i w hw
        cases h
        have hb : (if s then -w else w).natAbs ≤ 16000 := by split <;> omega
        refine ⟨?_, hb⟩
        rw [← whole_dRat (by omega)]
        cases s
        · have h1 : ¬ w < 0 := by omega
          have h2 : ¬ w = 0 := by omega
          simp [whole, h1, h2]
        · have h1 : 0 < w := by omega
          have h2 : ¬ w = 0 := by omega
          simp [whole, h1, h2]
      · cases h
    · cases h
  · cases h

def wG (o : Int → Int → Int) : G := fun ds =>
  match ds with
  | [a, b] => match parseW a, parseW b with
    | some x, some y => some (whole (o x y), [])
    | _, _ => none
  | _ => none

theorem sm_int {x : Int} (h : x.natAbs ≤ 16000) : Sm 16000 (x : Rat) := ⟨by simp, by unfold nm; simpa using h⟩

theorem ok_wadd {P : Program} {f : Nat} (h : FnOK P f g_add) : FnOK P f (wG (· + ·)) := by
  intro ds r outs hg
  unfold wG at hg
  split at hg
  · split at hg
    · rename_i x y hx hy
      simp only [Option.some.injEq, Prod.mk.injEq] at hg
      obtain ⟨rfl, rfl⟩ := hg
      obtain ⟨e1, b1⟩ := parseW_ok hx
      obtain ⟨e2, b2⟩ := parseW_ok hy
      subst e1 e2
      have := h.at (e_add _ _ (sm_int b1) (sm_int b2))
      rw [← Rat.intCast_add, ← whole_dRat (x := x + y) (by omega)] at this
      exact this
    · cases hg
  · cases hg

theorem ok_wmul {P : Program} {f : Nat} (h : FnOK P f g_mul) : FnOK P f (wG (· * ·)) := by
  intro ds r outs hg
  unfold wG at hg
  split at hg
  · split at hg
    · rename_i x y hx hy
      simp only [Option.some.injEq, Prod.mk.injEq] at hg
      obtain ⟨rfl, rfl⟩ := hg
      obtain ⟨e1, b1⟩ := parseW_ok hx
      obtain ⟨e2, b2⟩ := parseW_ok hy
      subst e1 e2
      have := h.at (e_mul _ _ (sm_int b1) (sm_int b2))
      rw [← Rat.intCast_mul, ← whole_dRat (x := x * y) (mul_bound b1 b2)] at this
      exact this
    · cases hg
  · cases hg
end Go.Ev

/- A table of code for runs, and that the program has it. Printed by a program of mine. -/
namespace Go.Ev
open Go Go.Pm Go.Proofs
set_option maxRecDepth 100000
def KFL : List (Nat × Fun) := [(n_rational_Add, c_rational_Add), (n_rational_Mul, c_rational_Mul), (n_rational_product, c_rational_product), (n_rational_lowest, c_rational_lowest), (n_integer_Of, c_integer_Of), (n_integer_Mul, c_integer_Mul), (n_integer_Add, c_integer_Add), (n_integer_Gcd, c_integer_Gcd), (n_integer_Sign, c_integer_Sign), (n_integer_Neg, c_integer_Neg), (n_integer_DivMod, c_integer_DivMod), (n_integer_natural, c_integer_natural), (n_integer_nat_norm, c_integer_nat_norm), (n_integer_nat_signed, c_integer_nat_signed), (n_integer_nat_at, c_integer_nat_at), (n_integer_nat_cmp, c_integer_nat_cmp), (n_integer_nat_add, c_integer_nat_add), (n_integer_nat_sub, c_integer_nat_sub), (n_integer_nat_mul, c_integer_nat_mul), (n_integer_nat_word, c_integer_nat_word), (n_integer_nat_div, c_integer_nat_div), (n_math_bits_Add32, c_math_bits_Add32), (n_math_bits_Sub32, c_math_bits_Sub32), (n_math_bits_Div32, c_math_bits_Div32), (n_cmp_Compare_uint32, c_cmp_Compare_uint32), (n_cmp_isNaN_uint32, c_cmp_isNaN_uint32), (n_cmp_Compare_int, c_cmp_Compare_int), (n_cmp_isNaN_int, c_cmp_isNaN_int), (n_ref02_Add, c_ref02_Add), (n_ref02_Mul, c_ref02_Mul), (n_ref02_Whole, c_ref02_Whole), (n_ref02_lowest, c_ref02_lowest), (n_ref02_exact, c_ref02_exact), (n_ref01_trim, c_ref01_trim), (n_ref01_made, c_ref01_made), (n_ref01_words, c_ref01_words), (n_ref01_word, c_ref01_word), (n_ref01_number, c_ref01_number), (n_ref01_compared, c_ref01_compared), (n_ref01_added, c_ref01_added), (n_ref01_taken, c_ref01_taken), (n_ref01_times, c_ref01_times), (n_ref01_shortly, c_ref01_shortly), (n_ref01_divided, c_ref01_divided), (n_ref01_common, c_ref01_common), (n_ref01_euclid, c_ref01_euclid), (n_ref01_Of, c_ref01_Of), (n_ref01_Neg, c_ref01_Neg), (n_ref01_Add, c_ref01_Add), (n_ref01_Mul, c_ref01_Mul), (n_ref01_DivMod, c_ref01_DivMod), (n_ref01_Gcd, c_ref01_Gcd), (n_ref01_Sign, c_ref01_Sign)]
def KF : Cfg := { fc := fcOf, fn := fun f => (KFL.find? (·.1 == f)).map (·.2) }
instance : NoSh KF := ⟨fun _ => rfl, rfl⟩
theorem KF_rational_Add : HasK KF Tryz.prog n_rational_Add c_rational_Add := ⟨_, Tryz.func86, ne_of_beq (by kernel_rfl), by kernel_rfl⟩
theorem KF_rational_Mul : HasK KF Tryz.prog n_rational_Mul c_rational_Mul := ⟨_, Tryz.func111, ne_of_beq (by kernel_rfl), by kernel_rfl⟩
theorem KF_rational_product : HasK KF Tryz.prog n_rational_product c_rational_product := ⟨_, Tryz.func109, ne_of_beq (by kernel_rfl), by kernel_rfl⟩
theorem KF_rational_lowest : HasK KF Tryz.prog n_rational_lowest c_rational_lowest := ⟨_, Tryz.func136, ne_of_beq (by kernel_rfl), by kernel_rfl⟩
theorem KF_integer_Of : HasK KF Tryz.prog n_integer_Of c_integer_Of := ⟨_, Tryz.func63, ne_of_beq (by kernel_rfl), by kernel_rfl⟩
theorem KF_integer_Mul : HasK KF Tryz.prog n_integer_Mul c_integer_Mul := ⟨_, Tryz.func151, ne_of_beq (by kernel_rfl), by kernel_rfl⟩
theorem KF_integer_Add : HasK KF Tryz.prog n_integer_Add c_integer_Add := ⟨_, Tryz.func137, ne_of_beq (by kernel_rfl), by kernel_rfl⟩
theorem KF_integer_Gcd : HasK KF Tryz.prog n_integer_Gcd c_integer_Gcd := ⟨_, Tryz.func168, ne_of_beq (by kernel_rfl), by kernel_rfl⟩
theorem KF_integer_Sign : HasK KF Tryz.prog n_integer_Sign c_integer_Sign := ⟨_, Tryz.func102, ne_of_beq (by kernel_rfl), by kernel_rfl⟩
theorem KF_integer_Neg : HasK KF Tryz.prog n_integer_Neg c_integer_Neg := ⟨_, Tryz.func147, ne_of_beq (by kernel_rfl), by kernel_rfl⟩
theorem KF_integer_DivMod : HasK KF Tryz.prog n_integer_DivMod c_integer_DivMod := ⟨_, Tryz.func169, ne_of_beq (by kernel_rfl), by kernel_rfl⟩
theorem KF_integer_natural : HasK KF Tryz.prog n_integer_natural c_integer_natural := ⟨_, Tryz.func103, ne_of_beq (by kernel_rfl), by kernel_rfl⟩
theorem KF_integer_nat_norm : HasK KF Tryz.prog n_integer_nat_norm c_integer_nat_norm := ⟨_, Tryz.func148, ne_of_beq (by kernel_rfl), by kernel_rfl⟩
theorem KF_integer_nat_signed : HasK KF Tryz.prog n_integer_nat_signed c_integer_nat_signed := ⟨_, Tryz.func104, ne_of_beq (by kernel_rfl), by kernel_rfl⟩
theorem KF_integer_nat_at : HasK KF Tryz.prog n_integer_nat_at c_integer_nat_at := ⟨_, Tryz.func188, ne_of_beq (by kernel_rfl), by kernel_rfl⟩
theorem KF_integer_nat_cmp : HasK KF Tryz.prog n_integer_nat_cmp c_integer_nat_cmp := ⟨_, Tryz.func171, ne_of_beq (by kernel_rfl), by kernel_rfl⟩
theorem KF_integer_nat_add : HasK KF Tryz.prog n_integer_nat_add c_integer_nat_add := ⟨_, Tryz.func170, ne_of_beq (by kernel_rfl), by kernel_rfl⟩
theorem KF_integer_nat_sub : HasK KF Tryz.prog n_integer_nat_sub c_integer_nat_sub := ⟨_, Tryz.func172, ne_of_beq (by kernel_rfl), by kernel_rfl⟩
theorem KF_integer_nat_mul : HasK KF Tryz.prog n_integer_nat_mul c_integer_nat_mul := ⟨_, Tryz.func178, ne_of_beq (by kernel_rfl), by kernel_rfl⟩
theorem KF_integer_nat_word : HasK KF Tryz.prog n_integer_nat_word c_integer_nat_word := ⟨_, Tryz.func206, ne_of_beq (by kernel_rfl), by kernel_rfl⟩
theorem KF_integer_nat_div : HasK KF Tryz.prog n_integer_nat_div c_integer_nat_div := ⟨_, Tryz.func186, ne_of_beq (by kernel_rfl), by kernel_rfl⟩
theorem KF_math_bits_Add32 : HasK KF Tryz.prog n_math_bits_Add32 c_math_bits_Add32 := ⟨_, Tryz.func187, ne_of_beq (by kernel_rfl), by kernel_rfl⟩
theorem KF_math_bits_Sub32 : HasK KF Tryz.prog n_math_bits_Sub32 c_math_bits_Sub32 := ⟨_, Tryz.func190, ne_of_beq (by kernel_rfl), by kernel_rfl⟩
theorem KF_math_bits_Div32 : HasK KF Tryz.prog n_math_bits_Div32 c_math_bits_Div32 := ⟨_, Tryz.func218, ne_of_beq (by kernel_rfl), by kernel_rfl⟩
theorem KF_cmp_Compare_uint32 : HasK KF Tryz.prog n_cmp_Compare_uint32 c_cmp_Compare_uint32 := ⟨_, Tryz.func189, ne_of_beq (by kernel_rfl), by kernel_rfl⟩
theorem KF_cmp_isNaN_uint32 : HasK KF Tryz.prog n_cmp_isNaN_uint32 c_cmp_isNaN_uint32 := ⟨_, Tryz.func211, ne_of_beq (by kernel_rfl), by kernel_rfl⟩
theorem KF_cmp_Compare_int : HasK KF Tryz.prog n_cmp_Compare_int c_cmp_Compare_int := ⟨_, Tryz.func161, ne_of_beq (by kernel_rfl), by kernel_rfl⟩
theorem KF_cmp_isNaN_int : HasK KF Tryz.prog n_cmp_isNaN_int c_cmp_isNaN_int := ⟨_, Tryz.func181, ne_of_beq (by kernel_rfl), by kernel_rfl⟩
theorem KF_ref02_Add : HasK KF Tryz.prog n_ref02_Add c_ref02_Add := ⟨_, Tryz.func25, ne_of_beq (by kernel_rfl), by kernel_rfl⟩
theorem KF_ref02_Mul : HasK KF Tryz.prog n_ref02_Mul c_ref02_Mul := ⟨_, Tryz.func74, ne_of_beq (by kernel_rfl), by kernel_rfl⟩
theorem KF_ref02_Whole : HasK KF Tryz.prog n_ref02_Whole c_ref02_Whole := ⟨_, Tryz.func23, ne_of_beq (by kernel_rfl), by kernel_rfl⟩
theorem KF_ref02_lowest : HasK KF Tryz.prog n_ref02_lowest c_ref02_lowest := ⟨_, Tryz.func53, ne_of_beq (by kernel_rfl), by kernel_rfl⟩
theorem KF_ref02_exact : HasK KF Tryz.prog n_ref02_exact c_ref02_exact := ⟨_, Tryz.func94, ne_of_beq (by kernel_rfl), by kernel_rfl⟩
theorem KF_ref01_trim : HasK KF Tryz.prog n_ref01_trim c_ref01_trim := ⟨_, Tryz.func142, ne_of_beq (by kernel_rfl), by kernel_rfl⟩
theorem KF_ref01_made : HasK KF Tryz.prog n_ref01_made c_ref01_made := ⟨_, Tryz.func90, ne_of_beq (by kernel_rfl), by kernel_rfl⟩
theorem KF_ref01_words : HasK KF Tryz.prog n_ref01_words c_ref01_words := ⟨_, Tryz.func91, ne_of_beq (by kernel_rfl), by kernel_rfl⟩
theorem KF_ref01_word : HasK KF Tryz.prog n_ref01_word c_ref01_word := ⟨_, Tryz.func145, ne_of_beq (by kernel_rfl), by kernel_rfl⟩
theorem KF_ref01_number : HasK KF Tryz.prog n_ref01_number c_ref01_number := ⟨_, Tryz.func175, ne_of_beq (by kernel_rfl), by kernel_rfl⟩
theorem KF_ref01_compared : HasK KF Tryz.prog n_ref01_compared c_ref01_compared := ⟨_, Tryz.func96, ne_of_beq (by kernel_rfl), by kernel_rfl⟩
theorem KF_ref01_added : HasK KF Tryz.prog n_ref01_added c_ref01_added := ⟨_, Tryz.func95, ne_of_beq (by kernel_rfl), by kernel_rfl⟩
theorem KF_ref01_taken : HasK KF Tryz.prog n_ref01_taken c_ref01_taken := ⟨_, Tryz.func97, ne_of_beq (by kernel_rfl), by kernel_rfl⟩
theorem KF_ref01_times : HasK KF Tryz.prog n_ref01_times c_ref01_times := ⟨_, Tryz.func98, ne_of_beq (by kernel_rfl), by kernel_rfl⟩
theorem KF_ref01_shortly : HasK KF Tryz.prog n_ref01_shortly c_ref01_shortly := ⟨_, Tryz.func191, ne_of_beq (by kernel_rfl), by kernel_rfl⟩
theorem KF_ref01_divided : HasK KF Tryz.prog n_ref01_divided c_ref01_divided := ⟨_, Tryz.func176, ne_of_beq (by kernel_rfl), by kernel_rfl⟩
theorem KF_ref01_common : HasK KF Tryz.prog n_ref01_common c_ref01_common := ⟨_, Tryz.func143, ne_of_beq (by kernel_rfl), by kernel_rfl⟩
theorem KF_ref01_euclid : HasK KF Tryz.prog n_ref01_euclid c_ref01_euclid := ⟨_, Tryz.func174, ne_of_beq (by kernel_rfl), by kernel_rfl⟩
theorem KF_ref01_Of : HasK KF Tryz.prog n_ref01_Of c_ref01_Of := ⟨_, Tryz.func52, ne_of_beq (by kernel_rfl), by kernel_rfl⟩
theorem KF_ref01_Neg : HasK KF Tryz.prog n_ref01_Neg c_ref01_Neg := ⟨_, Tryz.func93, ne_of_beq (by kernel_rfl), by kernel_rfl⟩
theorem KF_ref01_Add : HasK KF Tryz.prog n_ref01_Add c_ref01_Add := ⟨_, Tryz.func54, ne_of_beq (by kernel_rfl), by kernel_rfl⟩
theorem KF_ref01_Mul : HasK KF Tryz.prog n_ref01_Mul c_ref01_Mul := ⟨_, Tryz.func55, ne_of_beq (by kernel_rfl), by kernel_rfl⟩
theorem KF_ref01_DivMod : HasK KF Tryz.prog n_ref01_DivMod c_ref01_DivMod := ⟨_, Tryz.func144, ne_of_beq (by kernel_rfl), by kernel_rfl⟩
theorem KF_ref01_Gcd : HasK KF Tryz.prog n_ref01_Gcd c_ref01_Gcd := ⟨_, Tryz.func92, ne_of_beq (by kernel_rfl), by kernel_rfl⟩
theorem KF_ref01_Sign : HasK KF Tryz.prog n_ref01_Sign c_ref01_Sign := ⟨_, Tryz.func56, ne_of_beq (by kernel_rfl), by kernel_rfl⟩
theorem KF_all : ∀ x ∈ KFL, HasK KF Tryz.prog x.1 x.2 := by
  simp only [KFL, List.forall_mem_cons, List.not_mem_nil, false_implies, implies_true, and_true]
  exact ⟨KF_rational_Add, KF_rational_Mul, KF_rational_product, KF_rational_lowest, KF_integer_Of, KF_integer_Mul, KF_integer_Add, KF_integer_Gcd, KF_integer_Sign, KF_integer_Neg, KF_integer_DivMod, KF_integer_natural, KF_integer_nat_norm, KF_integer_nat_signed, KF_integer_nat_at, KF_integer_nat_cmp, KF_integer_nat_add, KF_integer_nat_sub, KF_integer_nat_mul, KF_integer_nat_word, KF_integer_nat_div, KF_math_bits_Add32, KF_math_bits_Sub32, KF_math_bits_Div32, KF_cmp_Compare_uint32, KF_cmp_isNaN_uint32, KF_cmp_Compare_int, KF_cmp_isNaN_int, KF_ref02_Add, KF_ref02_Mul, KF_ref02_Whole, KF_ref02_lowest, KF_ref02_exact, KF_ref01_trim, KF_ref01_made, KF_ref01_words, KF_ref01_word, KF_ref01_number, KF_ref01_compared, KF_ref01_added, KF_ref01_taken, KF_ref01_times, KF_ref01_shortly, KF_ref01_divided, KF_ref01_common, KF_ref01_euclid, KF_ref01_Of, KF_ref01_Neg, KF_ref01_Add, KF_ref01_Mul, KF_ref01_DivMod, KF_ref01_Gcd, KF_ref01_Sign⟩
end Go.Ev

namespace Go.Ev
open Go Go.Pm Go.Proofs
set_option maxRecDepth 100000

def ovF : Nat → Option G := fun n => if n = n_slices_Clone_integer_nat_uint32 then some (g_clone false) else none
theorem ovF_ok : ∀ f g, ovF f = some g → FnOK Tryz.prog f g := by
  intro f g h
  unfold ovF at h
  split at h
  · rename_i e; subst e; cases h; exact ok_clone_nat hm_prog has_slices_Clone_integer_nat_uint32
  · cases h
def runF : Sem := evFn KF (fun f => (ovF f).map fun g _ => g) 80
theorem runF_ok : SemOK Tryz.prog runF := run_ok hm_prog KF_all ovF_ok 80

end Go.Ev

/- Answers on the way of a run, printed by a program of mine. -/
namespace Go.Ev
def mo (a b c : Nat) : List DV := [.i .i64 (Int.ofNat a), .i .i64 (Int.ofNat b), .i .i64 0, .i .i64 0, .i .i64 0, .i .i64 0, .i .i64 0, .i .i64 (Int.ofNat c)]
def tm (s : Bool) (w a b c : Nat) : List DV := [.b s, .sl 1 [.i .u32 (Int.ofNat w)], .b false, .sl 1 [.i .u32 1], .i .i64 (Int.ofNat a), .i .i64 (Int.ofNat b), .i .i64 0, .i .i64 0, .i .i64 0, .i .i64 0, .i .i64 0, .i .i64 (Int.ofNat c)]
def e0 : DV := .agg [.b false, .sl 0 [], .b false, .sl 1 [.i .u32 1]]
def e1 : DV := .agg [.b false, .sl 1 [.i .u32 1], .b false, .sl 1 [.i .u32 1]]
def e2 : DV := .agg [.b false, .sl 1 [.i .u32 2], .b false, .sl 1 [.i .u32 1]]
def e3 : DV := .agg [.b false, .sl 1 [.i .u32 3], .b false, .sl 1 [.i .u32 1]]
def e4 : DV := .agg [.b true, .sl 1 [.i .u32 1], .b false, .sl 1 [.i .u32 1]]
def e5 : DV := .agg [.b true, .sl 1 [.i .u32 2], .b false, .sl 1 [.i .u32 1]]
def e6 : DV := .agg [.b true, .sl 1 [.i .u32 3], .b false, .sl 1 [.i .u32 1]]
def e7 : DV := .agg [.b true, .sl 1 [.i .u32 4], .b false, .sl 1 [.i .u32 1]]
def q61_0 : Ans := [([e0], .i .i64 0),
  ([e1], .i .i64 1),
  ([e2], .i .i64 1),
  ([e3], .i .i64 1),
  ([e4], .i .i64 (-1)),
  ([e5], .i .i64 (-1)),
  ([e6], .i .i64 (-1)),
  ([e7], .i .i64 (-1))]
def q61 : Ans := q61_0
def q101_0 : Ans := [([e1], e4),
  ([e2], e5),
  ([e3], e6),
  ([e4], e1),
  ([e5], e2),
  ([e6], e3)]
def q101 : Ans := q101_0
def q100_0 : Ans := [([e1, e1], e0),
  ([e1, e4], e2),
  ([e2, e1], e1),
  ([e2, e2], e0),
  ([e3, e1], e2),
  ([e3, e3], e0),
  ([e4, e2], e6),
  ([e4, e3], e7),
  ([e4, e4], e0),
  ([e4, e6], e2),
  ([e5, e4], e4),
  ([e5, e5], e0),
  ([e6, e4], e5),
  ([e6, e6], e0),
  ([e7, e4], e6)]
def q100 : Ans := q100_0
def e8 : List DV := [.agg [.b false, .sl 1 [.i .u32 1]], .agg [.b false, .sl 1 [.i .u32 1]]]
def e9 : List DV := [.agg [.b false, .sl 1 [.i .u32 1]], .agg [.b true, .sl 1 [.i .u32 1]]]
def e10 : List DV := [.agg [.b false, .sl 1 [.i .u32 2]], .agg [.b false, .sl 1 [.i .u32 1]]]
def e11 : List DV := [.agg [.b false, .sl 1 [.i .u32 3]], .agg [.b false, .sl 1 [.i .u32 1]]]
def e12 : List DV := [.agg [.b true, .sl 1 [.i .u32 1]], .agg [.b false, .sl 1 [.i .u32 1]]]
def q108_0 : Ans := [(e8, .tup [e1, .i .i64 0]),
  (e9, .tup [e4, .i .i64 0]),
  (e10, .tup [e2, .i .i64 0]),
  (e11, .tup [e3, .i .i64 0]),
  (e12, .tup [e4, .i .i64 0])]
def q108 : Ans := q108_0
def q118_0 : Ans := [([e1], .tup [e1, .i .i64 0]),
  ([e4], .tup [e4, .i .i64 0])]
def q118 : Ans := q118_0
def q65_0 : Ans := [([e1, e1], .tup [e1, .i .i64 0]),
  ([e2, e1], .tup [e2, .i .i64 0]),
  ([e3, e1], .tup [e3, .i .i64 0]),
  ([e4, e1], .tup [e4, .i .i64 0])]
def q65 : Ans := q65_0
def e13 : List DV := [.agg [.b false, .sl 0 []], .agg [.b false, .sl 1 [.i .u32 1]]]
def e14 : List DV := [.agg [.b true, .sl 1 [.i .u32 2]], .agg [.b false, .sl 1 [.i .u32 1]]]
def q136_0 : Ans := [(e13, e0),
  (e8, e1),
  (e9, e4),
  (e10, e2),
  (e11, e3),
  (e12, e4),
  (e14, e5),
  ([.agg [.b true, .sl 1 [.i .u32 3]], .agg [.b false, .sl 1 [.i .u32 1]]], e6),
  ([.agg [.b true, .sl 1 [.i .u32 4]], .agg [.b false, .sl 1 [.i .u32 1]]], e7)]
def q136 : Ans := q136_0
def q110_0 : Ans := [([.agg (mo 0 0 0), .agg (mo 0 0 0)], .tup [.agg (mo 0 0 0), .i .i64 0]),
  ([.agg (mo 0 0 0), .agg (mo 0 0 1)], .tup [.agg (mo 0 0 1), .i .i64 0]),
  ([.agg (mo 0 0 0), .agg (mo 0 0 2)], .tup [.agg (mo 0 0 2), .i .i64 0]),
  ([.agg (mo 0 0 0), .agg (mo 0 0 3)], .tup [.agg (mo 0 0 3), .i .i64 0]),
  ([.agg (mo 0 0 0), .agg (mo 0 1 0)], .tup [.agg (mo 0 1 0), .i .i64 0]),
  ([.agg (mo 0 0 0), .agg (mo 0 1 1)], .tup [.agg (mo 0 1 1), .i .i64 0]),
  ([.agg (mo 0 0 0), .agg (mo 0 2 0)], .tup [.agg (mo 0 2 0), .i .i64 0]),
  ([.agg (mo 0 0 0), .agg (mo 1 0 0)], .tup [.agg (mo 1 0 0), .i .i64 0]),
  ([.agg (mo 0 0 0), .agg (mo 1 0 1)], .tup [.agg (mo 1 0 1), .i .i64 0]),
  ([.agg (mo 0 0 0), .agg (mo 1 0 2)], .tup [.agg (mo 1 0 2), .i .i64 0]),
  ([.agg (mo 0 0 0), .agg (mo 1 1 0)], .tup [.agg (mo 1 1 0), .i .i64 0]),
  ([.agg (mo 0 0 0), .agg (mo 1 1 1)], .tup [.agg (mo 1 1 1), .i .i64 0]),
  ([.agg (mo 0 0 0), .agg (mo 2 0 0)], .tup [.agg (mo 2 0 0), .i .i64 0]),
  ([.agg (mo 0 0 0), .agg (mo 2 0 1)], .tup [.agg (mo 2 0 1), .i .i64 0]),
  ([.agg (mo 0 0 0), .agg (mo 2 0 2)], .tup [.agg (mo 2 0 2), .i .i64 0]),
  ([.agg (mo 0 0 0), .agg (mo 2 1 0)], .tup [.agg (mo 2 1 0), .i .i64 0]),
  ([.agg (mo 0 0 0), .agg (mo 3 0 0)], .tup [.agg (mo 3 0 0), .i .i64 0]),
  ([.agg (mo 0 0 0), .agg (mo 3 0 1)], .tup [.agg (mo 3 0 1), .i .i64 0]),
  ([.agg (mo 0 0 1), .agg (mo 0 0 0)], .tup [.agg (mo 0 0 1), .i .i64 0]),
  ([.agg (mo 0 0 1), .agg (mo 0 0 1)], .tup [.agg (mo 0 0 2), .i .i64 0])]
def q110_1 : Ans := [([.agg (mo 0 0 1), .agg (mo 0 0 2)], .tup [.agg (mo 0 0 3), .i .i64 0]),
  ([.agg (mo 0 0 1), .agg (mo 0 1 0)], .tup [.agg (mo 0 1 1), .i .i64 0]),
  ([.agg (mo 0 0 1), .agg (mo 1 0 0)], .tup [.agg (mo 1 0 1), .i .i64 0]),
  ([.agg (mo 0 0 1), .agg (mo 1 0 1)], .tup [.agg (mo 1 0 2), .i .i64 0]),
  ([.agg (mo 0 0 1), .agg (mo 1 1 0)], .tup [.agg (mo 1 1 1), .i .i64 0]),
  ([.agg (mo 0 0 1), .agg (mo 2 0 0)], .tup [.agg (mo 2 0 1), .i .i64 0]),
  ([.agg (mo 0 0 1), .agg (mo 2 0 1)], .tup [.agg (mo 2 0 2), .i .i64 0]),
  ([.agg (mo 0 0 1), .agg (mo 2 1 0)], .tup [.agg (mo 2 1 1), .i .i64 0]),
  ([.agg (mo 0 0 1), .agg (mo 3 0 0)], .tup [.agg (mo 3 0 1), .i .i64 0]),
  ([.agg (mo 0 1 0), .agg (mo 0 0 0)], .tup [.agg (mo 0 1 0), .i .i64 0]),
  ([.agg (mo 0 1 0), .agg (mo 0 1 0)], .tup [.agg (mo 0 2 0), .i .i64 0]),
  ([.agg (mo 0 1 0), .agg (mo 1 0 0)], .tup [.agg (mo 1 1 0), .i .i64 0]),
  ([.agg (mo 0 1 0), .agg (mo 1 0 1)], .tup [.agg (mo 1 1 1), .i .i64 0]),
  ([.agg (mo 1 0 0), .agg (mo 0 0 0)], .tup [.agg (mo 1 0 0), .i .i64 0]),
  ([.agg (mo 1 0 0), .agg (mo 0 0 1)], .tup [.agg (mo 1 0 1), .i .i64 0]),
  ([.agg (mo 1 0 0), .agg (mo 0 0 2)], .tup [.agg (mo 1 0 2), .i .i64 0]),
  ([.agg (mo 1 0 0), .agg (mo 0 1 0)], .tup [.agg (mo 1 1 0), .i .i64 0]),
  ([.agg (mo 1 0 0), .agg (mo 0 1 1)], .tup [.agg (mo 1 1 1), .i .i64 0]),
  ([.agg (mo 1 0 0), .agg (mo 1 0 0)], .tup [.agg (mo 2 0 0), .i .i64 0]),
  ([.agg (mo 1 0 0), .agg (mo 1 0 1)], .tup [.agg (mo 2 0 1), .i .i64 0])]
def q110_2 : Ans := [([.agg (mo 1 0 0), .agg (mo 1 1 0)], .tup [.agg (mo 2 1 0), .i .i64 0]),
  ([.agg (mo 1 0 0), .agg (mo 1 1 1)], .tup [.agg (mo 2 1 1), .i .i64 0]),
  ([.agg (mo 1 0 0), .agg (mo 2 0 0)], .tup [.agg (mo 3 0 0), .i .i64 0]),
  ([.agg (mo 1 0 0), .agg (mo 2 0 1)], .tup [.agg (mo 3 0 1), .i .i64 0]),
  ([.agg (mo 1 1 0), .agg (mo 0 0 0)], .tup [.agg (mo 1 1 0), .i .i64 0]),
  ([.agg (mo 1 1 0), .agg (mo 1 0 0)], .tup [.agg (mo 2 1 0), .i .i64 0]),
  ([.agg (mo 1 1 0), .agg (mo 1 0 1)], .tup [.agg (mo 2 1 1), .i .i64 0]),
  ([.agg (mo 2 0 0), .agg (mo 0 0 0)], .tup [.agg (mo 2 0 0), .i .i64 0]),
  ([.agg (mo 2 0 0), .agg (mo 0 0 1)], .tup [.agg (mo 2 0 1), .i .i64 0]),
  ([.agg (mo 2 0 0), .agg (mo 1 0 0)], .tup [.agg (mo 3 0 0), .i .i64 0]),
  ([.agg (mo 2 0 0), .agg (mo 1 0 1)], .tup [.agg (mo 3 0 1), .i .i64 0])]
def q110 : Ans := q110_0 ++ q110_1 ++ q110_2
def q135_0 : Ans := [([.agg (mo 0 0 0), .agg (mo 0 0 0)], .i .i64 0),
  ([.agg (mo 0 0 0), .agg (mo 0 0 1)], .i .i64 (-1)),
  ([.agg (mo 0 0 0), .agg (mo 1 0 1)], .i .i64 (-1)),
  ([.agg (mo 0 0 0), .agg (mo 2 0 2)], .i .i64 (-1)),
  ([.agg (mo 0 0 1), .agg (mo 0 0 0)], .i .i64 1),
  ([.agg (mo 0 0 1), .agg (mo 0 0 1)], .i .i64 0),
  ([.agg (mo 0 0 1), .agg (mo 0 0 2)], .i .i64 (-1)),
  ([.agg (mo 0 0 1), .agg (mo 1 0 0)], .i .i64 (-1)),
  ([.agg (mo 0 0 1), .agg (mo 1 0 1)], .i .i64 (-1)),
  ([.agg (mo 0 0 1), .agg (mo 1 0 2)], .i .i64 (-1)),
  ([.agg (mo 0 0 1), .agg (mo 2 0 0)], .i .i64 (-1)),
  ([.agg (mo 0 0 1), .agg (mo 2 0 1)], .i .i64 (-1)),
  ([.agg (mo 0 0 1), .agg (mo 3 0 1)], .i .i64 (-1)),
  ([.agg (mo 0 0 2), .agg (mo 0 0 0)], .i .i64 1),
  ([.agg (mo 0 0 2), .agg (mo 0 0 1)], .i .i64 1),
  ([.agg (mo 0 0 2), .agg (mo 0 0 2)], .i .i64 0),
  ([.agg (mo 0 0 2), .agg (mo 1 0 0)], .i .i64 (-1)),
  ([.agg (mo 0 0 2), .agg (mo 1 0 1)], .i .i64 (-1)),
  ([.agg (mo 0 1 0), .agg (mo 0 1 0)], .i .i64 0),
  ([.agg (mo 0 1 0), .agg (mo 0 1 1)], .i .i64 (-1))]
def q135_1 : Ans := [([.agg (mo 0 1 0), .agg (mo 1 1 1)], .i .i64 (-1)),
  ([.agg (mo 0 1 1), .agg (mo 0 1 0)], .i .i64 1),
  ([.agg (mo 0 1 1), .agg (mo 0 1 1)], .i .i64 0),
  ([.agg (mo 0 2 0), .agg (mo 0 1 0)], .i .i64 1),
  ([.agg (mo 0 2 0), .agg (mo 0 2 0)], .i .i64 0),
  ([.agg (mo 0 2 0), .agg (mo 1 1 0)], .i .i64 (-1)),
  ([.agg (mo 1 0 0), .agg (mo 0 0 0)], .i .i64 1),
  ([.agg (mo 1 0 0), .agg (mo 0 0 1)], .i .i64 1),
  ([.agg (mo 1 0 0), .agg (mo 0 0 2)], .i .i64 1),
  ([.agg (mo 1 0 0), .agg (mo 0 1 0)], .i .i64 1),
  ([.agg (mo 1 0 0), .agg (mo 0 2 0)], .i .i64 1),
  ([.agg (mo 1 0 0), .agg (mo 1 0 0)], .i .i64 0),
  ([.agg (mo 1 0 0), .agg (mo 1 0 1)], .i .i64 (-1)),
  ([.agg (mo 1 0 0), .agg (mo 2 0 1)], .i .i64 (-1)),
  ([.agg (mo 1 0 1), .agg (mo 0 0 0)], .i .i64 1),
  ([.agg (mo 1 0 1), .agg (mo 0 0 1)], .i .i64 1),
  ([.agg (mo 1 0 1), .agg (mo 1 0 0)], .i .i64 1),
  ([.agg (mo 1 0 1), .agg (mo 1 0 1)], .i .i64 0),
  ([.agg (mo 1 0 2), .agg (mo 0 0 1)], .i .i64 1),
  ([.agg (mo 1 0 2), .agg (mo 0 0 2)], .i .i64 1)]
def q135_2 : Ans := [([.agg (mo 1 0 2), .agg (mo 1 0 2)], .i .i64 0),
  ([.agg (mo 1 0 2), .agg (mo 2 0 0)], .i .i64 (-1)),
  ([.agg (mo 1 1 0), .agg (mo 1 1 0)], .i .i64 0),
  ([.agg (mo 1 1 0), .agg (mo 2 1 1)], .i .i64 (-1)),
  ([.agg (mo 1 1 1), .agg (mo 1 1 1)], .i .i64 0),
  ([.agg (mo 2 0 0), .agg (mo 0 0 0)], .i .i64 1),
  ([.agg (mo 2 0 0), .agg (mo 0 0 1)], .i .i64 1),
  ([.agg (mo 2 0 0), .agg (mo 1 0 0)], .i .i64 1),
  ([.agg (mo 2 0 0), .agg (mo 1 0 1)], .i .i64 1),
  ([.agg (mo 2 0 0), .agg (mo 2 0 0)], .i .i64 0),
  ([.agg (mo 2 0 0), .agg (mo 3 0 1)], .i .i64 (-1)),
  ([.agg (mo 2 0 1), .agg (mo 0 0 0)], .i .i64 1),
  ([.agg (mo 2 0 1), .agg (mo 2 0 0)], .i .i64 1),
  ([.agg (mo 2 0 1), .agg (mo 2 0 1)], .i .i64 0),
  ([.agg (mo 2 1 0), .agg (mo 2 1 0)], .i .i64 0),
  ([.agg (mo 2 1 1), .agg (mo 2 1 1)], .i .i64 0),
  ([.agg (mo 3 0 0), .agg (mo 0 0 0)], .i .i64 1),
  ([.agg (mo 3 0 0), .agg (mo 2 0 0)], .i .i64 1),
  ([.agg (mo 3 0 0), .agg (mo 3 0 0)], .i .i64 0),
  ([.agg (mo 3 0 1), .agg (mo 0 0 0)], .i .i64 1)]
def q135_3 : Ans := [([.agg (mo 3 0 1), .agg (mo 2 0 0)], .i .i64 1),
  ([.agg (mo 3 0 1), .agg (mo 2 0 1)], .i .i64 1),
  ([.agg (mo 3 0 1), .agg (mo 3 0 1)], .i .i64 0)]
def q135 : Ans := q135_0 ++ q135_1 ++ q135_2 ++ q135_3
def e15 : List DV := ([.i .i64 1, .i .i64 1, .i .i64 1, .i .i64 1, .i .i64 1, .i .i64 1] ++ (mo 1 1 0 ++ ([.i .i64 0, .i .i64 (-1), .i .i64 0, .i .i64 0, .i .i64 0, .i .i64 0, .i .i64 0, .i .i64 0, .i .i64 (-1), .i .i64 0, .i .i64 0, .i .i64 0, .i .i64 0, .i .i64 0, .i .i64 0, .i .i64 (-1), .i .i64 0, .i .i64 0, .i .i64 0, .i .i64 0, .i .i64 0, .i .i64 0, .i .i64 (-1), .i .i64 0, .i .i64 0, .i .i64 0, .i .i64 0, .i .i64 0, .i .i64 0, .i .i64 (-1), .i .i64 0, .i .i64 0, .i .i64 0, .i .i64 0, .i .i64 0, .i .i64 0, .i .i64 (-1), .i .i64 0, .i .i64 0, .i .i64 0, .i .i64 0, .i .i64 0, .i .i64 0, .i .i64 (-1), .i .i64 0, .i .i64 0, .i .i64 0, .i .i64 0, .i .i64 0, .i .i64 0])))
def e16 : List DV := [.sl 8 e15, .agg (mo 0 0 0), .agg (mo 0 1 0)]
def e17 : List DV := [.sl 8 e15, .agg (mo 0 0 0), .agg (mo 1 0 0)]
def e18 : List DV := [.sl 8 e15, .agg (mo 0 0 0), .agg (mo 1 0 1)]
def e19 : List DV := [.sl 8 e15, .agg (mo 0 0 0), .agg (mo 2 0 0)]
def e20 : List DV := [.sl 8 e15, .agg (mo 0 0 0), .agg (mo 3 0 0)]
def e21 : List DV := [.sl 8 e15, .agg (mo 0 0 2), .agg (mo 0 1 0)]
def e22 : List DV := [.sl 8 e15, .agg (mo 0 0 2), .agg (mo 1 0 1)]
def e23 : List DV := [.sl 8 e15, .agg (mo 0 0 2), .agg (mo 2 0 0)]
def e24 : List DV := [.sl 8 e15, .agg (mo 0 0 2), .agg (mo 3 0 0)]
def e25 : List DV := [.sl 8 e15, .agg (mo 0 1 0), .agg (mo 1 0 0)]
def e26 : List DV := [.sl 8 e15, .agg (mo 0 1 0), .agg (mo 1 1 0)]
def e27 : List DV := [.sl 8 e15, .agg (mo 0 1 0), .agg (mo 3 0 0)]
def q159_0 : Ans := [([.sl 8 e15, .agg (mo 0 0 0), .agg (mo 0 0 1)], .i .i64 (-1)),
  ([.sl 8 e15, .agg (mo 0 0 0), .agg (mo 0 0 2)], .i .i64 (-1)),
  (e16, .i .i64 (-1)),
  (e17, .i .i64 (-1)),
  (e18, .i .i64 (-1)),
  (e19, .i .i64 (-1)),
  (e20, .i .i64 (-1)),
  ([.sl 8 e15, .agg (mo 0 0 1), .agg (mo 0 0 2)], .i .i64 (-1)),
  ([.sl 8 e15, .agg (mo 0 0 1), .agg (mo 1 0 0)], .i .i64 (-1)),
  ([.sl 8 e15, .agg (mo 0 0 1), .agg (mo 1 0 1)], .i .i64 (-1)),
  ([.sl 8 e15, .agg (mo 0 0 1), .agg (mo 2 0 0)], .i .i64 (-1)),
  (e21, .i .i64 1),
  ([.sl 8 e15, .agg (mo 0 0 2), .agg (mo 1 0 0)], .i .i64 1),
  (e22, .i .i64 (-1)),
  (e23, .i .i64 (-1)),
  (e24, .i .i64 (-1)),
  ([.sl 8 e15, .agg (mo 0 1 0), .agg (mo 0 2 0)], .i .i64 (-1)),
  (e25, .i .i64 (-1)),
  (e26, .i .i64 (-1)),
  (e27, .i .i64 (-1))]
def e28 : List DV := [.sl 8 e15, .agg (mo 0 1 2), .agg (mo 2 1 0)]
def e29 : List DV := [.sl 8 e15, .agg (mo 0 2 0), .agg (mo 1 0 0)]
def e30 : List DV := [.sl 8 e15, .agg (mo 0 2 0), .agg (mo 1 1 0)]
def e31 : List DV := [.sl 8 e15, .agg (mo 1 0 0), .agg (mo 0 1 0)]
def e32 : List DV := [.sl 8 e15, .agg (mo 1 0 0), .agg (mo 1 0 1)]
def e33 : List DV := [.sl 8 e15, .agg (mo 1 0 0), .agg (mo 2 0 0)]
def e34 : List DV := [.sl 8 e15, .agg (mo 1 0 0), .agg (mo 3 0 0)]
def e35 : List DV := [.sl 8 e15, .agg (mo 1 0 1), .agg (mo 0 1 0)]
def e36 : List DV := [.sl 8 e15, .agg (mo 1 0 1), .agg (mo 1 1 0)]
def e37 : List DV := [.sl 8 e15, .agg (mo 1 0 1), .agg (mo 3 0 0)]
def e38 : List DV := [.sl 8 e15, .agg (mo 1 0 2), .agg (mo 0 1 2)]
def e39 : List DV := [.sl 8 e15, .agg (mo 1 0 2), .agg (mo 2 1 0)]
def e40 : List DV := [.sl 8 e15, .agg (mo 1 1 0), .agg (mo 1 0 0)]
def e41 : List DV := [.sl 8 e15, .agg (mo 1 1 0), .agg (mo 2 1 0)]
def e42 : List DV := [.sl 8 e15, .agg (mo 1 1 1), .agg (mo 3 0 1)]
def e43 : List DV := [.sl 8 e15, .agg (mo 1 2 0), .agg (mo 1 2 0)]
def e44 : List DV := [.sl 8 e15, .agg (mo 2 0 0), .agg (mo 0 1 0)]
def e45 : List DV := [.sl 8 e15, .agg (mo 2 0 0), .agg (mo 1 0 1)]
def q159_1 : Ans := [(e28, .i .i64 (-1)),
  (e29, .i .i64 1),
  (e30, .i .i64 (-1)),
  ([.sl 8 e15, .agg (mo 0 2 0), .agg (mo 2 0 0)], .i .i64 (-1)),
  (e31, .i .i64 1),
  (e32, .i .i64 (-1)),
  (e33, .i .i64 (-1)),
  (e34, .i .i64 (-1)),
  (e35, .i .i64 1),
  (e36, .i .i64 (-1)),
  ([.sl 8 e15, .agg (mo 1 0 1), .agg (mo 2 0 0)], .i .i64 (-1)),
  (e37, .i .i64 (-1)),
  (e38, .i .i64 1),
  (e39, .i .i64 (-1)),
  (e40, .i .i64 1),
  (e41, .i .i64 (-1)),
  (e42, .i .i64 (-1)),
  (e43, .i .i64 0),
  (e44, .i .i64 1),
  (e45, .i .i64 1)]
def e46 : List DV := [.sl 8 e15, .agg (mo 2 0 0), .agg (mo 1 1 0)]
def e47 : List DV := [.sl 8 e15, .agg (mo 2 0 0), .agg (mo 2 0 0)]
def e48 : List DV := [.sl 8 e15, .agg (mo 2 0 0), .agg (mo 2 1 0)]
def e49 : List DV := [.sl 8 e15, .agg (mo 2 0 0), .agg (mo 3 0 0)]
def e50 : List DV := [.sl 8 e15, .agg (mo 2 0 1), .agg (mo 2 1 0)]
def e51 : List DV := [.sl 8 e15, .agg (mo 2 0 2), .agg (mo 0 1 2)]
def e52 : List DV := [.sl 8 e15, .agg (mo 2 0 2), .agg (mo 1 0 2)]
def e53 : List DV := [.sl 8 e15, .agg (mo 2 0 2), .agg (mo 2 1 0)]
def e54 : List DV := [.sl 8 e15, .agg (mo 2 0 2), .agg (mo 3 0 0)]
def e55 : List DV := [.sl 8 e15, .agg (mo 2 0 2), .agg (mo 3 1 0)]
def e56 : List DV := [.sl 8 e15, .agg (mo 2 1 0), .agg (mo 3 0 0)]
def e57 : List DV := [.sl 8 e15, .agg (mo 3 0 0), .agg (mo 1 1 0)]
def e58 : List DV := [.sl 8 e15, .agg (mo 3 0 0), .agg (mo 2 0 0)]
def e59 : List DV := [.sl 8 e15, .agg (mo 3 0 0), .agg (mo 2 1 0)]
def e60 : List DV := [.sl 8 e15, .agg (mo 3 0 0), .agg (mo 3 0 0)]
def e61 : List DV := [.sl 8 e15, .agg (mo 3 0 0), .agg (mo 3 1 0)]
def e62 : List DV := [.sl 8 e15, .agg (mo 3 0 1), .agg (mo 3 1 0)]
def e63 : List DV := [.sl 8 e15, .agg (mo 3 0 2), .agg (mo 2 1 0)]
def e64 : List DV := [.sl 8 e15, .agg (mo 3 0 2), .agg (mo 3 0 0)]
def q159_2 : Ans := [(e46, .i .i64 1),
  (e47, .i .i64 0),
  ([.sl 8 e15, .agg (mo 2 0 0), .agg (mo 2 0 1)], .i .i64 (-1)),
  (e48, .i .i64 (-1)),
  (e49, .i .i64 (-1)),
  (e50, .i .i64 (-1)),
  (e51, .i .i64 1),
  (e52, .i .i64 1),
  (e53, .i .i64 1),
  (e54, .i .i64 1),
  (e55, .i .i64 (-1)),
  (e56, .i .i64 (-1)),
  (e57, .i .i64 1),
  (e58, .i .i64 1),
  (e59, .i .i64 1),
  (e60, .i .i64 0),
  (e61, .i .i64 (-1)),
  (e62, .i .i64 (-1)),
  (e63, .i .i64 1),
  (e64, .i .i64 1)]
def e65 : List DV := [.sl 8 e15, .agg (mo 3 0 2), .agg (mo 3 1 0)]
def e66 : DV := .sl 9 (mo 0 0 1 ++ ([.i .i64 1, .i .i64 1, .i .i64 1, .i .i64 1, .i .i64 1, .i .i64 1] ++ (mo 1 1 0 ++ ([.i .i64 0, .i .i64 (-1), .i .i64 0, .i .i64 0, .i .i64 0, .i .i64 0, .i .i64 0, .i .i64 0, .i .i64 (-1), .i .i64 0, .i .i64 0, .i .i64 0, .i .i64 0, .i .i64 0, .i .i64 0, .i .i64 (-1), .i .i64 0, .i .i64 0, .i .i64 0, .i .i64 0, .i .i64 0, .i .i64 0, .i .i64 (-1), .i .i64 0, .i .i64 0, .i .i64 0, .i .i64 0, .i .i64 0, .i .i64 0, .i .i64 (-1), .i .i64 0, .i .i64 0, .i .i64 0, .i .i64 0, .i .i64 0, .i .i64 0, .i .i64 (-1), .i .i64 0, .i .i64 0, .i .i64 0, .i .i64 0, .i .i64 0, .i .i64 0, .i .i64 (-1), .i .i64 0, .i .i64 0, .i .i64 0, .i .i64 0, .i .i64 0, .i .i64 0]))))
def e67 : DV := .sl 9 (mo 1 0 0 ++ ([.i .i64 1, .i .i64 1, .i .i64 1, .i .i64 1, .i .i64 1, .i .i64 1] ++ (mo 1 1 0 ++ ([.i .i64 0, .i .i64 (-1), .i .i64 0, .i .i64 0, .i .i64 0, .i .i64 0, .i .i64 0, .i .i64 0, .i .i64 (-1), .i .i64 0, .i .i64 0, .i .i64 0, .i .i64 0, .i .i64 0, .i .i64 0, .i .i64 (-1), .i .i64 0, .i .i64 0, .i .i64 0, .i .i64 0, .i .i64 0, .i .i64 0, .i .i64 (-1), .i .i64 0, .i .i64 0, .i .i64 0, .i .i64 0, .i .i64 0, .i .i64 0, .i .i64 (-1), .i .i64 0, .i .i64 0, .i .i64 0, .i .i64 0, .i .i64 0, .i .i64 0, .i .i64 (-1), .i .i64 0, .i .i64 0, .i .i64 0, .i .i64 0, .i .i64 0, .i .i64 0, .i .i64 (-1), .i .i64 0, .i .i64 0, .i .i64 0, .i .i64 0, .i .i64 0, .i .i64 0]))))
def q159_3 : Ans := [(e65, .i .i64 1),
  ([e66, .agg (mo 0 0 0), .agg (mo 1 0 0)], .i .i64 (-1)),
  ([e66, .agg (mo 0 0 0), .agg (mo 1 0 1)], .i .i64 (-1)),
  ([e66, .agg (mo 0 1 0), .agg (mo 0 1 1)], .i .i64 (-1)),
  ([e66, .agg (mo 0 1 0), .agg (mo 1 0 1)], .i .i64 (-1)),
  ([e66, .agg (mo 0 1 0), .agg (mo 1 1 0)], .i .i64 (-1)),
  ([e66, .agg (mo 0 1 0), .agg (mo 2 1 0)], .i .i64 (-1)),
  ([e66, .agg (mo 0 1 1), .agg (mo 1 0 1)], .i .i64 (-1)),
  ([e66, .agg (mo 1 0 0), .agg (mo 1 0 1)], .i .i64 (-1)),
  ([e66, .agg (mo 1 0 1), .agg (mo 1 1 1)], .i .i64 (-1)),
  ([e66, .agg (mo 1 0 1), .agg (mo 2 1 0)], .i .i64 1),
  ([e66, .agg (mo 1 1 0), .agg (mo 0 1 1)], .i .i64 (-1)),
  ([e66, .agg (mo 1 1 0), .agg (mo 1 0 1)], .i .i64 (-1)),
  ([e66, .agg (mo 1 1 0), .agg (mo 1 1 1)], .i .i64 (-1)),
  ([e66, .agg (mo 1 1 0), .agg (mo 2 1 0)], .i .i64 (-1)),
  ([e66, .agg (mo 1 1 1), .agg (mo 1 1 1)], .i .i64 0),
  ([e66, .agg (mo 1 1 1), .agg (mo 2 1 0)], .i .i64 1),
  ([e67, .agg (mo 0 1 0), .agg (mo 0 2 0)], .i .i64 (-1)),
  ([e67, .agg (mo 0 1 0), .agg (mo 1 0 0)], .i .i64 (-1)),
  ([e67, .agg (mo 0 2 0), .agg (mo 1 0 0)], .i .i64 (-1))]
def q159_4 : Ans := [([e67, .agg (mo 1 0 0), .agg (mo 1 0 0)], .i .i64 0),
  ([e67, .agg (mo 1 2 0), .agg (mo 1 2 0)], .i .i64 0)]
def q159 : Ans := q159_0 ++ q159_1 ++ q159_2 ++ q159_3 ++ q159_4
def q105_0 : Ans := [([.agg (mo 0 0 0), .agg (mo 0 0 0)], .b true),
  ([.agg (mo 0 0 0), .agg (mo 0 1 0)], .b true),
  ([.agg (mo 0 0 0), .agg (mo 1 0 0)], .b true),
  ([.agg (mo 0 0 0), .agg (mo 1 0 1)], .b true),
  ([.agg (mo 0 0 0), .agg (mo 2 0 0)], .b true),
  ([.agg (mo 0 0 0), .agg (mo 3 0 0)], .b true),
  ([.agg (mo 0 0 2), .agg (mo 0 0 0)], .b false),
  ([.agg (mo 0 0 2), .agg (mo 0 0 1)], .b false),
  ([.agg (mo 0 0 2), .agg (mo 0 0 2)], .b true),
  ([.agg (mo 0 0 2), .agg (mo 0 1 0)], .b false),
  ([.agg (mo 0 0 2), .agg (mo 1 0 0)], .b false),
  ([.agg (mo 0 0 2), .agg (mo 1 0 1)], .b false),
  ([.agg (mo 0 0 2), .agg (mo 1 0 2)], .b true),
  ([.agg (mo 0 0 2), .agg (mo 2 0 0)], .b false),
  ([.agg (mo 0 0 2), .agg (mo 3 0 0)], .b false),
  ([.agg (mo 0 1 0), .agg (mo 0 0 0)], .b false),
  ([.agg (mo 0 1 0), .agg (mo 0 0 1)], .b false),
  ([.agg (mo 0 1 0), .agg (mo 0 0 2)], .b false),
  ([.agg (mo 0 1 0), .agg (mo 0 1 0)], .b true),
  ([.agg (mo 0 1 0), .agg (mo 1 0 0)], .b false)]
def q105_1 : Ans := [([.agg (mo 0 1 0), .agg (mo 1 0 1)], .b false),
  ([.agg (mo 0 1 0), .agg (mo 1 0 2)], .b false),
  ([.agg (mo 0 1 0), .agg (mo 1 1 0)], .b true),
  ([.agg (mo 0 1 0), .agg (mo 2 0 0)], .b false),
  ([.agg (mo 0 1 0), .agg (mo 2 0 1)], .b false),
  ([.agg (mo 0 1 0), .agg (mo 2 1 0)], .b true),
  ([.agg (mo 0 1 0), .agg (mo 3 0 0)], .b false),
  ([.agg (mo 0 1 0), .agg (mo 3 0 1)], .b false),
  ([.agg (mo 0 1 1), .agg (mo 1 0 1)], .b false),
  ([.agg (mo 0 1 1), .agg (mo 1 1 0)], .b false),
  ([.agg (mo 0 1 1), .agg (mo 1 1 1)], .b true),
  ([.agg (mo 0 2 0), .agg (mo 0 1 0)], .b false),
  ([.agg (mo 0 2 0), .agg (mo 0 2 0)], .b true),
  ([.agg (mo 0 2 0), .agg (mo 1 0 0)], .b false),
  ([.agg (mo 1 0 0), .agg (mo 0 0 0)], .b false),
  ([.agg (mo 1 0 0), .agg (mo 0 1 0)], .b false),
  ([.agg (mo 1 0 0), .agg (mo 0 2 0)], .b false),
  ([.agg (mo 1 0 0), .agg (mo 1 0 0)], .b true),
  ([.agg (mo 1 0 0), .agg (mo 1 0 1)], .b true),
  ([.agg (mo 1 0 0), .agg (mo 1 1 0)], .b true)]
def q105_2 : Ans := [([.agg (mo 1 0 0), .agg (mo 1 2 0)], .b true),
  ([.agg (mo 1 0 0), .agg (mo 2 0 0)], .b true),
  ([.agg (mo 1 0 0), .agg (mo 3 0 0)], .b true),
  ([.agg (mo 1 0 1), .agg (mo 0 0 0)], .b false),
  ([.agg (mo 1 0 1), .agg (mo 0 0 1)], .b false),
  ([.agg (mo 1 0 1), .agg (mo 0 0 2)], .b false),
  ([.agg (mo 1 0 1), .agg (mo 0 1 0)], .b false),
  ([.agg (mo 1 0 1), .agg (mo 0 1 1)], .b false),
  ([.agg (mo 1 0 1), .agg (mo 1 0 0)], .b false),
  ([.agg (mo 1 0 1), .agg (mo 1 0 1)], .b true),
  ([.agg (mo 1 0 1), .agg (mo 1 0 2)], .b true),
  ([.agg (mo 1 0 1), .agg (mo 1 1 0)], .b false),
  ([.agg (mo 1 0 1), .agg (mo 1 1 1)], .b true),
  ([.agg (mo 1 0 1), .agg (mo 2 0 0)], .b false),
  ([.agg (mo 1 0 1), .agg (mo 2 0 1)], .b true),
  ([.agg (mo 1 0 1), .agg (mo 2 1 0)], .b false),
  ([.agg (mo 1 0 1), .agg (mo 2 1 1)], .b true),
  ([.agg (mo 1 0 1), .agg (mo 3 0 0)], .b false),
  ([.agg (mo 1 0 1), .agg (mo 3 0 1)], .b true),
  ([.agg (mo 1 1 0), .agg (mo 0 1 0)], .b false)]
def q105_3 : Ans := [([.agg (mo 1 1 0), .agg (mo 0 1 1)], .b false),
  ([.agg (mo 1 1 0), .agg (mo 0 2 0)], .b false),
  ([.agg (mo 1 1 0), .agg (mo 1 0 0)], .b false),
  ([.agg (mo 1 1 0), .agg (mo 1 0 1)], .b false),
  ([.agg (mo 1 1 0), .agg (mo 1 1 0)], .b true),
  ([.agg (mo 1 1 0), .agg (mo 1 1 1)], .b true),
  ([.agg (mo 1 1 0), .agg (mo 2 1 0)], .b true),
  ([.agg (mo 1 1 1), .agg (mo 1 1 0)], .b false),
  ([.agg (mo 1 1 1), .agg (mo 1 1 1)], .b true),
  ([.agg (mo 2 0 0), .agg (mo 0 0 0)], .b false),
  ([.agg (mo 2 0 0), .agg (mo 0 0 1)], .b false),
  ([.agg (mo 2 0 0), .agg (mo 0 0 2)], .b false),
  ([.agg (mo 2 0 0), .agg (mo 0 1 0)], .b false),
  ([.agg (mo 2 0 0), .agg (mo 1 0 0)], .b false),
  ([.agg (mo 2 0 0), .agg (mo 1 0 1)], .b false),
  ([.agg (mo 2 0 0), .agg (mo 1 0 2)], .b false),
  ([.agg (mo 2 0 0), .agg (mo 2 0 0)], .b true),
  ([.agg (mo 2 0 0), .agg (mo 2 0 1)], .b true),
  ([.agg (mo 2 0 0), .agg (mo 3 0 0)], .b true),
  ([.agg (mo 2 1 0), .agg (mo 0 1 0)], .b false)]
def q105_4 : Ans := [([.agg (mo 2 1 0), .agg (mo 1 1 0)], .b false),
  ([.agg (mo 2 1 0), .agg (mo 1 1 1)], .b false),
  ([.agg (mo 2 1 0), .agg (mo 2 1 0)], .b true),
  ([.agg (mo 2 1 0), .agg (mo 2 1 1)], .b true),
  ([.agg (mo 3 0 0), .agg (mo 0 0 0)], .b false),
  ([.agg (mo 3 0 0), .agg (mo 0 0 1)], .b false),
  ([.agg (mo 3 0 0), .agg (mo 0 0 2)], .b false),
  ([.agg (mo 3 0 0), .agg (mo 0 1 0)], .b false),
  ([.agg (mo 3 0 0), .agg (mo 1 0 0)], .b false),
  ([.agg (mo 3 0 0), .agg (mo 1 0 1)], .b false),
  ([.agg (mo 3 0 0), .agg (mo 1 0 2)], .b false),
  ([.agg (mo 3 0 0), .agg (mo 2 0 0)], .b false),
  ([.agg (mo 3 0 0), .agg (mo 2 0 1)], .b false),
  ([.agg (mo 3 0 0), .agg (mo 3 0 0)], .b true),
  ([.agg (mo 3 0 0), .agg (mo 3 0 1)], .b true)]
def q105 : Ans := q105_0 ++ q105_1 ++ q105_2 ++ q105_3 ++ q105_4
def q64_0 : Ans := [([.agg (mo 0 0 0), .agg (mo 0 0 0)], .tup [.agg (mo 0 0 0), .b true]),
  ([.agg (mo 0 0 2), .agg (mo 0 0 2)], .tup [.agg (mo 0 0 0), .b true]),
  ([.agg (mo 0 1 0), .agg (mo 0 1 0)], .tup [.agg (mo 0 0 0), .b true]),
  ([.agg (mo 0 2 0), .agg (mo 0 2 0)], .tup [.agg (mo 0 0 0), .b true]),
  ([.agg (mo 1 0 0), .agg (mo 1 0 0)], .tup [.agg (mo 0 0 0), .b true]),
  ([.agg (mo 1 0 1), .agg (mo 1 0 0)], .tup [.agg (mo 0 0 1), .b true]),
  ([.agg (mo 1 0 1), .agg (mo 1 0 1)], .tup [.agg (mo 0 0 0), .b true]),
  ([.agg (mo 1 0 2), .agg (mo 0 0 2)], .tup [.agg (mo 1 0 0), .b true]),
  ([.agg (mo 1 0 2), .agg (mo 1 0 1)], .tup [.agg (mo 0 0 1), .b true]),
  ([.agg (mo 1 1 0), .agg (mo 0 1 0)], .tup [.agg (mo 1 0 0), .b true]),
  ([.agg (mo 1 1 0), .agg (mo 1 0 0)], .tup [.agg (mo 0 1 0), .b true]),
  ([.agg (mo 1 1 0), .agg (mo 1 1 0)], .tup [.agg (mo 0 0 0), .b true]),
  ([.agg (mo 1 1 1), .agg (mo 0 1 1)], .tup [.agg (mo 1 0 0), .b true]),
  ([.agg (mo 1 1 1), .agg (mo 1 0 1)], .tup [.agg (mo 0 1 0), .b true]),
  ([.agg (mo 1 1 1), .agg (mo 1 1 0)], .tup [.agg (mo 0 0 1), .b true]),
  ([.agg (mo 1 1 1), .agg (mo 1 1 1)], .tup [.agg (mo 0 0 0), .b true]),
  ([.agg (mo 2 0 0), .agg (mo 1 0 0)], .tup [.agg (mo 1 0 0), .b true]),
  ([.agg (mo 2 0 0), .agg (mo 2 0 0)], .tup [.agg (mo 0 0 0), .b true]),
  ([.agg (mo 2 0 1), .agg (mo 1 0 1)], .tup [.agg (mo 1 0 0), .b true]),
  ([.agg (mo 2 0 1), .agg (mo 2 0 0)], .tup [.agg (mo 0 0 1), .b true])]
def q64_1 : Ans := [([.agg (mo 2 1 0), .agg (mo 1 1 0)], .tup [.agg (mo 1 0 0), .b true]),
  ([.agg (mo 2 1 0), .agg (mo 2 1 0)], .tup [.agg (mo 0 0 0), .b true]),
  ([.agg (mo 2 1 1), .agg (mo 1 0 1)], .tup [.agg (mo 1 1 0), .b true]),
  ([.agg (mo 2 1 1), .agg (mo 2 1 0)], .tup [.agg (mo 0 0 1), .b true]),
  ([.agg (mo 3 0 0), .agg (mo 2 0 0)], .tup [.agg (mo 1 0 0), .b true]),
  ([.agg (mo 3 0 0), .agg (mo 3 0 0)], .tup [.agg (mo 0 0 0), .b true]),
  ([.agg (mo 3 0 1), .agg (mo 1 0 1)], .tup [.agg (mo 2 0 0), .b true]),
  ([.agg (mo 3 0 1), .agg (mo 3 0 0)], .tup [.agg (mo 0 0 1), .b true])]
def q64 : Ans := q64_0 ++ q64_1
def q116_0 : Ans := [([.agg (mo 0 1 0), .agg (mo 0 0 0)], .agg (mo 0 1 0)),
  ([.agg (mo 0 1 0), .agg (mo 0 0 2)], .agg (mo 0 1 2)),
  ([.agg (mo 0 1 0), .agg (mo 1 0 0)], .agg (mo 1 1 0)),
  ([.agg (mo 0 1 0), .agg (mo 1 0 1)], .agg (mo 1 1 1)),
  ([.agg (mo 0 1 0), .agg (mo 2 0 0)], .agg (mo 2 1 0)),
  ([.agg (mo 0 1 1), .agg (mo 1 1 0)], .agg (mo 1 1 1)),
  ([.agg (mo 1 0 0), .agg (mo 0 0 0)], .agg (mo 1 0 0)),
  ([.agg (mo 1 0 0), .agg (mo 0 1 0)], .agg (mo 1 1 0)),
  ([.agg (mo 1 0 0), .agg (mo 0 2 0)], .agg (mo 1 2 0)),
  ([.agg (mo 1 0 0), .agg (mo 1 0 0)], .agg (mo 1 0 0)),
  ([.agg (mo 1 0 0), .agg (mo 1 1 0)], .agg (mo 1 1 0)),
  ([.agg (mo 1 0 1), .agg (mo 0 0 0)], .agg (mo 1 0 1)),
  ([.agg (mo 1 0 1), .agg (mo 0 0 2)], .agg (mo 1 0 2)),
  ([.agg (mo 1 0 1), .agg (mo 0 1 0)], .agg (mo 1 1 1)),
  ([.agg (mo 1 0 1), .agg (mo 0 1 1)], .agg (mo 1 1 1)),
  ([.agg (mo 1 0 1), .agg (mo 1 0 0)], .agg (mo 1 0 1)),
  ([.agg (mo 1 0 1), .agg (mo 1 1 0)], .agg (mo 1 1 1)),
  ([.agg (mo 1 0 1), .agg (mo 2 0 0)], .agg (mo 2 0 1)),
  ([.agg (mo 1 1 0), .agg (mo 0 1 0)], .agg (mo 1 1 0)),
  ([.agg (mo 1 1 0), .agg (mo 0 2 0)], .agg (mo 1 2 0))]
def q116_1 : Ans := [([.agg (mo 1 1 1), .agg (mo 1 0 1)], .agg (mo 1 1 1)),
  ([.agg (mo 1 1 1), .agg (mo 1 1 0)], .agg (mo 1 1 1)),
  ([.agg (mo 2 0 0), .agg (mo 0 0 0)], .agg (mo 2 0 0)),
  ([.agg (mo 2 0 0), .agg (mo 0 0 2)], .agg (mo 2 0 2)),
  ([.agg (mo 2 0 0), .agg (mo 1 0 0)], .agg (mo 2 0 0)),
  ([.agg (mo 2 1 0), .agg (mo 0 1 0)], .agg (mo 2 1 0)),
  ([.agg (mo 2 1 0), .agg (mo 1 0 1)], .agg (mo 2 1 1)),
  ([.agg (mo 2 1 0), .agg (mo 1 1 0)], .agg (mo 2 1 0)),
  ([.agg (mo 3 0 0), .agg (mo 0 0 0)], .agg (mo 3 0 0)),
  ([.agg (mo 3 0 0), .agg (mo 0 0 2)], .agg (mo 3 0 2)),
  ([.agg (mo 3 0 0), .agg (mo 0 1 0)], .agg (mo 3 1 0)),
  ([.agg (mo 3 0 0), .agg (mo 1 0 0)], .agg (mo 3 0 0)),
  ([.agg (mo 3 0 0), .agg (mo 1 0 1)], .agg (mo 3 0 1)),
  ([.agg (mo 3 0 0), .agg (mo 2 0 0)], .agg (mo 3 0 0))]
def q116 : Ans := q116_0 ++ q116_1
def q150_0 : Ans := [([.agg (mo 0 0 0), .agg (mo 0 0 0)], .agg (mo 0 0 0)),
  ([.agg (mo 0 0 0), .agg (mo 0 1 0)], .agg (mo 0 0 0)),
  ([.agg (mo 0 0 0), .agg (mo 1 0 0)], .agg (mo 0 0 0)),
  ([.agg (mo 0 0 0), .agg (mo 1 0 1)], .agg (mo 0 0 0)),
  ([.agg (mo 0 0 0), .agg (mo 2 0 0)], .agg (mo 0 0 0)),
  ([.agg (mo 0 0 0), .agg (mo 3 0 0)], .agg (mo 0 0 0)),
  ([.agg (mo 0 0 2), .agg (mo 0 0 0)], .agg (mo 0 0 0)),
  ([.agg (mo 0 0 2), .agg (mo 0 0 1)], .agg (mo 0 0 1)),
  ([.agg (mo 0 0 2), .agg (mo 0 0 2)], .agg (mo 0 0 2)),
  ([.agg (mo 0 0 2), .agg (mo 0 1 0)], .agg (mo 0 0 0)),
  ([.agg (mo 0 0 2), .agg (mo 1 0 0)], .agg (mo 0 0 0)),
  ([.agg (mo 0 0 2), .agg (mo 1 0 1)], .agg (mo 0 0 1)),
  ([.agg (mo 0 0 2), .agg (mo 1 0 2)], .agg (mo 0 0 2)),
  ([.agg (mo 0 0 2), .agg (mo 2 0 0)], .agg (mo 0 0 0)),
  ([.agg (mo 0 0 2), .agg (mo 3 0 0)], .agg (mo 0 0 0)),
  ([.agg (mo 0 1 0), .agg (mo 0 0 0)], .agg (mo 0 0 0)),
  ([.agg (mo 0 1 0), .agg (mo 0 0 1)], .agg (mo 0 0 0)),
  ([.agg (mo 0 1 0), .agg (mo 0 0 2)], .agg (mo 0 0 0)),
  ([.agg (mo 0 1 0), .agg (mo 0 1 0)], .agg (mo 0 1 0)),
  ([.agg (mo 0 1 0), .agg (mo 1 0 0)], .agg (mo 0 0 0))]
def q150_1 : Ans := [([.agg (mo 0 1 0), .agg (mo 1 0 1)], .agg (mo 0 0 0)),
  ([.agg (mo 0 1 0), .agg (mo 1 0 2)], .agg (mo 0 0 0)),
  ([.agg (mo 0 1 0), .agg (mo 1 1 0)], .agg (mo 0 1 0)),
  ([.agg (mo 0 1 0), .agg (mo 2 0 0)], .agg (mo 0 0 0)),
  ([.agg (mo 0 1 0), .agg (mo 2 0 1)], .agg (mo 0 0 0)),
  ([.agg (mo 0 1 0), .agg (mo 2 1 0)], .agg (mo 0 1 0)),
  ([.agg (mo 0 1 0), .agg (mo 3 0 0)], .agg (mo 0 0 0)),
  ([.agg (mo 0 1 0), .agg (mo 3 0 1)], .agg (mo 0 0 0)),
  ([.agg (mo 0 1 1), .agg (mo 1 0 1)], .agg (mo 0 0 1)),
  ([.agg (mo 0 1 1), .agg (mo 1 1 0)], .agg (mo 0 1 0)),
  ([.agg (mo 0 1 1), .agg (mo 1 1 1)], .agg (mo 0 1 1)),
  ([.agg (mo 0 2 0), .agg (mo 0 1 0)], .agg (mo 0 1 0)),
  ([.agg (mo 0 2 0), .agg (mo 0 2 0)], .agg (mo 0 2 0)),
  ([.agg (mo 0 2 0), .agg (mo 1 0 0)], .agg (mo 0 0 0)),
  ([.agg (mo 1 0 0), .agg (mo 0 0 0)], .agg (mo 0 0 0)),
  ([.agg (mo 1 0 0), .agg (mo 0 1 0)], .agg (mo 0 0 0)),
  ([.agg (mo 1 0 0), .agg (mo 0 2 0)], .agg (mo 0 0 0)),
  ([.agg (mo 1 0 0), .agg (mo 1 0 0)], .agg (mo 1 0 0)),
  ([.agg (mo 1 0 0), .agg (mo 1 0 1)], .agg (mo 1 0 0)),
  ([.agg (mo 1 0 0), .agg (mo 1 1 0)], .agg (mo 1 0 0))]
def q150_2 : Ans := [([.agg (mo 1 0 0), .agg (mo 1 2 0)], .agg (mo 1 0 0)),
  ([.agg (mo 1 0 0), .agg (mo 2 0 0)], .agg (mo 1 0 0)),
  ([.agg (mo 1 0 0), .agg (mo 3 0 0)], .agg (mo 1 0 0)),
  ([.agg (mo 1 0 1), .agg (mo 0 0 0)], .agg (mo 0 0 0)),
  ([.agg (mo 1 0 1), .agg (mo 0 0 1)], .agg (mo 0 0 1)),
  ([.agg (mo 1 0 1), .agg (mo 0 0 2)], .agg (mo 0 0 1)),
  ([.agg (mo 1 0 1), .agg (mo 0 1 0)], .agg (mo 0 0 0)),
  ([.agg (mo 1 0 1), .agg (mo 0 1 1)], .agg (mo 0 0 1)),
  ([.agg (mo 1 0 1), .agg (mo 1 0 0)], .agg (mo 1 0 0)),
  ([.agg (mo 1 0 1), .agg (mo 1 0 1)], .agg (mo 1 0 1)),
  ([.agg (mo 1 0 1), .agg (mo 1 0 2)], .agg (mo 1 0 1)),
  ([.agg (mo 1 0 1), .agg (mo 1 1 0)], .agg (mo 1 0 0)),
  ([.agg (mo 1 0 1), .agg (mo 1 1 1)], .agg (mo 1 0 1)),
  ([.agg (mo 1 0 1), .agg (mo 2 0 0)], .agg (mo 1 0 0)),
  ([.agg (mo 1 0 1), .agg (mo 2 0 1)], .agg (mo 1 0 1)),
  ([.agg (mo 1 0 1), .agg (mo 2 1 0)], .agg (mo 1 0 0)),
  ([.agg (mo 1 0 1), .agg (mo 2 1 1)], .agg (mo 1 0 1)),
  ([.agg (mo 1 0 1), .agg (mo 3 0 0)], .agg (mo 1 0 0)),
  ([.agg (mo 1 0 1), .agg (mo 3 0 1)], .agg (mo 1 0 1)),
  ([.agg (mo 1 1 0), .agg (mo 0 1 0)], .agg (mo 0 1 0))]
def q150_3 : Ans := [([.agg (mo 1 1 0), .agg (mo 0 1 1)], .agg (mo 0 1 0)),
  ([.agg (mo 1 1 0), .agg (mo 0 2 0)], .agg (mo 0 1 0)),
  ([.agg (mo 1 1 0), .agg (mo 1 0 0)], .agg (mo 1 0 0)),
  ([.agg (mo 1 1 0), .agg (mo 1 0 1)], .agg (mo 1 0 0)),
  ([.agg (mo 1 1 0), .agg (mo 1 1 0)], .agg (mo 1 1 0)),
  ([.agg (mo 1 1 0), .agg (mo 1 1 1)], .agg (mo 1 1 0)),
  ([.agg (mo 1 1 0), .agg (mo 2 1 0)], .agg (mo 1 1 0)),
  ([.agg (mo 1 1 1), .agg (mo 1 0 1)], .agg (mo 1 0 1)),
  ([.agg (mo 1 1 1), .agg (mo 1 1 0)], .agg (mo 1 1 0)),
  ([.agg (mo 1 1 1), .agg (mo 1 1 1)], .agg (mo 1 1 1)),
  ([.agg (mo 2 0 0), .agg (mo 0 0 0)], .agg (mo 0 0 0)),
  ([.agg (mo 2 0 0), .agg (mo 0 0 1)], .agg (mo 0 0 0)),
  ([.agg (mo 2 0 0), .agg (mo 0 0 2)], .agg (mo 0 0 0)),
  ([.agg (mo 2 0 0), .agg (mo 0 1 0)], .agg (mo 0 0 0)),
  ([.agg (mo 2 0 0), .agg (mo 1 0 0)], .agg (mo 1 0 0)),
  ([.agg (mo 2 0 0), .agg (mo 1 0 1)], .agg (mo 1 0 0)),
  ([.agg (mo 2 0 0), .agg (mo 1 0 2)], .agg (mo 1 0 0)),
  ([.agg (mo 2 0 0), .agg (mo 2 0 0)], .agg (mo 2 0 0)),
  ([.agg (mo 2 0 0), .agg (mo 2 0 1)], .agg (mo 2 0 0)),
  ([.agg (mo 2 0 0), .agg (mo 3 0 0)], .agg (mo 2 0 0))]
def q150_4 : Ans := [([.agg (mo 2 1 0), .agg (mo 0 1 0)], .agg (mo 0 1 0)),
  ([.agg (mo 2 1 0), .agg (mo 1 0 1)], .agg (mo 1 0 0)),
  ([.agg (mo 2 1 0), .agg (mo 1 1 0)], .agg (mo 1 1 0)),
  ([.agg (mo 2 1 0), .agg (mo 1 1 1)], .agg (mo 1 1 0)),
  ([.agg (mo 2 1 0), .agg (mo 2 1 0)], .agg (mo 2 1 0)),
  ([.agg (mo 2 1 0), .agg (mo 2 1 1)], .agg (mo 2 1 0)),
  ([.agg (mo 3 0 0), .agg (mo 0 0 0)], .agg (mo 0 0 0)),
  ([.agg (mo 3 0 0), .agg (mo 0 0 1)], .agg (mo 0 0 0)),
  ([.agg (mo 3 0 0), .agg (mo 0 0 2)], .agg (mo 0 0 0)),
  ([.agg (mo 3 0 0), .agg (mo 0 1 0)], .agg (mo 0 0 0)),
  ([.agg (mo 3 0 0), .agg (mo 1 0 0)], .agg (mo 1 0 0)),
  ([.agg (mo 3 0 0), .agg (mo 1 0 1)], .agg (mo 1 0 0)),
  ([.agg (mo 3 0 0), .agg (mo 1 0 2)], .agg (mo 1 0 0)),
  ([.agg (mo 3 0 0), .agg (mo 2 0 0)], .agg (mo 2 0 0)),
  ([.agg (mo 3 0 0), .agg (mo 2 0 1)], .agg (mo 2 0 0)),
  ([.agg (mo 3 0 0), .agg (mo 3 0 0)], .agg (mo 3 0 0)),
  ([.agg (mo 3 0 0), .agg (mo 3 0 1)], .agg (mo 3 0 0))]
def q150 : Ans := q150_0 ++ q150_1 ++ q150_2 ++ q150_3 ++ q150_4
def q26_0 : Ans := [([e0], .i .i64 0),
  ([e1], .i .i64 1),
  ([e2], .i .i64 1),
  ([e4], .i .i64 (-1)),
  ([e5], .i .i64 (-1))]
def q26 : Ans := q26_0
def q53_0 : Ans := [(e13, e0),
  (e8, e1),
  (e10, e2),
  (e12, e4),
  (e14, e5)]
def q53 : Ans := q53_0
def q73_0 : Ans := [([.agg (mo 0 0 0), .agg (mo 0 0 0)], .tup [.agg (mo 0 0 0), .i .i64 0]),
  ([.agg (mo 0 0 0), .agg (mo 0 2 0)], .tup [.agg (mo 0 2 0), .i .i64 0]),
  ([.agg (mo 0 0 0), .agg (mo 1 1 0)], .tup [.agg (mo 1 1 0), .i .i64 0]),
  ([.agg (mo 0 1 0), .agg (mo 0 0 0)], .tup [.agg (mo 0 1 0), .i .i64 0]),
  ([.agg (mo 0 1 0), .agg (mo 0 1 0)], .tup [.agg (mo 0 2 0), .i .i64 0]),
  ([.agg (mo 0 1 0), .agg (mo 1 0 0)], .tup [.agg (mo 1 1 0), .i .i64 0]),
  ([.agg (mo 0 2 0), .agg (mo 0 0 0)], .tup [.agg (mo 0 2 0), .i .i64 0]),
  ([.agg (mo 1 0 0), .agg (mo 0 0 0)], .tup [.agg (mo 1 0 0), .i .i64 0]),
  ([.agg (mo 1 0 0), .agg (mo 0 1 0)], .tup [.agg (mo 1 1 0), .i .i64 0]),
  ([.agg (mo 1 0 0), .agg (mo 1 0 0)], .tup [.agg (mo 2 0 0), .i .i64 0]),
  ([.agg (mo 1 1 0), .agg (mo 0 0 0)], .tup [.agg (mo 1 1 0), .i .i64 0]),
  ([.agg (mo 2 0 0), .agg (mo 0 0 0)], .tup [.agg (mo 2 0 0), .i .i64 0]),
  ([.agg (mo 2 1 0), .agg (mo 0 0 0)], .tup [.agg (mo 2 1 0), .i .i64 0]),
  ([.agg (mo 3 0 0), .agg (mo 0 0 0)], .tup [.agg (mo 3 0 0), .i .i64 0])]
def q73 : Ans := q73_0
def q75_0 : Ans := [([.sl 8 e15], .b true),
  ([e66], .b true),
  ([e67], .b true)]
def q75 : Ans := q75_0
def q79_0 : Ans := [([.sl 8 e15], .sl 8 e15),
  ([e66], e66),
  ([e67], e67)]
def q79 : Ans := q79_0
def q82_0 : Ans := [([.i .i64 1, .i .i64 (-1)], .agg [.i .i64 0, .i .i64 (-1), .i .i64 0, .i .i64 0, .i .i64 0, .i .i64 0, .i .i64 0, .i .i64 0]),
  ([.i .i64 2, .i .i64 (-1)], .agg [.i .i64 0, .i .i64 0, .i .i64 (-1), .i .i64 0, .i .i64 0, .i .i64 0, .i .i64 0, .i .i64 0]),
  ([.i .i64 3, .i .i64 (-1)], .agg [.i .i64 0, .i .i64 0, .i .i64 0, .i .i64 (-1), .i .i64 0, .i .i64 0, .i .i64 0, .i .i64 0]),
  ([.i .i64 4, .i .i64 (-1)], .agg [.i .i64 0, .i .i64 0, .i .i64 0, .i .i64 0, .i .i64 (-1), .i .i64 0, .i .i64 0, .i .i64 0]),
  ([.i .i64 5, .i .i64 (-1)], .agg [.i .i64 0, .i .i64 0, .i .i64 0, .i .i64 0, .i .i64 0, .i .i64 (-1), .i .i64 0, .i .i64 0]),
  ([.i .i64 6, .i .i64 (-1)], .agg [.i .i64 0, .i .i64 0, .i .i64 0, .i .i64 0, .i .i64 0, .i .i64 0, .i .i64 (-1), .i .i64 0]),
  ([.i .i64 7, .i .i64 (-1)], .agg [.i .i64 0, .i .i64 0, .i .i64 0, .i .i64 0, .i .i64 0, .i .i64 0, .i .i64 0, .i .i64 (-1)])]
def q82 : Ans := q82_0
def q43_0 : Ans := [([], .own 0 8 e15 0 8)]
def q43 : Ans := q43_0
def q129_0 : Ans := [(e16, .i .i64 (-1)),
  (e17, .i .i64 (-1)),
  (e18, .i .i64 (-1)),
  (e19, .i .i64 (-1)),
  (e20, .i .i64 (-1)),
  (e21, .i .i64 1),
  (e22, .i .i64 (-1)),
  (e23, .i .i64 (-1)),
  (e24, .i .i64 (-1)),
  (e25, .i .i64 (-1)),
  (e26, .i .i64 (-1)),
  (e27, .i .i64 (-1)),
  (e28, .i .i64 (-1)),
  (e29, .i .i64 1),
  (e30, .i .i64 (-1)),
  (e31, .i .i64 1),
  (e32, .i .i64 (-1)),
  (e33, .i .i64 (-1)),
  (e34, .i .i64 (-1)),
  (e35, .i .i64 1)]
def q129_1 : Ans := [(e36, .i .i64 (-1)),
  (e37, .i .i64 (-1)),
  (e38, .i .i64 1),
  (e39, .i .i64 (-1)),
  (e40, .i .i64 1),
  (e41, .i .i64 (-1)),
  (e42, .i .i64 (-1)),
  (e43, .i .i64 0),
  (e44, .i .i64 1),
  (e45, .i .i64 1),
  (e46, .i .i64 1),
  (e47, .i .i64 0),
  (e48, .i .i64 (-1)),
  (e49, .i .i64 (-1)),
  (e50, .i .i64 (-1)),
  (e51, .i .i64 1),
  (e52, .i .i64 1),
  (e53, .i .i64 1),
  (e54, .i .i64 1),
  (e55, .i .i64 (-1))]
def q129_2 : Ans := [(e56, .i .i64 (-1)),
  (e57, .i .i64 1),
  (e58, .i .i64 1),
  (e59, .i .i64 1),
  (e60, .i .i64 0),
  (e61, .i .i64 (-1)),
  (e62, .i .i64 (-1)),
  (e63, .i .i64 1),
  (e64, .i .i64 1),
  (e65, .i .i64 1),
  ([e66, .agg (mo 0 0 0), .agg (mo 1 0 0)], .i .i64 (-1)),
  ([e66, .agg (mo 0 1 0), .agg (mo 1 0 1)], .i .i64 (-1)),
  ([e66, .agg (mo 0 1 0), .agg (mo 1 1 0)], .i .i64 (-1)),
  ([e66, .agg (mo 0 1 0), .agg (mo 2 1 0)], .i .i64 (-1)),
  ([e66, .agg (mo 0 1 1), .agg (mo 1 0 1)], .i .i64 (-1)),
  ([e66, .agg (mo 1 0 1), .agg (mo 1 1 1)], .i .i64 (-1)),
  ([e66, .agg (mo 1 0 1), .agg (mo 2 1 0)], .i .i64 1),
  ([e66, .agg (mo 1 1 0), .agg (mo 0 1 1)], .i .i64 (-1)),
  ([e66, .agg (mo 1 1 0), .agg (mo 1 0 1)], .i .i64 (-1)),
  ([e66, .agg (mo 1 1 0), .agg (mo 1 1 1)], .i .i64 (-1))]
def q129_3 : Ans := [([e66, .agg (mo 1 1 0), .agg (mo 2 1 0)], .i .i64 (-1)),
  ([e66, .agg (mo 1 1 1), .agg (mo 1 1 1)], .i .i64 0),
  ([e66, .agg (mo 1 1 1), .agg (mo 2 1 0)], .i .i64 1),
  ([e67, .agg (mo 0 2 0), .agg (mo 1 0 0)], .i .i64 (-1)),
  ([e67, .agg (mo 1 0 0), .agg (mo 1 0 0)], .i .i64 0),
  ([e67, .agg (mo 1 2 0), .agg (mo 1 2 0)], .i .i64 0)]
def q129 : Ans := q129_0 ++ q129_1 ++ q129_2 ++ q129_3
def e68 : List DV := [.sl 1 (tm false 1 0 0 0), .sl 1 (tm false 1 0 0 0)]
def e69 : DV := .tup [.sl 1 (tm false 1 0 0 0), .i .i64 0]
def e70 : List DV := [.sl 1 (tm false 1 0 0 0), .sl 1 (tm false 1 0 0 1)]
def e71 : DV := .tup [.sl 1 (tm false 1 0 0 1), .i .i64 0]
def e72 : List DV := [.sl 1 (tm false 1 0 0 0), .sl 1 (tm false 1 0 1 0)]
def e73 : DV := .tup [.sl 1 (tm false 1 0 1 0), .i .i64 0]
def e74 : DV := .tup [.sl 1 (tm false 1 1 0 2), .i .i64 0]
def e75 : DV := .tup [.sl 1 (tm false 1 1 1 0), .i .i64 0]
def e76 : DV := .tup [.sl 1 (tm false 1 1 1 1), .i .i64 0]
def e77 : DV := .tup [.sl 1 (tm false 1 2 0 0), .i .i64 0]
def e78 : DV := .tup [.sl 1 (tm false 1 2 1 0), .i .i64 0]
def e79 : DV := .tup [.sl 1 (tm false 1 3 0 0), .i .i64 0]
def e80 : DV := .tup [.sl 1 (tm true 1 0 0 2), .i .i64 0]
def e81 : DV := .tup [.sl 1 (tm true 1 1 1 0), .i .i64 0]
def e82 : DV := .tup [.sl 1 (tm true 1 2 0 0), .i .i64 0]
def e83 : DV := .sl 2 (tm false 1 1 0 0 ++ (tm false 1 0 1 0))
def e84 : DV := .sl 2 (tm false 1 1 0 0 ++ (tm true 1 0 2 0))
def e85 : DV := .sl 2 (tm false 1 1 0 1 ++ (tm true 1 0 0 0))
def e86 : DV := .sl 2 (tm false 1 1 0 2 ++ (tm true 1 0 0 1))
def e87 : DV := .sl 2 (tm true 1 1 0 1 ++ (tm false 1 0 0 0))
def e88 : DV := .sl 2 (tm true 1 2 0 1 ++ (tm false 1 2 0 0))
def e89 : DV := .sl 3 (tm false 1 1 0 1 ++ (tm false 1 0 0 1 ++ (tm true 1 0 0 0)))
def q72_0 : Ans := [([.sl 1 (tm false 1 0 0 0), .sl 0 []], .tup [.sl 0 [], .i .i64 0]),
  (e68, e69),
  (e70, e71),
  (e72, e73),
  ([.sl 1 (tm false 1 0 0 0), .sl 1 (tm false 1 1 0 2)], e74),
  ([.sl 1 (tm false 1 0 0 0), .sl 1 (tm false 1 1 1 0)], e75),
  ([.sl 1 (tm false 1 0 0 0), .sl 1 (tm false 1 1 1 1)], e76),
  ([.sl 1 (tm false 1 0 0 0), .sl 1 (tm false 1 2 0 0)], e77),
  ([.sl 1 (tm false 1 0 0 0), .sl 1 (tm false 1 2 1 0)], e78),
  ([.sl 1 (tm false 1 0 0 0), .sl 1 (tm false 1 3 0 0)], e79),
  ([.sl 1 (tm false 1 0 0 0), .sl 1 (tm true 1 0 0 2)], e80),
  ([.sl 1 (tm false 1 0 0 0), .sl 1 (tm true 1 1 1 0)], e81),
  ([.sl 1 (tm false 1 0 0 0), .sl 1 (tm true 1 2 0 0)], e82),
  ([.sl 1 (tm false 1 0 0 0), e83], .tup [e83, .i .i64 0]),
  ([.sl 1 (tm false 1 0 0 0), e84], .tup [e84, .i .i64 0]),
  ([.sl 1 (tm false 1 0 0 0), e85], .tup [e85, .i .i64 0]),
  ([.sl 1 (tm false 1 0 0 0), e86], .tup [e86, .i .i64 0]),
  ([.sl 1 (tm false 1 0 0 0), e87], .tup [e87, .i .i64 0]),
  ([.sl 1 (tm false 1 0 0 0), e88], .tup [e88, .i .i64 0]),
  ([.sl 1 (tm false 1 0 0 0), e89], .tup [e89, .i .i64 0])]
def e90 : DV := .sl 3 (tm false 1 2 0 0 ++ (tm false 1 1 0 1 ++ (tm true 1 1 0 0)))
def e91 : DV := .sl 3 (tm false 1 3 0 0 ++ (tm true 1 2 0 0 ++ (tm false 1 1 0 0)))
def e92 : DV := .sl 3 (tm true 1 2 0 0 ++ (tm false 1 1 0 0 ++ (tm true 1 0 0 0)))
def e93 : DV := .sl 4 (tm false 1 2 0 0 ++ (tm true 1 1 0 0 ++ (tm true 1 0 0 1 ++ (tm false 1 0 0 0))))
def e94 : DV := .sl 4 (tm false 1 2 0 1 ++ (tm true 1 1 0 1 ++ (tm false 1 1 0 0 ++ (tm false 1 0 0 1))))
def e95 : DV := .sl 4 (tm false 1 3 0 0 ++ (tm true 1 2 0 0 ++ (tm false 1 1 0 0 ++ (tm true 1 0 0 0))))
def e96 : DV := .sl 4 (tm false 2 1 0 1 ++ (tm true 1 1 0 0 ++ (tm false 1 0 0 2 ++ (tm true 1 0 0 1))))
def e97 : DV := .sl 4 (tm true 1 1 0 0 ++ (tm false 1 0 0 2 ++ (tm true 3 0 0 1 ++ (tm false 2 0 0 0))))
def e98 : DV := .sl 5 (tm false 1 2 0 0 ++ (tm false 3 1 0 1 ++ (tm true 2 1 0 0 ++ (tm false 1 0 0 2 ++ (tm true 1 0 0 1)))))
def e99 : DV := .sl 5 (tm false 1 2 0 0 ++ (tm true 2 1 0 0 ++ (tm false 1 0 0 2 ++ (tm true 4 0 0 1 ++ (tm false 3 0 0 0)))))
def e100 : DV := .sl 5 (tm false 1 2 0 1 ++ (tm true 1 1 0 1 ++ (tm false 1 1 0 0 ++ (tm false 1 0 0 1 ++ (tm true 2 0 0 0)))))
def e101 : DV := .sl 6 (tm true 1 3 0 1 ++ (tm false 1 2 0 1 ++ (tm true 1 1 0 1 ++ (tm false 1 1 0 0 ++ (tm false 1 0 0 1 ++ (tm true 2 0 0 0))))))
def e102 : DV := .sl 6 (tm true 1 3 0 1 ++ (tm false 1 2 0 1 ++ (tm true 1 2 0 0 ++ (tm true 1 1 0 1 ++ (tm false 2 1 0 0 ++ (tm false 1 0 0 1))))))
def e103 : DV := .sl 7 (tm true 1 3 0 1 ++ (tm false 1 2 0 1 ++ (tm true 1 2 0 0 ++ (tm true 1 1 0 1 ++ (tm false 2 1 0 0 ++ (tm false 1 0 0 1 ++ (tm true 3 0 0 0)))))))
def e104 : DV := .tup [.sl 1 (tm false 1 0 0 2), .i .i64 0]
def e105 : DV := .tup [.sl 1 (tm false 1 0 0 3), .i .i64 0]
def e106 : List DV := [.sl 1 (tm false 1 0 0 1), .sl 1 (tm false 1 1 0 0)]
def e107 : DV := .tup [.sl 1 (tm false 1 1 0 1), .i .i64 0]
def q72_1 : Ans := [([.sl 1 (tm false 1 0 0 0), e90], .tup [e90, .i .i64 0]),
  ([.sl 1 (tm false 1 0 0 0), e91], .tup [e91, .i .i64 0]),
  ([.sl 1 (tm false 1 0 0 0), e92], .tup [e92, .i .i64 0]),
  ([.sl 1 (tm false 1 0 0 0), e93], .tup [e93, .i .i64 0]),
  ([.sl 1 (tm false 1 0 0 0), e94], .tup [e94, .i .i64 0]),
  ([.sl 1 (tm false 1 0 0 0), e95], .tup [e95, .i .i64 0]),
  ([.sl 1 (tm false 1 0 0 0), e96], .tup [e96, .i .i64 0]),
  ([.sl 1 (tm false 1 0 0 0), e97], .tup [e97, .i .i64 0]),
  ([.sl 1 (tm false 1 0 0 0), e98], .tup [e98, .i .i64 0]),
  ([.sl 1 (tm false 1 0 0 0), e99], .tup [e99, .i .i64 0]),
  ([.sl 1 (tm false 1 0 0 0), e100], .tup [e100, .i .i64 0]),
  ([.sl 1 (tm false 1 0 0 0), e101], .tup [e101, .i .i64 0]),
  ([.sl 1 (tm false 1 0 0 0), e102], .tup [e102, .i .i64 0]),
  ([.sl 1 (tm false 1 0 0 0), e103], .tup [e103, .i .i64 0]),
  ([.sl 1 (tm false 1 0 0 1), .sl 0 []], .tup [.sl 0 [], .i .i64 0]),
  ([.sl 1 (tm false 1 0 0 1), .sl 1 (tm false 1 0 0 0)], e71),
  ([.sl 1 (tm false 1 0 0 1), .sl 1 (tm false 1 0 0 1)], e104),
  ([.sl 1 (tm false 1 0 0 1), .sl 1 (tm false 1 0 0 2)], e105),
  ([.sl 1 (tm false 1 0 0 1), .sl 1 (tm false 1 0 1 0)], .tup [.sl 1 (tm false 1 0 1 1), .i .i64 0]),
  (e106, e107)]
def e108 : List DV := [.sl 1 (tm false 1 0 0 1), .sl 1 (tm false 1 1 1 0)]
def e109 : List DV := [.sl 1 (tm false 1 0 0 1), .sl 1 (tm true 1 1 1 0)]
def e110 : DV := .sl 2 (tm false 1 1 0 0 ++ (tm false 1 0 0 0))
def e111 : DV := .sl 2 (tm false 1 1 0 1 ++ (tm false 1 0 0 1))
def e112 : DV := .sl 2 (tm true 1 2 0 1 ++ (tm true 1 1 0 0))
def e113 : DV := .sl 2 (tm true 1 2 0 2 ++ (tm true 1 1 0 1))
def e114 : DV := .sl 3 (tm false 1 1 0 2 ++ (tm false 1 0 0 2 ++ (tm true 1 0 0 1)))
def e115 : DV := .sl 3 (tm true 1 2 0 1 ++ (tm false 1 1 0 1 ++ (tm true 1 0 0 1)))
def e116 : DV := .sl 4 (tm false 1 2 0 1 ++ (tm true 1 1 0 1 ++ (tm true 1 0 0 2 ++ (tm false 1 0 0 1))))
def e117 : List DV := [.sl 1 (tm false 1 0 1 0), .sl 1 (tm false 1 1 0 0)]
def e118 : List DV := [.sl 1 (tm false 1 0 1 0), .sl 1 (tm true 1 0 0 0)]
def e119 : DV := .sl 2 (tm false 1 1 1 0 ++ (tm false 1 0 2 0))
def e120 : DV := .sl 2 (tm false 1 1 1 1 ++ (tm true 1 0 1 0))
def e121 : DV := .sl 2 (tm false 1 1 0 1 ++ (tm true 1 1 0 0))
def e122 : DV := .sl 2 (tm false 1 1 1 1 ++ (tm true 1 1 1 0))
def q72_2 : Ans := [(e108, e76),
  ([.sl 1 (tm false 1 0 0 1), .sl 1 (tm false 1 2 0 0)], .tup [.sl 1 (tm false 1 2 0 1), .i .i64 0]),
  ([.sl 1 (tm false 1 0 0 1), .sl 1 (tm false 1 2 1 0)], .tup [.sl 1 (tm false 1 2 1 1), .i .i64 0]),
  ([.sl 1 (tm false 1 0 0 1), .sl 1 (tm false 1 3 0 0)], .tup [.sl 1 (tm false 1 3 0 1), .i .i64 0]),
  (e109, .tup [.sl 1 (tm true 1 1 1 1), .i .i64 0]),
  ([.sl 1 (tm false 1 0 0 1), .sl 1 (tm true 1 2 0 0)], .tup [.sl 1 (tm true 1 2 0 1), .i .i64 0]),
  ([.sl 1 (tm false 1 0 0 1), e110], .tup [e111, .i .i64 0]),
  ([.sl 1 (tm false 1 0 0 1), e112], .tup [e113, .i .i64 0]),
  ([.sl 1 (tm false 1 0 0 1), e89], .tup [e114, .i .i64 0]),
  ([.sl 1 (tm false 1 0 0 1), e92], .tup [e115, .i .i64 0]),
  ([.sl 1 (tm false 1 0 0 1), e93], .tup [e116, .i .i64 0]),
  ([.sl 1 (tm false 1 0 1 0), .sl 0 []], .tup [.sl 0 [], .i .i64 0]),
  ([.sl 1 (tm false 1 0 1 0), .sl 1 (tm false 1 0 0 0)], e73),
  (e117, e75),
  ([.sl 1 (tm false 1 0 1 0), .sl 1 (tm false 1 1 0 1)], e76),
  (e118, .tup [.sl 1 (tm true 1 0 1 0), .i .i64 0]),
  ([.sl 1 (tm false 1 0 1 0), e83], .tup [e119, .i .i64 0]),
  ([.sl 1 (tm false 1 0 1 0), e85], .tup [e120, .i .i64 0]),
  ([.sl 1 (tm false 1 0 1 0), e121], .tup [e122, .i .i64 0]),
  ([.sl 1 (tm false 1 1 0 0), .sl 0 []], .tup [.sl 0 [], .i .i64 0])]
def e123 : List DV := [.sl 1 (tm false 1 1 0 0), .sl 1 (tm false 1 0 0 0)]
def e124 : DV := .tup [.sl 1 (tm false 1 1 0 0), .i .i64 0]
def e125 : List DV := [.sl 1 (tm false 1 1 0 0), .sl 1 (tm false 1 0 1 0)]
def e126 : List DV := [.sl 1 (tm false 1 1 0 0), .sl 1 (tm false 1 1 0 0)]
def e127 : DV := .sl 2 (tm false 1 0 1 1 ++ (tm true 1 0 1 0))
def e128 : DV := .sl 2 (tm false 1 2 0 1 ++ (tm true 1 1 0 0))
def e129 : DV := .sl 2 (tm true 1 1 1 1 ++ (tm true 1 0 1 0))
def e130 : DV := .sl 2 (tm true 1 2 1 1 ++ (tm true 1 1 1 0))
def e131 : DV := .sl 2 (tm true 1 3 0 1 ++ (tm true 1 2 0 0))
def e132 : DV := .sl 3 (tm false 1 2 0 1 ++ (tm false 1 1 0 1 ++ (tm true 1 1 0 0)))
def e133 : DV := .sl 3 (tm true 1 3 0 0 ++ (tm false 1 2 0 0 ++ (tm true 1 1 0 0)))
def e134 : DV := .sl 4 (tm false 1 3 0 0 ++ (tm true 1 2 0 0 ++ (tm true 1 1 0 1 ++ (tm false 1 1 0 0))))
def e135 : DV := .sl 4 (tm true 1 2 0 0 ++ (tm false 1 1 0 2 ++ (tm true 3 1 0 1 ++ (tm false 2 1 0 0))))
def e136 : DV := .sl 5 (tm false 1 3 0 1 ++ (tm true 1 2 0 1 ++ (tm false 1 2 0 0 ++ (tm false 1 1 0 1 ++ (tm true 2 1 0 0)))))
def q72_3 : Ans := [(e123, e124),
  ([.sl 1 (tm false 1 1 0 0), .sl 1 (tm false 1 0 0 1)], e107),
  ([.sl 1 (tm false 1 1 0 0), .sl 1 (tm false 1 0 0 2)], e74),
  (e125, e75),
  (e126, e77),
  ([.sl 1 (tm false 1 1 0 0), .sl 1 (tm false 1 1 1 0)], e78),
  ([.sl 1 (tm false 1 1 0 0), .sl 1 (tm false 1 2 0 0)], e79),
  ([.sl 1 (tm false 1 1 0 0), .sl 1 (tm true 1 0 0 0)], .tup [.sl 1 (tm true 1 1 0 0), .i .i64 0]),
  ([.sl 1 (tm false 1 1 0 0), .sl 1 (tm true 1 0 0 2)], .tup [.sl 1 (tm true 1 1 0 2), .i .i64 0]),
  ([.sl 1 (tm false 1 1 0 0), .sl 1 (tm true 1 1 1 0)], .tup [.sl 1 (tm true 1 2 1 0), .i .i64 0]),
  ([.sl 1 (tm false 1 1 0 0), .sl 1 (tm true 1 2 0 0)], .tup [.sl 1 (tm true 1 3 0 0), .i .i64 0]),
  ([.sl 1 (tm false 1 1 0 0), e127], .tup [e122, .i .i64 0]),
  ([.sl 1 (tm false 1 1 0 0), e85], .tup [e128, .i .i64 0]),
  ([.sl 1 (tm false 1 1 0 0), e129], .tup [e130, .i .i64 0]),
  ([.sl 1 (tm false 1 1 0 0), e112], .tup [e131, .i .i64 0]),
  ([.sl 1 (tm false 1 1 0 0), e89], .tup [e132, .i .i64 0]),
  ([.sl 1 (tm false 1 1 0 0), e92], .tup [e133, .i .i64 0]),
  ([.sl 1 (tm false 1 1 0 0), e93], .tup [e134, .i .i64 0]),
  ([.sl 1 (tm false 1 1 0 0), e97], .tup [e135, .i .i64 0]),
  ([.sl 1 (tm false 1 1 0 0), e100], .tup [e136, .i .i64 0])]
def e137 : List DV := [.sl 1 (tm false 1 1 1 0), .sl 1 (tm false 1 1 0 0)]
def e138 : DV := .sl 2 (tm false 1 2 1 1 ++ (tm true 1 1 1 0))
def e139 : List DV := [.sl 1 (tm false 1 2 0 0), .sl 1 (tm false 1 1 0 0)]
def e140 : DV := .sl 2 (tm false 1 3 0 1 ++ (tm true 1 2 0 0))
def e141 : DV := .sl 3 (tm false 1 3 0 1 ++ (tm false 1 2 0 1 ++ (tm true 1 2 0 0)))
def e142 : List DV := [.sl 1 (tm false 2 0 0 0), .sl 1 (tm false 1 0 1 0)]
def e143 : List DV := [.sl 1 (tm false 2 0 0 0), .sl 1 (tm true 1 0 0 0)]
def e144 : DV := .sl 3 (tm false 2 1 0 1 ++ (tm false 2 0 0 1 ++ (tm true 2 0 0 0)))
def e145 : DV := .sl 3 (tm false 3 1 0 1 ++ (tm false 3 0 0 1 ++ (tm true 3 0 0 0)))
def e146 : List DV := [.sl 1 (tm true 1 0 0 0), .sl 1 (tm false 1 0 0 0)]
def e147 : DV := .tup [.sl 1 (tm true 1 0 0 0), .i .i64 0]
def e148 : List DV := [.sl 1 (tm true 1 0 0 0), .sl 1 (tm true 1 0 0 0)]
def e149 : DV := .sl 2 (tm false 1 0 2 0 ++ (tm false 1 0 1 0))
def e150 : DV := .sl 2 (tm true 1 0 2 0 ++ (tm true 1 0 1 0))
def q72_4 : Ans := [([.sl 1 (tm false 1 1 1 0), .sl 0 []], .tup [.sl 0 [], .i .i64 0]),
  ([.sl 1 (tm false 1 1 1 0), .sl 1 (tm false 1 0 0 0)], e75),
  (e137, e78),
  ([.sl 1 (tm false 1 1 1 0), e85], .tup [e138, .i .i64 0]),
  ([.sl 1 (tm false 1 2 0 0), .sl 0 []], .tup [.sl 0 [], .i .i64 0]),
  ([.sl 1 (tm false 1 2 0 0), .sl 1 (tm false 1 0 0 0)], e77),
  (e139, e79),
  ([.sl 1 (tm false 1 2 0 0), e85], .tup [e140, .i .i64 0]),
  ([.sl 1 (tm false 1 2 0 0), e89], .tup [e141, .i .i64 0]),
  ([.sl 1 (tm false 2 0 0 0), .sl 0 []], .tup [.sl 0 [], .i .i64 0]),
  ([.sl 1 (tm false 2 0 0 0), .sl 1 (tm false 1 0 0 0)], .tup [.sl 1 (tm false 2 0 0 0), .i .i64 0]),
  (e142, .tup [.sl 1 (tm false 2 0 1 0), .i .i64 0]),
  (e143, .tup [.sl 1 (tm true 2 0 0 0), .i .i64 0]),
  ([.sl 1 (tm false 2 0 0 0), e89], .tup [e144, .i .i64 0]),
  ([.sl 1 (tm false 3 0 0 0), .sl 0 []], .tup [.sl 0 [], .i .i64 0]),
  ([.sl 1 (tm false 3 0 0 0), .sl 1 (tm false 1 0 0 0)], .tup [.sl 1 (tm false 3 0 0 0), .i .i64 0]),
  ([.sl 1 (tm false 3 0 0 0), e89], .tup [e145, .i .i64 0]),
  (e146, e147),
  (e148, e69),
  ([.sl 1 (tm true 1 0 0 0), e149], .tup [e150, .i .i64 0])]
def e151 : DV := .sl 2 (tm false 1 1 0 0 ++ (tm true 1 0 1 0))
def e152 : DV := .sl 2 (tm true 1 0 0 1 ++ (tm false 1 0 0 0))
def e153 : DV := .sl 2 (tm true 1 0 1 1 ++ (tm false 1 0 1 0))
def e154 : DV := .sl 2 (tm true 1 1 0 1 ++ (tm false 1 1 0 0))
def e155 : DV := .sl 2 (tm true 1 1 0 0 ++ (tm false 1 0 0 0))
def e156 : DV := .sl 4 (tm true 1 2 0 1 ++ (tm false 1 1 0 0 ++ (tm false 1 0 0 1 ++ (tm true 1 0 0 0))))
def q72_5 : Ans := [([e151, .sl 0 []], .tup [.sl 0 [], .i .i64 0]),
  ([e151, .sl 1 (tm false 1 0 0 0)], .tup [e151, .i .i64 0]),
  ([e152, .sl 1 (tm false 1 0 1 0)], .tup [e153, .i .i64 0]),
  ([e152, .sl 1 (tm false 1 1 0 0)], .tup [e154, .i .i64 0]),
  ([e155, .sl 0 []], .tup [.sl 0 [], .i .i64 0]),
  ([e155, .sl 1 (tm false 1 0 0 0)], .tup [e155, .i .i64 0]),
  ([e155, e89], .tup [e156, .i .i64 0])]
def q72 : Ans := q72_0 ++ q72_1 ++ q72_2 ++ q72_3 ++ q72_4 ++ q72_5
def e157 : DV := .sl 3 (tm false 1 2 0 2 ++ (tm false 1 1 0 1 ++ (tm false 1 0 0 0)))
def q60_0 : Ans := [([.sl 0 [], .sl 0 []], .sl 0 []),
  ([.sl 0 [], .sl 1 (tm false 1 0 0 0)], .sl 1 (tm true 1 0 0 0)),
  ([.sl 0 [], .sl 1 (tm false 1 0 0 2)], .sl 1 (tm true 1 0 0 2)),
  ([.sl 0 [], .sl 1 (tm false 1 0 0 3)], .sl 1 (tm true 1 0 0 3)),
  ([.sl 0 [], .sl 1 (tm false 1 0 1 1)], .sl 1 (tm true 1 0 1 1)),
  ([.sl 0 [], .sl 1 (tm false 1 1 0 1)], .sl 1 (tm true 1 1 0 1)),
  ([.sl 0 [], .sl 1 (tm false 1 1 1 0)], .sl 1 (tm true 1 1 1 0)),
  ([.sl 0 [], .sl 1 (tm false 1 2 0 0)], .sl 1 (tm true 1 2 0 0)),
  ([.sl 0 [], .sl 1 (tm true 1 0 0 0)], .sl 1 (tm false 1 0 0 0)),
  ([.sl 0 [], .sl 1 (tm true 1 0 1 0)], .sl 1 (tm false 1 0 1 0)),
  ([.sl 0 [], .sl 1 (tm true 1 1 0 0)], .sl 1 (tm false 1 1 0 0)),
  ([.sl 0 [], .sl 1 (tm true 1 1 0 2)], .sl 1 (tm false 1 1 0 2)),
  ([.sl 0 [], .sl 1 (tm true 1 2 1 0)], .sl 1 (tm false 1 2 1 0)),
  ([.sl 0 [], .sl 1 (tm true 1 3 0 0)], .sl 1 (tm false 1 3 0 0)),
  ([.sl 0 [], e133], e91),
  ([.sl 1 (tm false 1 0 0 0), .sl 0 []], .sl 1 (tm false 1 0 0 0)),
  (e68, .sl 0 []),
  (e70, e152),
  ([.sl 1 (tm false 1 0 0 0), .sl 1 (tm false 1 1 0 1)], e87),
  ([.sl 1 (tm false 1 0 0 0), e113], e157)]
def e158 : DV := .sl 2 (tm true 1 1 0 2 ++ (tm false 1 0 0 1))
def e159 : List DV := [.sl 1 (tm false 1 0 1 0), .sl 1 (tm false 1 0 1 0)]
def e160 : DV := .sl 2 (tm false 1 1 1 1 ++ (tm false 1 0 1 0))
def e161 : DV := .sl 2 (tm false 1 2 0 1 ++ (tm false 1 1 0 0))
def e162 : List DV := [.sl 1 (tm false 1 1 1 0), .sl 1 (tm false 1 1 1 0)]
def q60_1 : Ans := [([.sl 1 (tm false 1 0 0 1), .sl 0 []], .sl 1 (tm false 1 0 0 1)),
  ([.sl 1 (tm false 1 0 0 1), .sl 1 (tm false 1 1 0 2)], e158),
  ([.sl 1 (tm false 1 0 0 1), e136], e102),
  ([.sl 1 (tm false 1 0 1 0), .sl 0 []], .sl 1 (tm false 1 0 1 0)),
  (e159, .sl 0 []),
  ([.sl 1 (tm false 1 0 1 0), .sl 1 (tm false 1 0 1 1)], e153),
  ([.sl 1 (tm false 1 0 1 0), .sl 1 (tm true 1 1 1 1)], e160),
  ([.sl 1 (tm false 1 0 2 0), .sl 1 (tm false 1 0 2 0)], .sl 0 []),
  (e126, .sl 0 []),
  ([.sl 1 (tm false 1 1 0 0), .sl 1 (tm true 1 2 0 1)], e161),
  ([.sl 1 (tm false 1 1 0 0), e83], .sl 1 (tm true 1 0 1 0)),
  ([.sl 1 (tm false 1 1 0 0), e115], e94),
  ([.sl 1 (tm false 1 1 0 1), .sl 1 (tm false 1 0 0 0)], e85),
  ([.sl 1 (tm false 1 1 0 1), .sl 1 (tm false 1 1 0 1)], .sl 0 []),
  ([.sl 1 (tm false 1 1 0 2), .sl 0 []], .sl 1 (tm false 1 1 0 2)),
  ([.sl 1 (tm false 1 1 0 2), .sl 1 (tm false 1 0 0 1)], e86),
  (e162, .sl 0 []),
  ([.sl 1 (tm false 1 1 1 1), .sl 1 (tm false 1 1 1 1)], .sl 0 []),
  ([.sl 1 (tm false 1 1 1 1), e122], .sl 1 (tm false 1 1 1 0)),
  ([.sl 1 (tm false 1 2 0 0), .sl 1 (tm false 1 2 0 0)], .sl 0 [])]
def e163 : DV := .sl 2 (tm false 1 0 0 1 ++ (tm true 1 0 0 0))
def q60_2 : Ans := [([.sl 1 (tm false 1 2 1 0), .sl 1 (tm false 1 2 1 0)], .sl 0 []),
  ([.sl 1 (tm false 1 2 1 1), e138], .sl 1 (tm false 1 1 1 0)),
  ([.sl 1 (tm false 1 3 0 0), .sl 1 (tm false 1 3 0 0)], .sl 0 []),
  ([.sl 1 (tm false 1 3 0 0), e134], e90),
  ([.sl 1 (tm false 1 3 0 1), e140], .sl 1 (tm false 1 2 0 0)),
  ([.sl 1 (tm false 1 3 0 1), e141], e88),
  ([.sl 1 (tm false 2 0 0 0), .sl 1 (tm false 2 0 0 0)], .sl 0 []),
  ([.sl 1 (tm false 2 0 2 0), .sl 1 (tm false 2 0 2 0)], .sl 0 []),
  (e148, .sl 0 []),
  ([.sl 1 (tm true 1 0 0 2), .sl 0 []], .sl 1 (tm true 1 0 0 2)),
  ([.sl 1 (tm true 1 0 1 0), .sl 1 (tm true 1 0 1 0)], .sl 0 []),
  ([.sl 1 (tm true 1 0 2 0), e150], .sl 1 (tm false 1 0 1 0)),
  ([.sl 1 (tm true 1 1 0 0), .sl 1 (tm true 1 1 0 0)], .sl 0 []),
  ([.sl 1 (tm true 1 1 1 0), e130], .sl 1 (tm false 1 2 1 1)),
  ([.sl 1 (tm true 1 2 0 0), e155], e92),
  ([.sl 1 (tm true 1 2 0 0), e131], .sl 1 (tm false 1 3 0 1)),
  ([e163, .sl 1 (tm false 1 0 0 1)], .sl 1 (tm true 1 0 0 0)),
  ([e127, .sl 1 (tm false 1 0 1 1)], .sl 1 (tm true 1 0 1 0)),
  ([e149, .sl 1 (tm false 1 0 2 0)], .sl 1 (tm false 1 0 1 0)),
  ([e83, .sl 1 (tm false 1 0 1 0)], .sl 1 (tm false 1 1 0 0))]
def e164 : DV := .sl 3 (tm true 1 1 0 0 ++ (tm true 1 0 0 1 ++ (tm false 1 0 0 0)))
def e165 : DV := .sl 2 (tm false 1 2 0 0 ++ (tm false 1 0 2 0))
def e166 : DV := .sl 2 (tm false 1 2 0 0 ++ (tm false 1 1 1 0))
def e167 : DV := .sl 2 (tm true 1 1 1 0 ++ (tm false 1 0 2 0))
def e168 : DV := .sl 3 (tm true 1 1 0 1 ++ (tm true 1 0 0 1 ++ (tm false 1 0 0 0)))
def e169 : DV := .sl 2 (tm true 1 1 1 0 ++ (tm true 1 0 2 0))
def e170 : DV := .sl 3 (tm true 1 2 0 1 ++ (tm true 1 1 0 1 ++ (tm false 1 1 0 0)))
def q60_3 : Ans := [([e83, .sl 1 (tm false 1 1 0 0)], .sl 1 (tm false 1 0 1 0)),
  ([e84, .sl 1 (tm false 1 1 0 0)], .sl 1 (tm true 1 0 2 0)),
  ([e84, e83], e150),
  ([e84, e150], e83),
  ([e111, .sl 1 (tm false 1 0 0 0)], e89),
  ([e85, .sl 1 (tm false 1 1 0 1)], .sl 1 (tm true 1 0 0 0)),
  ([e121, .sl 1 (tm false 1 1 0 1)], .sl 1 (tm true 1 1 0 0)),
  ([e121, e89], e164),
  ([e86, .sl 1 (tm true 1 0 0 2)], e114),
  ([e119, .sl 1 (tm false 1 1 1 0)], .sl 1 (tm false 1 0 2 0)),
  ([e120, .sl 1 (tm false 1 1 1 1)], .sl 1 (tm true 1 0 1 0)),
  ([e165, e166], e167),
  ([e128, .sl 1 (tm false 1 2 0 1)], .sl 1 (tm true 1 1 0 0)),
  ([e152, .sl 1 (tm true 1 0 0 1)], .sl 1 (tm false 1 0 0 0)),
  ([e150, .sl 1 (tm true 1 0 2 0)], .sl 1 (tm true 1 0 1 0)),
  ([e87, .sl 0 []], e87),
  ([e87, .sl 1 (tm false 1 0 0 1)], e168),
  ([e167, e169], .sl 1 (tm false 2 0 2 0)),
  ([e88, e170], e90),
  ([e88, e156], e93)]
def e171 : DV := .sl 2 (tm true 3 0 0 1 ++ (tm false 2 0 0 0))
def e172 : DV := .sl 3 (tm true 1 1 0 0 ++ (tm true 3 0 0 1 ++ (tm false 2 0 0 0)))
def e173 : DV := .sl 4 (tm false 3 1 0 1 ++ (tm true 1 1 0 0 ++ (tm false 1 0 0 2 ++ (tm true 1 0 0 0))))
def q60_4 : Ans := [([e171, .sl 1 (tm true 3 0 0 1)], .sl 1 (tm false 2 0 0 0)),
  ([e89, .sl 1 (tm false 1 1 0 1)], e163),
  ([e89, e89], .sl 0 []),
  ([e114, e135], e98),
  ([e90, .sl 1 (tm false 1 2 0 0)], e121),
  ([e90, e89], e93),
  ([e90, e93], e89),
  ([e132, e116], e96),
  ([e91, .sl 1 (tm false 1 0 0 0)], e95),
  ([e164, .sl 1 (tm true 1 1 0 0)], e152),
  ([e172, .sl 1 (tm true 1 1 0 0)], e171),
  ([e93, .sl 1 (tm false 1 2 0 0)], e164),
  ([e93, e93], .sl 0 []),
  ([e94, .sl 1 (tm false 2 0 0 0)], e100),
  ([e95, e92], .sl 1 (tm false 1 3 0 0)),
  ([e96, e144], e97),
  ([e173, e145], e97),
  ([e97, .sl 1 (tm false 1 0 0 2)], e172),
  ([e97, e97], .sl 0 []),
  ([e98, e145], e99)]
def q60_5 : Ans := [([e98, e93], e173),
  ([e99, e93], e97),
  ([e101, e100], .sl 1 (tm true 1 3 0 1)),
  ([e102, .sl 1 (tm false 3 0 0 0)], e103),
  ([e103, e92], e101)]
def q60 : Ans := q60_0 ++ q60_1 ++ q60_2 ++ q60_3 ++ q60_4 ++ q60_5
def q45_0 : Ans := [([.sl 0 [], .sl 0 []], .sl 0 []),
  ([.sl 0 [], .sl 1 (tm false 1 0 0 0)], .sl 1 (tm false 1 0 0 0)),
  ([.sl 0 [], .sl 1 (tm false 1 0 0 2)], .sl 1 (tm false 1 0 0 2)),
  ([.sl 0 [], .sl 1 (tm false 1 0 1 0)], .sl 1 (tm false 1 0 1 0)),
  ([.sl 0 [], .sl 1 (tm false 1 0 1 1)], .sl 1 (tm false 1 0 1 1)),
  ([.sl 0 [], .sl 1 (tm false 1 0 2 0)], .sl 1 (tm false 1 0 2 0)),
  ([.sl 0 [], .sl 1 (tm false 1 1 0 0)], .sl 1 (tm false 1 1 0 0)),
  ([.sl 0 [], .sl 1 (tm false 1 1 0 1)], .sl 1 (tm false 1 1 0 1)),
  ([.sl 0 [], .sl 1 (tm false 1 1 1 0)], .sl 1 (tm false 1 1 1 0)),
  ([.sl 0 [], .sl 1 (tm false 1 2 0 0)], .sl 1 (tm false 1 2 0 0)),
  ([.sl 0 [], .sl 1 (tm false 1 2 1 0)], .sl 1 (tm false 1 2 1 0)),
  ([.sl 0 [], .sl 1 (tm false 1 3 0 0)], .sl 1 (tm false 1 3 0 0)),
  ([.sl 0 [], .sl 1 (tm false 2 0 0 0)], .sl 1 (tm false 2 0 0 0)),
  ([.sl 0 [], .sl 1 (tm false 3 0 0 0)], .sl 1 (tm false 3 0 0 0)),
  ([.sl 0 [], .sl 1 (tm true 1 0 0 0)], .sl 1 (tm true 1 0 0 0)),
  ([.sl 0 [], .sl 1 (tm true 1 0 1 0)], .sl 1 (tm true 1 0 1 0)),
  ([.sl 0 [], .sl 1 (tm true 1 0 2 0)], .sl 1 (tm true 1 0 2 0)),
  ([.sl 0 [], .sl 1 (tm true 1 1 0 0)], .sl 1 (tm true 1 1 0 0)),
  ([.sl 0 [], .sl 1 (tm true 2 0 0 0)], .sl 1 (tm true 2 0 0 0)),
  ([.sl 0 [], e151], e151)]
def e174 : DV := .sl 2 (tm true 1 1 0 0 ++ (tm false 1 0 0 2))
def e175 : List DV := [.sl 1 (tm false 1 0 2 0), .sl 1 (tm false 1 0 1 0)]
def e176 : DV := .sl 2 (tm false 1 2 0 0 ++ (tm true 1 1 0 0))
def e177 : DV := .sl 3 (tm false 1 2 0 0 ++ (tm true 1 1 0 0 ++ (tm true 1 0 0 1)))
def e178 : DV := .sl 3 (tm true 1 1 0 0 ++ (tm false 1 0 0 2 ++ (tm true 3 0 0 1)))
def q45_1 : Ans := [([.sl 1 (tm false 1 0 0 2), .sl 1 (tm true 1 1 0 0)], e174),
  ([.sl 1 (tm false 1 0 1 1), .sl 1 (tm true 1 0 1 0)], e127),
  (e175, e149),
  (e125, e83),
  ([.sl 1 (tm false 1 1 0 0), .sl 1 (tm true 1 0 1 0)], e151),
  ([.sl 1 (tm false 1 1 0 1), .sl 1 (tm false 1 0 0 1)], e111),
  ([.sl 1 (tm false 1 1 0 1), .sl 1 (tm true 1 0 0 0)], e85),
  ([.sl 1 (tm false 1 1 0 1), .sl 1 (tm true 1 1 0 0)], e121),
  ([.sl 1 (tm false 1 2 0 0), .sl 1 (tm true 1 1 0 0)], e176),
  ([.sl 1 (tm true 1 0 2 0), .sl 1 (tm true 1 0 1 0)], e150),
  ([.sl 1 (tm true 1 1 0 0), .sl 1 (tm false 1 0 0 0)], e155),
  ([e151, .sl 1 (tm false 2 0 1 0)], e83),
  ([e111, .sl 1 (tm true 1 0 0 0)], e89),
  ([e176, .sl 1 (tm true 1 0 0 1)], e177),
  ([e174, .sl 1 (tm true 3 0 0 1)], e178),
  ([e177, .sl 1 (tm false 1 0 0 0)], e93),
  ([e178, .sl 1 (tm false 2 0 0 0)], e97)]
def q45 : Ans := q45_0 ++ q45_1
def e179 : List DV := [e1, .agg (mo 0 0 0), .sl 1 (tm false 1 0 0 0)]
def e180 : DV := .tup [.sl 1 (tm false 1 0 2 0), .i .i64 0]
def q66_0 : Ans := [([e1, .agg (mo 0 0 0), .sl 0 []], .tup [.sl 0 [], .i .i64 0]),
  (e179, e69),
  ([e1, .agg (mo 0 0 0), .sl 1 (tm false 1 0 0 1)], e71),
  ([e1, .agg (mo 0 0 0), .sl 1 (tm false 1 0 0 2)], e104),
  ([e1, .agg (mo 0 0 0), .sl 1 (tm false 1 0 0 3)], e105),
  ([e1, .agg (mo 0 0 0), .sl 1 (tm false 1 0 1 0)], e73),
  ([e1, .agg (mo 0 0 0), .sl 1 (tm false 1 0 2 0)], e180),
  ([e1, .agg (mo 0 0 0), .sl 1 (tm false 1 1 0 0)], e124),
  ([e1, .agg (mo 0 0 0), .sl 1 (tm false 1 1 0 1)], e107),
  ([e1, .agg (mo 0 0 0), .sl 1 (tm false 1 1 1 0)], e75),
  ([e1, .agg (mo 0 0 0), .sl 1 (tm false 1 1 1 1)], e76),
  ([e1, .agg (mo 0 0 0), .sl 1 (tm false 1 2 0 0)], e77),
  ([e1, .agg (mo 0 0 0), .sl 1 (tm false 1 2 1 0)], e78),
  ([e1, .agg (mo 0 0 0), .sl 1 (tm false 1 3 0 0)], e79),
  ([e1, .agg (mo 0 0 0), .sl 1 (tm true 1 0 0 0)], e147),
  ([e1, .agg (mo 0 0 0), .sl 1 (tm true 1 0 0 2)], e80),
  ([e1, .agg (mo 0 0 0), .sl 1 (tm true 1 1 1 0)], e81),
  ([e1, .agg (mo 0 0 0), .sl 1 (tm true 1 2 0 0)], e82),
  ([e1, .agg (mo 0 0 0), e127], .tup [e127, .i .i64 0]),
  ([e1, .agg (mo 0 0 0), e149], .tup [e149, .i .i64 0])]
def e181 : DV := .sl 3 (tm true 1 2 0 2 ++ (tm true 1 1 0 1 ++ (tm true 1 0 0 0)))
def q66_1 : Ans := [([e1, .agg (mo 0 0 0), e83], .tup [e83, .i .i64 0]),
  ([e1, .agg (mo 0 0 0), e84], .tup [e84, .i .i64 0]),
  ([e1, .agg (mo 0 0 0), e85], .tup [e85, .i .i64 0]),
  ([e1, .agg (mo 0 0 0), e121], .tup [e121, .i .i64 0]),
  ([e1, .agg (mo 0 0 0), e129], .tup [e129, .i .i64 0]),
  ([e1, .agg (mo 0 0 0), e89], .tup [e89, .i .i64 0]),
  ([e1, .agg (mo 0 0 0), e92], .tup [e92, .i .i64 0]),
  ([e1, .agg (mo 0 0 0), e181], .tup [e181, .i .i64 0]),
  ([e1, .agg (mo 0 0 0), e93], .tup [e93, .i .i64 0]),
  ([e1, .agg (mo 0 0 0), e97], .tup [e97, .i .i64 0]),
  ([e1, .agg (mo 0 0 0), e100], .tup [e100, .i .i64 0]),
  ([e1, .agg (mo 0 1 0), .sl 1 (tm false 1 1 0 0)], e75),
  ([e1, .agg (mo 1 0 0), e83], .tup [e166, .i .i64 0]),
  ([e2, .agg (mo 0 0 0), .sl 1 (tm false 1 0 2 0)], .tup [.sl 1 (tm false 2 0 2 0), .i .i64 0]),
  ([e2, .agg (mo 0 0 0), e89], .tup [e144, .i .i64 0]),
  ([e3, .agg (mo 0 0 0), e89], .tup [e145, .i .i64 0]),
  ([e4, .agg (mo 0 0 0), .sl 0 []], .tup [.sl 0 [], .i .i64 0]),
  ([e4, .agg (mo 0 0 0), .sl 1 (tm false 1 0 0 0)], e147),
  ([e4, .agg (mo 0 0 0), .sl 1 (tm true 1 0 0 0)], e69),
  ([e4, .agg (mo 0 0 0), .sl 1 (tm true 1 0 0 2)], e104)]
def q66_2 : Ans := [([e4, .agg (mo 0 0 0), .sl 1 (tm true 1 0 0 3)], e105),
  ([e4, .agg (mo 0 0 0), .sl 1 (tm true 1 0 1 0)], e73),
  ([e4, .agg (mo 0 0 0), .sl 1 (tm true 1 1 0 0)], e124),
  ([e4, .agg (mo 0 0 0), e149], .tup [e150, .i .i64 0]),
  ([e4, .agg (mo 0 0 0), e160], .tup [e129, .i .i64 0]),
  ([e4, .agg (mo 0 0 0), e161], .tup [e112, .i .i64 0]),
  ([e4, .agg (mo 0 0 0), e153], .tup [e127, .i .i64 0]),
  ([e4, .agg (mo 0 0 0), e150], .tup [e149, .i .i64 0]),
  ([e4, .agg (mo 0 0 0), e154], .tup [e121, .i .i64 0]),
  ([e4, .agg (mo 0 0 0), e157], .tup [e181, .i .i64 0]),
  ([e4, .agg (mo 0 1 0), e83], .tup [e169, .i .i64 0]),
  ([e4, .agg (mo 1 0 0), e89], .tup [e170, .i .i64 0])]
def q66 : Ans := q66_0 ++ q66_1 ++ q66_2
def q117_0 : Ans := [([.sl 1 (tm false 1 0 0 0), .sl 8 e15], .tup [.agg (tm false 1 0 0 0), .b true]),
  ([.sl 1 (tm false 1 0 0 0), e66], .tup [.agg (tm false 1 0 0 0), .b true]),
  ([.sl 1 (tm false 1 0 1 0), .sl 8 e15], .tup [.agg (tm false 1 0 1 0), .b true]),
  ([.sl 1 (tm false 1 0 1 0), e66], .tup [.agg (tm false 1 0 1 0), .b true]),
  ([.sl 1 (tm false 1 0 1 0), e67], .tup [.agg (tm false 1 0 1 0), .b true]),
  ([.sl 1 (tm false 1 0 2 0), .sl 8 e15], .tup [.agg (tm false 1 0 2 0), .b true]),
  ([.sl 1 (tm false 1 1 0 0), .sl 8 e15], .tup [.agg (tm false 1 1 0 0), .b true]),
  ([.sl 1 (tm false 1 1 0 0), e66], .tup [.agg (tm false 1 1 0 0), .b true]),
  ([.sl 1 (tm false 1 1 0 1), e66], .tup [.agg (tm false 1 1 0 1), .b true]),
  ([.sl 1 (tm false 1 1 1 0), .sl 8 e15], .tup [.agg (tm false 1 1 1 0), .b true]),
  ([.sl 1 (tm false 1 1 1 0), e66], .tup [.agg (tm false 1 1 1 0), .b true]),
  ([.sl 1 (tm false 1 1 1 1), e66], .tup [.agg (tm false 1 1 1 1), .b true]),
  ([.sl 1 (tm false 1 2 0 0), .sl 8 e15], .tup [.agg (tm false 1 2 0 0), .b true]),
  ([.sl 1 (tm false 1 2 1 0), .sl 8 e15], .tup [.agg (tm false 1 2 1 0), .b true]),
  ([.sl 1 (tm false 1 2 1 0), e66], .tup [.agg (tm false 1 2 1 0), .b true]),
  ([.sl 1 (tm false 1 3 0 0), .sl 8 e15], .tup [.agg (tm false 1 3 0 0), .b true]),
  ([.sl 1 (tm false 2 0 0 0), .sl 8 e15], .tup [.agg (tm false 2 0 0 0), .b true]),
  ([.sl 1 (tm false 2 0 2 0), .sl 8 e15], .tup [.agg (tm false 2 0 2 0), .b true]),
  ([.sl 1 (tm true 1 0 0 0), .sl 8 e15], .tup [.agg (tm true 1 0 0 0), .b true]),
  ([.sl 1 (tm true 1 0 0 0), e66], .tup [.agg (tm true 1 0 0 0), .b true])]
def q117_1 : Ans := [([.sl 1 (tm true 1 0 1 0), .sl 8 e15], .tup [.agg (tm true 1 0 1 0), .b true]),
  ([.sl 1 (tm true 1 0 1 0), e66], .tup [.agg (tm true 1 0 1 0), .b true]),
  ([.sl 1 (tm true 1 0 1 0), e67], .tup [.agg (tm true 1 0 1 0), .b true]),
  ([.sl 1 (tm true 1 0 2 0), e67], .tup [.agg (tm true 1 0 2 0), .b true]),
  ([.sl 1 (tm true 1 1 0 0), .sl 8 e15], .tup [.agg (tm true 1 1 0 0), .b true]),
  ([.sl 1 (tm true 1 1 0 0), e66], .tup [.agg (tm true 1 1 0 0), .b true]),
  ([e163, .sl 8 e15], .tup [.agg (tm false 1 0 0 1), .b true]),
  ([e127, e66], .tup [.agg (tm false 1 0 1 1), .b true]),
  ([e149, .sl 8 e15], .tup [.agg (tm false 1 0 2 0), .b true]),
  ([e149, e67], .tup [.agg (tm false 1 0 2 0), .b true]),
  ([e83, .sl 8 e15], .tup [.agg (tm false 1 1 0 0), .b true]),
  ([e83, e67], .tup [.agg (tm false 1 1 0 0), .b true]),
  ([e84, e67], .tup [.agg (tm false 1 1 0 0), .b true]),
  ([e85, .sl 8 e15], .tup [.agg (tm false 1 1 0 1), .b true]),
  ([e85, e66], .tup [.agg (tm false 1 1 0 1), .b true]),
  ([e121, .sl 8 e15], .tup [.agg (tm false 1 1 0 1), .b true]),
  ([e121, e66], .tup [.agg (tm false 1 1 0 1), .b true]),
  ([e165, .sl 8 e15], .tup [.agg (tm false 1 2 0 0), .b true]),
  ([e152, .sl 8 e15], .tup [.agg (tm true 1 0 0 1), .b true]),
  ([e153, e66], .tup [.agg (tm true 1 0 1 1), .b true])]
def q117_2 : Ans := [([e150, e67], .tup [.agg (tm true 1 0 2 0), .b true]),
  ([e154, e66], .tup [.agg (tm true 1 1 0 1), .b true]),
  ([e167, .sl 8 e15], .tup [.agg (tm true 1 1 1 0), .b true]),
  ([e88, .sl 8 e15], .tup [.agg (tm true 1 2 0 1), .b true]),
  ([e171, .sl 8 e15], .tup [.agg (tm true 3 0 0 1), .b true]),
  ([e89, .sl 8 e15], .tup [.agg (tm false 1 1 0 1), .b true]),
  ([e90, .sl 8 e15], .tup [.agg (tm false 1 2 0 0), .b true]),
  ([e164, .sl 8 e15], .tup [.agg (tm true 1 1 0 0), .b true]),
  ([e172, .sl 8 e15], .tup [.agg (tm true 1 1 0 0), .b true]),
  ([e93, .sl 8 e15], .tup [.agg (tm false 1 2 0 0), .b true]),
  ([e96, .sl 8 e15], .tup [.agg (tm false 2 1 0 1), .b true]),
  ([e173, .sl 8 e15], .tup [.agg (tm false 3 1 0 1), .b true]),
  ([e97, .sl 8 e15], .tup [.agg (tm false 1 0 0 2), .b true]),
  ([e98, .sl 8 e15], .tup [.agg (tm false 1 2 0 0), .b true])]
def q117 : Ans := q117_0 ++ q117_1 ++ q117_2
def q133_0 : Ans := [([.sl 1 (tm false 1 0 0 0), .sl 8 e15], .agg (tm false 1 0 0 0 ++ ([.b true]))),
  ([.sl 1 (tm false 1 0 0 0), e66], .agg (tm false 1 0 0 0 ++ ([.b true]))),
  ([.sl 1 (tm false 1 0 1 0), .sl 8 e15], .agg (tm false 1 0 1 0 ++ ([.b true]))),
  ([.sl 1 (tm false 1 0 1 0), e66], .agg (tm false 1 0 1 0 ++ ([.b true]))),
  ([.sl 1 (tm false 1 0 1 0), e67], .agg (tm false 1 0 1 0 ++ ([.b true]))),
  ([.sl 1 (tm false 1 0 2 0), .sl 8 e15], .agg (tm false 1 0 2 0 ++ ([.b true]))),
  ([.sl 1 (tm false 1 1 0 0), .sl 8 e15], .agg (tm false 1 1 0 0 ++ ([.b true]))),
  ([.sl 1 (tm false 1 1 0 1), e66], .agg (tm false 1 1 0 1 ++ ([.b true]))),
  ([.sl 1 (tm false 1 1 1 0), .sl 8 e15], .agg (tm false 1 1 1 0 ++ ([.b true]))),
  ([.sl 1 (tm false 1 1 1 0), e66], .agg (tm false 1 1 1 0 ++ ([.b true]))),
  ([.sl 1 (tm false 1 1 1 1), e66], .agg (tm false 1 1 1 1 ++ ([.b true]))),
  ([.sl 1 (tm false 1 2 0 0), .sl 8 e15], .agg (tm false 1 2 0 0 ++ ([.b true]))),
  ([.sl 1 (tm false 1 2 1 0), .sl 8 e15], .agg (tm false 1 2 1 0 ++ ([.b true]))),
  ([.sl 1 (tm false 1 2 1 0), e66], .agg (tm false 1 2 1 0 ++ ([.b true]))),
  ([.sl 1 (tm false 1 3 0 0), .sl 8 e15], .agg (tm false 1 3 0 0 ++ ([.b true]))),
  ([.sl 1 (tm false 2 0 0 0), .sl 8 e15], .agg (tm false 2 0 0 0 ++ ([.b true]))),
  ([.sl 1 (tm false 2 0 2 0), .sl 8 e15], .agg (tm false 2 0 2 0 ++ ([.b true]))),
  ([.sl 1 (tm true 1 0 0 0), .sl 8 e15], .agg (tm true 1 0 0 0 ++ ([.b true]))),
  ([.sl 1 (tm true 1 0 0 0), e66], .agg (tm true 1 0 0 0 ++ ([.b true]))),
  ([.sl 1 (tm true 1 0 1 0), .sl 8 e15], .agg (tm true 1 0 1 0 ++ ([.b true])))]
def q133_1 : Ans := [([.sl 1 (tm true 1 0 1 0), e66], .agg (tm true 1 0 1 0 ++ ([.b true]))),
  ([.sl 1 (tm true 1 0 1 0), e67], .agg (tm true 1 0 1 0 ++ ([.b true]))),
  ([.sl 1 (tm true 1 0 2 0), e67], .agg (tm true 1 0 2 0 ++ ([.b true]))),
  ([.sl 1 (tm true 1 1 0 0), .sl 8 e15], .agg (tm true 1 1 0 0 ++ ([.b true]))),
  ([.sl 1 (tm true 1 1 0 0), e66], .agg (tm true 1 1 0 0 ++ ([.b true]))),
  ([e163, .sl 8 e15], .agg (tm false 1 0 0 1 ++ ([.b true]))),
  ([e127, e66], .agg (tm false 1 0 1 1 ++ ([.b true]))),
  ([e149, .sl 8 e15], .agg (tm false 1 0 2 0 ++ ([.b true]))),
  ([e149, e67], .agg (tm false 1 0 2 0 ++ ([.b true]))),
  ([e83, .sl 8 e15], .agg (tm false 1 1 0 0 ++ ([.b true]))),
  ([e83, e67], .agg (tm false 1 1 0 0 ++ ([.b true]))),
  ([e84, e67], .agg (tm false 1 1 0 0 ++ ([.b true]))),
  ([e85, .sl 8 e15], .agg (tm false 1 1 0 1 ++ ([.b true]))),
  ([e85, e66], .agg (tm false 1 1 0 1 ++ ([.b true]))),
  ([e121, .sl 8 e15], .agg (tm false 1 1 0 1 ++ ([.b true]))),
  ([e121, e66], .agg (tm false 1 1 0 1 ++ ([.b true]))),
  ([e165, .sl 8 e15], .agg (tm false 1 2 0 0 ++ ([.b true]))),
  ([e152, .sl 8 e15], .agg (tm true 1 0 0 1 ++ ([.b true]))),
  ([e150, e67], .agg (tm true 1 0 2 0 ++ ([.b true]))),
  ([e167, .sl 8 e15], .agg (tm true 1 1 1 0 ++ ([.b true])))]
def q133_2 : Ans := [([e88, .sl 8 e15], .agg (tm true 1 2 0 1 ++ ([.b true]))),
  ([e171, .sl 8 e15], .agg (tm true 3 0 0 1 ++ ([.b true]))),
  ([e89, .sl 8 e15], .agg (tm false 1 1 0 1 ++ ([.b true]))),
  ([e90, .sl 8 e15], .agg (tm false 1 2 0 0 ++ ([.b true]))),
  ([e164, .sl 8 e15], .agg (tm true 1 1 0 0 ++ ([.b true]))),
  ([e172, .sl 8 e15], .agg (tm true 1 1 0 0 ++ ([.b true]))),
  ([e93, .sl 8 e15], .agg (tm false 1 2 0 0 ++ ([.b true]))),
  ([e96, .sl 8 e15], .agg (tm false 2 1 0 1 ++ ([.b true]))),
  ([e173, .sl 8 e15], .agg (tm false 3 1 0 1 ++ ([.b true]))),
  ([e97, .sl 8 e15], .agg (tm false 1 0 0 2 ++ ([.b true]))),
  ([e98, .sl 8 e15], .agg (tm false 1 2 0 0 ++ ([.b true])))]
def q133 : Ans := q133_0 ++ q133_1 ++ q133_2
def q40_0 : Ans := [(e179, e69),
  ([e1, .agg (mo 0 1 0), .sl 1 (tm false 1 0 0 0)], e73),
  ([e1, .agg (mo 0 1 0), e83], .tup [e119, .i .i64 0]),
  ([e1, .agg (mo 0 2 0), .sl 1 (tm false 1 0 0 0)], e180),
  ([e1, .agg (mo 1 0 0), .sl 1 (tm false 1 0 0 0)], e124),
  ([e1, .agg (mo 1 0 0), e83], .tup [e166, .i .i64 0]),
  ([e1, .agg (mo 1 1 0), .sl 1 (tm false 1 0 0 0)], e75),
  ([e1, .agg (mo 2 0 0), .sl 1 (tm false 1 0 0 0)], e77),
  ([e1, .agg (mo 2 1 0), .sl 1 (tm false 1 0 0 0)], e78),
  ([e1, .agg (mo 3 0 0), .sl 1 (tm false 1 0 0 0)], e79),
  ([e4, .agg (mo 0 0 0), .sl 1 (tm false 1 0 2 0)], .tup [.sl 1 (tm true 1 0 2 0), .i .i64 0]),
  ([e5, .agg (mo 0 0 0), .sl 1 (tm false 1 1 1 0)], .tup [.sl 1 (tm true 2 1 1 0), .i .i64 0])]
def q40 : Ans := q40_0
def e182 : DV := .sl 3 (tm false 1 2 0 0 ++ (tm false 2 1 1 0 ++ (tm false 1 0 2 0)))
def q8_0 : Ans := [([.sl 0 [], .sl 1 (tm true 2 1 1 0)], .sl 1 (tm true 2 1 1 0)),
  ([.sl 0 [], e166], e166),
  ([.sl 0 [], e182], e182),
  (e175, e149),
  (e123, e110),
  (e125, e83),
  ([.sl 1 (tm false 1 1 0 0), .sl 1 (tm true 1 0 2 0)], e84),
  ([.sl 1 (tm false 1 2 0 0), .sl 1 (tm false 1 0 2 0)], e165),
  ([e166, e119], e182),
  ([e182, .sl 1 (tm true 2 1 1 0)], e165)]
def q8 : Ans := q8_0
def q17_0 : Ans := [(e68, .b true),
  (e159, .b true),
  (e162, .b true),
  ([e149, e149], .b true),
  ([e165, e165], .b true)]
def q17 : Ans := q17_0
def q58_0 : Ans := [([.sl 0 []], .i .u8 0),
  ([.sl 1 (tm false 1 0 0 0)], .i .u8 0),
  ([.sl 1 (tm false 1 0 1 0)], .i .u8 2),
  ([.sl 1 (tm false 1 1 0 0)], .i .u8 1),
  ([.sl 1 (tm false 1 1 0 1)], .i .u8 129),
  ([.sl 1 (tm false 1 1 1 0)], .i .u8 3),
  ([.sl 1 (tm false 1 2 1 0)], .i .u8 3),
  ([.sl 1 (tm false 1 3 0 0)], .i .u8 1),
  ([e127], .i .u8 130),
  ([e149], .i .u8 2),
  ([e110], .i .u8 1),
  ([e83], .i .u8 3),
  ([e84], .i .u8 3),
  ([e85], .i .u8 129),
  ([e121], .i .u8 129)]
def q58 : Ans := q58_0
def q81_0 : Ans := [([], .own 0 8 [.i .i64 1, .i .i64 1, .i .i64 1, .i .i64 1, .i .i64 1, .i .i64 1, .i .i64 1, .i .i64 1] 0 1)]
def q81 : Ans := q81_0
def e183 : DV := .tup [.sl 3 [.sl 0 [], .sl 0 [], .sl 0 []], .sl 0 [], .i .i64 0]
def e184 : DV := .sl 3 [.sl 1 (tm false 1 2 1 0), e85, .sl 1 (tm false 1 1 1 0)]
def e185 : DV := .sl 4 [.sl 0 [], .sl 0 [], .sl 0 [], .sl 0 []]
def e186 : DV := .tup [.sl 0 [], .sl 1 (tm false 1 0 0 0), .i .i64 0]
def e187 : DV := .tup [.sl 1 [.sl 1 (tm false 1 0 0 0)], .sl 0 [], .i .i64 0]
def e188 : DV := .sl 4 [.sl 1 (tm false 1 0 1 0), e97, e89, e93]
def e189 : DV := .tup [.sl 1 [.sl 0 []], .sl 1 (tm false 1 0 1 0), .i .i64 0]
def q44_0 : Ans := [([.sl 0 [], .sl 1 [.sl 1 (tm false 1 1 0 0)], .sl 8 e15], .tup [.sl 1 [.sl 0 []], .sl 0 [], .i .i64 0]),
  ([.sl 0 [], .sl 3 [.sl 1 (tm false 1 1 0 1), e127, .sl 1 (tm false 1 1 1 0)], e66], e183),
  ([.sl 0 [], .sl 3 [.sl 1 (tm false 1 1 1 1), e121, .sl 1 (tm false 1 1 1 0)], e66], e183),
  ([.sl 0 [], e184, e66], e183),
  ([.sl 0 [], .sl 4 [.sl 1 (tm false 1 2 1 0), e85, .sl 1 (tm false 1 1 1 0), .sl 1 (tm false 1 0 1 0)], e66], .tup [e185, .sl 0 [], .i .i64 0]),
  ([.sl 0 [], .sl 6 [.sl 1 (tm false 1 3 0 0), .sl 1 (tm false 1 0 1 0), e85, .sl 1 (tm false 1 2 0 0), .sl 1 (tm false 1 1 0 0), .sl 1 (tm false 1 0 0 0)], .sl 8 e15], .tup [.sl 6 [.sl 0 [], .sl 0 [], .sl 0 [], .sl 0 [], .sl 0 [], .sl 0 []], .sl 0 [], .i .i64 0]),
  ([.sl 1 (tm false 1 0 0 0), .sl 0 [], .sl 8 e15], e186),
  ([.sl 1 (tm false 1 0 0 0), .sl 0 [], e66], e186),
  ([.sl 1 (tm false 1 0 0 0), .sl 1 [.sl 1 (tm false 1 0 0 0)], .sl 8 e15], e187),
  ([.sl 1 (tm false 1 0 0 0), .sl 1 [.sl 1 (tm false 1 1 0 0)], .sl 8 e15], .tup [.sl 1 [.sl 0 []], .sl 1 (tm false 1 0 0 0), .i .i64 0]),
  ([.sl 1 (tm false 1 0 0 0), e188, .sl 8 e15], .tup [e185, .sl 1 (tm false 1 0 0 0), .i .i64 0]),
  ([.sl 1 (tm false 1 0 1 0), .sl 0 [], .sl 8 e15], .tup [.sl 0 [], .sl 1 (tm false 1 0 1 0), .i .i64 0]),
  ([.sl 1 (tm false 1 0 1 0), .sl 1 [.sl 1 (tm false 1 1 0 0)], .sl 8 e15], e189),
  ([.sl 1 (tm false 1 0 1 0), .sl 1 [.sl 1 (tm false 1 2 1 0)], .sl 8 e15], e189),
  ([.sl 1 (tm false 1 0 1 0), .sl 1 [.sl 1 (tm false 1 3 0 0)], .sl 8 e15], e189),
  ([.sl 1 (tm false 1 0 1 0), .sl 1 [e83], .sl 8 e15], e189),
  ([.sl 1 (tm false 1 0 1 0), .sl 1 [e85], e66], e189),
  ([.sl 1 (tm false 1 0 1 0), .sl 3 [e97, e89, e93], .sl 8 e15], .tup [.sl 3 [.sl 0 [], .sl 0 [], .sl 0 []], .sl 1 (tm false 1 0 1 0), .i .i64 0]),
  ([.sl 1 (tm false 1 0 2 0), .sl 1 [e83], .sl 8 e15], .tup [.sl 1 [.sl 0 []], .sl 1 (tm false 1 0 2 0), .i .i64 0]),
  ([.sl 1 (tm false 1 0 2 0), .sl 2 [e83, .sl 1 (tm false 1 1 1 0)], .sl 8 e15], .tup [.sl 2 [.sl 0 [], .sl 0 []], .sl 1 (tm false 1 0 2 0), .i .i64 0])]
def e190 : DV := .sl 2 [.sl 1 (tm false 1 0 1 0), .sl 1 (tm false 1 3 0 0)]
def e191 : DV := .sl 2 [.sl 1 (tm false 1 0 0 0), .sl 0 []]
def e192 : DV := .tup [.sl 1 [.sl 0 []], .sl 1 (tm false 1 1 1 0), .i .i64 0]
def e193 : DV := .tup [.sl 2 [.sl 0 [], .sl 0 []], .sl 1 (tm false 1 1 1 0), .i .i64 0]
def e194 : DV := .sl 2 [.sl 0 [], .sl 1 (tm false 1 0 0 0)]
def q44_1 : Ans := [([.sl 1 (tm false 1 1 0 0), .sl 0 [], .sl 8 e15], .tup [.sl 0 [], .sl 1 (tm false 1 1 0 0), .i .i64 0]),
  ([.sl 1 (tm false 1 1 0 0), .sl 1 [.sl 1 (tm false 1 0 1 0)], .sl 8 e15], .tup [.sl 1 [.sl 0 []], .sl 1 (tm false 1 1 0 0), .i .i64 0]),
  ([.sl 1 (tm false 1 1 0 0), e190, .sl 8 e15], .tup [.sl 2 [.sl 0 [], .sl 0 []], .sl 1 (tm false 1 1 0 0), .i .i64 0]),
  ([.sl 1 (tm false 1 1 0 0), .sl 2 [e83, .sl 1 (tm false 1 0 2 0)], .sl 8 e15], .tup [e191, .sl 1 (tm true 1 0 1 0), .i .i64 0]),
  ([.sl 1 (tm false 1 1 0 1), .sl 2 [.sl 1 (tm false 1 1 1 0), e127], e66], .tup [.sl 2 [.sl 0 [], .sl 0 []], .sl 1 (tm false 1 1 0 1), .i .i64 0]),
  ([.sl 1 (tm false 1 1 1 0), .sl 0 [], .sl 8 e15], .tup [.sl 0 [], .sl 1 (tm false 1 1 1 0), .i .i64 0]),
  ([.sl 1 (tm false 1 1 1 0), .sl 1 [.sl 1 (tm false 1 2 1 0)], .sl 8 e15], e192),
  ([.sl 1 (tm false 1 1 1 0), .sl 1 [e121], e66], e192),
  ([.sl 1 (tm false 1 1 1 0), .sl 2 [.sl 1 (tm false 1 1 0 1), e127], e66], e193),
  ([.sl 1 (tm false 1 1 1 0), .sl 2 [.sl 1 (tm false 1 1 1 1), e121], e66], e193),
  ([.sl 1 (tm false 1 1 1 0), .sl 2 [.sl 1 (tm false 1 2 1 0), e85], e66], e193),
  ([.sl 1 (tm false 1 1 1 0), .sl 2 [e127, .sl 1 (tm false 1 1 0 1)], e66], e193),
  ([.sl 1 (tm false 1 2 0 0), e190, .sl 8 e15], .tup [.sl 2 [.sl 0 [], .sl 0 []], .sl 1 (tm false 1 2 0 0), .i .i64 0]),
  ([.sl 1 (tm false 1 2 0 0), .sl 3 [.sl 1 (tm false 1 3 0 0), .sl 1 (tm false 1 0 1 0), e85], .sl 8 e15], .tup [.sl 3 [.sl 0 [], .sl 0 [], .sl 0 []], .sl 1 (tm false 1 2 0 0), .i .i64 0]),
  ([.sl 1 (tm false 1 2 1 0), .sl 0 [], .sl 8 e15], .tup [.sl 0 [], .sl 1 (tm false 1 2 1 0), .i .i64 0]),
  ([.sl 1 (tm false 1 2 1 0), .sl 1 [.sl 1 (tm false 1 2 1 0)], .sl 8 e15], e187),
  ([.sl 1 (tm false 1 3 0 0), .sl 1 [.sl 1 (tm false 1 0 1 0)], .sl 8 e15], .tup [.sl 1 [.sl 0 []], .sl 1 (tm false 1 3 0 0), .i .i64 0]),
  ([.sl 1 (tm false 1 3 0 0), e190, .sl 8 e15], .tup [e194, .sl 0 [], .i .i64 0]),
  ([.sl 1 (tm true 1 0 0 0), .sl 5 [.sl 1 (tm false 1 3 0 0), .sl 1 (tm false 1 0 1 0), e85, .sl 1 (tm false 1 2 0 0), .sl 1 (tm false 1 1 0 0)], .sl 8 e15], .tup [.sl 5 [.sl 0 [], .sl 0 [], .sl 0 [], .sl 0 [], .sl 0 []], .sl 1 (tm true 1 0 0 0), .i .i64 0]),
  ([.sl 1 (tm true 1 0 1 0), e184, e66], .tup [.sl 3 [.sl 0 [], .sl 0 [], .sl 0 []], .sl 1 (tm true 1 0 1 0), .i .i64 0])]
def e195 : DV := .sl 5 [.sl 1 (tm false 1 3 0 0), .sl 1 (tm false 1 0 1 0), e89, e93, e97]
def q44_2 : Ans := [([.sl 1 (tm true 1 1 0 0), .sl 4 [.sl 1 (tm false 1 3 0 0), .sl 1 (tm false 1 0 1 0), e85, .sl 1 (tm false 1 2 0 0)], .sl 8 e15], .tup [e185, .sl 1 (tm true 1 1 0 0), .i .i64 0]),
  ([e127, .sl 2 [.sl 1 (tm false 1 1 1 0), .sl 1 (tm false 1 1 0 1)], e66], .tup [.sl 2 [.sl 0 [], .sl 0 []], e127, .i .i64 0]),
  ([e149, .sl 0 [], .sl 8 e15], .tup [.sl 0 [], e149, .i .i64 0]),
  ([e149, .sl 1 [e84], e67], .tup [.sl 1 [.sl 0 []], e149, .i .i64 0]),
  ([e83, .sl 1 [.sl 1 (tm false 1 0 1 0)], .sl 8 e15], .tup [.sl 1 [.sl 1 (tm false 1 0 0 0)], .sl 1 (tm false 1 1 0 0), .i .i64 0]),
  ([e83, .sl 1 [.sl 1 (tm false 1 0 2 0)], .sl 8 e15], .tup [.sl 1 [.sl 0 []], e83, .i .i64 0]),
  ([e84, .sl 1 [e149], e67], .tup [.sl 1 [.sl 1 (tm true 1 0 0 0)], e83, .i .i64 0]),
  ([e85, .sl 1 [.sl 1 (tm false 1 0 1 0)], e66], .tup [.sl 1 [.sl 0 []], e85, .i .i64 0]),
  ([e121, .sl 1 [.sl 1 (tm false 1 1 1 0)], e66], .tup [.sl 1 [.sl 0 []], e121, .i .i64 0]),
  ([e165, .sl 2 [e83, .sl 1 (tm false 1 0 2 0)], .sl 8 e15], .tup [.sl 2 [e151, .sl 1 (tm false 2 0 0 0)], .sl 0 [], .i .i64 0]),
  ([e150, .sl 2 [e84, e83], e67], .tup [.sl 2 [.sl 0 [], .sl 0 []], e150, .i .i64 0]),
  ([e88, .sl 3 [.sl 1 (tm false 1 3 0 0), .sl 1 (tm false 1 0 1 0), e89], .sl 8 e15], .tup [.sl 3 [.sl 0 [], .sl 0 [], e155], e93, .i .i64 0]),
  ([e89, .sl 3 [.sl 1 (tm false 1 0 1 0), e97, e93], .sl 8 e15], .tup [.sl 3 [.sl 0 [], .sl 0 [], .sl 0 []], e89, .i .i64 0]),
  ([e90, e195, .sl 8 e15], .tup [.sl 5 [.sl 0 [], .sl 0 [], .sl 1 (tm false 1 0 0 0), .sl 1 (tm false 1 0 0 0), .sl 0 []], .sl 0 [], .i .i64 0]),
  ([e93, .sl 3 [.sl 1 (tm false 1 0 1 0), e97, e89], .sl 8 e15], .tup [.sl 3 [.sl 0 [], .sl 0 [], .sl 0 []], e93, .i .i64 0]),
  ([e96, .sl 4 [.sl 1 (tm false 1 3 0 0), .sl 1 (tm false 1 0 1 0), e89, e93], .sl 8 e15], .tup [.sl 4 [.sl 0 [], .sl 0 [], .sl 1 (tm false 2 0 0 0), .sl 0 []], e97, .i .i64 0]),
  ([e97, .sl 3 [.sl 1 (tm false 1 0 1 0), e89, e93], .sl 8 e15], .tup [.sl 3 [.sl 0 [], .sl 0 [], .sl 0 []], e97, .i .i64 0]),
  ([e98, e195, .sl 8 e15], .tup [.sl 5 [.sl 0 [], .sl 0 [], .sl 1 (tm false 3 0 0 0), .sl 1 (tm false 1 0 0 0), .sl 1 (tm false 1 0 0 0)], .sl 0 [], .i .i64 0])]
def q44 : Ans := q44_0 ++ q44_1 ++ q44_2
def e196 : DV := .agg ([.sl 1 (tm false 1 0 0 0), .sl 1 [.sl 1 (tm false 1 0 0 0)]] ++ (tm false 1 0 0 0))
def e197 : DV := .sl 3 [.sl 1 (tm false 1 0 0 3), .sl 0 [], e181]
def e198 : DV := .agg ([.sl 1 (tm false 1 0 0 0), e197] ++ (tm false 1 0 0 0))
def e199 : DV := .agg ([.sl 1 (tm false 1 0 1 0), .sl 1 [.sl 1 (tm false 1 0 0 0)]] ++ (tm false 1 0 1 0))
def e200 : List DV := ([.sl 1 (tm false 1 0 1 0), e194] ++ (tm false 1 0 1 0))
def e201 : DV := .sl 3 [.sl 0 [], .sl 1 (tm false 1 0 0 0), .sl 0 []]
def e202 : DV := .agg ([.sl 1 (tm false 1 0 1 0), e201] ++ (tm false 1 0 1 0))
def e203 : List DV := ([.sl 1 (tm false 1 0 2 0), .sl 2 e118] ++ (tm false 1 0 2 0))
def e204 : DV := .agg ([.sl 1 (tm false 1 1 0 0), .sl 1 [.sl 1 (tm false 1 0 0 0)]] ++ (tm false 1 1 0 0))
def e205 : List DV := ([.sl 1 (tm false 1 1 0 0), e191] ++ (tm false 1 1 0 0))
def e206 : DV := .sl 2 [.sl 1 (tm false 1 0 0 0), .sl 1 (tm true 1 0 0 0)]
def e207 : DV := .agg ([.sl 1 (tm false 1 1 0 0), e206] ++ (tm false 1 1 0 0))
def e208 : DV := .agg ([.sl 1 (tm false 1 1 1 0), .sl 1 [.sl 1 (tm false 1 0 0 0)]] ++ (tm false 1 1 1 0))
def e209 : DV := .agg ([.sl 1 (tm false 1 1 1 0), e194] ++ (tm false 1 1 1 0))
def e210 : DV := .sl 3 [.sl 1 (tm false 1 0 0 1), .sl 0 [], .sl 1 (tm true 1 2 0 0)]
def e211 : DV := .agg ([.sl 1 (tm false 1 2 0 0), e210] ++ (tm false 1 2 0 0))
def e212 : DV := .agg ([.sl 1 (tm false 1 2 1 0), .sl 1 [.sl 1 (tm false 1 0 0 0)]] ++ (tm false 1 2 1 0))
def e213 : List DV := ([.sl 1 (tm false 1 3 0 0), e191] ++ (tm false 1 3 0 0))
def e214 : DV := .sl 3 [.sl 1 (tm false 1 0 0 0), .sl 0 [], .sl 0 []]
def e215 : DV := .agg ([.sl 1 (tm false 1 3 0 0), e214] ++ (tm false 1 3 0 0))
def e216 : DV := .sl 3 [.sl 1 (tm true 1 0 0 3), .sl 0 [], e157]
def e217 : DV := .sl 3 [.sl 1 (tm true 1 0 0 2), .sl 0 [], e161]
def e218 : DV := .sl 3 [.sl 1 (tm false 1 0 0 2), .sl 0 [], e112]
def e219 : DV := .agg ([.sl 1 (tm false 1 1 0 0), e218] ++ (tm false 1 1 0 0))
def e220 : DV := .agg ([e149, .sl 1 [.sl 1 (tm false 1 0 0 0)]] ++ (tm false 1 0 2 0))
def e221 : DV := .sl 3 [.sl 0 [], .sl 0 [], .sl 1 (tm false 1 0 0 0)]
def q77_0 : Ans := [([.sl 8 e15, .sl 1 (tm false 1 0 0 0), .sl 1 [.sl 1 (tm false 1 0 0 0)]], e196),
  ([.sl 8 e15, .sl 1 (tm false 1 0 0 0), e197], e198),
  ([.sl 8 e15, .sl 1 (tm false 1 0 1 0), .sl 1 [.sl 1 (tm false 1 0 0 0)]], e199),
  ([.sl 8 e15, .sl 1 (tm false 1 0 1 0), e194], .agg e200),
  ([.sl 8 e15, .sl 1 (tm false 1 0 1 0), e201], e202),
  ([.sl 8 e15, .sl 1 (tm false 1 0 2 0), .sl 2 e118], .agg e203),
  ([.sl 8 e15, .sl 1 (tm false 1 1 0 0), .sl 1 [.sl 1 (tm false 1 0 0 0)]], e204),
  ([.sl 8 e15, .sl 1 (tm false 1 1 0 0), e191], .agg e205),
  ([.sl 8 e15, .sl 1 (tm false 1 1 0 0), e206], e207),
  ([.sl 8 e15, .sl 1 (tm false 1 1 1 0), .sl 1 [.sl 1 (tm false 1 0 0 0)]], e208),
  ([.sl 8 e15, .sl 1 (tm false 1 1 1 0), e194], e209),
  ([.sl 8 e15, .sl 1 (tm false 1 2 0 0), e210], e211),
  ([.sl 8 e15, .sl 1 (tm false 1 2 1 0), .sl 1 [.sl 1 (tm false 1 0 0 0)]], e212),
  ([.sl 8 e15, .sl 1 (tm false 1 3 0 0), e191], .agg e213),
  ([.sl 8 e15, .sl 1 (tm false 1 3 0 0), e214], e215),
  ([.sl 8 e15, .sl 1 (tm true 1 0 0 0), e216], e198),
  ([.sl 8 e15, .sl 1 (tm true 1 1 0 0), e217], e219),
  ([.sl 8 e15, e149, .sl 1 [.sl 1 (tm false 1 0 0 0)]], e220),
  ([.sl 8 e15, e83, e191], .agg ([e83, e191] ++ (tm false 1 1 0 0))),
  ([.sl 8 e15, e85, e221], .agg ([e85, e221] ++ (tm false 1 1 0 1)))]
def e222 : DV := .sl 3 [.sl 1 (tm false 1 0 0 1), .sl 0 [], e92]
def e223 : DV := .sl 3 [.sl 1 (tm true 1 0 0 2), .sl 0 [], e100]
def e224 : DV := .sl 2 [.sl 0 [], .sl 1 (tm true 1 0 0 0)]
def e225 : DV := .agg ([.sl 1 (tm false 1 0 0 0), e224] ++ (tm false 1 0 0 0))
def e226 : List DV := ([.sl 1 (tm false 1 0 1 0), .sl 2 [.sl 1 (tm false 1 0 0 2), e129]] ++ (tm false 1 0 1 0))
def e227 : DV := .agg ([.sl 1 (tm false 1 1 0 1), e191] ++ (tm false 1 1 0 1))
def e228 : List DV := ([.sl 1 (tm false 1 1 1 0), .sl 2 e72] ++ (tm false 1 1 1 0))
def e229 : DV := .agg ([.sl 1 (tm false 1 1 1 0), .sl 2 e109] ++ (tm false 1 1 1 0))
def e230 : DV := .agg ([.sl 1 (tm false 1 1 1 0), .sl 2 e117] ++ (tm false 1 1 1 0))
def e231 : DV := .agg ([.sl 1 (tm false 1 1 1 1), e191] ++ (tm false 1 1 1 1))
def e232 : DV := .agg ([.sl 1 (tm false 1 2 1 0), e191] ++ (tm false 1 2 1 0))
def e233 : DV := .agg ([e127, e224] ++ (tm false 1 0 1 1))
def e234 : DV := .agg ([e121, e224] ++ (tm false 1 1 0 1))
def e235 : List DV := ([e149, .sl 2 e146] ++ (tm false 1 0 2 0))
def q77_1 : Ans := [([.sl 8 e15, e89, e221], .agg ([e89, e221] ++ (tm false 1 1 0 1))),
  ([.sl 8 e15, e93, e222], .agg ([e93, e222] ++ (tm false 1 2 0 0))),
  ([.sl 8 e15, e97, e223], .agg ([e97, e223] ++ (tm false 1 0 0 2))),
  ([e66, .sl 1 (tm false 1 0 0 0), e224], e225),
  ([e66, .sl 1 (tm false 1 0 1 0), .sl 2 [.sl 1 (tm false 1 0 0 2), e129]], .agg e226),
  ([e66, .sl 1 (tm false 1 1 0 0), e191], .agg e205),
  ([e66, .sl 1 (tm false 1 1 0 1), e191], e227),
  ([e66, .sl 1 (tm false 1 1 1 0), .sl 2 e72], .agg e228),
  ([e66, .sl 1 (tm false 1 1 1 0), .sl 2 e109], e229),
  ([e66, .sl 1 (tm false 1 1 1 0), .sl 2 e117], e230),
  ([e66, .sl 1 (tm false 1 1 1 1), e191], e231),
  ([e66, .sl 1 (tm false 1 2 1 0), e191], e232),
  ([e66, .sl 1 (tm true 1 0 0 0), e194], e225),
  ([e66, .sl 1 (tm true 1 0 1 0), .sl 2 [.sl 1 (tm true 1 0 0 2), e160]], .agg e226),
  ([e66, e127, e224], e233),
  ([e66, e85, e194], .agg ([e85, e194] ++ (tm false 1 1 0 1))),
  ([e66, e121, e224], e234),
  ([e66, e153, e194], e233),
  ([e66, e154, e194], e234),
  ([e67, e149, .sl 2 e146], .agg e235)]
def q77_2 : Ans := [([e67, e83, e194], .agg ([e83, e194] ++ (tm false 1 1 0 0))),
  ([e67, e84, e191], .agg ([e84, e191] ++ (tm false 1 1 0 0))),
  ([e67, e150, e206], .agg e235)]
def q77 : Ans := q77_0 ++ q77_1 ++ q77_2
def e236 : DV := .agg ([.sl 0 [], .sl 2 [e153, .sl 1 (tm true 1 1 0 1)], .b false, .sl 0 [], .b false, .sl 0 []] ++ (mo 0 0 0))
def e237 : DV := .agg ([.sl 1 (tm false 1 1 1 0), .sl 2 e117, .b false, .sl 0 [], .b false, .sl 0 []] ++ (mo 0 0 0))
def e238 : DV := .agg ([.sl 0 [], .sl 2 [e158, .sl 1 (tm false 1 2 1 1)], .b false, .sl 0 [], .b false, .sl 0 []] ++ (mo 0 0 0))
def e239 : DV := .agg ([.sl 0 [], .sl 2 [e152, .sl 1 (tm true 1 0 1 1)], .b false, .sl 0 [], .b false, .sl 0 []] ++ (mo 0 0 0))
def e240 : DV := .agg ([.sl 1 (tm false 1 1 1 0), .sl 2 e72, .b false, .sl 0 [], .b false, .sl 0 []] ++ (mo 0 0 0))
def e241 : DV := .agg ([.sl 0 [], .sl 3 [e158, .sl 0 [], .sl 1 (tm false 1 3 0 1)], .b false, .sl 0 [], .b false, .sl 0 []] ++ (mo 0 0 0))
def e242 : DV := .agg ([.sl 0 [], .sl 2 [e87, .sl 1 (tm false 1 2 1 0)], .b false, .sl 0 [], .b false, .sl 0 []] ++ (mo 0 0 0))
def e243 : DV := .agg ([.sl 1 (tm false 1 1 1 0), .sl 2 e109, .b false, .sl 0 [], .b false, .sl 0 []] ++ (mo 0 0 0))
def e244 : DV := .agg ([.sl 0 [], .sl 3 [e87, .sl 0 [], .sl 1 (tm false 1 3 0 0)], .b false, .sl 0 [], .b false, .sl 0 []] ++ (mo 0 0 0))
def e245 : DV := .agg ([e90, .sl 3 [e87, .sl 0 [], e91], .b false, .sl 0 [], .b false, .sl 0 []] ++ (mo 0 0 0))
def e246 : DV := .agg ([.sl 1 (tm false 1 2 0 0), e210, .b false, .sl 0 [], .b false, .sl 0 []] ++ (mo 0 0 0))
def e247 : DV := .agg ([e88, e210, .b false, .sl 0 [], .b false, .sl 0 []] ++ (mo 0 0 0))
def e248 : DV := .agg ([.sl 1 (tm false 1 0 2 0), .sl 2 e118, .b false, .sl 0 [], .b false, .sl 0 []] ++ (mo 0 0 0))
def e249 : DV := .agg ([e150, e206, .b false, .sl 0 [], .b false, .sl 0 []] ++ (mo 0 0 0))
def e250 : DV := .agg ([.sl 1 (tm true 1 0 1 0), .sl 2 [.sl 1 (tm true 1 0 0 2), e160], .b false, .sl 0 [], .b false, .sl 0 []] ++ (mo 0 0 0))
def e251 : DV := .agg ([.sl 1 (tm true 1 0 0 0), e216, .b false, .sl 0 [], .b false, .sl 0 []] ++ (mo 0 0 0))
def e252 : DV := .agg ([.sl 1 (tm true 1 1 0 0), e217, .b false, .sl 0 [], .b false, .sl 0 []] ++ (mo 0 0 0))
def q124_0 : Ans := [([e227, .sl 1 (tm false 1 0 1 0), e230, .sl 1 (tm false 1 0 0 1)], e236),
  ([e227, .sl 1 (tm false 1 0 1 0), e233, .sl 1 (tm false 1 1 0 0)], e237),
  ([e229, .sl 1 (tm false 1 0 0 0), .agg e226, .sl 1 (tm false 1 1 0 0)], e238),
  ([e231, .sl 1 (tm false 1 0 0 0), .agg e228, .sl 1 (tm false 1 0 0 1)], e239),
  ([e231, .sl 1 (tm false 1 0 0 0), e234, .sl 1 (tm false 1 0 1 0)], e240),
  ([e211, .sl 1 (tm false 1 0 0 0), e219, .sl 1 (tm false 1 1 0 0)], e241),
  ([e232, .sl 1 (tm false 1 0 0 0), e229, .sl 1 (tm false 1 1 0 0)], e242),
  ([e232, .sl 1 (tm false 1 0 0 1), .agg ([e85, e194] ++ (tm false 1 1 0 1)), .sl 1 (tm false 1 1 1 0)], e243),
  ([e215, .sl 1 (tm false 1 0 0 0), e211, .sl 1 (tm false 1 1 0 0)], e244),
  ([e215, .sl 1 (tm false 1 0 0 0), .agg ([e93, e222] ++ (tm false 1 2 0 0)), .sl 1 (tm false 1 1 0 0)], e245),
  ([e215, .sl 1 (tm false 1 0 0 1), .agg ([e85, e221] ++ (tm false 1 1 0 1)), .sl 1 (tm false 1 2 0 0)], e246),
  ([e215, .sl 1 (tm false 1 0 0 1), .agg ([e89, e221] ++ (tm false 1 1 0 1)), .sl 1 (tm false 1 2 0 0)], e247),
  ([.agg ([e83, e191] ++ (tm false 1 1 0 0)), .sl 1 (tm false 1 0 0 0), .agg e200, .sl 1 (tm false 1 0 0 0)], .agg ([.sl 1 (tm false 1 1 0 0), e206, .b false, .sl 0 [], .b false, .sl 0 []] ++ (mo 0 0 0))),
  ([.agg ([e83, e191] ++ (tm false 1 1 0 0)), .sl 1 (tm false 1 0 1 0), e209, .sl 1 (tm false 1 0 0 0)], e248),
  ([.agg ([e84, e191] ++ (tm false 1 1 0 0)), .sl 1 (tm false 1 0 0 0), .agg e235, .sl 1 (tm true 1 0 0 0)], .agg ([e83, e194, .b false, .sl 0 [], .b false, .sl 0 []] ++ (mo 0 0 0))),
  ([.agg ([e84, e191] ++ (tm false 1 1 0 0)), .sl 1 (tm false 1 0 0 0), .agg ([e83, e194] ++ (tm false 1 1 0 0)), .sl 1 (tm false 1 0 0 0)], e249),
  ([.agg ([e85, e194] ++ (tm false 1 1 0 1)), .sl 1 (tm false 1 0 1 0), e229, .sl 1 (tm false 1 0 0 1)], e250),
  ([.agg ([e85, e221] ++ (tm false 1 1 0 1)), .sl 1 (tm false 1 0 0 0), e219, .sl 1 (tm false 1 0 0 1)], e251),
  ([.agg ([e85, e221] ++ (tm false 1 1 0 1)), .sl 1 (tm false 1 1 0 0), e211, .sl 1 (tm false 1 0 0 1)], e252),
  ([e247, .sl 1 (tm false 1 0 0 0), .agg ([e89, e221] ++ (tm false 1 1 0 1)), e155], .agg ([e93, e222, .b false, .sl 0 [], .b false, .sl 0 []] ++ (mo 0 0 0)))]
def e253 : DV := .agg ([e98, .sl 3 [.sl 1 (tm false 1 1 0 2), .sl 0 [], e102], .b false, .sl 0 [], .b false, .sl 0 []] ++ (mo 0 0 0))
def e254 : DV := .agg ([e96, .sl 3 [.sl 1 (tm true 1 0 0 2), .sl 0 [], e94], .b false, .sl 0 [], .b false, .sl 0 []] ++ (mo 0 0 0))
def e255 : DV := .agg ([e93, .sl 3 [e87, .sl 0 [], e95], .b false, .sl 0 [], .b false, .sl 0 []] ++ (mo 0 0 0))
def e256 : DV := .agg ([e97, .sl 3 [e86, .sl 0 [], e101], .b false, .sl 0 [], .b false, .sl 0 []] ++ (mo 0 0 0))
def e257 : DV := .agg ([e99, .sl 3 [.sl 1 (tm false 1 1 0 2), .sl 0 [], e103], .b false, .sl 0 [], .b false, .sl 0 []] ++ (mo 0 0 0))
def q124_1 : Ans := [([.agg ([e89, e221] ++ (tm false 1 1 0 1)), .sl 1 (tm false 1 0 0 1), .agg ([e97, e223] ++ (tm false 1 0 0 2)), .sl 1 (tm false 1 1 0 0)], e253),
  ([.agg ([e89, e221] ++ (tm false 1 1 0 1)), .sl 1 (tm false 1 1 0 0), .agg ([e93, e222] ++ (tm false 1 2 0 0)), .sl 1 (tm false 1 0 0 1)], e254),
  ([e245, .sl 1 (tm false 1 0 0 0), .agg ([e89, e221] ++ (tm false 1 1 0 1)), .sl 1 (tm false 1 0 0 0)], e255),
  ([e255, .sl 1 (tm false 1 0 0 0), .agg ([e93, e222] ++ (tm false 1 2 0 0)), .sl 1 (tm false 1 0 0 0)], .agg ([.sl 0 [], .sl 3 [e168, .sl 0 [], .sl 1 (tm false 1 3 0 0)], .b false, .sl 0 [], .b false, .sl 0 []] ++ (mo 0 0 0))),
  ([e254, .sl 1 (tm false 1 0 0 0), .agg ([e89, e221] ++ (tm false 1 1 0 1)), .sl 1 (tm false 2 0 0 0)], .agg ([e97, e223, .b false, .sl 0 [], .b false, .sl 0 []] ++ (mo 0 0 0))),
  ([e256, .sl 1 (tm false 1 0 0 0), .agg ([e97, e223] ++ (tm false 1 0 0 2)), .sl 1 (tm false 1 0 0 0)], .agg ([.sl 0 [], .sl 3 [e114, .sl 0 [], .sl 1 (tm true 1 3 0 1)], .b false, .sl 0 [], .b false, .sl 0 []] ++ (mo 0 0 0))),
  ([e253, .sl 1 (tm false 1 0 0 0), .agg ([e89, e221] ++ (tm false 1 1 0 1)), .sl 1 (tm false 3 0 0 0)], e257),
  ([e257, .sl 1 (tm false 1 0 0 0), .agg ([e93, e222] ++ (tm false 1 2 0 0)), .sl 1 (tm false 1 0 0 0)], e256)]
def q124 : Ans := q124_0 ++ q124_1
def q39_0 : Ans := [([.sl 1 (tm false 1 0 0 0), .sl 0 []], .sl 0 []),
  ([.sl 1 (tm false 1 0 0 1), .sl 0 []], .sl 0 []),
  (e106, .sl 1 (tm false 1 1 0 1)),
  (e108, .sl 1 (tm false 1 1 1 1)),
  ([.sl 1 (tm false 1 0 0 1), e110], e111),
  (e117, .sl 1 (tm false 1 1 1 0)),
  (e126, .sl 1 (tm false 1 2 0 0)),
  (e137, .sl 1 (tm false 1 2 1 0)),
  (e139, .sl 1 (tm false 1 3 0 0)),
  (e142, .sl 1 (tm false 2 0 1 0)),
  (e143, .sl 1 (tm true 2 0 0 0)),
  ([e151, .sl 0 []], .sl 0 []),
  ([e151, .sl 1 (tm false 1 0 0 0)], e151),
  ([e152, .sl 1 (tm false 1 0 1 0)], e153),
  ([e152, .sl 1 (tm false 1 1 0 0)], e154)]
def q39 : Ans := q39_0
def q14_0 : Ans := [([.i .i64 1, .i .i64 0, .i .i64 0], .sl 1 (tm false 1 0 0 0)),
  ([.i .i64 1, .i .i64 0, .i .i64 1], .sl 1 (tm false 1 0 1 0)),
  ([.i .i64 1, .i .i64 0, .i .i64 2], .sl 1 (tm false 1 0 2 0)),
  ([.i .i64 1, .i .i64 1, .i .i64 0], .sl 1 (tm false 1 1 0 0)),
  ([.i .i64 1, .i .i64 1, .i .i64 1], .sl 1 (tm false 1 1 1 0)),
  ([.i .i64 1, .i .i64 2, .i .i64 0], .sl 1 (tm false 1 2 0 0)),
  ([.i .i64 1, .i .i64 2, .i .i64 1], .sl 1 (tm false 1 2 1 0)),
  ([.i .i64 1, .i .i64 3, .i .i64 0], .sl 1 (tm false 1 3 0 0))]
def q14 : Ans := q14_0
def q16_0 : Ans := [([.sl 1 (tm false 1 1 0 0), .sl 1 (tm false 1 0 2 0)], e84)]
def q16 : Ans := q16_0
def e258 : DV := .sl 6 ([.sl 1 (tm false 1 3 0 0), e214] ++ (tm false 1 3 0 0 ++ ([.sl 1 (tm false 1 0 1 0), e201] ++ (tm false 1 0 1 0 ++ ([e85, e221] ++ (tm false 1 1 0 1 ++ ([.sl 1 (tm false 1 2 0 0), e210] ++ (tm false 1 2 0 0 ++ ([.sl 1 (tm false 1 1 0 0), e218] ++ (tm false 1 1 0 0 ++ ([.sl 1 (tm false 1 0 0 0), e197] ++ (tm false 1 0 0 0))))))))))))
def e259 : DV := .tup [.agg ([.sl 0 [], .sl 0 [], .b false, .sl 0 [], .b false, .sl 0 []] ++ (mo 0 0 0)), .b false]
def e260 : DV := .sl 1 ([e83, e191] ++ (tm false 1 1 0 0))
def q125_0 : Ans := [([.sl 8 e15, e244, e258], e259),
  ([.sl 8 e15, e241, e258], e259),
  ([.sl 8 e15, e196, .sl 0 []], .tup [e196, .b true]),
  ([.sl 8 e15, e198, .sl 0 []], .tup [e198, .b true]),
  ([.sl 8 e15, e199, .sl 0 []], .tup [e199, .b true]),
  ([.sl 8 e15, .agg e200, .sl 1 e205], .tup [.agg e200, .b true]),
  ([.sl 8 e15, .agg e200, .sl 1 e213], .tup [.agg e200, .b true]),
  ([.sl 8 e15, .agg e200, e260], .tup [.agg e200, .b true]),
  ([.sl 8 e15, e202, .sl 3 ([e97, e223] ++ (tm false 1 0 0 2 ++ ([e89, e221] ++ (tm false 1 1 0 1 ++ ([e93, e222] ++ (tm false 1 2 0 0))))))], .tup [e202, .b true]),
  ([.sl 8 e15, e248, .sl 2 ([e83, e191] ++ (tm false 1 1 0 0 ++ ([.sl 1 (tm false 1 1 1 0), e194] ++ (tm false 1 1 1 0))))], .tup [.agg e203, .b true]),
  ([.sl 8 e15, .agg e203, e260], .tup [.agg e203, .b true]),
  ([.sl 8 e15, e204, .sl 0 []], .tup [e204, .b true]),
  ([.sl 8 e15, .agg e205, .sl 1 e200], .tup [.agg e205, .b true]),
  ([.sl 8 e15, e208, .sl 0 []], .tup [e208, .b true]),
  ([.sl 8 e15, e246, .sl 3 ([.sl 1 (tm false 1 3 0 0), e214] ++ (tm false 1 3 0 0 ++ ([.sl 1 (tm false 1 0 1 0), e201] ++ (tm false 1 0 1 0 ++ ([e85, e221] ++ (tm false 1 1 0 1))))))], .tup [e211, .b true]),
  ([.sl 8 e15, e212, .sl 0 []], .tup [e212, .b true]),
  ([.sl 8 e15, .agg e213, .sl 1 e200], .tup [.agg e213, .b true]),
  ([.sl 8 e15, e251, .sl 5 ([.sl 1 (tm false 1 3 0 0), e214] ++ (tm false 1 3 0 0 ++ ([.sl 1 (tm false 1 0 1 0), e201] ++ (tm false 1 0 1 0 ++ ([e85, e221] ++ (tm false 1 1 0 1 ++ ([.sl 1 (tm false 1 2 0 0), e210] ++ (tm false 1 2 0 0 ++ ([.sl 1 (tm false 1 1 0 0), e218] ++ (tm false 1 1 0 0))))))))))], .tup [e198, .b true]),
  ([.sl 8 e15, e252, .sl 4 ([.sl 1 (tm false 1 3 0 0), e214] ++ (tm false 1 3 0 0 ++ ([.sl 1 (tm false 1 0 1 0), e201] ++ (tm false 1 0 1 0 ++ ([e85, e221] ++ (tm false 1 1 0 1 ++ ([.sl 1 (tm false 1 2 0 0), e210] ++ (tm false 1 2 0 0))))))))], .tup [e219, .b true]),
  ([.sl 8 e15, e220, .sl 0 []], .tup [e220, .b true])]
def e261 : DV := .tup [.agg ([e93, e222] ++ (tm false 1 2 0 0)), .b true]
def e262 : DV := .sl 5 ([.sl 1 (tm false 1 3 0 0), e214] ++ (tm false 1 3 0 0 ++ ([.sl 1 (tm false 1 0 1 0), e201] ++ (tm false 1 0 1 0 ++ ([e89, e221] ++ (tm false 1 1 0 1 ++ ([e93, e222] ++ (tm false 1 2 0 0 ++ ([e97, e223] ++ (tm false 1 0 0 2))))))))))
def e263 : DV := .tup [.agg ([e97, e223] ++ (tm false 1 0 0 2)), .b true]
def e264 : DV := .sl 3 ([.sl 1 (tm false 1 2 1 0), e191] ++ (tm false 1 2 1 0 ++ ([e85, e194] ++ (tm false 1 1 0 1 ++ ([.sl 1 (tm false 1 1 1 0), .sl 2 e109] ++ (tm false 1 1 1 0))))))
def q125_1 : Ans := [([.sl 8 e15, .agg ([e83, e191] ++ (tm false 1 1 0 0)), .sl 1 e200], .tup [e207, .b true]),
  ([.sl 8 e15, .agg ([e83, e191] ++ (tm false 1 1 0 0)), .sl 1 e203], .tup [.agg ([e83, e191] ++ (tm false 1 1 0 0)), .b true]),
  ([.sl 8 e15, e247, .sl 3 ([.sl 1 (tm false 1 3 0 0), e214] ++ (tm false 1 3 0 0 ++ ([.sl 1 (tm false 1 0 1 0), e201] ++ (tm false 1 0 1 0 ++ ([e89, e221] ++ (tm false 1 1 0 1))))))], e261),
  ([.sl 8 e15, .agg ([e89, e221] ++ (tm false 1 1 0 1)), .sl 3 ([.sl 1 (tm false 1 0 1 0), e201] ++ (tm false 1 0 1 0 ++ ([e97, e223] ++ (tm false 1 0 0 2 ++ ([e93, e222] ++ (tm false 1 2 0 0))))))], .tup [.agg ([e89, e221] ++ (tm false 1 1 0 1)), .b true]),
  ([.sl 8 e15, e245, e262], e259),
  ([.sl 8 e15, .agg ([e93, e222] ++ (tm false 1 2 0 0)), .sl 3 ([.sl 1 (tm false 1 0 1 0), e201] ++ (tm false 1 0 1 0 ++ ([e97, e223] ++ (tm false 1 0 0 2 ++ ([e89, e221] ++ (tm false 1 1 0 1))))))], e261),
  ([.sl 8 e15, e254, .sl 4 ([.sl 1 (tm false 1 3 0 0), e214] ++ (tm false 1 3 0 0 ++ ([.sl 1 (tm false 1 0 1 0), e201] ++ (tm false 1 0 1 0 ++ ([e89, e221] ++ (tm false 1 1 0 1 ++ ([e93, e222] ++ (tm false 1 2 0 0))))))))], e263),
  ([.sl 8 e15, .agg ([e97, e223] ++ (tm false 1 0 0 2)), .sl 3 ([.sl 1 (tm false 1 0 1 0), e201] ++ (tm false 1 0 1 0 ++ ([e89, e221] ++ (tm false 1 1 0 1 ++ ([e93, e222] ++ (tm false 1 2 0 0))))))], e263),
  ([.sl 8 e15, e253, e262], e259),
  ([e66, e239, .sl 3 ([.sl 1 (tm false 1 1 1 1), e191] ++ (tm false 1 1 1 1 ++ ([e121, e224] ++ (tm false 1 1 0 1 ++ ([.sl 1 (tm false 1 1 1 0), .sl 2 e72] ++ (tm false 1 1 1 0))))))], e259),
  ([e66, e236, .sl 3 ([.sl 1 (tm false 1 1 0 1), e191] ++ (tm false 1 1 0 1 ++ ([e127, e224] ++ (tm false 1 0 1 1 ++ ([.sl 1 (tm false 1 1 1 0), .sl 2 e117] ++ (tm false 1 1 1 0))))))], e259),
  ([e66, e242, e264], e259),
  ([e66, e238, .sl 4 ([.sl 1 (tm false 1 2 1 0), e191] ++ (tm false 1 2 1 0 ++ ([e85, e194] ++ (tm false 1 1 0 1 ++ ([.sl 1 (tm false 1 1 1 0), .sl 2 e109] ++ (tm false 1 1 1 0 ++ ([.sl 1 (tm false 1 0 1 0), .sl 2 [.sl 1 (tm false 1 0 0 2), e129]] ++ (tm false 1 0 1 0))))))))], e259),
  ([e66, e225, .sl 0 []], .tup [e225, .b true]),
  ([e66, .agg e226, .sl 1 ([e85, e194] ++ (tm false 1 1 0 1))], .tup [.agg e226, .b true]),
  ([e66, e227, .sl 2 ([.sl 1 (tm false 1 1 1 0), .sl 2 e117] ++ (tm false 1 1 1 0 ++ ([e127, e224] ++ (tm false 1 0 1 1))))], .tup [e227, .b true]),
  ([e66, e240, .sl 2 ([.sl 1 (tm false 1 1 1 1), e191] ++ (tm false 1 1 1 1 ++ ([e121, e224] ++ (tm false 1 1 0 1))))], .tup [.agg e228, .b true]),
  ([e66, .agg e228, .sl 1 ([e121, e224] ++ (tm false 1 1 0 1))], .tup [.agg e228, .b true]),
  ([e66, e243, .sl 2 ([.sl 1 (tm false 1 2 1 0), e191] ++ (tm false 1 2 1 0 ++ ([e85, e194] ++ (tm false 1 1 0 1))))], .tup [e229, .b true]),
  ([e66, e237, .sl 2 ([.sl 1 (tm false 1 1 0 1), e191] ++ (tm false 1 1 0 1 ++ ([e127, e224] ++ (tm false 1 0 1 1))))], .tup [e230, .b true])]
def q125_2 : Ans := [([e66, e230, .sl 2 ([e127, e224] ++ (tm false 1 0 1 1 ++ ([.sl 1 (tm false 1 1 0 1), e191] ++ (tm false 1 1 0 1))))], .tup [e230, .b true]),
  ([e66, e250, e264], .tup [.agg e226, .b true]),
  ([e66, e233, .sl 2 ([.sl 1 (tm false 1 1 1 0), .sl 2 e117] ++ (tm false 1 1 1 0 ++ ([.sl 1 (tm false 1 1 0 1), e191] ++ (tm false 1 1 0 1))))], .tup [e233, .b true]),
  ([e66, .agg ([e85, e194] ++ (tm false 1 1 0 1)), .sl 1 e226], .tup [.agg ([e85, e194] ++ (tm false 1 1 0 1)), .b true]),
  ([e66, e234, .sl 1 e228], .tup [e234, .b true]),
  ([e67, .agg e235, .sl 1 ([e84, e191] ++ (tm false 1 1 0 0))], .tup [.agg e235, .b true]),
  ([e67, .agg ([e84, e191] ++ (tm false 1 1 0 0)), .sl 1 e235], .tup [.agg ([e83, e194] ++ (tm false 1 1 0 0)), .b true]),
  ([e67, e249, .sl 2 ([e84, e191] ++ (tm false 1 1 0 0 ++ ([e83, e194] ++ (tm false 1 1 0 0))))], .tup [.agg e235, .b true])]
def q125 : Ans := q125_0 ++ q125_1 ++ q125_2
def q38_0 : Ans := [([.sl 0 [], .sl 1 [.sl 1 (tm false 1 1 0 0)]], .b true),
  ([.sl 1 (tm false 1 0 0 0), .sl 1 [.sl 1 (tm false 1 0 0 0)]], .b true),
  ([.sl 1 (tm false 1 0 0 0), .sl 1 [.sl 1 (tm false 1 1 0 0)]], .b false),
  ([.sl 1 (tm false 1 0 0 0), e188], .b false),
  ([.sl 1 (tm false 1 0 1 0), .sl 1 [.sl 1 (tm false 1 2 1 0)]], .b false),
  ([.sl 1 (tm false 1 1 0 0), e190], .b false),
  ([.sl 1 (tm false 1 1 1 0), .sl 1 [.sl 1 (tm false 1 2 1 0)]], .b false),
  ([.sl 1 (tm false 1 2 0 0), e190], .b false),
  ([.sl 1 (tm false 1 2 1 0), .sl 1 [.sl 1 (tm false 1 2 1 0)]], .b true),
  ([.sl 1 (tm false 1 3 0 0), e190], .b true)]
def q38 : Ans := q38_0
def q31_0 : Ans := [(e137, .tup [.sl 1 (tm false 1 0 1 0), .b true])]
def q31 : Ans := q31_0
def q49_0 : Ans := [([.sl 2 e117, .sl 2 e117, .fn 50 []], .b true)]
def q49 : Ans := q49_0
def q18_0 : Ans := [([.sl 2 [e83, .sl 1 (tm true 2 0 0 0)], .sl 2 [e83, .sl 1 (tm false 1 1 1 0)]], e165)]
def q18 : Ans := q18_0
def q20_0 : Ans := [([.sl 1 [.sl 1 (tm false 1 0 0 0)], .i .i64 0, .sl 1 (tm false 1 0 0 0)], .b true),
  ([.sl 1 [.sl 1 (tm false 1 0 1 0)], .i .i64 0, .sl 1 (tm false 1 0 1 0)], .b true),
  ([.sl 1 [.sl 1 (tm false 1 1 1 0)], .i .i64 0, .sl 1 (tm false 1 1 1 0)], .b true),
  ([.sl 1 [e149], .i .i64 0, e149], .b true)]
def q20 : Ans := q20_0
def q27_0 : Ans := [([.sl 1 [.sl 0 []]], .b false),
  ([.sl 1 [.sl 1 (tm false 1 0 1 0)]], .b false),
  ([.sl 1 [.sl 1 (tm false 1 1 0 0)]], .b false),
  ([.sl 1 [.sl 1 (tm false 1 1 1 0)]], .b false),
  ([.sl 1 [.sl 1 (tm false 1 2 1 0)]], .b false),
  ([.sl 1 [e110]], .b false),
  ([.sl 2 [.sl 1 (tm false 1 3 0 0), .sl 1 (tm false 1 0 1 0)]], .b false),
  ([.sl 2 [e84, e83]], .b false)]
def q27 : Ans := q27_0
def memoT0 : List (Nat × Ans) := []
def memoT1 : List (Nat × Ans) := [(61, q61), (101, q101), (100, q100), (108, q108), (118, q118), (65, q65), (136, q136), (110, q110), (135, q135), (159, q159), (105, q105), (64, q64), (116, q116), (150, q150), (26, q26), (53, q53), (73, q73), (75, q75), (79, q79), (82, q82), (43, q43)]
def memoT2 : List (Nat × Ans) := [(129, q129), (72, q72), (60, q60), (45, q45), (66, q66), (117, q117), (133, q133), (40, q40), (8, q8), (17, q17), (58, q58), (81, q81), (61, q61), (101, q101), (100, q100), (108, q108), (118, q118), (65, q65), (136, q136), (110, q110), (135, q135), (159, q159), (105, q105), (64, q64), (116, q116), (150, q150), (26, q26), (53, q53), (73, q73), (75, q75), (79, q79), (82, q82), (43, q43)]
def memoT3 : List (Nat × Ans) := [(44, q44), (77, q77), (124, q124), (39, q39), (14, q14), (16, q16), (129, q129), (72, q72), (60, q60), (45, q45), (66, q66), (117, q117), (133, q133), (40, q40), (8, q8), (17, q17), (58, q58), (81, q81), (61, q61), (101, q101), (100, q100), (108, q108), (118, q118), (65, q65), (136, q136), (110, q110), (135, q135), (159, q159), (105, q105), (64, q64), (116, q116), (150, q150), (26, q26), (53, q53), (73, q73), (75, q75), (79, q79), (82, q82), (43, q43)]
def memoT4 : List (Nat × Ans) := [(125, q125), (38, q38), (31, q31), (49, q49), (18, q18), (20, q20), (27, q27), (44, q44), (77, q77), (124, q124), (39, q39), (14, q14), (16, q16), (129, q129), (72, q72), (60, q60), (45, q45), (66, q66), (117, q117), (133, q133), (40, q40), (8, q8), (17, q17), (58, q58), (81, q81), (61, q61), (101, q101), (100, q100), (108, q108), (118, q118), (65, q65), (136, q136), (110, q110), (135, q135), (159, q159), (105, q105), (64, q64), (116, q116), (150, q150), (26, q26), (53, q53), (73, q73), (75, q75), (79, q79), (82, q82), (43, q43)]
end Go.Ev

/- Code of functions, printed from the translation by a program of mine. -/
set_option maxRecDepth 100000
namespace Go.Ev
/- eliminant/eliminantlaw17.examples -/
def h_law17_examples : Fun := ⟨0, [.t 0],
 .seq (.reg [⟨none, .mv 0 (.c (.b false))⟩])
 (.seq (.reg [⟨none, .call (some 26) n_law17_term [.c (.i .i64 1), .c (.i .i64 1), .c (.i .i64 0)]⟩,
 ⟨none, .call (some 27) n_law17_term [.c (.i .i64 1), .c (.i .i64 0), .c (.i .i64 1)]⟩,
 ⟨none, .call (some 28) n_law17_term [.c (.i .i64 1), .c (.i .i64 0), .c (.i .i64 0)]⟩,
 ⟨none, .mv 1 (.t 26)⟩,
 ⟨none, .mv 2 (.t 27)⟩,
 ⟨none, .mv 3 (.t 28)⟩])
 (.seq (.reg [⟨none, .mv 29 (.t 1)⟩,
 ⟨none, .mv 30 (.t 2)⟩,
 ⟨none, .call (some 31) n_ref06_Add [.t 29, .t 30]⟩,
 ⟨none, .call (some 32) n_law17_term [.c (.i .i64 1), .c (.i .i64 1), .c (.i .i64 1)]⟩,
 ⟨none, .mv 4 (.t 31)⟩,
 ⟨none, .mv 5 (.t 32)⟩])
 (.seq (.reg [⟨none, .call (some 34) n_law17_term [.c (.i .i64 1), .c (.i .i64 2), .c (.i .i64 0)]⟩,
 ⟨none, .call (some 35) n_law17_term [.c (.i .i64 1), .c (.i .i64 0), .c (.i .i64 2)]⟩,
 ⟨none, .call (some 36) n_ref06_Add [.t 34, .t 35]⟩,
 ⟨none, .mv 37 (.t 4)⟩,
 ⟨none, .mv 38 (.t 5)⟩,
 ⟨none, .bslice 39 2 1 [.sl 0 []] [(0, 1, .t 37), (1, 1, .t 38)]⟩,
 ⟨none, .call (some 40) n_ideal_Member [.t 36, .t 39]⟩,
 ⟨none, .mv 33 (.t 40)⟩,
 ⟨none, .ext 41 0 (.t 33)⟩,
 ⟨none, .ext 42 1 (.t 33)⟩,
 ⟨none, .mv 6 (.t 41)⟩,
 ⟨none, .mv 7 (.t 42)⟩])
 (.seq (.reg [⟨none, .mv 44 (.t 1)⟩,
 ⟨none, .mv 45 (.t 4)⟩,
 ⟨none, .mv 46 (.t 5)⟩,
 ⟨none, .bslice 47 2 1 [.sl 0 []] [(0, 1, .t 45), (1, 1, .t 46)]⟩,
 ⟨none, .call (some 48) n_ideal_Member [.t 44, .t 47]⟩,
 ⟨none, .mv 43 (.t 48)⟩,
 ⟨none, .ext 49 0 (.t 43)⟩,
 ⟨none, .ext 50 1 (.t 43)⟩,
 ⟨none, .mv 8 (.t 49)⟩,
 ⟨none, .mv 9 (.t 50)⟩])
 (.seq (.reg [⟨none, .mv 52 (.t 1)⟩,
 ⟨none, .bslice 53 1 1 [.sl 0 []] [(0, 1, .t 52)]⟩,
 ⟨none, .mv 54 (.t 2)⟩,
 ⟨none, .bslice 55 1 1 [.sl 0 []] [(0, 1, .t 54)]⟩,
 ⟨none, .call (some 56) n_ideal_Meet [.t 53, .t 55]⟩,
 ⟨none, .mv 51 (.t 56)⟩,
 ⟨none, .ext 57 0 (.t 51)⟩,
 ⟨none, .ext 58 1 (.t 51)⟩,
 ⟨none, .mv 10 (.t 57)⟩,
 ⟨none, .mv 11 (.t 58)⟩])
 (.seq (.reg [⟨none, .mv 60 (.t 5)⟩,
 ⟨none, .bslice 61 1 1 [.sl 0 []] [(0, 1, .t 60)]⟩,
 ⟨none, .mv 62 (.t 1)⟩,
 ⟨none, .call (some 63) n_ideal_Quotient [.t 61, .t 62]⟩,
 ⟨none, .mv 59 (.t 63)⟩,
 ⟨none, .ext 64 0 (.t 59)⟩,
 ⟨none, .ext 65 1 (.t 59)⟩,
 ⟨none, .mv 12 (.t 64)⟩,
 ⟨none, .mv 13 (.t 65)⟩])
 (.seq (.reg [⟨none, .call (some 67) n_law17_term [.c (.i .i64 1), .c (.i .i64 2), .c (.i .i64 1)]⟩,
 ⟨none, .bslice 68 1 1 [.sl 0 []] [(0, 1, .t 67)]⟩,
 ⟨none, .mv 69 (.t 1)⟩,
 ⟨none, .call (some 70) n_ideal_Saturate [.t 68, .t 69]⟩,
 ⟨none, .mv 66 (.t 70)⟩,
 ⟨none, .ext 71 0 (.t 66)⟩,
 ⟨none, .ext 72 1 (.t 66)⟩,
 ⟨none, .ext 73 2 (.t 66)⟩,
 ⟨none, .mv 14 (.t 71)⟩,
 ⟨none, .mv 15 (.t 72)⟩,
 ⟨none, .mv 16 (.t 73)⟩])
 (.seq (.reg [⟨none, .mv 75 (.t 1)⟩,
 ⟨none, .bslice 76 1 1 [.sl 0 []] [(0, 1, .t 75)]⟩,
 ⟨none, .bslice 77 0 12 [.b false, .sl 0 [], .b false, .sl 0 [], .i .i64 0, .i .i64 0, .i .i64 0, .i .i64 0, .i .i64 0, .i .i64 0, .i .i64 0, .i .i64 0] []⟩,
 ⟨none, .call (some 78) n_ideal_Saturate [.t 76, .t 77]⟩,
 ⟨none, .mv 74 (.t 78)⟩,
 ⟨none, .ext 79 0 (.t 74)⟩,
 ⟨none, .ext 80 1 (.t 74)⟩,
 ⟨none, .ext 81 2 (.t 74)⟩,
 ⟨none, .mv 17 (.t 79)⟩,
 ⟨none, .mv 18 (.t 80)⟩,
 ⟨none, .mv 19 (.t 81)⟩])
 (.seq (.reg [⟨none, .mv 83 (.t 1)⟩,
 ⟨none, .call (some 84) n_law17_term [.c (.i .i64 1), .c (.i .i64 0), .c (.i .i64 2)]⟩,
 ⟨none, .call (some 85) n_ref06_Sub [.t 83, .t 84]⟩,
 ⟨none, .mv 86 (.t 4)⟩,
 ⟨none, .bslice 87 2 1 [.sl 0 []] [(0, 1, .t 85), (1, 1, .t 86)]⟩,
 ⟨none, .call (some 88) n_ideal_Eliminate [.t 87, .c (.i .u8 1)]⟩,
 ⟨none, .mv 82 (.t 88)⟩,
 ⟨none, .ext 89 0 (.t 82)⟩,
 ⟨none, .ext 90 1 (.t 82)⟩,
 ⟨none, .mv 20 (.t 89)⟩,
 ⟨none, .mv 21 (.t 90)⟩])
 (.seq (.reg [⟨none, .mv 92 (.t 1)⟩,
 ⟨none, .call (some 93) n_law17_term [.c (.i .i64 1), .c (.i .i64 3), .c (.i .i64 0)]⟩,
 ⟨none, .mv 94 (.t 2)⟩,
 ⟨none, .bslice 95 2 1 [.sl 0 []] [(0, 1, .t 93), (1, 1, .t 94)]⟩,
 ⟨none, .call (some 96) n_ideal_Power [.t 92, .t 95]⟩,
 ⟨none, .mv 91 (.t 96)⟩,
 ⟨none, .ext 97 0 (.t 91)⟩,
 ⟨none, .ext 98 1 (.t 91)⟩,
 ⟨none, .mv 22 (.t 97)⟩,
 ⟨none, .mv 23 (.t 98)⟩])
 (.seq (.reg [⟨none, .mv 100 (.t 1)⟩,
 ⟨none, .mv 101 (.t 3)⟩,
 ⟨none, .call (some 102) n_ref06_Add [.t 100, .t 101]⟩,
 ⟨none, .call (some 103) n_law17_term [.c (.i .i64 1), .c (.i .i64 3), .c (.i .i64 0)]⟩,
 ⟨none, .mv 104 (.t 2)⟩,
 ⟨none, .bslice 105 2 1 [.sl 0 []] [(0, 1, .t 103), (1, 1, .t 104)]⟩,
 ⟨none, .call (some 106) n_ideal_Power [.t 102, .t 105]⟩,
 ⟨none, .mv 99 (.t 106)⟩,
 ⟨none, .ext 107 0 (.t 99)⟩,
 ⟨none, .ext 108 1 (.t 99)⟩,
 ⟨none, .mv 24 (.t 107)⟩,
 ⟨none, .mv 25 (.t 108)⟩])
 (.seq (.seq (.reg [⟨none, .mv 109 (.t 7)⟩,
 ⟨none, .un 110 .not (.t 109)⟩,
 ⟨none, .mv 111 (.t 110)⟩,
 ⟨some (111, false, 112), .mv 112 (.t 9)⟩,
 ⟨none, .pick 113 (.t 111) (.c (.b true)) (.t 112)⟩,
 ⟨none, .mv 114 (.t 113)⟩,
 ⟨some (114, false, 115), .mv 115 (.t 6)⟩,
 ⟨some (114, false, 116), .len 116 (.t 115)⟩,
 ⟨some (114, false, 117), .bin 117 .neq (.t 116) (.c (.i .i64 2))⟩,
 ⟨none, .pick 118 (.t 114) (.c (.b true)) (.t 117)⟩,
 ⟨none, .mv 119 (.t 118)⟩,
 ⟨some (119, false, 120), .mv 120 (.t 6)⟩,
 ⟨some (119, false, 121), .mv 121 (.t 4)⟩,
 ⟨some (119, false, 122), .mv 122 (.t 5)⟩,
 ⟨some (119, false, 123), .bslice 123 2 1 [.sl 0 []] [(0, 1, .t 121), (1, 1, .t 122)]⟩,
 ⟨some (119, false, 124), .call (some 124) n_ref14_Sum [.t 120, .t 123]⟩,
 ⟨some (119, false, 125), .call (some 125) n_law17_term [.c (.i .i64 1), .c (.i .i64 2), .c (.i .i64 0)]⟩,
 ⟨some (119, false, 126), .call (some 126) n_law17_term [.c (.i .i64 1), .c (.i .i64 0), .c (.i .i64 2)]⟩,
 ⟨some (119, false, 127), .call (some 127) n_ref06_Add [.t 125, .t 126]⟩,
 ⟨some (119, false, 128), .call (some 128) n_ref06_Same [.t 124, .t 127]⟩,
 ⟨some (119, false, 129), .un 129 .not (.t 128)⟩,
 ⟨none, .pick 130 (.t 119) (.c (.b true)) (.t 129)⟩,
 ⟨none, .mv 131 (.t 130)⟩,
 ⟨some (131, false, 132), .mv 132 (.t 1)⟩,
 ⟨some (131, false, 133), .mv 133 (.t 2)⟩,
 ⟨some (131, false, 134), .bslice 134 2 1 [.sl 0 []] [(0, 1, .t 132), (1, 1, .t 133)]⟩,
 ⟨some (131, false, 135), .mv 135 (.t 4)⟩,
 ⟨some (131, false, 136), .mv 136 (.t 2)⟩,
 ⟨some (131, false, 137), .bslice 137 2 1 [.sl 0 []] [(0, 1, .t 135), (1, 1, .t 136)]⟩,
 ⟨some (131, false, 138), .call (some 138) n_ideal_Equal [.t 134, .t 137]⟩,
 ⟨some (131, false, 139), .un 139 .not (.t 138)⟩,
 ⟨none, .pick 140 (.t 131) (.c (.b true)) (.t 139)⟩])
 (.cond (.t 140) (.seq (.reg [⟨none, .mv 0 (.c (.b false))⟩])
 (.ret))
 (.skip)))
 (.seq (.seq (.reg [⟨none, .mv 141 (.t 10)⟩,
 ⟨none, .mv 142 (.t 11)⟩,
 ⟨none, .mv 143 (.t 5)⟩,
 ⟨none, .call (some 144) n_law17_is [.t 141, .t 142, .t 143]⟩,
 ⟨none, .un 145 .not (.t 144)⟩,
 ⟨none, .mv 146 (.t 145)⟩,
 ⟨some (146, false, 147), .mv 147 (.t 12)⟩,
 ⟨some (146, false, 148), .mv 148 (.t 13)⟩,
 ⟨some (146, false, 149), .mv 149 (.t 2)⟩,
 ⟨some (146, false, 150), .call (some 150) n_law17_is [.t 147, .t 148, .t 149]⟩,
 ⟨some (146, false, 151), .un 151 .not (.t 150)⟩,
 ⟨none, .pick 152 (.t 146) (.c (.b true)) (.t 151)⟩,
 ⟨none, .mv 153 (.t 152)⟩,
 ⟨some (153, false, 154), .mv 154 (.t 14)⟩,
 ⟨some (153, false, 155), .mv 155 (.t 16)⟩,
 ⟨some (153, false, 156), .mv 156 (.t 2)⟩,
 ⟨some (153, false, 157), .call (some 157) n_law17_is [.t 154, .t 155, .t 156]⟩,
 ⟨some (153, false, 158), .un 158 .not (.t 157)⟩,
 ⟨none, .pick 159 (.t 153) (.c (.b true)) (.t 158)⟩,
 ⟨none, .mv 160 (.t 159)⟩,
 ⟨some (160, false, 161), .mv 161 (.t 15)⟩,
 ⟨some (160, false, 162), .bin 162 .neq (.t 161) (.c (.i .i64 2))⟩,
 ⟨none, .pick 163 (.t 160) (.c (.b true)) (.t 162)⟩,
 ⟨none, .mv 164 (.t 163)⟩,
 ⟨some (164, false, 165), .mv 165 (.t 17)⟩,
 ⟨some (164, false, 166), .mv 166 (.t 19)⟩,
 ⟨some (164, false, 167), .mv 167 (.t 3)⟩,
 ⟨some (164, false, 168), .call (some 168) n_law17_is [.t 165, .t 166, .t 167]⟩,
 ⟨some (164, false, 169), .un 169 .not (.t 168)⟩,
 ⟨none, .pick 170 (.t 164) (.c (.b true)) (.t 169)⟩,
 ⟨none, .mv 171 (.t 170)⟩,
 ⟨some (171, false, 172), .mv 172 (.t 18)⟩,
 ⟨some (171, false, 173), .bin 173 .neq (.t 172) (.c (.i .i64 1))⟩,
 ⟨none, .pick 174 (.t 171) (.c (.b true)) (.t 173)⟩])
 (.cond (.t 174) (.seq (.reg [⟨none, .mv 0 (.c (.b false))⟩])
 (.ret))
 (.skip)))
 (.seq (.reg [⟨none, .mv 175 (.t 20)⟩,
 ⟨none, .mv 176 (.t 21)⟩,
 ⟨none, .call (some 177) n_law17_term [.c (.i .i64 1), .c (.i .i64 0), .c (.i .i64 2)]⟩,
 ⟨none, .mv 178 (.t 2)⟩,
 ⟨none, .call (some 179) n_ref06_Add [.t 177, .t 178]⟩,
 ⟨none, .call (some 180) n_law17_is [.t 175, .t 176, .t 179]⟩,
 ⟨none, .mv 181 (.t 180)⟩,
 ⟨some (181, true, 182), .mv 182 (.t 22)⟩,
 ⟨some (181, true, 183), .bin 183 .eql (.t 182) (.c (.i .i64 3))⟩,
 ⟨none, .pick 184 (.t 181) (.t 183) (.c (.b false))⟩,
 ⟨none, .mv 185 (.t 184)⟩,
 ⟨some (185, true, 186), .mv 186 (.t 23)⟩,
 ⟨some (185, true, 187), .bin 187 .eql (.t 186) (.c (.i .i64 0))⟩,
 ⟨none, .pick 188 (.t 185) (.t 187) (.c (.b false))⟩,
 ⟨none, .mv 189 (.t 188)⟩,
 ⟨some (189, true, 190), .mv 190 (.t 24)⟩,
 ⟨some (189, true, 191), .bin 191 .eql (.t 190) (.c (.i .i64 0))⟩,
 ⟨none, .pick 192 (.t 189) (.t 191) (.c (.b false))⟩,
 ⟨none, .mv 193 (.t 192)⟩,
 ⟨some (193, true, 194), .mv 194 (.t 25)⟩,
 ⟨some (193, true, 195), .bin 195 .eql (.t 194) (.c (.i .i64 0))⟩,
 ⟨none, .pick 196 (.t 193) (.t 195) (.c (.b false))⟩,
 ⟨none, .mv 0 (.t 196)⟩])
 (.ret)))))))))))))))⟩
/- eliminant/ideal.Meet -/
def h_ideal_Meet : Fun := ⟨2, [.t 4, .t 5],
 .seq (.reg [⟨none, .mv 4 (.c (.nil))⟩,
 ⟨none, .mv 5 (.c (.i .i64 0))⟩])
 (.seq (.seq (.reg [⟨none, .mv 6 (.t 0)⟩,
 ⟨none, .call (some 7) n_ideal_reserved [.t 6]⟩,
 ⟨none, .mv 8 (.t 7)⟩,
 ⟨some (8, false, 9), .mv 9 (.t 1)⟩,
 ⟨some (8, false, 10), .call (some 10) n_ideal_reserved [.t 9]⟩,
 ⟨none, .pick 11 (.t 8) (.c (.b true)) (.t 10)⟩])
 (.cond (.t 11) (.seq (.reg [⟨none, .mv 4 (.c (.nil))⟩,
 ⟨none, .mv 5 (.c (.i .i64 1))⟩])
 (.ret))
 (.skip)))
 (.seq (.reg [⟨none, .mv 12 (.t 0)⟩,
 ⟨none, .mv 13 (.t 1)⟩,
 ⟨none, .call (some 14) n_ideal_meet [.t 12, .t 13]⟩,
 ⟨none, .mv 4 (.t 14)⟩,
 ⟨none, .mv 5 (.c (.i .i64 0))⟩])
 (.ret)))⟩
/- eliminant/ideal.Quotient -/
def hl_ideal_Quotient_0 : C :=
 .seq (.reg [⟨none, .bin 30 .lss (.t 29) (.t 28)⟩])
 (.seq (.cond (.t 30) (.skip)
 (.exit 1))
 (.seq (.block 2 (.seq (.reg [⟨none, .mv 31 (.t 29)⟩,
 ⟨none, .mv 7 (.t 31)⟩])
 (.reg [⟨none, .mv 33 (.t 6)⟩,
 ⟨none, .mv 34 (.t 7)⟩,
 ⟨none, .mv 35 (.t 6)⟩,
 ⟨none, .mv 36 (.t 7)⟩,
 ⟨none, .iaddrS 37 1 (.t 35) (.t 36)⟩,
 ⟨none, .load 38 1 false (.t 37)⟩,
 ⟨none, .mv 39 (.t 1)⟩,
 ⟨none, .call (some 40) n_mgcd_Divide [.t 38, .t 39]⟩,
 ⟨none, .mv 32 (.t 40)⟩,
 ⟨none, .ext 41 0 (.t 32)⟩,
 ⟨none, .ext 42 1 (.t 32)⟩,
 ⟨none, .iaddrS 43 1 (.t 33) (.t 34)⟩,
 ⟨none, .store 1 (.t 43) (.t 41)⟩])))
 (.reg [⟨none, .bin 44 .add (.t 29) (.c (.i .i64 1))⟩,
 ⟨none, .mv 29 (.t 44)⟩])))
def h_ideal_Quotient : Fun := ⟨2, [.t 4, .t 5],
 .seq (.reg [⟨none, .mv 4 (.c (.nil))⟩,
 ⟨none, .mv 5 (.c (.i .i64 0))⟩])
 (.seq (.block 0 (.seq (.reg [⟨none, .mv 9 (.t 0)⟩,
 ⟨none, .call (some 10) n_ideal_reserved [.t 9]⟩,
 ⟨none, .mv 11 (.t 10)⟩,
 ⟨some (11, false, 12), .mv 12 (.t 1)⟩,
 ⟨some (11, false, 13), .bslice 13 1 1 [.sl 0 []] [(0, 1, .t 12)]⟩,
 ⟨some (11, false, 14), .call (some 14) n_ideal_reserved [.t 13]⟩,
 ⟨none, .pick 15 (.t 11) (.c (.b true)) (.t 14)⟩,
 ⟨none, .mv 8 (.t 15)⟩])
 (.cond (.t 8) (.seq (.reg [⟨none, .mv 4 (.c (.nil))⟩,
 ⟨none, .mv 5 (.c (.i .i64 1))⟩])
 (.ret))
 (.seq (.reg [⟨none, .mv 17 (.t 1)⟩,
 ⟨none, .len 18 (.t 17)⟩,
 ⟨none, .bin 19 .eql (.t 18) (.c (.i .i64 0))⟩,
 ⟨none, .mv 16 (.t 19)⟩])
 (.cond (.t 16) (.seq (.reg [⟨none, .call (some 20) n_rational_Whole [.c (.i .i64 1)]⟩,
 ⟨none, .call (some 21) n_polynomial_Constant [.t 20]⟩,
 ⟨none, .bslice 22 1 1 [.sl 0 []] [(0, 1, .t 21)]⟩,
 ⟨none, .mv 4 (.t 22)⟩,
 ⟨none, .mv 5 (.c (.i .i64 0))⟩])
 (.ret))
 (.skip))))))
 (.seq (.reg [⟨none, .mv 23 (.t 0)⟩,
 ⟨none, .mv 24 (.t 1)⟩,
 ⟨none, .bslice 25 1 1 [.sl 0 []] [(0, 1, .t 24)]⟩,
 ⟨none, .call (some 26) n_ideal_meet [.t 23, .t 25]⟩,
 ⟨none, .mv 6 (.t 26)⟩])
 (.seq (.seq (.reg [⟨none, .mv 27 (.t 6)⟩,
 ⟨none, .len 28 (.t 27)⟩,
 ⟨none, .mv 29 (.c (.i .i64 0))⟩])
 (.block 1 (.loop hl_ideal_Quotient_0)))
 (.seq (.reg [⟨none, .mv 45 (.t 6)⟩,
 ⟨none, .call (some 46) n_ideal_reduced [.t 45]⟩,
 ⟨none, .mv 4 (.t 46)⟩,
 ⟨none, .mv 5 (.c (.i .i64 0))⟩])
 (.ret)))))⟩
/- eliminant/ideal.Saturate -/
def hl_ideal_Saturate_0 : C :=
 .seq (.reg [⟨none, .bin 35 .lss (.t 34) (.t 33)⟩])
 (.seq (.cond (.t 35) (.skip)
 (.exit 2))
 (.seq (.block 3 (.seq (.reg [⟨none, .mv 36 (.t 34)⟩,
 ⟨none, .mv 11 (.t 36)⟩])
 (.reg [⟨none, .mv 37 (.t 9)⟩,
 ⟨none, .mv 38 (.t 11)⟩,
 ⟨none, .mv 39 (.t 9)⟩,
 ⟨none, .mv 40 (.t 11)⟩,
 ⟨none, .iaddrS 41 1 (.t 39) (.t 40)⟩,
 ⟨none, .load 42 1 false (.t 41)⟩,
 ⟨none, .mv 43 (.t 1)⟩,
 ⟨none, .call (some 44) n_ideal_times [.t 42, .t 43]⟩,
 ⟨none, .iaddrS 45 1 (.t 37) (.t 38)⟩,
 ⟨none, .store 1 (.t 45) (.t 44)⟩])))
 (.reg [⟨none, .bin 46 .add (.t 34) (.c (.i .i64 1))⟩,
 ⟨none, .mv 34 (.t 46)⟩])))
def hl_ideal_Saturate_1 : C :=
 .seq (.seq (.reg [⟨none, .mv 27 (.t 9)⟩,
 ⟨none, .mkfn 28 n_ideal_Saturate_1 [.t 8]⟩,
 ⟨none, .call (some 29) n_slices_ContainsFunc_api_Poly_api_Poly [.t 27, .t 28]⟩])
 (.cond (.t 29) (.skip)
 (.exit 0)))
 (.seq (.block 1 (.seq (.reg [⟨none, .mv 32 (.t 9)⟩,
 ⟨none, .len 33 (.t 32)⟩,
 ⟨none, .mv 34 (.c (.i .i64 0))⟩])
 (.block 2 (.loop hl_ideal_Saturate_0))))
 (.reg [⟨none, .mv 30 (.t 10)⟩,
 ⟨none, .bin 31 .add (.t 30) (.c (.i .i64 1))⟩,
 ⟨none, .mv 10 (.t 31)⟩]))
def h_ideal_Saturate : Fun := ⟨2, [.t 4, .t 5, .t 6],
 .seq (.reg [⟨none, .mv 4 (.c (.nil))⟩,
 ⟨none, .mv 5 (.c (.i .i64 0))⟩,
 ⟨none, .mv 6 (.c (.i .i64 0))⟩])
 (.seq (.seq (.reg [⟨none, .mv 12 (.t 0)⟩,
 ⟨none, .call (some 13) n_ideal_reserved [.t 12]⟩,
 ⟨none, .mv 14 (.t 13)⟩,
 ⟨some (14, false, 15), .mv 15 (.t 1)⟩,
 ⟨some (14, false, 16), .bslice 16 1 1 [.sl 0 []] [(0, 1, .t 15)]⟩,
 ⟨some (14, false, 17), .call (some 17) n_ideal_reserved [.t 16]⟩,
 ⟨none, .pick 18 (.t 14) (.c (.b true)) (.t 17)⟩])
 (.cond (.t 18) (.seq (.reg [⟨none, .mv 4 (.c (.nil))⟩,
 ⟨none, .mv 5 (.c (.i .i64 0))⟩,
 ⟨none, .mv 6 (.c (.i .i64 1))⟩])
 (.ret))
 (.skip)))
 (.seq (.reg [⟨none, .mv 19 (.t 0)⟩,
 ⟨none, .mv 20 (.t 1)⟩,
 ⟨none, .call (some 21) n_ideal_inverted [.t 19, .t 20]⟩,
 ⟨none, .call (some 22) n_ideal_eliminate [.t 21, .c (.i .u8 128)]⟩,
 ⟨none, .mv 23 (.t 0)⟩,
 ⟨none, .call (some 24) n_ideal_reduced [.t 23]⟩,
 ⟨none, .alloc 8 [.nil]⟩,
 ⟨none, .mv 7 (.t 22)⟩,
 ⟨none, .store 1 (.t 8) (.t 24)⟩])
 (.seq (.reg [⟨none, .mv 25 (.t 7)⟩,
 ⟨none, .call (some 26) n_slices_Clone_api_Poly_api_Poly [.t 25]⟩,
 ⟨none, .mv 9 (.t 26)⟩,
 ⟨none, .mv 10 (.c (.i .i64 0))⟩])
 (.seq (.block 0 (.loop hl_ideal_Saturate_1))
 (.seq (.reg [⟨none, .mv 47 (.t 7)⟩,
 ⟨none, .mv 48 (.t 10)⟩,
 ⟨none, .mv 4 (.t 47)⟩,
 ⟨none, .mv 5 (.t 48)⟩,
 ⟨none, .mv 6 (.c (.i .i64 0))⟩])
 (.ret))))))⟩
/- eliminant/ideal.Eliminate -/
def h_ideal_Eliminate : Fun := ⟨2, [.t 4, .t 5],
 .seq (.reg [⟨none, .mv 4 (.c (.nil))⟩,
 ⟨none, .mv 5 (.c (.i .i64 0))⟩])
 (.seq (.seq (.reg [⟨none, .mv 6 (.t 0)⟩,
 ⟨none, .call (some 7) n_ideal_reserved [.t 6]⟩])
 (.cond (.t 7) (.seq (.reg [⟨none, .mv 4 (.c (.nil))⟩,
 ⟨none, .mv 5 (.c (.i .i64 1))⟩])
 (.ret))
 (.skip)))
 (.seq (.reg [⟨none, .mv 8 (.t 0)⟩,
 ⟨none, .mv 9 (.t 1)⟩,
 ⟨none, .call (some 10) n_ideal_eliminate [.t 8, .t 9]⟩,
 ⟨none, .mv 4 (.t 10)⟩,
 ⟨none, .mv 5 (.c (.i .i64 0))⟩])
 (.ret)))⟩
/- eliminant/ideal.Power -/
def hl_ideal_Power_0 : C :=
 .block 1 (.block 2 (.seq (.reg [⟨none, .mv 33 (.t 7)⟩,
 ⟨none, .mv 34 (.t 6)⟩,
 ⟨none, .call (some 35) n_ideal_in [.t 33, .t 34]⟩,
 ⟨none, .mv 32 (.t 35)⟩])
 (.cond (.t 32) (.exit 0)
 (.reg [⟨none, .mv 27 (.t 7)⟩,
 ⟨none, .mv 28 (.t 0)⟩,
 ⟨none, .call (some 29) n_ideal_times [.t 27, .t 28]⟩,
 ⟨none, .mv 30 (.t 8)⟩,
 ⟨none, .bin 31 .add (.t 30) (.c (.i .i64 1))⟩,
 ⟨none, .mv 7 (.t 29)⟩,
 ⟨none, .mv 8 (.t 31)⟩]))))
def h_ideal_Power : Fun := ⟨2, [.t 4, .t 5],
 .seq (.reg [⟨none, .mv 4 (.c (.i .i64 0))⟩,
 ⟨none, .mv 5 (.c (.i .i64 0))⟩])
 (.scope (.seq (.seq (.reg [⟨none, .mv 9 (.t 1)⟩,
 ⟨none, .call (some 10) n_ideal_reserved [.t 9]⟩,
 ⟨none, .mv 11 (.t 10)⟩,
 ⟨some (11, false, 12), .mv 12 (.t 0)⟩,
 ⟨some (11, false, 13), .bslice 13 1 1 [.sl 0 []] [(0, 1, .t 12)]⟩,
 ⟨some (11, false, 14), .call (some 14) n_ideal_reserved [.t 13]⟩,
 ⟨none, .pick 15 (.t 11) (.c (.b true)) (.t 14)⟩])
 (.cond (.t 15) (.seq (.reg [⟨none, .mv 4 (.c (.i .i64 0))⟩,
 ⟨none, .mv 5 (.c (.i .i64 1))⟩])
 (.ret))
 (.skip)))
 (.seq (.seq (.reg [⟨none, .call (some 16) n_rational_Whole [.c (.i .i64 1)]⟩,
 ⟨none, .call (some 17) n_polynomial_Constant [.t 16]⟩,
 ⟨none, .mv 18 (.t 1)⟩,
 ⟨none, .mv 19 (.t 0)⟩,
 ⟨none, .call (some 20) n_ideal_inverted [.t 18, .t 19]⟩,
 ⟨none, .call (some 21) n_ideal_reduced [.t 20]⟩,
 ⟨none, .call (some 22) n_ideal_in [.t 17, .t 21]⟩,
 ⟨none, .un 23 .not (.t 22)⟩])
 (.cond (.t 23) (.seq (.reg [⟨none, .mv 4 (.c (.i .i64 0))⟩,
 ⟨none, .mv 5 (.c (.i .i64 0))⟩])
 (.ret))
 (.skip)))
 (.seq (.reg [⟨none, .mv 24 (.t 1)⟩,
 ⟨none, .call (some 25) n_ideal_reduced [.t 24]⟩,
 ⟨none, .mv 26 (.t 0)⟩,
 ⟨none, .mv 6 (.t 25)⟩,
 ⟨none, .mv 7 (.t 26)⟩,
 ⟨none, .mv 8 (.c (.i .i64 1))⟩])
 (.seq (.skip)
 (.seq (.block 0 (.loop hl_ideal_Power_0))
 (.seq (.reg [⟨none, .mv 36 (.t 8)⟩,
 ⟨none, .mv 4 (.t 36)⟩,
 ⟨none, .mv 5 (.c (.i .i64 0))⟩])
 (.ret))))))))⟩
/- eliminant/ideal.Member -/
def hl_ideal_Member_0 : C :=
 .seq (.reg [⟨none, .bin 48 .lss (.t 47) (.t 46)⟩])
 (.seq (.cond (.t 48) (.skip)
 (.exit 2))
 (.seq (.block 3 (.seq (.reg [⟨none, .mv 49 (.t 47)⟩,
 ⟨none, .mv 14 (.t 49)⟩])
 (.reg [⟨none, .mv 50 (.t 11)⟩,
 ⟨none, .mv 51 (.t 14)⟩,
 ⟨none, .mv 52 (.t 11)⟩,
 ⟨none, .mv 53 (.t 14)⟩,
 ⟨none, .iaddrS 54 1 (.t 52) (.t 53)⟩,
 ⟨none, .load 55 1 false (.t 54)⟩,
 ⟨none, .mv 56 (.t 8)⟩,
 ⟨none, .mv 57 (.t 12)⟩,
 ⟨none, .iaddrS 58 1 (.t 56) (.t 57)⟩,
 ⟨none, .load 59 1 false (.t 58)⟩,
 ⟨none, .mv 60 (.t 13)⟩,
 ⟨none, .mv 61 (.t 14)⟩,
 ⟨none, .iaddrS 62 1 (.t 60) (.t 61)⟩,
 ⟨none, .load 63 1 false (.t 62)⟩,
 ⟨none, .call (some 64) n_ideal_times [.t 59, .t 63]⟩,
 ⟨none, .call (some 65) n_polynomial_Add [.t 55, .t 64]⟩,
 ⟨none, .iaddrS 66 1 (.t 50) (.t 51)⟩,
 ⟨none, .store 1 (.t 66) (.t 65)⟩])))
 (.reg [⟨none, .bin 67 .add (.t 47) (.c (.i .i64 1))⟩,
 ⟨none, .mv 47 (.t 67)⟩])))
def hl_ideal_Member_1 : C :=
 .seq (.reg [⟨none, .bin 41 .lss (.t 40) (.t 39)⟩])
 (.seq (.cond (.t 41) (.skip)
 (.exit 0))
 (.seq (.block 1 (.seq (.reg [⟨none, .mv 42 (.t 40)⟩,
 ⟨none, .iaddrS 43 1 (.t 38) (.t 40)⟩,
 ⟨none, .load 44 1 false (.t 43)⟩,
 ⟨none, .mv 12 (.t 42)⟩,
 ⟨none, .mv 13 (.t 44)⟩])
 (.seq (.reg [⟨none, .mv 45 (.t 11)⟩,
 ⟨none, .len 46 (.t 45)⟩,
 ⟨none, .mv 47 (.c (.i .i64 0))⟩])
 (.block 2 (.loop hl_ideal_Member_0)))))
 (.reg [⟨none, .bin 68 .add (.t 40) (.c (.i .i64 1))⟩,
 ⟨none, .mv 40 (.t 68)⟩])))
def h_ideal_Member : Fun := ⟨2, [.t 4, .t 5],
 .seq (.reg [⟨none, .mv 4 (.c (.nil))⟩,
 ⟨none, .mv 5 (.c (.b false))⟩])
 (.seq (.reg [⟨none, .mv 16 (.t 1)⟩,
 ⟨none, .call (some 17) n_order_Reverse []⟩,
 ⟨none, .call (some 18) n_groebner_Basis [.t 16, .t 17]⟩,
 ⟨none, .mv 15 (.t 18)⟩,
 ⟨none, .ext 19 0 (.t 15)⟩,
 ⟨none, .ext 20 1 (.t 15)⟩,
 ⟨none, .alloc 6 [.nil, .nil, .nil]⟩,
 ⟨none, .store 3 (.t 6) (.t 19)⟩,
 ⟨none, .mv 7 (.t 20)⟩])
 (.seq (.reg [⟨none, .mv 22 (.t 0)⟩,
 ⟨none, .faddr 23 1 (.t 6)⟩,
 ⟨none, .load 24 1 false (.t 23)⟩,
 ⟨none, .faddr 25 0 (.t 6)⟩,
 ⟨none, .load 26 1 false (.t 25)⟩,
 ⟨none, .call (some 27) n_division_Divide [.t 22, .t 24, .t 26]⟩,
 ⟨none, .mv 21 (.t 27)⟩,
 ⟨none, .ext 28 0 (.t 21)⟩,
 ⟨none, .ext 29 1 (.t 21)⟩,
 ⟨none, .ext 30 2 (.t 21)⟩,
 ⟨none, .mv 8 (.t 28)⟩,
 ⟨none, .mv 9 (.t 29)⟩,
 ⟨none, .mv 10 (.t 30)⟩])
 (.seq (.seq (.reg [⟨none, .mv 31 (.t 9)⟩,
 ⟨none, .len 32 (.t 31)⟩,
 ⟨none, .bin 33 .gtr (.t 32) (.c (.i .i64 0))⟩])
 (.cond (.t 33) (.seq (.reg [⟨none, .mv 4 (.c (.nil))⟩,
 ⟨none, .mv 5 (.c (.b false))⟩])
 (.ret))
 (.skip)))
 (.seq (.reg [⟨none, .mv 34 (.t 1)⟩,
 ⟨none, .len 35 (.t 34)⟩,
 ⟨none, .mkslice 36 1 [.sl 0 []] (.t 35) (.t 35)⟩,
 ⟨none, .mv 11 (.t 36)⟩])
 (.seq (.seq (.reg [⟨none, .faddr 37 2 (.t 6)⟩,
 ⟨none, .load 38 1 false (.t 37)⟩,
 ⟨none, .len 39 (.t 38)⟩,
 ⟨none, .mv 40 (.c (.i .i64 0))⟩])
 (.block 0 (.loop hl_ideal_Member_1)))
 (.seq (.reg [⟨none, .mv 69 (.t 11)⟩,
 ⟨none, .mv 4 (.t 69)⟩,
 ⟨none, .mv 5 (.c (.b true))⟩])
 (.ret)))))))⟩
/- eliminant/ideal.Equal -/
def h_ideal_Equal : Fun := ⟨2, [.t 4],
 .seq (.reg [⟨none, .mv 4 (.c (.b false))⟩])
 (.seq (.reg [⟨none, .mv 5 (.t 0)⟩,
 ⟨none, .call (some 6) n_ideal_reduced [.t 5]⟩,
 ⟨none, .mv 7 (.t 1)⟩,
 ⟨none, .call (some 8) n_ideal_reduced [.t 7]⟩,
 ⟨none, .call (some 9) n_slices_EqualFunc_api_Poly_api_Poly_api_Poly_api_Poly [.t 6, .t 8, .c (.fn n_polynomial_Same [])]⟩,
 ⟨none, .mv 4 (.t 9)⟩])
 (.ret))⟩
/- eliminant/ideal.meet -/
def hl_ideal_meet_0 : C :=
 .seq (.reg [⟨none, .bin 24 .lss (.t 23) (.t 22)⟩])
 (.seq (.cond (.t 24) (.skip)
 (.exit 0))
 (.seq (.block 1 (.seq (.reg [⟨none, .iaddrS 25 1 (.t 21) (.t 23)⟩,
 ⟨none, .load 26 1 false (.t 25)⟩,
 ⟨none, .mv 10 (.t 26)⟩])
 (.reg [⟨none, .mv 27 (.t 8)⟩,
 ⟨none, .mv 28 (.t 5)⟩,
 ⟨none, .mv 29 (.t 10)⟩,
 ⟨none, .call (some 30) n_ideal_times [.t 28, .t 29]⟩,
 ⟨none, .bslice 31 1 1 [.sl 0 []] [(0, 1, .t 30)]⟩,
 ⟨none, .append 32 1 24 (.t 27) (.t 31)⟩,
 ⟨none, .mv 8 (.t 32)⟩])))
 (.reg [⟨none, .bin 33 .add (.t 23) (.c (.i .i64 1))⟩,
 ⟨none, .mv 23 (.t 33)⟩])))
def hl_ideal_meet_1 : C :=
 .seq (.reg [⟨none, .bin 37 .lss (.t 36) (.t 35)⟩])
 (.seq (.cond (.t 37) (.skip)
 (.exit 2))
 (.seq (.block 3 (.seq (.reg [⟨none, .iaddrS 38 1 (.t 34) (.t 36)⟩,
 ⟨none, .load 39 1 false (.t 38)⟩,
 ⟨none, .mv 12 (.t 39)⟩])
 (.reg [⟨none, .mv 40 (.t 8)⟩,
 ⟨none, .mv 41 (.t 7)⟩,
 ⟨none, .mv 42 (.t 12)⟩,
 ⟨none, .call (some 43) n_ideal_times [.t 41, .t 42]⟩,
 ⟨none, .bslice 44 1 1 [.sl 0 []] [(0, 1, .t 43)]⟩,
 ⟨none, .append 45 1 24 (.t 40) (.t 44)⟩,
 ⟨none, .mv 8 (.t 45)⟩])))
 (.reg [⟨none, .bin 46 .add (.t 36) (.c (.i .i64 1))⟩,
 ⟨none, .mv 36 (.t 46)⟩])))
def h_ideal_meet : Fun := ⟨2, [.t 4],
 .seq (.reg [⟨none, .mv 4 (.c (.nil))⟩])
 (.seq (.reg [⟨none, .call (some 14) n_polynomial_Var [.c (.i .i64 7)]⟩,
 ⟨none, .mv 13 (.t 14)⟩,
 ⟨none, .ext 15 0 (.t 13)⟩,
 ⟨none, .ext 16 1 (.t 13)⟩,
 ⟨none, .mv 5 (.t 15)⟩,
 ⟨none, .mv 6 (.t 16)⟩])
 (.seq (.reg [⟨none, .call (some 17) n_rational_Whole [.c (.i .i64 1)]⟩,
 ⟨none, .call (some 18) n_polynomial_Constant [.t 17]⟩,
 ⟨none, .mv 19 (.t 5)⟩,
 ⟨none, .call (some 20) n_polynomial_Sub [.t 18, .t 19]⟩,
 ⟨none, .mv 7 (.t 20)⟩])
 (.seq (.reg [⟨none, .mv 8 (.c (.nil))⟩])
 (.seq (.seq (.reg [⟨none, .mv 21 (.t 0)⟩,
 ⟨none, .len 22 (.t 21)⟩,
 ⟨none, .mv 23 (.c (.i .i64 0))⟩])
 (.block 0 (.loop hl_ideal_meet_0)))
 (.seq (.seq (.reg [⟨none, .mv 34 (.t 1)⟩,
 ⟨none, .len 35 (.t 34)⟩,
 ⟨none, .mv 36 (.c (.i .i64 0))⟩])
 (.block 2 (.loop hl_ideal_meet_1)))
 (.seq (.reg [⟨none, .mv 47 (.t 8)⟩,
 ⟨none, .call (some 48) n_ideal_eliminate [.t 47, .c (.i .u8 128)]⟩,
 ⟨none, .mv 4 (.t 48)⟩])
 (.ret)))))))⟩
/- eliminant/ideal.reduced -/
def h_ideal_reduced : Fun := ⟨1, [.t 2],
 .seq (.reg [⟨none, .mv 2 (.c (.nil))⟩])
 (.seq (.reg [⟨none, .mv 3 (.t 0)⟩,
 ⟨none, .call (some 4) n_order_Reverse []⟩,
 ⟨none, .call (some 5) n_ideal_basis [.t 3, .t 4]⟩,
 ⟨none, .mv 2 (.t 5)⟩])
 (.ret))⟩
/- eliminant/ideal.eliminate -/
def h_ideal_eliminate : Fun := ⟨2, [.t 4],
 .seq (.reg [⟨none, .box 3 1 (.t 1)⟩,
 ⟨none, .mv 4 (.c (.nil))⟩])
 (.seq (.reg [⟨none, .mv 6 (.t 0)⟩,
 ⟨none, .load 7 1 false (.t 3)⟩,
 ⟨none, .call (some 8) n_order_Eliminating [.t 7]⟩,
 ⟨none, .call (some 9) n_ideal_basis [.t 6, .t 8]⟩,
 ⟨none, .mv 5 (.t 9)⟩])
 (.seq (.reg [⟨none, .mv 10 (.t 5)⟩,
 ⟨none, .mkfn 11 n_ideal_eliminate_1 [.t 3]⟩,
 ⟨none, .call (some 12) n_slices_DeleteFunc_api_Poly_api_Poly [.t 10, .t 11]⟩,
 ⟨none, .call (some 13) n_ideal_reduced [.t 12]⟩,
 ⟨none, .mv 4 (.t 13)⟩])
 (.ret)))⟩
/- eliminant/ideal.inverted -/
def h_ideal_inverted : Fun := ⟨2, [.t 4],
 .seq (.reg [⟨none, .mv 4 (.c (.nil))⟩])
 (.seq (.reg [⟨none, .call (some 8) n_polynomial_Var [.c (.i .i64 7)]⟩,
 ⟨none, .mv 7 (.t 8)⟩,
 ⟨none, .ext 9 0 (.t 7)⟩,
 ⟨none, .ext 10 1 (.t 7)⟩,
 ⟨none, .mv 5 (.t 9)⟩,
 ⟨none, .mv 6 (.t 10)⟩])
 (.seq (.reg [⟨none, .mv 11 (.t 0)⟩,
 ⟨none, .call (some 12) n_slices_Clone_api_Poly_api_Poly [.t 11]⟩,
 ⟨none, .mv 13 (.t 5)⟩,
 ⟨none, .mv 14 (.t 1)⟩,
 ⟨none, .call (some 15) n_ideal_times [.t 13, .t 14]⟩,
 ⟨none, .call (some 16) n_rational_Whole [.c (.i .i64 1)]⟩,
 ⟨none, .call (some 17) n_polynomial_Constant [.t 16]⟩,
 ⟨none, .call (some 18) n_polynomial_Sub [.t 15, .t 17]⟩,
 ⟨none, .bslice 19 1 1 [.sl 0 []] [(0, 1, .t 18)]⟩,
 ⟨none, .append 20 1 24 (.t 12) (.t 19)⟩,
 ⟨none, .mv 4 (.t 20)⟩])
 (.ret)))⟩
/- slices.Clone[[]eliminant/api.Poly,eliminant/api.Poly] -/
def h_slices_Clone_api_Poly_api_Poly : Fun := ⟨1, [.t 2],
 .seq (.reg [⟨none, .mv 2 (.c (.nil))⟩])
 (.seq (.seq (.reg [⟨none, .mv 3 (.t 0)⟩,
 ⟨none, .isnil 4 false (.t 3)⟩])
 (.cond (.t 4) (.seq (.reg [⟨none, .mv 2 (.c (.nil))⟩])
 (.ret))
 (.skip)))
 (.seq (.reg [⟨none, .bslice 5 0 1 [.sl 0 []] []⟩,
 ⟨none, .mv 6 (.t 0)⟩,
 ⟨none, .append 7 1 24 (.t 5) (.t 6)⟩,
 ⟨none, .mv 2 (.t 7)⟩])
 (.ret)))⟩
/- slices.ContainsFunc[[]eliminant/api.Poly,eliminant/api.Poly] -/
def h_slices_ContainsFunc_api_Poly_api_Poly : Fun := ⟨2, [.t 4],
 .seq (.reg [⟨none, .mv 4 (.c (.b false))⟩])
 (.seq (.reg [⟨none, .mv 5 (.t 0)⟩,
 ⟨none, .mv 6 (.t 1)⟩,
 ⟨none, .call (some 7) n_slices_IndexFunc_api_Poly_api_Poly [.t 5, .t 6]⟩,
 ⟨none, .bin 8 .geq (.t 7) (.c (.i .i64 0))⟩,
 ⟨none, .mv 4 (.t 8)⟩])
 (.ret))⟩
/- eliminant/ideal.Saturate$1 -/
def h_ideal_Saturate_1 : Fun := ⟨2, [.t 3],
 .seq (.reg [⟨none, .mv 3 (.c (.b false))⟩])
 (.seq (.reg [⟨none, .mv 4 (.t 0)⟩,
 ⟨none, .load 5 1 false (.t 1)⟩,
 ⟨none, .call (some 6) n_ideal_in [.t 4, .t 5]⟩,
 ⟨none, .un 7 .not (.t 6)⟩,
 ⟨none, .mv 3 (.t 7)⟩])
 (.ret))⟩
/- eliminant/groebner.Basis -/
def hl_groebner_Basis_0 : C :=
 .seq (.reg [⟨none, .bin 23 .lss (.t 22) (.t 21)⟩])
 (.seq (.cond (.t 23) (.skip)
 (.exit 0))
 (.seq (.block 1 (.seq (.reg [⟨none, .mv 24 (.t 22)⟩,
 ⟨none, .iaddrS 25 1 (.t 20) (.t 22)⟩,
 ⟨none, .load 26 1 false (.t 25)⟩,
 ⟨none, .mv 7 (.t 24)⟩,
 ⟨none, .mv 8 (.t 26)⟩])
 (.seq (.reg [⟨none, .mv 27 (.t 8)⟩,
 ⟨none, .len 28 (.t 27)⟩,
 ⟨none, .bin 29 .gtr (.t 28) (.c (.i .i64 0))⟩])
 (.cond (.t 29) (.seq (.reg [⟨none, .mv 30 (.t 0)⟩,
 ⟨none, .len 31 (.t 30)⟩,
 ⟨none, .mkslice 32 1 [.sl 0 []] (.t 31) (.t 31)⟩,
 ⟨none, .mv 9 (.t 32)⟩])
 (.seq (.reg [⟨none, .mv 33 (.t 9)⟩,
 ⟨none, .mv 34 (.t 7)⟩,
 ⟨none, .call (some 35) n_rational_Whole [.c (.i .i64 1)]⟩,
 ⟨none, .call (some 36) n_polynomial_Constant [.t 35]⟩,
 ⟨none, .iaddrS 37 1 (.t 33) (.t 34)⟩,
 ⟨none, .store 1 (.t 37) (.t 36)⟩])
 (.reg [⟨none, .mv 38 (.t 6)⟩,
 ⟨none, .mv 39 (.t 6)⟩,
 ⟨none, .faddr 40 0 (.t 39)⟩,
 ⟨none, .faddr 41 0 (.t 40)⟩,
 ⟨none, .load 42 1 false (.t 41)⟩,
 ⟨none, .mv 43 (.t 8)⟩,
 ⟨none, .mv 44 (.t 9)⟩,
 ⟨none, .call (some 45) n_groebner_ordering_element [.t 42, .t 43, .t 44]⟩,
 ⟨none, .call (some 46) n_groebner_builder_add [.t 38, .t 45]⟩])))
 (.skip)))))
 (.reg [⟨none, .bin 47 .add (.t 22) (.c (.i .i64 1))⟩,
 ⟨none, .mv 22 (.t 47)⟩])))
def hl_groebner_Basis_1 : C :=
 .seq (.reg [⟨none, .bin 64 .lss (.t 63) (.t 62)⟩])
 (.seq (.cond (.t 64) (.skip)
 (.exit 2))
 (.seq (.block 3 (.seq (.reg [⟨none, .iaddrS 65 14 (.t 61) (.t 63)⟩,
 ⟨none, .load 66 14 true (.t 65)⟩,
 ⟨none, .alloc 12 [.nil, .nil, .b false, .nil, .b false, .nil, .i .i64 0, .i .i64 0, .i .i64 0, .i .i64 0, .i .i64 0, .i .i64 0, .i .i64 0, .i .i64 0]⟩,
 ⟨none, .store 14 (.t 12) (.t 66)⟩])
 (.seq (.reg [⟨none, .faddr 67 1 (.t 10)⟩,
 ⟨none, .load 68 1 false (.t 67)⟩,
 ⟨none, .faddr 69 0 (.t 12)⟩,
 ⟨none, .load 70 1 false (.t 69)⟩,
 ⟨none, .bslice 71 1 1 [.sl 0 []] [(0, 1, .t 70)]⟩,
 ⟨none, .append 72 1 24 (.t 68) (.t 71)⟩,
 ⟨none, .faddr 73 1 (.t 10)⟩,
 ⟨none, .store 1 (.t 73) (.t 72)⟩])
 (.reg [⟨none, .faddr 74 2 (.t 10)⟩,
 ⟨none, .load 75 1 false (.t 74)⟩,
 ⟨none, .faddr 76 1 (.t 12)⟩,
 ⟨none, .load 77 1 false (.t 76)⟩,
 ⟨none, .bslice 78 1 1 [.sl 0 []] [(0, 1, .t 77)]⟩,
 ⟨none, .append 79 1 24 (.t 75) (.t 78)⟩,
 ⟨none, .faddr 80 2 (.t 10)⟩,
 ⟨none, .store 1 (.t 80) (.t 79)⟩]))))
 (.reg [⟨none, .bin 81 .add (.t 63) (.c (.i .i64 1))⟩,
 ⟨none, .mv 63 (.t 81)⟩])))
def h_groebner_Basis : Fun := ⟨2, [.c 4 3 true, .t 5],
 .seq (.reg [⟨none, .alloc 4 [.nil, .nil, .nil]⟩,
 ⟨none, .mv 5 (.c (.i .i64 0))⟩])
 (.seq (.seq (.reg [⟨none, .mv 13 (.t 1)⟩,
 ⟨none, .call (some 14) n_order_Valid [.t 13]⟩,
 ⟨none, .un 15 .not (.t 14)⟩])
 (.cond (.t 15) (.seq (.reg [⟨none, .build 16 [.nil, .nil, .nil] []⟩,
 ⟨none, .store 3 (.t 4) (.t 16)⟩,
 ⟨none, .mv 5 (.c (.i .i64 50))⟩])
 (.ret))
 (.skip)))
 (.seq (.reg [⟨none, .mv 17 (.t 1)⟩,
 ⟨none, .build 18 [.nil, .nil, .nil] [(0, 1, .t 17)]⟩,
 ⟨none, .box 19 3 (.t 18)⟩,
 ⟨none, .mv 6 (.t 19)⟩])
 (.seq (.seq (.reg [⟨none, .mv 20 (.t 0)⟩,
 ⟨none, .len 21 (.t 20)⟩,
 ⟨none, .mv 22 (.c (.i .i64 0))⟩])
 (.block 0 (.loop hl_groebner_Basis_0)))
 (.seq (.reg [⟨none, .mv 48 (.t 6)⟩,
 ⟨none, .call (some 49) n_groebner_builder_complete [.t 48]⟩])
 (.seq (.reg [⟨none, .mv 50 (.t 1)⟩,
 ⟨none, .call (some 51) n_slices_Clone_api_Order_8_int [.t 50]⟩,
 ⟨none, .build 52 [.nil, .nil, .nil] [(0, 1, .t 51)]⟩,
 ⟨none, .alloc 10 [.nil, .nil, .nil]⟩,
 ⟨none, .store 3 (.t 10) (.t 52)⟩])
 (.seq (.seq (.reg [⟨none, .mv 53 (.t 6)⟩,
 ⟨none, .faddr 54 0 (.t 53)⟩,
 ⟨none, .faddr 55 0 (.t 54)⟩,
 ⟨none, .load 56 1 false (.t 55)⟩,
 ⟨none, .mv 57 (.t 6)⟩,
 ⟨none, .faddr 58 0 (.t 57)⟩,
 ⟨none, .faddr 59 1 (.t 58)⟩,
 ⟨none, .load 60 1 false (.t 59)⟩,
 ⟨none, .call (some 61) n_groebner_ordering_finish [.t 56, .t 60]⟩,
 ⟨none, .len 62 (.t 61)⟩,
 ⟨none, .mv 63 (.c (.i .i64 0))⟩])
 (.block 2 (.loop hl_groebner_Basis_1)))
 (.seq (.reg [⟨none, .load 82 3 true (.t 10)⟩,
 ⟨none, .store 3 (.t 4) (.t 82)⟩,
 ⟨none, .mv 5 (.c (.i .i64 0))⟩])
 (.ret))))))))⟩
/- eliminant/ideal.basis -/
def h_ideal_basis : Fun := ⟨2, [.t 4],
 .seq (.reg [⟨none, .mv 4 (.c (.nil))⟩])
 (.seq (.reg [⟨none, .mv 8 (.t 0)⟩,
 ⟨none, .mv 9 (.t 1)⟩,
 ⟨none, .call (some 10) n_groebner_Basis [.t 8, .t 9]⟩,
 ⟨none, .mv 7 (.t 10)⟩,
 ⟨none, .ext 11 0 (.t 7)⟩,
 ⟨none, .ext 12 1 (.t 7)⟩,
 ⟨none, .alloc 5 [.nil, .nil, .nil]⟩,
 ⟨none, .store 3 (.t 5) (.t 11)⟩,
 ⟨none, .mv 6 (.t 12)⟩])
 (.seq (.reg [⟨none, .faddr 13 1 (.t 5)⟩,
 ⟨none, .load 14 1 false (.t 13)⟩,
 ⟨none, .mv 4 (.t 14)⟩])
 (.ret)))⟩
/- slices.DeleteFunc[[]eliminant/api.Poly,eliminant/api.Poly] -/
def hl_slices_DeleteFunc_api_Poly_api_Poly_0 : C :=
 .seq (.seq (.reg [⟨none, .mv 16 (.t 6)⟩,
 ⟨none, .mv 17 (.t 0)⟩,
 ⟨none, .len 18 (.t 17)⟩,
 ⟨none, .bin 19 .lss (.t 16) (.t 18)⟩])
 (.cond (.t 19) (.skip)
 (.exit 0)))
 (.seq (.block 1 (.seq (.reg [⟨none, .mv 22 (.t 0)⟩,
 ⟨none, .mv 23 (.t 6)⟩,
 ⟨none, .iaddrS 24 1 (.t 22) (.t 23)⟩,
 ⟨none, .load 25 1 false (.t 24)⟩,
 ⟨none, .mv 7 (.t 25)⟩])
 (.seq (.reg [⟨none, .mv 26 (.t 1)⟩,
 ⟨none, .mv 27 (.t 7)⟩,
 ⟨none, .callv (some 28) (.t 26) [.t 27]⟩,
 ⟨none, .un 29 .not (.t 28)⟩])
 (.cond (.t 29) (.seq (.reg [⟨none, .mv 30 (.t 0)⟩,
 ⟨none, .mv 31 (.t 5)⟩,
 ⟨none, .mv 32 (.t 7)⟩,
 ⟨none, .iaddrS 33 1 (.t 30) (.t 31)⟩,
 ⟨none, .store 1 (.t 33) (.t 32)⟩])
 (.reg [⟨none, .mv 34 (.t 5)⟩,
 ⟨none, .bin 35 .add (.t 34) (.c (.i .i64 1))⟩,
 ⟨none, .mv 5 (.t 35)⟩]))
 (.skip)))))
 (.reg [⟨none, .mv 20 (.t 6)⟩,
 ⟨none, .bin 21 .add (.t 20) (.c (.i .i64 1))⟩,
 ⟨none, .mv 6 (.t 21)⟩]))
def h_slices_DeleteFunc_api_Poly_api_Poly : Fun := ⟨2, [.t 4],
 .seq (.reg [⟨none, .mv 4 (.c (.nil))⟩])
 (.seq (.reg [⟨none, .mv 8 (.t 0)⟩,
 ⟨none, .mv 9 (.t 1)⟩,
 ⟨none, .call (some 10) n_slices_IndexFunc_api_Poly_api_Poly [.t 8, .t 9]⟩,
 ⟨none, .mv 5 (.t 10)⟩])
 (.seq (.seq (.reg [⟨none, .mv 11 (.t 5)⟩,
 ⟨none, .bin 12 .eql (.t 11) (.c (.i .i64 (-1)))⟩])
 (.cond (.t 12) (.seq (.reg [⟨none, .mv 13 (.t 0)⟩,
 ⟨none, .mv 4 (.t 13)⟩])
 (.ret))
 (.skip)))
 (.seq (.seq (.reg [⟨none, .mv 14 (.t 5)⟩,
 ⟨none, .bin 15 .add (.t 14) (.c (.i .i64 1))⟩,
 ⟨none, .mv 6 (.t 15)⟩])
 (.block 0 (.loop hl_slices_DeleteFunc_api_Poly_api_Poly_0)))
 (.seq (.reg [⟨none, .mv 36 (.t 0)⟩,
 ⟨none, .mv 37 (.t 5)⟩,
 ⟨none, .slice 38 1 (.t 36) (some (.t 37)) none none⟩,
 ⟨none, .clear 1 [.sl 0 []] (.t 38)⟩])
 (.seq (.reg [⟨none, .mv 39 (.t 0)⟩,
 ⟨none, .mv 40 (.t 5)⟩,
 ⟨none, .slice 41 1 (.t 39) none (some (.t 40)) none⟩,
 ⟨none, .mv 4 (.t 41)⟩])
 (.ret))))))⟩
/- eliminant/ideal.eliminate$1 -/
def h_ideal_eliminate_1 : Fun := ⟨2, [.t 3],
 .seq (.reg [⟨none, .mv 3 (.c (.b false))⟩])
 (.seq (.reg [⟨none, .mv 4 (.t 0)⟩,
 ⟨none, .call (some 5) n_polynomial_Uses [.t 4]⟩,
 ⟨none, .load 6 1 false (.t 1)⟩,
 ⟨none, .bin 7 .and (.t 5) (.t 6)⟩,
 ⟨none, .bin 8 .neq (.t 7) (.c (.i .u8 0))⟩,
 ⟨none, .mv 3 (.t 8)⟩])
 (.ret))⟩
/- slices.IndexFunc[[]eliminant/api.Poly,eliminant/api.Poly] -/
def hl_slices_IndexFunc_api_Poly_api_Poly_0 : C :=
 .seq (.reg [⟨none, .bin 9 .lss (.t 8) (.t 7)⟩])
 (.seq (.cond (.t 9) (.skip)
 (.exit 0))
 (.seq (.block 1 (.seq (.reg [⟨none, .mv 10 (.t 8)⟩,
 ⟨none, .mv 5 (.t 10)⟩])
 (.seq (.reg [⟨none, .mv 11 (.t 1)⟩,
 ⟨none, .mv 12 (.t 0)⟩,
 ⟨none, .mv 13 (.t 5)⟩,
 ⟨none, .iaddrS 14 1 (.t 12) (.t 13)⟩,
 ⟨none, .load 15 1 false (.t 14)⟩,
 ⟨none, .callv (some 16) (.t 11) [.t 15]⟩])
 (.cond (.t 16) (.seq (.reg [⟨none, .mv 17 (.t 5)⟩,
 ⟨none, .mv 4 (.t 17)⟩])
 (.ret))
 (.skip)))))
 (.reg [⟨none, .bin 18 .add (.t 8) (.c (.i .i64 1))⟩,
 ⟨none, .mv 8 (.t 18)⟩])))
def h_slices_IndexFunc_api_Poly_api_Poly : Fun := ⟨2, [.t 4],
 .seq (.reg [⟨none, .mv 4 (.c (.i .i64 0))⟩])
 (.seq (.seq (.reg [⟨none, .mv 6 (.t 0)⟩,
 ⟨none, .len 7 (.t 6)⟩,
 ⟨none, .mv 8 (.c (.i .i64 0))⟩])
 (.block 0 (.loop hl_slices_IndexFunc_api_Poly_api_Poly_0)))
 (.seq (.reg [⟨none, .mv 4 (.c (.i .i64 (-1)))⟩])
 (.ret)))⟩
/- (*eliminant/groebner.builder).add -/
def hl_groebner_builder_add_0 : C :=
 .seq (.reg [⟨none, .bin 12 .lss (.t 11) (.t 10)⟩])
 (.seq (.cond (.t 12) (.skip)
 (.exit 0))
 (.seq (.block 1 (.seq (.reg [⟨none, .mv 13 (.t 11)⟩,
 ⟨none, .iaddrS 14 14 (.t 9) (.t 11)⟩,
 ⟨none, .load 15 14 true (.t 14)⟩,
 ⟨none, .alloc 5 [.nil, .nil, .b false, .nil, .b false, .nil, .i .i64 0, .i .i64 0, .i .i64 0, .i .i64 0, .i .i64 0, .i .i64 0, .i .i64 0, .i .i64 0]⟩,
 ⟨none, .mv 4 (.t 13)⟩,
 ⟨none, .store 14 (.t 5) (.t 15)⟩])
 (.reg [⟨none, .mv 16 (.t 0)⟩,
 ⟨none, .mv 17 (.t 0)⟩,
 ⟨none, .faddr 18 0 (.t 17)⟩,
 ⟨none, .faddr 19 2 (.t 18)⟩,
 ⟨none, .load 20 1 false (.t 19)⟩,
 ⟨none, .mv 21 (.t 4)⟩,
 ⟨none, .mv 22 (.t 0)⟩,
 ⟨none, .faddr 23 0 (.t 22)⟩,
 ⟨none, .faddr 24 1 (.t 23)⟩,
 ⟨none, .load 25 1 false (.t 24)⟩,
 ⟨none, .len 26 (.t 25)⟩,
 ⟨none, .faddr 27 2 (.t 5)⟩,
 ⟨none, .faddr 28 4 (.t 27)⟩,
 ⟨none, .load 29 8 true (.t 28)⟩,
 ⟨none, .faddr 30 2 (.t 3)⟩,
 ⟨none, .faddr 31 4 (.t 30)⟩,
 ⟨none, .load 32 8 true (.t 31)⟩,
 ⟨none, .call (some 33) n_monomial_Lcm [.t 29, .t 32]⟩,
 ⟨none, .build 34 [.i .i64 0, .i .i64 0, .i .i64 0, .i .i64 0, .i .i64 0, .i .i64 0, .i .i64 0, .i .i64 0, .i .i64 0, .i .i64 0] [(0, 1, .t 21), (1, 1, .t 26), (2, 8, .t 33)]⟩,
 ⟨none, .bslice 35 1 10 [.i .i64 0, .i .i64 0, .i .i64 0, .i .i64 0, .i .i64 0, .i .i64 0, .i .i64 0, .i .i64 0, .i .i64 0, .i .i64 0] [(0, 10, .t 34)]⟩,
 ⟨none, .append 36 10 80 (.t 20) (.t 35)⟩,
 ⟨none, .faddr 37 0 (.t 16)⟩,
 ⟨none, .faddr 38 2 (.t 37)⟩,
 ⟨none, .store 1 (.t 38) (.t 36)⟩])))
 (.reg [⟨none, .bin 39 .add (.t 11) (.c (.i .i64 1))⟩,
 ⟨none, .mv 11 (.t 39)⟩])))
def h_groebner_builder_add : Fun := ⟨2, [],
 .seq (.reg [⟨none, .box 3 14 (.t 1)⟩])
 (.seq (.seq (.reg [⟨none, .mv 6 (.t 0)⟩,
 ⟨none, .faddr 7 0 (.t 6)⟩,
 ⟨none, .faddr 8 1 (.t 7)⟩,
 ⟨none, .load 9 1 false (.t 8)⟩,
 ⟨none, .len 10 (.t 9)⟩,
 ⟨none, .mv 11 (.c (.i .i64 0))⟩])
 (.block 0 (.loop hl_groebner_builder_add_0)))
 (.reg [⟨none, .mv 40 (.t 0)⟩,
 ⟨none, .mv 41 (.t 0)⟩,
 ⟨none, .faddr 42 0 (.t 41)⟩,
 ⟨none, .faddr 43 1 (.t 42)⟩,
 ⟨none, .load 44 1 false (.t 43)⟩,
 ⟨none, .load 45 14 true (.t 3)⟩,
 ⟨none, .bslice 46 1 14 [.sl 0 [], .sl 0 [], .b false, .sl 0 [], .b false, .sl 0 [], .i .i64 0, .i .i64 0, .i .i64 0, .i .i64 0, .i .i64 0, .i .i64 0, .i .i64 0, .i .i64 0] [(0, 14, .t 45)]⟩,
 ⟨none, .append 47 14 176 (.t 44) (.t 46)⟩,
 ⟨none, .faddr 48 0 (.t 40)⟩,
 ⟨none, .faddr 49 1 (.t 48)⟩,
 ⟨none, .store 1 (.t 49) (.t 47)⟩]))⟩
/- (*eliminant/groebner.builder).complete -/
def hl_groebner_builder_complete_0 : C :=
 .seq (.seq (.reg [⟨none, .mv 13 (.t 0)⟩,
 ⟨none, .faddr 14 0 (.t 13)⟩,
 ⟨none, .faddr 15 2 (.t 14)⟩,
 ⟨none, .load 16 1 false (.t 15)⟩,
 ⟨none, .len 17 (.t 16)⟩,
 ⟨none, .bin 18 .gtr (.t 17) (.c (.i .i64 0))⟩])
 (.cond (.t 18) (.skip)
 (.exit 0)))
 (.block 1 (.seq (.reg [⟨none, .mv 19 (.t 0)⟩,
 ⟨none, .faddr 20 0 (.t 19)⟩,
 ⟨none, .faddr 21 2 (.t 20)⟩,
 ⟨none, .load 22 1 false (.t 21)⟩,
 ⟨none, .mv 23 (.t 0)⟩,
 ⟨none, .mkbf 24 n_groebner_builder_before [(.t 23)]⟩,
 ⟨none, .call (some 25) n_slices_MinFunc_groebner_pair_groebner_pair [.t 22, .t 24]⟩,
 ⟨none, .alloc 2 [.i .i64 0, .i .i64 0, .i .i64 0, .i .i64 0, .i .i64 0, .i .i64 0, .i .i64 0, .i .i64 0, .i .i64 0, .i .i64 0]⟩,
 ⟨none, .store 10 (.t 2) (.t 25)⟩])
 (.seq (.reg [⟨none, .mv 26 (.t 0)⟩,
 ⟨none, .mv 27 (.t 0)⟩,
 ⟨none, .faddr 28 0 (.t 27)⟩,
 ⟨none, .faddr 29 2 (.t 28)⟩,
 ⟨none, .load 30 1 false (.t 29)⟩,
 ⟨none, .mkfn 31 n_groebner_builder_complete_1 [.t 2]⟩,
 ⟨none, .call (some 32) n_slices_DeleteFunc_groebner_pair_groebner_pair [.t 30, .t 31]⟩,
 ⟨none, .faddr 33 0 (.t 26)⟩,
 ⟨none, .faddr 34 2 (.t 33)⟩,
 ⟨none, .store 1 (.t 34) (.t 32)⟩])
 (.seq (.seq (.reg [⟨none, .mv 35 (.t 0)⟩,
 ⟨none, .load 36 10 true (.t 2)⟩,
 ⟨none, .call (some 37) n_groebner_builder_needless [.t 35, .t 36]⟩])
 (.cond (.t 37) (.exit 1)
 (.skip)))
 (.seq (.regD [0, 1, 3, 7, 0, 16, 63, 127, 0, 256, 768, 1792, 0, 4096, 16128, 32512, 0, 0, 196863, 524287] [⟨none, .mv 38 (.t 0)⟩,
 ⟨none, .faddr 39 0 (.t 38)⟩,
 ⟨none, .faddr 40 1 (.t 39)⟩,
 ⟨none, .load 41 1 false (.t 40)⟩,
 ⟨none, .faddr 42 0 (.t 2)⟩,
 ⟨none, .load 43 1 false (.t 42)⟩,
 ⟨none, .iaddrS 44 14 (.t 41) (.t 43)⟩,
 ⟨none, .load 45 14 true (.t 44)⟩,
 ⟨none, .mv 46 (.t 0)⟩,
 ⟨none, .faddr 47 0 (.t 46)⟩,
 ⟨none, .faddr 48 1 (.t 47)⟩,
 ⟨none, .load 49 1 false (.t 48)⟩,
 ⟨none, .faddr 50 1 (.t 2)⟩,
 ⟨none, .load 51 1 false (.t 50)⟩,
 ⟨none, .iaddrS 52 14 (.t 49) (.t 51)⟩,
 ⟨none, .load 53 14 true (.t 52)⟩,
 ⟨none, .alloc 3 [.nil, .nil, .b false, .nil, .b false, .nil, .i .i64 0, .i .i64 0, .i .i64 0, .i .i64 0, .i .i64 0, .i .i64 0, .i .i64 0, .i .i64 0]⟩,
 ⟨none, .alloc 4 [.nil, .nil, .b false, .nil, .b false, .nil, .i .i64 0, .i .i64 0, .i .i64 0, .i .i64 0, .i .i64 0, .i .i64 0, .i .i64 0, .i .i64 0]⟩,
 ⟨none, .store 14 (.t 3) (.t 45)⟩,
 ⟨none, .store 14 (.t 4) (.t 53)⟩])
 (.seq (.reg [⟨none, .faddr 55 2 (.t 2)⟩,
 ⟨none, .load 56 8 true (.t 55)⟩,
 ⟨none, .faddr 57 2 (.t 3)⟩,
 ⟨none, .faddr 58 4 (.t 57)⟩,
 ⟨none, .load 59 8 true (.t 58)⟩,
 ⟨none, .call (some 60) n_monomial_Quo [.t 56, .t 59]⟩,
 ⟨none, .mv 54 (.t 60)⟩,
 ⟨none, .ext 61 0 (.t 54)⟩,
 ⟨none, .ext 62 1 (.t 54)⟩,
 ⟨none, .alloc 5 [.i .i64 0, .i .i64 0, .i .i64 0, .i .i64 0, .i .i64 0, .i .i64 0, .i .i64 0, .i .i64 0]⟩,
 ⟨none, .store 8 (.t 5) (.t 61)⟩,
 ⟨none, .mv 6 (.t 62)⟩])
 (.seq (.reg [⟨none, .faddr 64 2 (.t 2)⟩,
 ⟨none, .load 65 8 true (.t 64)⟩,
 ⟨none, .faddr 66 2 (.t 4)⟩,
 ⟨none, .faddr 67 4 (.t 66)⟩,
 ⟨none, .load 68 8 true (.t 67)⟩,
 ⟨none, .call (some 69) n_monomial_Quo [.t 65, .t 68]⟩,
 ⟨none, .mv 63 (.t 69)⟩,
 ⟨none, .ext 70 0 (.t 63)⟩,
 ⟨none, .ext 71 1 (.t 63)⟩,
 ⟨none, .alloc 7 [.i .i64 0, .i .i64 0, .i .i64 0, .i .i64 0, .i .i64 0, .i .i64 0, .i .i64 0, .i .i64 0]⟩,
 ⟨none, .store 8 (.t 7) (.t 70)⟩,
 ⟨none, .mv 8 (.t 71)⟩])
 (.seq (.reg [⟨none, .call (some 72) n_rational_Whole [.c (.i .i64 1)]⟩,
 ⟨none, .alloc 9 [.b false, .nil, .b false, .nil]⟩,
 ⟨none, .store 4 (.t 9) (.t 72)⟩])
 (.seq (.reg [⟨none, .load 73 14 true (.t 3)⟩,
 ⟨none, .load 74 4 true (.t 9)⟩,
 ⟨none, .load 75 8 true (.t 5)⟩,
 ⟨none, .build 76 [.b false, .nil, .b false, .nil, .i .i64 0, .i .i64 0, .i .i64 0, .i .i64 0, .i .i64 0, .i .i64 0, .i .i64 0, .i .i64 0] [(0, 4, .t 74), (4, 8, .t 75)]⟩,
 ⟨none, .bslice 77 1 12 [.b false, .sl 0 [], .b false, .sl 0 [], .i .i64 0, .i .i64 0, .i .i64 0, .i .i64 0, .i .i64 0, .i .i64 0, .i .i64 0, .i .i64 0] [(0, 12, .t 76)]⟩,
 ⟨none, .load 78 14 true (.t 4)⟩,
 ⟨none, .load 79 4 true (.t 9)⟩,
 ⟨none, .load 80 8 true (.t 7)⟩,
 ⟨none, .build 81 [.b false, .nil, .b false, .nil, .i .i64 0, .i .i64 0, .i .i64 0, .i .i64 0, .i .i64 0, .i .i64 0, .i .i64 0, .i .i64 0] [(0, 4, .t 79), (4, 8, .t 80)]⟩,
 ⟨none, .bslice 82 1 12 [.b false, .sl 0 [], .b false, .sl 0 [], .i .i64 0, .i .i64 0, .i .i64 0, .i .i64 0, .i .i64 0, .i .i64 0, .i .i64 0, .i .i64 0] [(0, 12, .t 81)]⟩,
 ⟨none, .call (some 83) n_groebner_combine [.t 73, .t 77, .t 78, .t 82]⟩,
 ⟨none, .alloc 10 [.nil, .nil, .b false, .nil, .b false, .nil, .i .i64 0, .i .i64 0, .i .i64 0, .i .i64 0, .i .i64 0, .i .i64 0, .i .i64 0, .i .i64 0]⟩,
 ⟨none, .store 14 (.t 10) (.t 83)⟩])
 (.seq (.reg [⟨none, .mv 85 (.t 0)⟩,
 ⟨none, .faddr 86 0 (.t 85)⟩,
 ⟨none, .faddr 87 0 (.t 86)⟩,
 ⟨none, .load 88 1 false (.t 87)⟩,
 ⟨none, .load 89 14 true (.t 10)⟩,
 ⟨none, .mv 90 (.t 0)⟩,
 ⟨none, .faddr 91 0 (.t 90)⟩,
 ⟨none, .faddr 92 1 (.t 91)⟩,
 ⟨none, .load 93 1 false (.t 92)⟩,
 ⟨none, .call (some 94) n_groebner_ordering_reduce [.t 88, .t 89, .t 93]⟩,
 ⟨none, .mv 84 (.t 94)⟩,
 ⟨none, .ext 95 0 (.t 84)⟩,
 ⟨none, .ext 96 1 (.t 84)⟩,
 ⟨none, .alloc 11 [.nil, .nil, .b false, .nil, .b false, .nil, .i .i64 0, .i .i64 0, .i .i64 0, .i .i64 0, .i .i64 0, .i .i64 0, .i .i64 0, .i .i64 0]⟩,
 ⟨none, .store 14 (.t 11) (.t 95)⟩,
 ⟨none, .mv 12 (.t 96)⟩])
 (.seq (.reg [⟨none, .mv 97 (.t 12)⟩])
 (.cond (.t 97) (.reg [⟨none, .mv 98 (.t 0)⟩,
 ⟨none, .load 99 14 true (.t 11)⟩,
 ⟨none, .call (some 100) n_groebner_builder_add [.t 98, .t 99]⟩])
 (.skip)))))))))))))
def h_groebner_builder_complete : Fun := ⟨1, [],
 .block 0 (.loop hl_groebner_builder_complete_0)⟩
/- (eliminant/groebner.ordering).finish -/
def hl_groebner_ordering_finish_0 : C :=
 .seq (.reg [⟨none, .bin 20 .lss (.t 19) (.t 18)⟩])
 (.seq (.cond (.t 20) (.skip)
 (.exit 0))
 (.seq (.block 1 (.seq (.reg [⟨none, .iaddrS 21 14 (.t 17) (.t 19)⟩,
 ⟨none, .load 22 14 true (.t 21)⟩,
 ⟨none, .alloc 7 [.nil, .nil, .b false, .nil, .b false, .nil, .i .i64 0, .i .i64 0, .i .i64 0, .i .i64 0, .i .i64 0, .i .i64 0, .i .i64 0, .i .i64 0]⟩,
 ⟨none, .store 14 (.t 7) (.t 22)⟩])
 (.seq (.reg [⟨none, .mv 23 (.t 5)⟩,
 ⟨none, .mkfn 24 n_groebner_ordering_finish_2 [.t 7]⟩,
 ⟨none, .call (some 25) n_slices_ContainsFunc_groebner_element_groebner_element [.t 23, .t 24]⟩,
 ⟨none, .un 26 .not (.t 25)⟩])
 (.cond (.t 26) (.reg [⟨none, .mv 27 (.t 5)⟩,
 ⟨none, .load 28 14 true (.t 7)⟩,
 ⟨none, .bslice 29 1 14 [.sl 0 [], .sl 0 [], .b false, .sl 0 [], .b false, .sl 0 [], .i .i64 0, .i .i64 0, .i .i64 0, .i .i64 0, .i .i64 0, .i .i64 0, .i .i64 0, .i .i64 0] [(0, 14, .t 28)]⟩,
 ⟨none, .append 30 14 176 (.t 27) (.t 29)⟩,
 ⟨none, .mv 5 (.t 30)⟩])
 (.skip)))))
 (.reg [⟨none, .bin 31 .add (.t 19) (.c (.i .i64 1))⟩,
 ⟨none, .mv 19 (.t 31)⟩])))
def hl_groebner_ordering_finish_1 : C :=
 .seq (.reg [⟨none, .bin 38 .lss (.t 37) (.t 36)⟩])
 (.seq (.cond (.t 38) (.skip)
 (.exit 2))
 (.seq (.block 3 (.seq (.reg [⟨none, .mv 39 (.t 37)⟩,
 ⟨none, .iaddrS 40 14 (.t 35) (.t 37)⟩,
 ⟨none, .load 41 14 true (.t 40)⟩,
 ⟨none, .alloc 10 [.nil, .nil, .b false, .nil, .b false, .nil, .i .i64 0, .i .i64 0, .i .i64 0, .i .i64 0, .i .i64 0, .i .i64 0, .i .i64 0, .i .i64 0]⟩,
 ⟨none, .mv 9 (.t 39)⟩,
 ⟨none, .store 14 (.t 10) (.t 41)⟩])
 (.seq (.reg [⟨none, .mv 42 (.t 5)⟩,
 ⟨none, .call (some 43) n_slices_Clone_groebner_element_groebner_element [.t 42]⟩,
 ⟨none, .mv 44 (.t 9)⟩,
 ⟨none, .mv 45 (.t 9)⟩,
 ⟨none, .bin 46 .add (.t 45) (.c (.i .i64 1))⟩,
 ⟨none, .call (some 47) n_slices_Delete_groebner_element_groebner_element [.t 43, .t 44, .t 46]⟩,
 ⟨none, .mv 11 (.t 47)⟩])
 (.reg [⟨none, .mv 49 (.t 8)⟩,
 ⟨none, .mv 50 (.t 9)⟩,
 ⟨none, .load 51 1 false (.t 2)⟩,
 ⟨none, .load 52 14 true (.t 10)⟩,
 ⟨none, .mv 53 (.t 11)⟩,
 ⟨none, .call (some 54) n_groebner_ordering_reduce [.t 51, .t 52, .t 53]⟩,
 ⟨none, .mv 48 (.t 54)⟩,
 ⟨none, .ext 55 0 (.t 48)⟩,
 ⟨none, .ext 56 1 (.t 48)⟩,
 ⟨none, .iaddrS 57 14 (.t 49) (.t 50)⟩,
 ⟨none, .store 14 (.t 57) (.t 55)⟩]))))
 (.reg [⟨none, .bin 58 .add (.t 37) (.c (.i .i64 1))⟩,
 ⟨none, .mv 37 (.t 58)⟩])))
def h_groebner_ordering_finish : Fun := ⟨2, [.t 4],
 .seq (.reg [⟨none, .box 2 1 (.t 0)⟩,
 ⟨none, .mv 4 (.c (.nil))⟩])
 (.seq (.reg [⟨none, .mv 12 (.t 1)⟩,
 ⟨none, .call (some 13) n_slices_Clone_groebner_element_groebner_element [.t 12]⟩,
 ⟨none, .mv 1 (.t 13)⟩])
 (.seq (.reg [⟨none, .mv 14 (.t 1)⟩,
 ⟨none, .mkfn 15 n_groebner_ordering_finish_1 [.t 2]⟩,
 ⟨none, .call (some 16) n_slices_SortStableFunc_groebner_element_groebner_element [.t 14, .t 15]⟩])
 (.seq (.reg [⟨none, .mv 5 (.c (.nil))⟩])
 (.seq (.seq (.reg [⟨none, .mv 17 (.t 1)⟩,
 ⟨none, .len 18 (.t 17)⟩,
 ⟨none, .mv 19 (.c (.i .i64 0))⟩])
 (.block 0 (.loop hl_groebner_ordering_finish_0)))
 (.seq (.reg [⟨none, .mv 32 (.t 5)⟩,
 ⟨none, .len 33 (.t 32)⟩,
 ⟨none, .mkslice 34 14 [.sl 0 [], .sl 0 [], .b false, .sl 0 [], .b false, .sl 0 [], .i .i64 0, .i .i64 0, .i .i64 0, .i .i64 0, .i .i64 0, .i .i64 0, .i .i64 0, .i .i64 0] (.t 33) (.t 33)⟩,
 ⟨none, .mv 8 (.t 34)⟩])
 (.seq (.seq (.reg [⟨none, .mv 35 (.t 5)⟩,
 ⟨none, .len 36 (.t 35)⟩,
 ⟨none, .mv 37 (.c (.i .i64 0))⟩])
 (.block 2 (.loop hl_groebner_ordering_finish_1)))
 (.seq (.reg [⟨none, .mv 59 (.t 8)⟩,
 ⟨none, .mv 4 (.t 59)⟩])
 (.ret))))))))⟩
/- slices.MinFunc[[]eliminant/groebner.pair,eliminant/groebner.pair] -/
def hl_slices_MinFunc_groebner_pair_groebner_pair_0 : C :=
 .seq (.seq (.reg [⟨none, .mv 14 (.t 6)⟩,
 ⟨none, .mv 15 (.t 0)⟩,
 ⟨none, .len 16 (.t 15)⟩,
 ⟨none, .bin 17 .lss (.t 14) (.t 16)⟩])
 (.cond (.t 17) (.skip)
 (.exit 0)))
 (.seq (.block 1 (.seq (.reg [⟨none, .mv 20 (.t 1)⟩,
 ⟨none, .mv 21 (.t 0)⟩,
 ⟨none, .mv 22 (.t 6)⟩,
 ⟨none, .iaddrS 23 10 (.t 21) (.t 22)⟩,
 ⟨none, .load 24 10 true (.t 23)⟩,
 ⟨none, .load 25 10 true (.t 5)⟩,
 ⟨none, .callv (some 26) (.t 20) [.t 24, .t 25]⟩,
 ⟨none, .bin 27 .lss (.t 26) (.c (.i .i64 0))⟩])
 (.cond (.t 27) (.reg [⟨none, .mv 28 (.t 0)⟩,
 ⟨none, .mv 29 (.t 6)⟩,
 ⟨none, .iaddrS 30 10 (.t 28) (.t 29)⟩,
 ⟨none, .load 31 10 true (.t 30)⟩,
 ⟨none, .store 10 (.t 5) (.t 31)⟩])
 (.skip))))
 (.reg [⟨none, .mv 18 (.t 6)⟩,
 ⟨none, .bin 19 .add (.t 18) (.c (.i .i64 1))⟩,
 ⟨none, .mv 6 (.t 19)⟩]))
def h_slices_MinFunc_groebner_pair_groebner_pair : Fun := ⟨2, [.c 4 10 true],
 .seq (.reg [⟨none, .alloc 4 [.i .i64 0, .i .i64 0, .i .i64 0, .i .i64 0, .i .i64 0, .i .i64 0, .i .i64 0, .i .i64 0, .i .i64 0, .i .i64 0]⟩])
 (.seq (.seq (.reg [⟨none, .mv 7 (.t 0)⟩,
 ⟨none, .len 8 (.t 7)⟩,
 ⟨none, .bin 9 .lss (.t 8) (.c (.i .i64 1))⟩])
 (.cond (.t 9) (.reg [⟨none, .fail (some 10)⟩,
 ⟨none, .fail none⟩])
 (.skip)))
 (.seq (.reg [⟨none, .mv 11 (.t 0)⟩,
 ⟨none, .iaddrS 12 10 (.t 11) (.c (.i .i64 0))⟩,
 ⟨none, .load 13 10 true (.t 12)⟩,
 ⟨none, .alloc 5 [.i .i64 0, .i .i64 0, .i .i64 0, .i .i64 0, .i .i64 0, .i .i64 0, .i .i64 0, .i .i64 0, .i .i64 0, .i .i64 0]⟩,
 ⟨none, .store 10 (.t 5) (.t 13)⟩])
 (.seq (.seq (.reg [⟨none, .mv 6 (.c (.i .i64 1))⟩])
 (.block 0 (.loop hl_slices_MinFunc_groebner_pair_groebner_pair_0)))
 (.seq (.reg [⟨none, .load 32 10 true (.t 5)⟩,
 ⟨none, .store 10 (.t 4) (.t 32)⟩])
 (.ret)))))⟩
/- (*eliminant/groebner.builder).before -/
def h_groebner_builder_before : Fun := ⟨3, [.t 6],
 .seq (.reg [⟨none, .box 4 10 (.t 1)⟩,
 ⟨none, .box 5 10 (.t 2)⟩,
 ⟨none, .mv 6 (.c (.i .i64 0))⟩])
 (.seq (.reg [⟨none, .mv 7 (.t 0)⟩,
 ⟨none, .faddr 8 0 (.t 7)⟩,
 ⟨none, .faddr 9 0 (.t 8)⟩,
 ⟨none, .load 10 1 false (.t 9)⟩,
 ⟨none, .faddr 11 2 (.t 4)⟩,
 ⟨none, .load 12 8 true (.t 11)⟩,
 ⟨none, .faddr 13 2 (.t 5)⟩,
 ⟨none, .load 14 8 true (.t 13)⟩,
 ⟨none, .call (some 15) n_groebner_ordering_compare [.t 10, .t 12, .t 14]⟩,
 ⟨none, .faddr 16 1 (.t 4)⟩,
 ⟨none, .load 17 1 false (.t 16)⟩,
 ⟨none, .faddr 18 1 (.t 5)⟩,
 ⟨none, .load 19 1 false (.t 18)⟩,
 ⟨none, .call (some 20) n_cmp_Compare_int [.t 17, .t 19]⟩,
 ⟨none, .faddr 21 0 (.t 4)⟩,
 ⟨none, .load 22 1 false (.t 21)⟩,
 ⟨none, .faddr 23 0 (.t 5)⟩,
 ⟨none, .load 24 1 false (.t 23)⟩,
 ⟨none, .call (some 25) n_cmp_Compare_int [.t 22, .t 24]⟩,
 ⟨none, .bslice 26 3 1 [.i .i64 0] [(0, 1, .t 15), (1, 1, .t 20), (2, 1, .t 25)]⟩,
 ⟨none, .call (some 27) n_cmp_Or_int [.t 26]⟩,
 ⟨none, .mv 6 (.t 27)⟩])
 (.ret))⟩
/- slices.DeleteFunc[[]eliminant/groebner.pair,eliminant/groebner.pair] -/
def hl_slices_DeleteFunc_groebner_pair_groebner_pair_0 : C :=
 .seq (.seq (.reg [⟨none, .mv 16 (.t 6)⟩,
 ⟨none, .mv 17 (.t 0)⟩,
 ⟨none, .len 18 (.t 17)⟩,
 ⟨none, .bin 19 .lss (.t 16) (.t 18)⟩])
 (.cond (.t 19) (.skip)
 (.exit 0)))
 (.seq (.block 1 (.seq (.reg [⟨none, .mv 22 (.t 0)⟩,
 ⟨none, .mv 23 (.t 6)⟩,
 ⟨none, .iaddrS 24 10 (.t 22) (.t 23)⟩,
 ⟨none, .load 25 10 true (.t 24)⟩,
 ⟨none, .alloc 7 [.i .i64 0, .i .i64 0, .i .i64 0, .i .i64 0, .i .i64 0, .i .i64 0, .i .i64 0, .i .i64 0, .i .i64 0, .i .i64 0]⟩,
 ⟨none, .store 10 (.t 7) (.t 25)⟩])
 (.seq (.reg [⟨none, .mv 26 (.t 1)⟩,
 ⟨none, .load 27 10 true (.t 7)⟩,
 ⟨none, .callv (some 28) (.t 26) [.t 27]⟩,
 ⟨none, .un 29 .not (.t 28)⟩])
 (.cond (.t 29) (.seq (.reg [⟨none, .mv 30 (.t 0)⟩,
 ⟨none, .mv 31 (.t 5)⟩,
 ⟨none, .load 32 10 true (.t 7)⟩,
 ⟨none, .iaddrS 33 10 (.t 30) (.t 31)⟩,
 ⟨none, .store 10 (.t 33) (.t 32)⟩])
 (.reg [⟨none, .mv 34 (.t 5)⟩,
 ⟨none, .bin 35 .add (.t 34) (.c (.i .i64 1))⟩,
 ⟨none, .mv 5 (.t 35)⟩]))
 (.skip)))))
 (.reg [⟨none, .mv 20 (.t 6)⟩,
 ⟨none, .bin 21 .add (.t 20) (.c (.i .i64 1))⟩,
 ⟨none, .mv 6 (.t 21)⟩]))
def h_slices_DeleteFunc_groebner_pair_groebner_pair : Fun := ⟨2, [.t 4],
 .seq (.reg [⟨none, .mv 4 (.c (.nil))⟩])
 (.seq (.reg [⟨none, .mv 8 (.t 0)⟩,
 ⟨none, .mv 9 (.t 1)⟩,
 ⟨none, .call (some 10) n_slices_IndexFunc_groebner_pair_groebner_pair [.t 8, .t 9]⟩,
 ⟨none, .mv 5 (.t 10)⟩])
 (.seq (.seq (.reg [⟨none, .mv 11 (.t 5)⟩,
 ⟨none, .bin 12 .eql (.t 11) (.c (.i .i64 (-1)))⟩])
 (.cond (.t 12) (.seq (.reg [⟨none, .mv 13 (.t 0)⟩,
 ⟨none, .mv 4 (.t 13)⟩])
 (.ret))
 (.skip)))
 (.seq (.seq (.reg [⟨none, .mv 14 (.t 5)⟩,
 ⟨none, .bin 15 .add (.t 14) (.c (.i .i64 1))⟩,
 ⟨none, .mv 6 (.t 15)⟩])
 (.block 0 (.loop hl_slices_DeleteFunc_groebner_pair_groebner_pair_0)))
 (.seq (.reg [⟨none, .mv 36 (.t 0)⟩,
 ⟨none, .mv 37 (.t 5)⟩,
 ⟨none, .slice 38 10 (.t 36) (some (.t 37)) none none⟩,
 ⟨none, .clear 10 [.i .i64 0, .i .i64 0, .i .i64 0, .i .i64 0, .i .i64 0, .i .i64 0, .i .i64 0, .i .i64 0, .i .i64 0, .i .i64 0] (.t 38)⟩])
 (.seq (.reg [⟨none, .mv 39 (.t 0)⟩,
 ⟨none, .mv 40 (.t 5)⟩,
 ⟨none, .slice 41 10 (.t 39) none (some (.t 40)) none⟩,
 ⟨none, .mv 4 (.t 41)⟩])
 (.ret))))))⟩
/- (*eliminant/groebner.builder).complete$1 -/
def h_groebner_builder_complete_1 : Fun := ⟨2, [.t 3],
 .seq (.reg [⟨none, .box 2 10 (.t 0)⟩,
 ⟨none, .mv 3 (.c (.b false))⟩])
 (.seq (.reg [⟨none, .load 4 10 true (.t 2)⟩,
 ⟨none, .load 5 10 true (.t 1)⟩,
 ⟨none, .eqa 6 10 false (.t 4) (.t 5)⟩,
 ⟨none, .mv 3 (.t 6)⟩])
 (.ret))⟩
/- (*eliminant/groebner.builder).needless -/
def hl_groebner_builder_needless_0 : C :=
 .seq (.reg [⟨none, .bin 36 .lss (.t 35) (.t 34)⟩])
 (.seq (.cond (.t 36) (.skip)
 (.exit 0))
 (.seq (.block 1 (.seq (.reg [⟨none, .mv 37 (.t 35)⟩,
 ⟨none, .iaddrS 38 14 (.t 33) (.t 35)⟩,
 ⟨none, .load 39 14 true (.t 38)⟩,
 ⟨none, .alloc 6 [.nil, .nil, .b false, .nil, .b false, .nil, .i .i64 0, .i .i64 0, .i .i64 0, .i .i64 0, .i .i64 0, .i .i64 0, .i .i64 0, .i .i64 0]⟩,
 ⟨none, .mv 5 (.t 37)⟩,
 ⟨none, .store 14 (.t 6) (.t 39)⟩])
 (.seq (.reg [⟨none, .mv 40 (.t 5)⟩,
 ⟨none, .faddr 41 0 (.t 3)⟩,
 ⟨none, .load 42 1 false (.t 41)⟩,
 ⟨none, .bin 43 .neq (.t 40) (.t 42)⟩,
 ⟨none, .mv 44 (.t 43)⟩,
 ⟨some (44, true, 45), .mv 45 (.t 5)⟩,
 ⟨some (44, true, 46), .faddr 46 1 (.t 3)⟩,
 ⟨some (44, true, 47), .load 47 1 false (.t 46)⟩,
 ⟨some (44, true, 48), .bin 48 .neq (.t 45) (.t 47)⟩,
 ⟨none, .pick 49 (.t 44) (.t 48) (.c (.b false))⟩,
 ⟨none, .mv 50 (.t 49)⟩,
 ⟨some (50, true, 51), .faddr 51 2 (.t 6)⟩,
 ⟨some (50, true, 52), .faddr 52 4 (.t 51)⟩,
 ⟨some (50, true, 53), .load 53 8 true (.t 52)⟩,
 ⟨some (50, true, 54), .faddr 54 2 (.t 3)⟩,
 ⟨some (50, true, 55), .load 55 8 true (.t 54)⟩,
 ⟨some (50, true, 56), .call (some 56) n_monomial_Divides [.t 53, .t 55]⟩,
 ⟨none, .pick 57 (.t 50) (.t 56) (.c (.b false))⟩,
 ⟨none, .mv 58 (.t 57)⟩,
 ⟨some (58, true, 59), .mv 59 (.t 0)⟩,
 ⟨some (58, true, 60), .faddr 60 0 (.t 3)⟩,
 ⟨some (58, true, 61), .load 61 1 false (.t 60)⟩,
 ⟨some (58, true, 62), .mv 62 (.t 5)⟩,
 ⟨some (58, true, 63), .call (some 63) n_groebner_builder_open [.t 59, .t 61, .t 62]⟩,
 ⟨some (58, true, 64), .un 64 .not (.t 63)⟩,
 ⟨none, .pick 65 (.t 58) (.t 64) (.c (.b false))⟩,
 ⟨none, .mv 66 (.t 65)⟩,
 ⟨some (66, true, 67), .mv 67 (.t 0)⟩,
 ⟨some (66, true, 68), .mv 68 (.t 5)⟩,
 ⟨some (66, true, 69), .faddr 69 1 (.t 3)⟩,
 ⟨some (66, true, 70), .load 70 1 false (.t 69)⟩,
 ⟨some (66, true, 71), .call (some 71) n_groebner_builder_open [.t 67, .t 68, .t 70]⟩,
 ⟨some (66, true, 72), .un 72 .not (.t 71)⟩,
 ⟨none, .pick 73 (.t 66) (.t 72) (.c (.b false))⟩])
 (.cond (.t 73) (.seq (.reg [⟨none, .mv 4 (.c (.b true))⟩])
 (.ret))
 (.skip)))))
 (.reg [⟨none, .bin 74 .add (.t 35) (.c (.i .i64 1))⟩,
 ⟨none, .mv 35 (.t 74)⟩])))
def h_groebner_builder_needless : Fun := ⟨2, [.t 4],
 .seq (.reg [⟨none, .box 3 10 (.t 1)⟩,
 ⟨none, .mv 4 (.c (.b false))⟩])
 (.seq (.seq (.reg [⟨none, .mv 7 (.t 0)⟩,
 ⟨none, .faddr 8 0 (.t 7)⟩,
 ⟨none, .faddr 9 1 (.t 8)⟩,
 ⟨none, .load 10 1 false (.t 9)⟩,
 ⟨none, .faddr 11 0 (.t 3)⟩,
 ⟨none, .load 12 1 false (.t 11)⟩,
 ⟨none, .iaddrS 13 14 (.t 10) (.t 12)⟩,
 ⟨none, .faddr 14 2 (.t 13)⟩,
 ⟨none, .faddr 15 4 (.t 14)⟩,
 ⟨none, .load 16 8 true (.t 15)⟩,
 ⟨none, .mv 17 (.t 0)⟩,
 ⟨none, .faddr 18 0 (.t 17)⟩,
 ⟨none, .faddr 19 1 (.t 18)⟩,
 ⟨none, .load 20 1 false (.t 19)⟩,
 ⟨none, .faddr 21 1 (.t 3)⟩,
 ⟨none, .load 22 1 false (.t 21)⟩,
 ⟨none, .iaddrS 23 14 (.t 20) (.t 22)⟩,
 ⟨none, .faddr 24 2 (.t 23)⟩,
 ⟨none, .faddr 25 4 (.t 24)⟩,
 ⟨none, .load 26 8 true (.t 25)⟩,
 ⟨none, .call (some 27) n_monomial_Gcd [.t 16, .t 26]⟩,
 ⟨none, .build 28 [.i .i64 0, .i .i64 0, .i .i64 0, .i .i64 0, .i .i64 0, .i .i64 0, .i .i64 0, .i .i64 0] []⟩,
 ⟨none, .eqa 29 8 false (.t 27) (.t 28)⟩])
 (.cond (.t 29) (.seq (.reg [⟨none, .mv 4 (.c (.b true))⟩])
 (.ret))
 (.skip)))
 (.seq (.seq (.reg [⟨none, .mv 30 (.t 0)⟩,
 ⟨none, .faddr 31 0 (.t 30)⟩,
 ⟨none, .faddr 32 1 (.t 31)⟩,
 ⟨none, .load 33 1 false (.t 32)⟩,
 ⟨none, .len 34 (.t 33)⟩,
 ⟨none, .mv 35 (.c (.i .i64 0))⟩])
 (.block 0 (.loop hl_groebner_builder_needless_0)))
 (.seq (.reg [⟨none, .mv 4 (.c (.b false))⟩])
 (.ret))))⟩
/- slices.Clone[[]eliminant/groebner.element,eliminant/groebner.element] -/
def h_slices_Clone_groebner_element_groebner_element : Fun := ⟨1, [.t 2],
 .seq (.reg [⟨none, .mv 2 (.c (.nil))⟩])
 (.seq (.seq (.reg [⟨none, .mv 3 (.t 0)⟩,
 ⟨none, .isnil 4 false (.t 3)⟩])
 (.cond (.t 4) (.seq (.reg [⟨none, .mv 2 (.c (.nil))⟩])
 (.ret))
 (.skip)))
 (.seq (.reg [⟨none, .bslice 5 0 14 [.sl 0 [], .sl 0 [], .b false, .sl 0 [], .b false, .sl 0 [], .i .i64 0, .i .i64 0, .i .i64 0, .i .i64 0, .i .i64 0, .i .i64 0, .i .i64 0, .i .i64 0] []⟩,
 ⟨none, .mv 6 (.t 0)⟩,
 ⟨none, .append 7 14 176 (.t 5) (.t 6)⟩,
 ⟨none, .mv 2 (.t 7)⟩])
 (.ret)))⟩
/- slices.SortStableFunc[[]eliminant/groebner.element,eliminant/groebner.element] -/
def h_slices_SortStableFunc_groebner_element_groebner_element : Fun := ⟨2, [],
 .reg [⟨none, .mv 4 (.t 0)⟩,
 ⟨none, .mv 5 (.t 0)⟩,
 ⟨none, .len 6 (.t 5)⟩,
 ⟨none, .mv 7 (.t 1)⟩,
 ⟨none, .call (some 8) n_slices_stableCmpFunc_groebner_element [.t 4, .t 6, .t 7]⟩]⟩
/- (eliminant/groebner.ordering).finish$1 -/
def h_groebner_ordering_finish_1 : Fun := ⟨3, [.t 5],
 .seq (.reg [⟨none, .box 3 14 (.t 0)⟩,
 ⟨none, .box 4 14 (.t 1)⟩,
 ⟨none, .mv 5 (.c (.i .i64 0))⟩])
 (.seq (.reg [⟨none, .load 6 1 false (.t 2)⟩,
 ⟨none, .faddr 7 2 (.t 3)⟩,
 ⟨none, .faddr 8 4 (.t 7)⟩,
 ⟨none, .load 9 8 true (.t 8)⟩,
 ⟨none, .faddr 10 2 (.t 4)⟩,
 ⟨none, .faddr 11 4 (.t 10)⟩,
 ⟨none, .load 12 8 true (.t 11)⟩,
 ⟨none, .call (some 13) n_groebner_ordering_compare [.t 6, .t 9, .t 12]⟩,
 ⟨none, .mv 5 (.t 13)⟩])
 (.ret))⟩
/- slices.ContainsFunc[[]eliminant/groebner.element,eliminant/groebner.element] -/
def h_slices_ContainsFunc_groebner_element_groebner_element : Fun := ⟨2, [.t 4],
 .seq (.reg [⟨none, .mv 4 (.c (.b false))⟩])
 (.seq (.reg [⟨none, .mv 5 (.t 0)⟩,
 ⟨none, .mv 6 (.t 1)⟩,
 ⟨none, .call (some 7) n_slices_IndexFunc_groebner_element_groebner_element [.t 5, .t 6]⟩,
 ⟨none, .bin 8 .geq (.t 7) (.c (.i .i64 0))⟩,
 ⟨none, .mv 4 (.t 8)⟩])
 (.ret))⟩
/- (eliminant/groebner.ordering).finish$2 -/
def h_groebner_ordering_finish_2 : Fun := ⟨2, [.t 3],
 .seq (.reg [⟨none, .box 2 14 (.t 0)⟩,
 ⟨none, .mv 3 (.c (.b false))⟩])
 (.seq (.reg [⟨none, .faddr 4 2 (.t 2)⟩,
 ⟨none, .faddr 5 4 (.t 4)⟩,
 ⟨none, .load 6 8 true (.t 5)⟩,
 ⟨none, .faddr 7 2 (.t 1)⟩,
 ⟨none, .faddr 8 4 (.t 7)⟩,
 ⟨none, .load 9 8 true (.t 8)⟩,
 ⟨none, .call (some 10) n_monomial_Divides [.t 6, .t 9]⟩,
 ⟨none, .mv 3 (.t 10)⟩])
 (.ret))⟩
/- slices.Delete[[]eliminant/groebner.element,eliminant/groebner.element] -/
def h_slices_Delete_groebner_element_groebner_element : Fun := ⟨3, [.t 6],
 .seq (.reg [⟨none, .mv 6 (.c (.nil))⟩])
 (.seq (.reg [⟨none, .mv 8 (.t 0)⟩,
 ⟨none, .mv 9 (.t 1)⟩,
 ⟨none, .mv 10 (.t 2)⟩,
 ⟨none, .mv 11 (.t 0)⟩,
 ⟨none, .len 12 (.t 11)⟩,
 ⟨none, .slice 13 14 (.t 8) (some (.t 9)) (some (.t 10)) (some (.t 12))⟩])
 (.seq (.seq (.reg [⟨none, .mv 14 (.t 1)⟩,
 ⟨none, .mv 15 (.t 2)⟩,
 ⟨none, .bin 16 .eql (.t 14) (.t 15)⟩])
 (.cond (.t 16) (.seq (.reg [⟨none, .mv 17 (.t 0)⟩,
 ⟨none, .mv 6 (.t 17)⟩])
 (.ret))
 (.skip)))
 (.seq (.reg [⟨none, .mv 18 (.t 0)⟩,
 ⟨none, .len 19 (.t 18)⟩,
 ⟨none, .mv 7 (.t 19)⟩])
 (.seq (.reg [⟨none, .mv 20 (.t 0)⟩,
 ⟨none, .mv 21 (.t 1)⟩,
 ⟨none, .cut 22 14 (.t 20) (.t 21)⟩,
 ⟨none, .mv 23 (.t 0)⟩,
 ⟨none, .mv 24 (.t 2)⟩,
 ⟨none, .slice 25 14 (.t 23) (some (.t 24)) none none⟩,
 ⟨none, .appendC 26 14 176 (.t 22) (.t 25)⟩,
 ⟨none, .mv 0 (.t 26)⟩])
 (.seq (.reg [⟨none, .mv 27 (.t 0)⟩,
 ⟨none, .mv 28 (.t 0)⟩,
 ⟨none, .len 29 (.t 28)⟩,
 ⟨none, .mv 30 (.t 7)⟩,
 ⟨none, .slice 31 14 (.t 27) (some (.t 29)) (some (.t 30)) none⟩,
 ⟨none, .clear 14 [.sl 0 [], .sl 0 [], .b false, .sl 0 [], .b false, .sl 0 [], .i .i64 0, .i .i64 0, .i .i64 0, .i .i64 0, .i .i64 0, .i .i64 0, .i .i64 0, .i .i64 0] (.t 31)⟩])
 (.seq (.reg [⟨none, .mv 32 (.t 0)⟩,
 ⟨none, .mv 6 (.t 32)⟩])
 (.ret)))))))⟩
/- slices.IndexFunc[[]eliminant/groebner.pair,eliminant/groebner.pair] -/
def hl_slices_IndexFunc_groebner_pair_groebner_pair_0 : C :=
 .seq (.reg [⟨none, .bin 9 .lss (.t 8) (.t 7)⟩])
 (.seq (.cond (.t 9) (.skip)
 (.exit 0))
 (.seq (.block 1 (.seq (.reg [⟨none, .mv 10 (.t 8)⟩,
 ⟨none, .mv 5 (.t 10)⟩])
 (.seq (.reg [⟨none, .mv 11 (.t 1)⟩,
 ⟨none, .mv 12 (.t 0)⟩,
 ⟨none, .mv 13 (.t 5)⟩,
 ⟨none, .iaddrS 14 10 (.t 12) (.t 13)⟩,
 ⟨none, .load 15 10 true (.t 14)⟩,
 ⟨none, .callv (some 16) (.t 11) [.t 15]⟩])
 (.cond (.t 16) (.seq (.reg [⟨none, .mv 17 (.t 5)⟩,
 ⟨none, .mv 4 (.t 17)⟩])
 (.ret))
 (.skip)))))
 (.reg [⟨none, .bin 18 .add (.t 8) (.c (.i .i64 1))⟩,
 ⟨none, .mv 8 (.t 18)⟩])))
def h_slices_IndexFunc_groebner_pair_groebner_pair : Fun := ⟨2, [.t 4],
 .seq (.reg [⟨none, .mv 4 (.c (.i .i64 0))⟩])
 (.seq (.seq (.reg [⟨none, .mv 6 (.t 0)⟩,
 ⟨none, .len 7 (.t 6)⟩,
 ⟨none, .mv 8 (.c (.i .i64 0))⟩])
 (.block 0 (.loop hl_slices_IndexFunc_groebner_pair_groebner_pair_0)))
 (.seq (.reg [⟨none, .mv 4 (.c (.i .i64 (-1)))⟩])
 (.ret)))⟩
/- (*eliminant/groebner.builder).open -/
def h_groebner_builder_open : Fun := ⟨3, [.t 6],
 .seq (.reg [⟨none, .box 4 1 (.t 1)⟩,
 ⟨none, .box 5 1 (.t 2)⟩,
 ⟨none, .mv 6 (.c (.b false))⟩])
 (.seq (.regD [0, 0, 3, 0, 0, 24, 15, 127] [⟨none, .load 7 1 false (.t 4)⟩,
 ⟨none, .load 8 1 false (.t 5)⟩,
 ⟨none, .mnx 9 false (.t 7) (.t 8)⟩,
 ⟨none, .load 10 1 false (.t 4)⟩,
 ⟨none, .load 11 1 false (.t 5)⟩,
 ⟨none, .mnx 12 true (.t 10) (.t 11)⟩,
 ⟨none, .store 1 (.t 4) (.t 9)⟩,
 ⟨none, .store 1 (.t 5) (.t 12)⟩])
 (.seq (.reg [⟨none, .mv 13 (.t 0)⟩,
 ⟨none, .faddr 14 0 (.t 13)⟩,
 ⟨none, .faddr 15 2 (.t 14)⟩,
 ⟨none, .load 16 1 false (.t 15)⟩,
 ⟨none, .mkfn 17 n_groebner_builder_open_1 [.t 4, .t 5]⟩,
 ⟨none, .call (some 18) n_slices_ContainsFunc_groebner_pair_groebner_pair [.t 16, .t 17]⟩,
 ⟨none, .mv 6 (.t 18)⟩])
 (.ret)))⟩
/- slices.stableCmpFunc[eliminant/groebner.element] -/
def hl_slices_stableCmpFunc_groebner_element_0 : C :=
 .seq (.seq (.reg [⟨none, .mv 11 (.t 8)⟩,
 ⟨none, .mv 12 (.t 1)⟩,
 ⟨none, .bin 13 .leq (.t 11) (.t 12)⟩])
 (.cond (.t 13) (.skip)
 (.exit 0)))
 (.block 1 (.seq (.reg [⟨none, .mv 14 (.t 0)⟩,
 ⟨none, .mv 15 (.t 7)⟩,
 ⟨none, .mv 16 (.t 8)⟩,
 ⟨none, .mv 17 (.t 2)⟩,
 ⟨none, .call (some 18) n_slices_insertionSortCmpFunc_groebner_element [.t 14, .t 15, .t 16, .t 17]⟩])
 (.seq (.reg [⟨none, .mv 19 (.t 8)⟩,
 ⟨none, .mv 7 (.t 19)⟩])
 (.reg [⟨none, .mv 20 (.t 8)⟩,
 ⟨none, .mv 21 (.t 6)⟩,
 ⟨none, .bin 22 .add (.t 20) (.t 21)⟩,
 ⟨none, .mv 8 (.t 22)⟩]))))
def hl_slices_stableCmpFunc_groebner_element_1 : C :=
 .seq (.seq (.reg [⟨none, .mv 33 (.t 8)⟩,
 ⟨none, .mv 34 (.t 1)⟩,
 ⟨none, .bin 35 .leq (.t 33) (.t 34)⟩])
 (.cond (.t 35) (.skip)
 (.exit 4)))
 (.block 5 (.seq (.reg [⟨none, .mv 36 (.t 0)⟩,
 ⟨none, .mv 37 (.t 7)⟩,
 ⟨none, .mv 38 (.t 7)⟩,
 ⟨none, .mv 39 (.t 6)⟩,
 ⟨none, .bin 40 .add (.t 38) (.t 39)⟩,
 ⟨none, .mv 41 (.t 8)⟩,
 ⟨none, .mv 42 (.t 2)⟩,
 ⟨none, .call (some 43) n_slices_symMergeCmpFunc_groebner_element [.t 36, .t 37, .t 40, .t 41, .t 42]⟩])
 (.seq (.reg [⟨none, .mv 44 (.t 8)⟩,
 ⟨none, .mv 7 (.t 44)⟩])
 (.reg [⟨none, .mv 45 (.t 8)⟩,
 ⟨none, .mv 46 (.t 6)⟩,
 ⟨none, .bin 47 .mul (.c (.i .i64 2)) (.t 46)⟩,
 ⟨none, .bin 48 .add (.t 45) (.t 47)⟩,
 ⟨none, .mv 8 (.t 48)⟩]))))
def hl_slices_stableCmpFunc_groebner_element_2 : C :=
 .seq (.seq (.reg [⟨none, .mv 28 (.t 6)⟩,
 ⟨none, .mv 29 (.t 1)⟩,
 ⟨none, .bin 30 .lss (.t 28) (.t 29)⟩])
 (.cond (.t 30) (.skip)
 (.exit 2)))
 (.block 3 (.seq (.reg [⟨none, .mv 31 (.t 6)⟩,
 ⟨none, .bin 32 .mul (.c (.i .i64 2)) (.t 31)⟩,
 ⟨none, .mv 7 (.c (.i .i64 0))⟩,
 ⟨none, .mv 8 (.t 32)⟩])
 (.seq (.block 4 (.loop hl_slices_stableCmpFunc_groebner_element_1))
 (.seq (.seq (.reg [⟨none, .mv 49 (.t 7)⟩,
 ⟨none, .mv 50 (.t 6)⟩,
 ⟨none, .bin 51 .add (.t 49) (.t 50)⟩,
 ⟨none, .mv 9 (.t 51)⟩])
 (.seq (.reg [⟨none, .mv 52 (.t 9)⟩,
 ⟨none, .mv 53 (.t 1)⟩,
 ⟨none, .bin 54 .lss (.t 52) (.t 53)⟩])
 (.cond (.t 54) (.reg [⟨none, .mv 55 (.t 0)⟩,
 ⟨none, .mv 56 (.t 7)⟩,
 ⟨none, .mv 57 (.t 9)⟩,
 ⟨none, .mv 58 (.t 1)⟩,
 ⟨none, .mv 59 (.t 2)⟩,
 ⟨none, .call (some 60) n_slices_symMergeCmpFunc_groebner_element [.t 55, .t 56, .t 57, .t 58, .t 59]⟩])
 (.skip))))
 (.reg [⟨none, .mv 61 (.t 6)⟩,
 ⟨none, .bin 62 .mul (.t 61) (.c (.i .i64 2))⟩,
 ⟨none, .mv 6 (.t 62)⟩])))))
def h_slices_stableCmpFunc_groebner_element : Fun := ⟨3, [],
 .seq (.reg [⟨none, .mv 6 (.c (.i .i64 20))⟩])
 (.seq (.reg [⟨none, .mv 10 (.t 6)⟩,
 ⟨none, .mv 7 (.c (.i .i64 0))⟩,
 ⟨none, .mv 8 (.t 10)⟩])
 (.seq (.block 0 (.loop hl_slices_stableCmpFunc_groebner_element_0))
 (.seq (.reg [⟨none, .mv 23 (.t 0)⟩,
 ⟨none, .mv 24 (.t 7)⟩,
 ⟨none, .mv 25 (.t 1)⟩,
 ⟨none, .mv 26 (.t 2)⟩,
 ⟨none, .call (some 27) n_slices_insertionSortCmpFunc_groebner_element [.t 23, .t 24, .t 25, .t 26]⟩])
 (.block 2 (.loop hl_slices_stableCmpFunc_groebner_element_2)))))⟩
/- slices.IndexFunc[[]eliminant/groebner.element,eliminant/groebner.element] -/
def hl_slices_IndexFunc_groebner_element_groebner_element_0 : C :=
 .seq (.reg [⟨none, .bin 9 .lss (.t 8) (.t 7)⟩])
 (.seq (.cond (.t 9) (.skip)
 (.exit 0))
 (.seq (.block 1 (.seq (.reg [⟨none, .mv 10 (.t 8)⟩,
 ⟨none, .mv 5 (.t 10)⟩])
 (.seq (.reg [⟨none, .mv 11 (.t 1)⟩,
 ⟨none, .mv 12 (.t 0)⟩,
 ⟨none, .mv 13 (.t 5)⟩,
 ⟨none, .iaddrS 14 14 (.t 12) (.t 13)⟩,
 ⟨none, .load 15 14 true (.t 14)⟩,
 ⟨none, .callv (some 16) (.t 11) [.t 15]⟩])
 (.cond (.t 16) (.seq (.reg [⟨none, .mv 17 (.t 5)⟩,
 ⟨none, .mv 4 (.t 17)⟩])
 (.ret))
 (.skip)))))
 (.reg [⟨none, .bin 18 .add (.t 8) (.c (.i .i64 1))⟩,
 ⟨none, .mv 8 (.t 18)⟩])))
def h_slices_IndexFunc_groebner_element_groebner_element : Fun := ⟨2, [.t 4],
 .seq (.reg [⟨none, .mv 4 (.c (.i .i64 0))⟩])
 (.seq (.seq (.reg [⟨none, .mv 6 (.t 0)⟩,
 ⟨none, .len 7 (.t 6)⟩,
 ⟨none, .mv 8 (.c (.i .i64 0))⟩])
 (.block 0 (.loop hl_slices_IndexFunc_groebner_element_groebner_element_0)))
 (.seq (.reg [⟨none, .mv 4 (.c (.i .i64 (-1)))⟩])
 (.ret)))⟩
/- slices.ContainsFunc[[]eliminant/groebner.pair,eliminant/groebner.pair] -/
def h_slices_ContainsFunc_groebner_pair_groebner_pair : Fun := ⟨2, [.t 4],
 .seq (.reg [⟨none, .mv 4 (.c (.b false))⟩])
 (.seq (.reg [⟨none, .mv 5 (.t 0)⟩,
 ⟨none, .mv 6 (.t 1)⟩,
 ⟨none, .call (some 7) n_slices_IndexFunc_groebner_pair_groebner_pair [.t 5, .t 6]⟩,
 ⟨none, .bin 8 .geq (.t 7) (.c (.i .i64 0))⟩,
 ⟨none, .mv 4 (.t 8)⟩])
 (.ret))⟩
/- (*eliminant/groebner.builder).open$1 -/
def h_groebner_builder_open_1 : Fun := ⟨3, [.t 4],
 .seq (.reg [⟨none, .box 3 10 (.t 0)⟩,
 ⟨none, .mv 4 (.c (.b false))⟩])
 (.seq (.reg [⟨none, .faddr 5 0 (.t 3)⟩,
 ⟨none, .load 6 1 false (.t 5)⟩,
 ⟨none, .load 7 1 false (.t 1)⟩,
 ⟨none, .bin 8 .eql (.t 6) (.t 7)⟩,
 ⟨none, .mv 9 (.t 8)⟩,
 ⟨some (9, true, 10), .faddr 10 1 (.t 3)⟩,
 ⟨some (9, true, 11), .load 11 1 false (.t 10)⟩,
 ⟨some (9, true, 12), .load 12 1 false (.t 2)⟩,
 ⟨some (9, true, 13), .bin 13 .eql (.t 11) (.t 12)⟩,
 ⟨none, .pick 14 (.t 9) (.t 13) (.c (.b false))⟩,
 ⟨none, .mv 4 (.t 14)⟩])
 (.ret))⟩
/- slices.insertionSortCmpFunc[eliminant/groebner.element] -/
def hl_slices_insertionSortCmpFunc_groebner_element_0 : C :=
 .seq (.seq (.reg [⟨none, .mv 18 (.t 9)⟩,
 ⟨none, .mv 19 (.t 1)⟩,
 ⟨none, .bin 20 .gtr (.t 18) (.t 19)⟩,
 ⟨none, .mv 21 (.t 20)⟩,
 ⟨some (21, true, 22), .mv 22 (.t 3)⟩,
 ⟨some (21, true, 23), .mv 23 (.t 0)⟩,
 ⟨some (21, true, 24), .mv 24 (.t 9)⟩,
 ⟨some (21, true, 25), .iaddrS 25 14 (.t 23) (.t 24)⟩,
 ⟨some (21, true, 26), .load 26 14 true (.t 25)⟩,
 ⟨some (21, true, 27), .mv 27 (.t 0)⟩,
 ⟨some (21, true, 28), .mv 28 (.t 9)⟩,
 ⟨some (21, true, 29), .bin 29 .sub (.t 28) (.c (.i .i64 1))⟩,
 ⟨some (21, true, 30), .iaddrS 30 14 (.t 27) (.t 29)⟩,
 ⟨some (21, true, 31), .load 31 14 true (.t 30)⟩,
 ⟨some (21, true, 32), .callv (some 32) (.t 22) [.t 26, .t 31]⟩,
 ⟨some (21, true, 33), .bin 33 .lss (.t 32) (.c (.i .i64 0))⟩,
 ⟨none, .pick 34 (.t 21) (.t 33) (.c (.b false))⟩])
 (.cond (.t 34) (.skip)
 (.exit 2)))
 (.seq (.block 3 (.reg [⟨none, .mv 37 (.t 0)⟩,
 ⟨none, .mv 38 (.t 9)⟩,
 ⟨none, .mv 39 (.t 0)⟩,
 ⟨none, .mv 40 (.t 9)⟩,
 ⟨none, .bin 41 .sub (.t 40) (.c (.i .i64 1))⟩,
 ⟨none, .mv 42 (.t 0)⟩,
 ⟨none, .mv 43 (.t 9)⟩,
 ⟨none, .bin 44 .sub (.t 43) (.c (.i .i64 1))⟩,
 ⟨none, .iaddrS 45 14 (.t 42) (.t 44)⟩,
 ⟨none, .load 46 14 true (.t 45)⟩,
 ⟨none, .mv 47 (.t 0)⟩,
 ⟨none, .mv 48 (.t 9)⟩,
 ⟨none, .iaddrS 49 14 (.t 47) (.t 48)⟩,
 ⟨none, .load 50 14 true (.t 49)⟩,
 ⟨none, .iaddrS 51 14 (.t 37) (.t 38)⟩,
 ⟨none, .store 14 (.t 51) (.t 46)⟩,
 ⟨none, .iaddrS 52 14 (.t 39) (.t 41)⟩,
 ⟨none, .store 14 (.t 52) (.t 50)⟩]))
 (.reg [⟨none, .mv 35 (.t 9)⟩,
 ⟨none, .bin 36 .sub (.t 35) (.c (.i .i64 1))⟩,
 ⟨none, .mv 9 (.t 36)⟩]))
def hl_slices_insertionSortCmpFunc_groebner_element_1 : C :=
 .seq (.seq (.reg [⟨none, .mv 12 (.t 8)⟩,
 ⟨none, .mv 13 (.t 2)⟩,
 ⟨none, .bin 14 .lss (.t 12) (.t 13)⟩])
 (.cond (.t 14) (.skip)
 (.exit 0)))
 (.seq (.block 1 (.seq (.reg [⟨none, .mv 17 (.t 8)⟩,
 ⟨none, .mv 9 (.t 17)⟩])
 (.block 2 (.loop hl_slices_insertionSortCmpFunc_groebner_element_0))))
 (.reg [⟨none, .mv 15 (.t 8)⟩,
 ⟨none, .bin 16 .add (.t 15) (.c (.i .i64 1))⟩,
 ⟨none, .mv 8 (.t 16)⟩]))
def h_slices_insertionSortCmpFunc_groebner_element : Fun := ⟨4, [],
 .seq (.reg [⟨none, .mv 10 (.t 1)⟩,
 ⟨none, .bin 11 .add (.t 10) (.c (.i .i64 1))⟩,
 ⟨none, .mv 8 (.t 11)⟩])
 (.block 0 (.loop hl_slices_insertionSortCmpFunc_groebner_element_1))⟩
end Go.Ev

/- A function that works on its caller's objects. -/
namespace Go.Ev

/-! ### States that are told apart by nothing -/

def WFC : C → Prop
  | .reg ops => ∀ x ∈ ops, WFI x
  | .regD _ ops => ∀ x ∈ ops, WFI x
  | .seq a b => WFC a ∧ WFC b
  | .cond _ a b => WFC a ∧ WFC b
  | .block _ c => WFC c
  | .loop c => WFC c
  | .scope c => WFC c
  | _ => True

section
variable {P : Program} {K : Cfg} {cs : Sem} {n : Nat}

theorem toInsL_wf (hn : n ≤ 1000000) {ops : Array Oper} : ∀ {os : List Oper} {l : List Ins}, toInsL P n ops os = some l → ∀ x ∈ l, WFI x
  | [], l, h => by simp [toInsL] at h; subst h; simp
  | o :: r, l, h => by
    simp only [toInsL] at h
    split at h
    · rename_i x l0 h1 h2
      cases h
      intro y hy
      rcases List.mem_cons.1 hy with rfl | hy
      · exact toIns_wf hn h1
      · exact toInsL_wf hn h2 y hy
    · cases h

theorem toC_wf (hn : n ≤ 1000000) : ∀ (c : Code) {cc : C}, toC P K n c = some cc → WFC cc := by
  intro c
  induction c with
  | skip => intro cc h; simp [toC] at h; subst h; trivial
  | label l => intro cc h; simp [toC] at h; subst h; trivial
  | exit id => intro cc h; simp [toC] at h; subst h; trivial
  | ret => intro cc h; simp [toC] at h; subst h; trivial
  | region id ops draw =>
    intro cc h
    simp only [toC] at h
    split at h
    · rename_i l hl
      split at h
      · simp only [Option.map_eq_some_iff] at h
        obtain ⟨b, _, rfl⟩ := h
        exact toInsL_wf hn hl
      · cases h; exact toInsL_wf hn hl
    · cases h
  | seq a b iha ihb =>
    intro cc h
    simp only [toC] at h
    split at h
    · rename_i x y h1 h2; cases h; exact ⟨iha h1, ihb h2⟩
    · cases h
  | cond c a b iha ihb =>
    intro cc h
    simp only [toC] at h
    split at h
    · rename_i c' x y h0 h1 h2; cases h; exact ⟨iha h1, ihb h2⟩
    · cases h
  | block id c ih =>
    intro cc h
    simp only [toC, Option.map_eq_some_iff] at h
    obtain ⟨x, h1, rfl⟩ := h
    show WFC x
    exact ih h1
  | loop c ih =>
    intro cc h
    simp only [toC, Option.map_eq_some_iff] at h
    obtain ⟨x, h1, rfl⟩ := h
    show WFC x
    exact ih h1
  | scope c ih =>
    intro cc h
    simp only [toC, Option.map_eq_some_iff] at h
    obtain ⟨x, h1, rfl⟩ := h
    show WFC x
    exact ih h1
  | _ => intro cc h; simp [toC] at h; subst h; trivial

theorem loopN_congr {f : St → Option (Ex × St)} (hf : ∀ {s s' : St} {e : Ex} {t : St}, SEq s s' → f s = some (e, t) → ∃ t', f s' = some (e, t') ∧ SEq t t') : ∀ (k : Nat) {s s' : St} {e : Ex} {t : St}, SEq s s' → loopN f k s = some (e, t) → ∃ t', loopN f k s' = some (e, t') ∧ SEq t t'
  | 0, _, _, _, _, _, h => by simp [loopN] at h
  | k + 1, s, s', e, t, q, h => by
    simp only [loopN] at h ⊢
    cases hs : f s with
    | none => rw [hs] at h; cases h
    | some x =>
      obtain ⟨e1, s1⟩ := x
      obtain ⟨t1, h1, q1⟩ := hf q hs
      rw [hs] at h; rw [h1]
      cases e1 with
      | nrm => exact loopN_congr hf k q1 h
      | exit i => cases h; exact ⟨t1, rfl, q1⟩
      | ret => cases h; exact ⟨t1, rfl, q1⟩

theorem evC_congr [ShC K] (fuel : Nat) : ∀ (c : C), WFC c → ∀ {s s' : St} {e : Ex} {t : St}, SEq s s' → evC K cs fuel c s = some (e, t) → ∃ t', evC K cs fuel c s' = some (e, t') ∧ SEq t t' := by
  intro c
  induction c with
  | skip => intro _ s s' e t q h; simp only [evC] at h ⊢; cases h; exact ⟨s', rfl, q⟩
  | reg ops =>
    intro wf s s' e t q h
    simp only [evC, Option.map_eq_some_iff] at h ⊢
    obtain ⟨u, h1, h2⟩ := h
    cases h2
    obtain ⟨u', g1, g2⟩ := evL_congr ops wf q h1
    exact ⟨u', ⟨u', g1, rfl⟩, g2⟩
  | regD b ops =>
    intro wf s s' e t q h
    simp only [evC] at h ⊢
    split at h
    · rename_i hd
      simp only [Option.map_eq_some_iff] at h
      obtain ⟨u, h1, h2⟩ := h
      cases h2
      obtain ⟨u', g1, g2⟩ := evL_congr ops wf q h1
      rw [if_pos (by rw [feet_congr ops wf q h1]; exact hd), g1]
      exact ⟨u', rfl, g2⟩
    · cases h
  | seq a b iha ihb =>
    intro wf s s' e t q h
    simp only [evC] at h ⊢
    cases hs : evC K cs fuel a s with
    | none => rw [hs] at h; cases h
    | some x =>
      obtain ⟨e1, s1⟩ := x
      obtain ⟨t1, h1, q1⟩ := iha wf.1 q hs
      rw [hs] at h; rw [h1]
      cases e1 with
      | nrm => exact ihb wf.2 q1 h
      | exit i => cases h; exact ⟨t1, rfl, q1⟩
      | ret => cases h; exact ⟨t1, rfl, q1⟩
  | cond c a b iha ihb =>
    intro wf s s' e t q h
    simp only [evC] at h ⊢
    rw [q.opv c]
    split at h
    · exact iha wf.1 q h
    · exact ihb wf.2 q h
    · cases h
  | block id c ih =>
    intro wf s s' e t q h
    simp only [evC] at h ⊢
    cases hs : evC K cs fuel c s with
    | none => rw [hs] at h; cases h
    | some x =>
      obtain ⟨e1, s1⟩ := x
      obtain ⟨t1, h1, q1⟩ := ih wf q hs
      rw [hs] at h; rw [h1]
      cases e1 with
      | nrm => cases h; exact ⟨t1, rfl, q1⟩
      | exit i =>
        simp only at h ⊢
        split at h
        · rename_i hi; rw [if_pos hi]; cases h; exact ⟨t1, rfl, q1⟩
        · rename_i hi; rw [if_neg hi]; cases h; exact ⟨t1, rfl, q1⟩
      | ret => cases h; exact ⟨t1, rfl, q1⟩
  | loop c ih =>
    intro wf s s' e t q h
    simp only [evC] at h ⊢
    exact loopN_congr (fun q h => ih wf q h) fuel q h
  | scope c ih => intro wf s s' e t q h; simp only [evC] at h ⊢; exact ih wf q h
  | exit id => intro _ s s' e t q h; simp only [evC] at h ⊢; cases h; exact ⟨s', rfl, q⟩
  | ret => intro _ s s' e t q h; simp only [evC] at h ⊢; cases h; exact ⟨s', rfl, q⟩
  | fail => intro _ s s' e t q h; simp [evC] at h

theorem resRaws_congr {s s' : St} (q : SEq s s') : ∀ (l : List RV), resRaws s' l = resRaws s l
  | [] => rfl
  | x :: r => by
    simp only [resRaws]
    rw [resRaws_congr q r]
    have : resRaw s' x = resRaw s x := by
      cases x with
      | t n => simp only [resRaw, q.v]
      | c a n g => simp only [resRaw, q.v, lst_look q.o]
    rw [this]

theorem shBody_cong [ShC K] (fuel : Nat) {fn : Func} {fu : Fun} (hfu : toFun P K fn = some fu) : ShCong (shBody K cs fuel fu) := by
  intro o z o2 z2 ds r o' z' q h
  unfold toFun at hfu
  split at hfu
  · cases hfu
  · rename_i c hbody
    split at hfu
    · rename_i cc rl hc hrl
      split at hfu
      · rename_i hsz
        cases hfu
        unfold shBody at h ⊢
        simp only at h ⊢
        split at h
        · cases h
        · rename_i hl
          rw [if_neg hl]
          have q0 : SEq ⟨startS 0 ds .leaf, o, z⟩ ⟨startS 0 ds .leaf, o2, z2⟩ := ⟨rfl, q.o, q.z⟩
          cases he : evC K cs fuel cc ⟨startS 0 ds .leaf, o, z⟩ with
          | none => rw [he] at h; cases h
          | some x =>
            obtain ⟨e, t⟩ := x
            obtain ⟨t', h1, q1⟩ := evC_congr fuel cc (toC_wf hsz.1 c hc) q0 he
            rw [he] at h; rw [h1]
            cases e with
            | exit i => cases h
            | nrm =>
              simp only [resRaws_congr q1] at h ⊢
              split at h
              · cases h; exact ⟨_, _, rfl, rfl, q1.o, q1.z⟩
              · cases h
            | ret =>
              simp only [resRaws_congr q1] at h ⊢
              split at h
              · cases h; exact ⟨_, _, rfl, rfl, q1.o, q1.z⟩
              · cases h
      · cases hfu
    · cases hfu
end

/-! ### A body -/

theorem startS_get : ∀ (ds : List DV) (p : Nat) (t : Tr DV) (i : Nat) (d : DV), p + ds.length ≤ 1000000 → (startS p ds t).get i = some d → (∃ k, i = p + k ∧ ds[k]? = some d) ∨ t.get i = some d
  | [], p, t, i, d, _, h => .inr h
  | x :: r, p, t, i, d, hl, h => by
    simp only [startS] at h
    simp only [List.length_cons] at hl
    rcases startS_get r (p + 1) _ i d (by omega) h with ⟨k, rfl, h2⟩ | h2
    · exact .inl ⟨k + 1, by omega, by simpa using h2⟩
    · rw [Tr.get_setF 24 _ _ _ _ (by omega)] at h2
      split at h2
      · rename_i hi; cases h2; exact .inl ⟨0, by omega, by simp⟩
      · exact .inr h2

theorem V_tupOf {hp : Hp} {S : Pub} {N : Nm} {ds : List DV} {vs : List Value} (h : VL hp S N ds vs) : V hp S N (tupOf ds) (retV vs) := by
  match ds, h with
  | [], h =>
    simp only [VL] at h; subst h
    simp only [tupOf, retV, V, VL]; exact ⟨[], rfl, rfl⟩
  | [d], h =>
    simp only [VL] at h
    obtain ⟨v, t, rfl, h1, rfl⟩ := h
    exact h1
  | d :: e :: r, h =>
    have h0 := h
    simp only [VL] at h
    obtain ⟨v, t, rfl, h1, v2, t2, rfl, h2, h3⟩ := h
    simp only [tupOf, retV, V]
    exact ⟨_, rfl, h0⟩

theorem V_unc {hp : Hp} {S : Pub} {N : Nm} {d : DV} {v : Value} (h : V hp S N d v) : V hp S N (unc d) v := by
  cases d with
  | refc h0 e off n c =>
    simp only [unc]
    simp only [V] at h ⊢
    obtain ⟨a, cap, r, h1, h2, h3, h4, h5⟩ := h
    exact ⟨a, cap, r, h1, by omega, h3, h4, h5⟩
  | _ => exact h

theorem VL_unc {hp : Hp} {S : Pub} {N : Nm} : ∀ {ds : List DV} {vs : List Value}, VL hp S N ds vs → VL hp S N (ds.map unc) vs
  | [], _, h => h
  | d :: r, vs, h => by
    simp only [VL] at h
    obtain ⟨v, t, rfl, h1, h2⟩ := h
    simp only [List.map_cons, VL]
    exact ⟨v, t, rfl, V_unc h1, VL_unc h2⟩

theorem shBody_ok {P : Program} (hm : P.follows .mixedOrders = true) {K : Cfg} [ShOK P K] [ShC K] {cs : Sem} (hsem : SemOK P cs) (fuel : Nat) {f : FuncId} {fn : Func} {fu : Fun} (hf : P.funcs[f]? = some fn) (hname : fn.name ≠ "runtime.NumGoroutine") (hfu : toFun P K fn = some fu) :
    ShFn P f (shBody K cs fuel fu) := by
  unfold toFun at hfu
  cases hbody : fn.body with
  | none => rw [hbody] at hfu; cases hfu
  | some c =>
  rw [hbody] at hfu
  simp only at hfu
  split at hfu
  · rename_i cc rl hc hrl
    split at hfu
    · rename_i hsz
      cases hfu
      intro o z ds r o' z' h
      refine ⟨⟨fn, hf, hname, by rw [hbody]; simp⟩, fun base L S N vs w f0 hb hv => ?_⟩
      unfold shBody at h
      simp only at h
      split at h
      · cases h
      · rename_i hlen
        have hlen : ds.length = fn.params.size + fn.nfree := by
          rcases Nat.decEq ds.length (fn.params.size + fn.nfree) with q | q
          · exact absurd q hlen
          · exact q
        have hvl : vs.length = ds.length := VL.length hv
        refine calls_of_wp hf hbody ?_
        have htm : ∀ i v, vs[i]? = some v → (vs.toArray ++ Array.replicate (fn.ntmps - vs.toArray.size) undef).getD i undef = v := by
          intro i v hi
          have hlt : i < vs.length := by
            rcases Nat.lt_or_ge i vs.length with q | q
            · exact q
            · rw [List.getElem?_eq_none q] at hi; cases hi
          rw [Array.getD_eq_getD_getElem?, Array.getElem?_append_left (by simpa using hlt)]
          simp [hi]
        have f1 : Fr base L S N ⟨startS 0 ds .leaf, o, z⟩ (vs.toArray ++ Array.replicate (fn.ntmps - vs.toArray.size) undef) w.heap := by
          refine ⟨fun i d hd => ?_, f0.obs, f0.known, f0.alive, f0.inj, f0.zk, f0.pub, f0.pubm, f0.oldc, f0.oldm, f0.lentn, f0.ghost⟩
          rcases startS_get ds 0 .leaf i d (by omega) hd with ⟨k, rfl, hk⟩ | hk
          · obtain ⟨v, h1, h2⟩ := VL.get hv hk
            rw [Nat.zero_add, htm k v h1]; exact h2
          · simp [Tr.get] at hk
        split at h
        · cases h
        · cases h
        · rename_i ex sf hex hev
          split at h
          · rename_i dl hdl
            cases h
            refine code_ok hm hsz.1 hsem fuel c hc f1 hb (by simp; omega) hev fun a' w' ho => ?_
            obtain ⟨S2, N2, o1, o2, o3, o4, o5, o6⟩ := ho
            obtain ⟨us, hus, hrun⟩ := results_ok (P := P) o2 hrl hdl
            have f9 : Fr base L S2 N2 ⟨.leaf, sf.o, sf.z⟩ #[] w'.heap :=
              ⟨fun i d h => (by simp [Tr.get] at h), o2.obs, o2.known, o2.alive, o2.inj, o2.zk, o2.pub, o2.pubm, o2.oldc, o2.oldm, o2.lentn, o2.ghost⟩
            cases ex with
            | exit id => exact absurd rfl (hex id)
            | nrm => exact ⟨o4, _, hrun, _, S2, N2, rfl, o1, f9, V_tupOf (VL_unc hus), o5, o6⟩
            | ret => exact ⟨o4, _, hrun, _, S2, N2, rfl, o1, f9, V_tupOf (VL_unc hus), o5, o6⟩
          · cases h
    · cases hfu
  · cases hfu

theorem toFun_fc {P : Program} {K K' : Cfg} (h : K.fc = K'.fc) (h1 : ∀ i, I.shared K i = I.shared K' i) (fn : Func) : toFun P K fn = toFun P K' fn := by
  have hmut : I.mut K = I.mut K' := by funext i; cases i <;> simp only [I.mut, h]
  have hap : apartI K = apartI K' := by funext x y; simp only [apartI, hmut, h1]
  have hfo : ∀ b i x l j, freeOf K b i x j l = freeOf K' b i x j l := by
    intro b i x l
    induction l with
    | nil => intro j; rfl
    | cons y r ih => intro j; simp only [freeOf, hap, ih]
  have hfa : ∀ b l i, freeAll K b i l = freeAll K' b i l := by
    intro b l
    induction l with
    | nil => intro i; rfl
    | cons y r ih => intro i; simp only [freeAll, hfo, ih]
  have hfr : freeOrder K = freeOrder K' := by funext ops l; simp only [freeOrder, hfa]
  have hc : ∀ n c, toC P K n c = toC P K' n c := by
    intro n c
    induction c <;> simp_all [toC]
  simp only [toFun, hc]

/-! ### A table of functions, some of which work on their caller's objects -/

abbrev Ovs := Nat → Option (Sem → List DV → Option (DV × List (List DV)))

/-- Level by level: at each level calls of such functions go one level down. -/
def KH (fc : Nat → FC) (fn : Nat → Option Fun) (ss : Nat → Bool) (ov : Ovs) (n : Nat) : Nat → Cfg
  | 0 => ⟨fc, fn, fun f => if ss f then some (fun _ _ _ => none) else none, true⟩
  | k + 1 => ⟨fc, fn, fun f => if ss f then some (match fn f with
      | some fu => shBody (KH fc fn ss ov n k) (evFn (KH fc fn ss ov n k) ov n) n fu
      | none => fun _ _ _ => none) else none, true⟩

section
variable {fc : Nat → FC} {fn : Nat → Option Fun} {ss : Nat → Bool} {ov : Ovs} {n : Nat}

theorem KH_fc : ∀ k, (KH fc fn ss ov n k).fc = fc
  | 0 => rfl
  | _ + 1 => rfl
theorem KH_fn : ∀ k, (KH fc fn ss ov n k).fn = fn
  | 0 => rfl
  | _ + 1 => rfl
theorem KH_sv : ∀ k, (KH fc fn ss ov n k).sv = true
  | 0 => rfl
  | _ + 1 => rfl
theorem KH_sh (f : Nat) : ∀ k, ((KH fc fn ss ov n k).sh f).isSome = ss f
  | 0 => by simp only [KH]; cases ss f <;> rfl
  | k + 1 => by simp only [KH]; cases ss f <;> rfl

theorem KH_toFun {P : Program} (k : Nat) (f : Func) : toFun P (KH fc fn ss ov n k) f = toFun P (KH fc fn ss ov n 0) f :=
  toFun_fc (by rw [KH_fc, KH_fc]) (fun i => by cases i <;> simp only [I.shared, KH_sh, KH_sv]) f

theorem KH_ok {P : Program} (hm : P.follows .mixedOrders = true) (hK : ∀ f fu, fn f = some fu → ∃ m, P.funcs[f]? = some m ∧ m.name ≠ "runtime.NumGoroutine" ∧ toFun P (KH fc fn ss ov n 0) m = some fu)
    (hov : ∀ f g, ov f = some g → ∀ cs, SemOK P cs → FnOK P f (g cs)) : ∀ k, ShOK P (KH fc fn ss ov n k) ∧ ShC (KH fc fn ss ov n k)
  | 0 => by
    constructor
    · refine ⟨fun f g h => ?_⟩
      simp only [KH] at h
      split at h
      · cases h; intro o z ds r o' z' h; cases h
      · cases h
    · refine ⟨fun f g h => ?_⟩
      simp only [KH] at h
      split at h
      · cases h; intro o z o2 z2 ds r o' z' _ h; cases h
      · cases h
  | k + 1 => by
    obtain ⟨i1, i2⟩ := KH_ok hm hK hov k
    have hsem : SemOK P (evFn (KH fc fn ss ov n k) ov n) := evFn_ok hm (fun f fu h => by
      rw [KH_fn] at h
      obtain ⟨m, h1, h2, h3⟩ := hK f fu h
      exact ⟨m, h1, h2, by rw [KH_toFun]; exact h3⟩) hov n
    constructor
    · refine ⟨fun f g h => ?_⟩
      simp only [KH] at h
      split at h
      · cases h
        split
        · rename_i fu hfu
          obtain ⟨m, h1, h2, h3⟩ := hK f fu hfu
          exact shBody_ok hm hsem n h1 h2 (by rw [KH_toFun]; exact h3)
        · intro o z ds r o' z' h; cases h
      · cases h
    · refine ⟨fun f g h => ?_⟩
      simp only [KH] at h
      split at h
      · cases h
        split
        · rename_i fu hfu
          obtain ⟨m, h1, h2, h3⟩ := hK f fu hfu
          exact shBody_cong (P := P) n (fn := m) (by rw [KH_toFun]; exact h3)
        · intro o z o2 z2 ds r o' z' _ h; cases h
      · cases h

/-- All functions of such a table. -/
theorem KH_sem {P : Program} (hm : P.follows .mixedOrders = true) (hK : ∀ f fu, fn f = some fu → ∃ m, P.funcs[f]? = some m ∧ m.name ≠ "runtime.NumGoroutine" ∧ toFun P (KH fc fn ss ov n 0) m = some fu)
    (hov : ∀ f g, ov f = some g → ∀ cs, SemOK P cs → FnOK P f (g cs)) (k j : Nat) : SemOK P (evFn (KH fc fn ss ov n k) ov j) := by
  obtain ⟨i1, i2⟩ := KH_ok hm hK hov k
  exact evFn_ok hm (fun f fu h => by
      rw [KH_fn] at h
      obtain ⟨m, h1, h2, h3⟩ := hK f fu h
      exact ⟨m, h1, h2, by rw [KH_toFun]; exact h3⟩) hov j
end
end Go.Ev

/- Code of functions, printed from the translation by a program of mine. -/
set_option maxRecDepth 100000
namespace Go.Ev
/- cmp.Or[int] -/
def l_cmp_Or_int_0 : C :=
 .seq (.reg [⟨none, .bin 9 .lss (.t 8) (.t 7)⟩])
 (.seq (.cond (.t 9) (.skip)
 (.exit 0))
 (.seq (.block 1 (.seq (.reg [⟨none, .iaddrS 10 1 (.t 6) (.t 8)⟩,
 ⟨none, .load 11 1 false (.t 10)⟩,
 ⟨none, .mv 5 (.t 11)⟩])
 (.seq (.reg [⟨none, .mv 12 (.t 5)⟩,
 ⟨none, .mv 13 (.t 3)⟩,
 ⟨none, .bin 14 .neq (.t 12) (.t 13)⟩])
 (.cond (.t 14) (.seq (.reg [⟨none, .mv 15 (.t 5)⟩,
 ⟨none, .mv 2 (.t 15)⟩])
 (.ret))
 (.skip)))))
 (.reg [⟨none, .bin 16 .add (.t 8) (.c (.i .i64 1))⟩,
 ⟨none, .mv 8 (.t 16)⟩])))
def c_cmp_Or_int : Fun := ⟨1, [.t 2],
 .seq (.reg [⟨none, .mv 2 (.c (.i .i64 0))⟩])
 (.seq (.reg [⟨none, .mv 3 (.c (.i .i64 0))⟩])
 (.seq (.seq (.reg [⟨none, .mv 6 (.t 0)⟩,
 ⟨none, .len 7 (.t 6)⟩,
 ⟨none, .mv 8 (.c (.i .i64 0))⟩])
 (.block 0 (.loop l_cmp_Or_int_0)))
 (.seq (.reg [⟨none, .mv 17 (.t 3)⟩,
 ⟨none, .mv 2 (.t 17)⟩])
 (.ret))))⟩
end Go.Ev
