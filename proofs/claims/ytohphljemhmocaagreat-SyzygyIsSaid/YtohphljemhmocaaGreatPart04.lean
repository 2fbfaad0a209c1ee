/- Parts of the proof of the statement: FBasis, SPairs, SBas, FWalk, FSort, FPolyOf, FPolyFn, SLay, SPoly, FPolyC, FNumC, STab, SNum0, FMemo, SM0, SNwhole, FRead. -/
import Derived.Test.YtohphljemhmocaaGreatPart03
import Derived.RangeFuncLeaves
import Derived.RangeFuncMany
import Derived.RangeFuncOwn
import Derived.RangeFuncCalls
import Derived.LoopNIn
import Derived.Shelf.Abstract
import Derived.WalkKit
import Derived.TacticsIn
import Derived.RegionIn
import Derived.Shelf.RegionOpen
import Derived.Test.YtohphljemhmocaaGreatChecked
import Derived.Maps.RangeRun
import Derived.Shelf.SlSortCmp.PdqK
import Derived.Shelf.SlGeneric
import Derived.Ground.SlsfProg
import Derived.Deep.Slices
import Derived.OpenShut
set_option linter.unusedVariables false
set_option linter.unusedSimpArgs false
/- A function with a range over the pairs of a list of two: what it answers, by a run. -/
namespace Go.Ev
open Go.Pm

/-- What the closure that yields the pairs does at a list of two: it yields the second and the first. -/
def PairsLaw (P : Program) (g : FuncId) : Prop := ∀ {m l : Nat} {r : Loop} {ad : Addr} {sb so cap : Nat} {a0 a1 : Option Addr} {n0 n1 c0 c1 : Nat} {W : World},
    W.cell? ad = some (.slice (some ⟨sb, so, none⟩) 2 cap) → W.cell? ⟨sb, so, none⟩ = some (.slice a0 n0 c0) → W.cell? ⟨sb, so + 1, none⟩ = some (.slice a1 n1 c1) → 0 < n0 → 0 < n1 → 2 ≤ cap →
    n0 < 4611686018427387904 → n1 < 4611686018427387904 →
    W.heap[l]? = some (.loop r) → (#[Value.slice a1 n1 c1, .slice a0 n0 c0]).size = r.params.size → ∀ {R : World → Prop},
    RoundIn Fence.wide m P l r.fn ((r.params.zip #[.slice a1 n1 c1, .slice a0 n0 c0]).foldl (fun tmps (t, a) => tmps.setIfInBounds t a) r.tmps) r.assign r.body W (fun e W' => (∃ b, e = .returned (.bool b)) ∧ R W') →
    CallsIn Fence.wide (m + 1) P g #[.func (.yield l) #[] #[], .pointer (some ad)] W fun e W' => (∃ v, e = .returned v) ∧ R W'

/-- A list that is not empty, and not too long. -/
def slPos : DV → Bool
  | .sl (k + 1) _ => decide (k < 1000000)
  | _ => false

/-- The state of the function behind the loop: its result alone is known. -/
def behind (s : St) : St := put ⟨.leaf, s.o, s.z⟩ 4 (.ptr 4 0 0)

def resB (s : St) : Option (DV × List (List DV)) :=
  match resRaw s (.c 4 1 false) with
  | some (.b v) => some (.b v, [])
  | _ => none

def basisG (K : Cfg) (g fuel : Nat) (cpre ca cb ct : C) (cs : Sem) : G := fun ds =>
  match ds with
  | [.sl 2 [A, B], O] =>
    if areDeep [.sl 2 [A, B], O] then
      match evC K cs fuel cpre (put (put st0 0 (.sl 2 [A, B])) 1 O) with
      | some (.nrm, s1) =>
        match gt s1 22, gt s1 4, look s1 4 0 with
        | some (.fn f [.rop [.sl 2 [A', B']]]), some (.ptr 4 0 0), some ob =>
          if f = g ∧ slPos A' = true ∧ slPos B' = true ∧ ob.k = 2 then
            match evC K cs fuel ca (put (put s1 23 B') 24 A') with
            | some (.nrm, s3) =>
              match evC K cs fuel cb s3 with
              | some (.nrm, s4) =>
                match look s4 4 0 with
                | some _ =>
                  match evC K cs fuel ct (behind s4) with
                  | some (.ret, s6) => resB s6
                  | _ => none
                | none => none
              | some (.ret, s4) =>
                match look s4 4 0 with
                | some _ => resB (behind s4)
                | none => none
              | _ => none
            | _ => none
          else none
        | _, _, _ => none
      | _ => none
    else none
  | _ => none

theorem Fr.init2 {w : World} {S : Pub} (wf : WF S w.heap) {d0 d1 : DV} {v0 v1 : Value} (h0 : V w.heap S N0 d0 v0) (h1 : V w.heap S N0 d1 v1) {a : Array Value} (ha : a.getD 0 undef = v0) (hb : a.getD 1 undef = v1) :
    Fr w.heap.size ⟨fun _ => False, S, fun _ => none⟩ S N0 (put (put st0 0 d0) 1 d1) a w.heap := by
  refine ⟨fun i x h => ?_, fun h e ob ho => ?_, fun h e => ?_, fun h e p hp => (by cases hp), fun h e h' e' b sz sz' hp => (by cases hp), fun h e hz => ?_, wf.1, wf.2, fun b o h => .inl h, fun b h => .inl h, fun p b h => (by cases h)⟩
  · have h : gt (put (put st0 0 d0) 1 d1) i = some x := h
    rw [gt_put (by omega), gt_put (by omega), gt_st0] at h
    split at h
    · rename_i hi; cases h; subst hi; rw [hb]; exact h1
    · split at h
      · rename_i hi; cases h; subst hi; rw [ha]; exact h0
      · cases h
  · rw [lst_put, lst_put, lst_st0] at ho; simp [nth] at ho
  · rw [lst_put, lst_put, lst_st0]; simp
  · have : (put (put st0 0 d0) 1 d1).z = [] := rfl
    rw [this] at hz; cases hz

theorem evC_seq_nrm {K : Cfg} {cs : Sem} {fuel : Nat} {a b : C} {s s' : St} (h : evC K cs fuel (.seq a b) s = some (.nrm, s')) : ∃ s1, evC K cs fuel a s = some (.nrm, s1) ∧ evC K cs fuel b s1 = some (.nrm, s') := by
  simp only [evC] at h
  cases ha : evC K cs fuel a s with
  | none => rw [ha] at h; cases h
  | some p =>
    obtain ⟨e, s1⟩ := p
    rw [ha] at h
    cases e with
    | nrm => exact ⟨s1, rfl, h⟩
    | exit i => simp at h
    | ret => simp at h

/-- What the function is. -/
structure BasisFn (P : Program) (K : Cfg) (fn : Func) (cpre ca cb ct : C) : Prop where
  body : ∃ p0 p1 p2 p4 assign body tail c0 c1 c2 c4, fn.body = some (.seq p0 (.seq p1 (.seq p2 (.seq (.seq p4 (.block 0 (.rangeFunc (.tmp 22) #[23, 24] assign body))) tail)))) ∧
    toC P K fn.ntmps p0 = some c0 ∧ toC P K fn.ntmps p1 = some c1 ∧ toC P K fn.ntmps p2 = some c2 ∧ toC P K fn.ntmps p4 = some c4 ∧ cpre = .seq c0 (.seq c1 (.seq c2 c4)) ∧
    toC P K fn.ntmps assign = some ca ∧ toC P K fn.ntmps body = some cb ∧ toC P K fn.ntmps tail = some ct ∧ plainC assign = true ∧ plainC body = true
  name : fn.name ≠ "runtime.NumGoroutine"
  ntmps : 25 ≤ fn.ntmps ∧ fn.ntmps ≤ 1000000
  res : toResL P fn.results.toList = some [.c 4 1 false]

theorem leaves_of {P : Program} {fn : Func} {m : Nat} (hres : toResL P fn.results.toList = some [.c 4 1 false]) {base : Nat} {L : Len} {S : Pub} {N : Nm} {s : St} {a : Act} {w : World} {D : Nat} (f : Fr base L S N s a.tmps w.heap) {r : DV} {outs : List (List DV)} (hr : resB s = some (r, outs))
    (hd : a.defers = [{ target := .collected D, args := #[] }]) (hD : w.heap[D]? = some (.deferred (some []))) {R : Ending → World → Prop} (hR : ∀ v, r = .b v → outs = [] → R (.returned (.bool v)) (w.putObj D (.deferred none))) : LeavesInM Fence.wide m P fn a.tmps R a.defers .returning w := by
  unfold resB at hr
  split at hr
  · rename_i v hv
    cases hr
    have f' := FR.putObj f hD (fun _ _ _ h => by cases h) (fun _ _ h => by cases h) (.deferred none)
    obtain ⟨vs, h1, h2⟩ := results_ok (P := P) (a := a) (w := w.putObj D (.deferred none)) f' hres (ds := [.b v]) (by simp only [resRaws, hv])
    simp only [VL] at h1
    obtain ⟨x, t, rfl, h3, rfl⟩ := h1
    simp only [V] at h3
    subst h3
    rw [hd]
    exact ⟨by simp, .inl ⟨D, _, rfl, run_takeDeferred hD, ⟨_, h2, hR v rfl rfl⟩⟩⟩
  · cases hr

theorem pair_cells {w : World} {S : Pub} {N : Nm} {g : FuncId} {A B : DV} {v : Value} (h : V w.heap S N (.fn g [.rop [.sl 2 [A, B]]]) v) (hA : slPos A = true) (hB : slPos B = true) :
    ∃ ad sb so cap a0 a1 n0 n1 c0 c1, v = .func (.func g) #[] #[.pointer (some ad)] ∧ w.cell? ad = some (.slice (some ⟨sb, so, none⟩) 2 cap) ∧ w.cell? ⟨sb, so, none⟩ = some (.slice a0 n0 c0) ∧ w.cell? ⟨sb, so + 1, none⟩ = some (.slice a1 n1 c1) ∧
      0 < n0 ∧ 0 < n1 ∧ 2 ≤ cap ∧ n0 < 4611686018427387904 ∧ n1 < 4611686018427387904 ∧ V w.heap S N A (.slice a0 n0 c0) ∧ V w.heap S N B (.slice a1 n1 c1) := by
  have len : ∀ {A : DV} {x : Value}, slPos A = true → V w.heap S N A x → ∃ a n c, x = .slice a n c ∧ 0 < n ∧ n < 4611686018427387904 := by
    intro A x hA hx
    unfold slPos at hA
    split at hA
    · simp only [V] at hx
      obtain ⟨a, cap, h1, _⟩ := hx
      exact ⟨a, _, cap, h1, by omega, by have := of_decide_eq_true hA; omega⟩
    · cases hA
  simp only [V, VL] at h
  obtain ⟨vs, rfl, v1, t, rfl, ⟨ad, rfl, h1, h2, h3⟩, rfl⟩ := h
  simp only [VC] at h3
  obtain ⟨_, ⟨x, h4, h5⟩, _⟩ := h3
  simp only [V] at h5
  obtain ⟨a, cap, rfl, h6, h7, h8, h9⟩ := h5
  cases a with
  | none => have := h8.1 rfl; omega
  | some sad =>
    obtain ⟨g1, g2⟩ := h9 sad rfl (by omega)
    simp only [VC] at g2
    obtain ⟨_, ⟨x0, k1, k2⟩, _, ⟨x1, k3, k4⟩, _⟩ := g2
    obtain ⟨a0, n0, c0, rfl, m1, m2⟩ := len hA k2
    obtain ⟨a1, n1, c1, rfl, m3, m4⟩ := len hB k4
    obtain ⟨sb, so, sp⟩ := sad
    simp only at g1 k1 k3
    subst g1
    exact ⟨ad, sb, so, cap, a0, a1, n0, n1, c0, c1, rfl, by rw [cell?_eq _ _ h1]; exact h4, by rw [cell?_eq _ _ rfl]; exact k1, by rw [cell?_eq _ _ rfl]; exact k3, m1, m3, h6, m2, m4, k2, k4⟩

/-- The frame of the function behind its loop. -/
theorem behind_frame {base base' : Nat} {L L' : Len} {S S' : Pub} {N N' : Nm} {s s' : St} {a : Array Value} {tm : Array Value} {w w' : World} (f : Fr base L S N s a w.heap) (f' : Fr base' L' S' N' s' tm w'.heap) {b4 sz : Nat} (g4 : gt s 4 = some (.ptr 4 0 0)) (hN : N 4 0 = some (some (b4, sz)))
    (hnm : L'.nm 4 = some b4) {ob : Ob} (ho : look s' 4 0 = some ob) : Fr base' L' S' N' (behind s') a w'.heap := by
  obtain ⟨b', q1, q2, q3⟩ := f'.obs 4 0 _ ho
  obtain ⟨r, r1, r2⟩ := f'.lentn 4 b4 hnm
  have hb : b' = b4 := by
    rw [q1] at r1
    rcases r2 with rfl | ⟨sz', rfl⟩
    · cases r1
    · simp at r1; exact r1.1
  subst hb
  have hv := f.slots 4 _ g4
  simp only [V] at hv
  obtain ⟨ad, r0, h1, h2, h3, h4⟩ := hv
  rw [hN] at h3; cases h3
  obtain ⟨e1, e2⟩ := h4 _ _ rfl
  refine ⟨fun i d hd => ?_, f'.obs, f'.known, f'.alive, f'.inj, f'.zk, f'.pub, f'.pubm, f'.oldc, f'.oldm, f'.lentn⟩
  have hd : gt (behind s') i = some d := hd
  unfold behind at hd
  rw [gt_put (by omega)] at hd
  split at hd
  · rename_i hi
    cases hd; subst hi
    simp only [V]
    refine ⟨ad, _, h1, h2, q1, fun b sz hb => ?_⟩
    cases hb
    exact ⟨e1, e2⟩
  · have : gt (⟨.leaf, s'.o, s'.z⟩ : St) i = none := Tr.get_leaf i
    rw [this] at hd; cases hd

set_option maxHeartbeats 1000000 in
theorem ok_basis {P : Program} {K : Cfg} {cs : Sem} {fn : Func} {f g fuel : Nat} {cpre ca cb ct : C} (hm : P.follows .mixedOrders = true) (hsem : SemOK P cs) (hf : P.funcs[f]? = some fn) (X : BasisFn P K fn cpre ca cb ct) (pl : PairsLaw P g) (kg : Known P g) : FnOK P f (basisG K g fuel cpre ca cb ct cs) := by
  intro ds r outs h
  obtain ⟨p0, p1, p2, p4, assign, body, tail, c0, c1, c2, c4, hbody, t0, t1, t2, t4, hcpre, ta, tb, tt, pa, pb⟩ := X.body
  obtain ⟨hn1, hn2⟩ := X.ntmps
  refine ⟨⟨fn, hf, X.name, by rw [hbody]; simp⟩, ?_⟩
  unfold basisG at h
  split at h
  · rename_i A B O
    split at h
    · rename_i hdeep
      split at h
      · rename_i s1 ev1
        split at h
        · rename_i f' A' B' ob g22 g4 go
          split at h
          · rename_i hcond
            obtain ⟨rfl, hA, hB, hk⟩ := hcond
            split at h
            · rename_i s3 eva
              -- the two ways out of the body, as one
              obtain ⟨ex, s4, ob4, hex, evb, ho4, hend⟩ : ∃ ex s4 ob4, (ex = Ex.nrm ∨ ex = .ret) ∧ evC K cs fuel cb s3 = some (ex, s4) ∧ look s4 4 0 = some ob4 ∧ ((ex = .nrm ∧ ∃ s6, evC K cs fuel ct (behind s4) = some (.ret, s6) ∧ resB s6 = some (r, outs)) ∨ (ex = .ret ∧ resB (behind s4) = some (r, outs))) := by
                split at h
                · rename_i s4 evb
                  split at h
                  · rename_i ob4 ho4
                    split at h
                    · rename_i s6 ev6
                      exact ⟨_, _, _, .inl rfl, evb, ho4, .inl ⟨rfl, _, ev6, h⟩⟩
                    · cases h
                  · cases h
                · rename_i s4 evb
                  split at h
                  · rename_i ob4 ho4
                    exact ⟨_, _, _, .inr rfl, evb, ho4, .inr ⟨rfl, h⟩⟩
                  · cases h
                · cases h
              clear h
              intro w S vs lent wf args lok
              obtain ⟨rfl, hvs⟩ := ArgsR_deep hdeep args
              simp only [VL] at hvs
              obtain ⟨v0, u0, rfl, hv0, v1, u1, rfl, hv1, rfl⟩ := hvs
              refine (callsIn_wide (n := 3)).1 (callsIn_of_wp_marks hf hbody trivial ?_ rfl)
              -- the first regions
              have hasz : fn.ntmps ≤ (#[v0, v1] ++ Array.replicate (fn.ntmps - #[v0, v1].size) undef).size := by simp; omega
              have hA0 : (#[v0, v1] ++ Array.replicate (fn.ntmps - #[v0, v1].size) undef).getD 0 undef = v0 := by rw [Array.getD_eq_getD_getElem?, Array.getElem?_append_left (by simp)]; simp
              have hA1 : (#[v0, v1] ++ Array.replicate (fn.ntmps - #[v0, v1].size) undef).getD 1 undef = v1 := by rw [Array.getD_eq_getD_getElem?, Array.getElem?_append_left (by simp)]; simp
              have f0 := Fr.init2 wf hv0 hv1 hA0 hA1
              change Code.wpIn _ _ _ _ _ { tmps := #[v0, v1] ++ Array.replicate (fn.ntmps - #[v0, v1].size) undef, defers := [] } w
              generalize hta : #[v0, v1] ++ Array.replicate (fn.ntmps - #[v0, v1].size) undef = ta0 at *
              rw [hcpre] at ev1
              obtain ⟨x1, ev10, ev1⟩ := evC_seq_nrm ev1
              obtain ⟨x2, ev11, ev1⟩ := evC_seq_nrm ev1
              obtain ⟨x3, ev12, ev14⟩ := evC_seq_nrm ev1
              refine wpIn_seq (wpIn_wide.2 (code_ok (a := { tmps := ta0, defers := [] }) hm hn2 hsem fuel p0 t0 f0 (Nat.le_refl _) hasz ev10 fun b1 y1 o1 => ?_))
              obtain ⟨S1, N1, e1, f1, e3, e4, e5, e6⟩ := o1
              refine wpIn_seq (wpIn_wide.2 (code_ok hm hn2 hsem fuel p1 t1 f1 e5.1 (by simp at e3; omega) ev11 fun b2 y2 o2 => ?_))
              replace o2 := o2.trans e1 e3 e4 e5 e6
              obtain ⟨S2, N2, e1, f2, e3, e4, e5, e6⟩ := o2
              refine wpIn_seq (wpIn_wide.2 (code_ok hm hn2 hsem fuel p2 t2 f2 e5.1 (by simp at e3; omega) ev12 fun b3 y3 o3 => ?_))
              replace o3 := o3.trans e1 e3 e4 e5 e6
              obtain ⟨S3, N3, e1, f3, e3, e4, e5, e6⟩ := o3
              refine wpIn_seq (wpIn_seq (wpIn_wide.2 (code_ok hm hn2 hsem fuel p4 t4 f3 e5.1 (by simp at e3; omega) ev14 fun a1 w1 o4 => ?_)))
              replace o4 := o4.trans e1 e3 e4 e5 e6
              obtain ⟨S4, N4, e1, f4, e3, e4, e5, e6⟩ := o4
              clear f1 f2 f3
              have hsz1 : fn.ntmps ≤ a1.tmps.size := by simp at e3; omega
              have hdf1 : a1.defers = [] := e4
              -- the loop is entered
              refine wpIn_block (wpIn_rangeFunc fun fnid _ => ?_)
              obtain ⟨b4, q1, q2, q3⟩ := f4.obs 4 0 _ go
              have hb4 : w.heap.size ≤ b4 := by
                rcases q3 with q3 | q3
                · exact q3
                · exact q3.elim
              obtain ⟨rec, hrec⟩ : ∃ rec : Loop, rec = { state := .ready, pending := none, fn := fnid, tmps := a1.tmps, params := #[23, 24], assign, body, defers := w1.heap.size } := ⟨_, rfl⟩
              obtain ⟨w2, hw2⟩ : ∃ w2, (w1.alloc (.deferred (some []))).alloc (.loop rec) = w2 := ⟨_, rfl⟩
              have hl2 : w2.heap[w1.heap.size + 1]? = some (.loop rec) := by
                rw [← hw2]; have := World.alloc_heap_new (w1.alloc (.deferred (some []))) (.loop rec); rwa [World.size_alloc] at this
              have hD2 : w2.heap[w1.heap.size]? = some (.deferred (some [])) := by
                rw [← hw2]; exact (RowKit.Below.heap_alloc _ _ _ (by simp)).trans (World.alloc_heap_new w1 _)
              have hg2 : Grows w1.heap w2.heap := by
                rw [← hw2]
                refine ⟨by show _ ≤ ((w1.heap.push _).push _).size; simp; omega, fun b hb => ?_⟩
                show ((w1.heap.push _).push _)[b]? = _
                rw [Array.getElem?_push, Array.getElem?_push, if_neg (by simp; omega), if_neg (by omega)]
              have tw2 : Tw w1 w2 := by rw [← hw2]; exact ⟨rfl, rfl, rfl, Nat.le_refl _⟩
              have f5 : Fr w.heap.size ⟨fun _ => False, S, fun _ => none⟩ S4 N4 s1 a1.tmps w2.heap := FR.grows f4 hg2
              have hv22 := f5.slots 22 _ g22
              obtain ⟨ad, sb, so, cap, a0, aa1, n0, n1, cc0, cc1, k22, k1, k2, k3, k4, k5, k6, k7, k8, kA, kB⟩ := pair_cells hv22 hA hB
              refine ⟨w1.heap.size + 1, [{ target := .collected w1.heap.size, args := #[] }], w2, { target := .fn (.func f') #[.pointer (some ad)], args := #[.func (.yield (w1.heap.size + 1)) #[] #[]] }, w2, f',
                #[.func (.yield (w1.heap.size + 1)) #[] #[]] ++ #[.pointer (some ad)], w2, ?_, ?_, (fun _ _ => trivial), ?_, (fun h => by cases h), ?_⟩
              · rw [← hw2, hrec]; exact run_enterLoop_outer _ _ _ _ _
              · have hg : a1.eval (.tmp 22) = .func (.func f') #[] #[.pointer (some ad)] := k22
                simp only [resolve, hg]
                simp [go_sem]
              · simp [invoke, go_sem, run_callFunc kg]
              -- the round
              have hround : RoundIn Fence.wide 1 P (w1.heap.size + 1) rec.fn ((rec.params.zip #[.slice aa1 n1 cc1, .slice a0 n0 cc0]).foldl (fun tmps (t, a) => tmps.setIfInBounds t a) rec.tmps) rec.assign rec.body w2
                  (fun e W => (∃ b, e = .returned (.bool b)) ∧ RoundDone w2 S4 N4 (fun p => if p = 4 then some b4 else none) (w1.heap.size + 1) w1.heap.size rec ex s4 W) := by
                have etm : (rec.params.zip #[.slice aa1 n1 cc1, .slice a0 n0 cc0]).foldl (fun tmps (t, a) => tmps.setIfInBounds t a) rec.tmps = (a1.tmps.setIfInBounds 23 (.slice aa1 n1 cc1)).setIfInBounds 24 (.slice a0 n0 cc0) := by
                  rw [hrec]; simp
                have eas : rec.assign = assign ∧ rec.body = body := by rw [hrec]; exact ⟨rfl, rfl⟩
                rw [etm, eas.1, eas.2]
                have f6 : Fr w.heap.size ⟨fun _ => False, S, fun _ => none⟩ S4 N4 (put (put s1 23 B') 24 A') ((a1.tmps.setIfInBounds 23 (.slice aa1 n1 cc1)).setIfInBounds 24 (.slice a0 n0 cc0)) w2.heap := by
                  have g1 := Fr.val (a := a1) f5 (d := 23) kB (by omega) (by omega)
                  have g2 := Fr.val (a := a1.put (some 23) (.slice aa1 n1 cc1)) g1 (d := 24) kA (by simp [put_some]; omega) (by omega)
                  exact g2
                refine round_ev hm hn2 hsem f6 (by simp; omega) (fun p b hp => ?_) hl2 (by rw [hrec]) hD2 (by omega) pa pb ta tb eva evb hex
                split at hp
                · rename_i hp4; subst hp4; cases hp; exact ⟨_, q1, .inr ⟨_, rfl⟩⟩
                · cases hp
              refine (pl (m := 1) k1 k2 k3 k4 k5 k6 k7 k8 hl2 (by rw [hrec]; rfl) hround).mono ?_
              rintro e W ⟨⟨v, rfl⟩, rd⟩
              have hnb : rec.state ≠ .busy := by rw [hrec]; simp
              refine ⟨_, _, run_endLoop (P := P) rd.loop (by rcases hex with rfl | rfl <;> simp), ?_⟩
              -- behind the loop
              obtain ⟨S7, N7, tm7, e7, f7⟩ := rd.fr
              have nol : ∀ c e z, Obj.loop { rec with state := if ex = .nrm then .ready else .done, pending := if ex = .nrm then none else some .ret } ≠ .cells c e z := fun _ _ _ h => by cases h
              have f8 := FR.putObj f7 rd.loop nol (fun _ _ h => by cases h) (.loop { rec with state := .exhausted, pending := if ex = .nrm then none else some .ret })
              have hD8 : (W.putObj (w1.heap.size + 1) (.loop { rec with state := .exhausted, pending := if ex = .nrm then none else some .ret })).heap[w1.heap.size]? = some (.deferred (some [])) := (World.putObj_heap_other (by omega)).trans rd.deferred
              have old8 : ∀ b, b < w2.heap.size → b ≠ w1.heap.size + 1 → ¬ named N4 b → (W.putObj (w1.heap.size + 1) (.loop { rec with state := .exhausted, pending := if ex = .nrm then none else some .ret })).heap[b]? = w2.heap[b]? := fun b hb1 hb2 hb3 => (World.putObj_heap_other hb2).trans (rd.old b hb1 hb2 hb3)
              have sz8 : w2.heap.size ≤ (W.putObj (w1.heap.size + 1) (.loop { rec with state := .exhausted, pending := if ex = .nrm then none else some .ret })).heap.size := by rw [World.putObj_size]; exact rd.size
              have rows8 : ∀ b, rowSize w2.heap b ≤ rowSize (W.putObj (w1.heap.size + 1) (.loop { rec with state := .exhausted, pending := if ex = .nrm then none else some .ret })).heap b := fun b => Nat.le_trans (rd.rows b) (rows_putObj rd.loop nol b)
              have tw8 : Tw w2 (W.putObj (w1.heap.size + 1) (.loop { rec with state := .exhausted, pending := if ex = .nrm then none else some .ret })) := rd.tw.trans ⟨rfl, rfl, rfl, Nat.le_refl _⟩
              have f9 := behind_frame f5 f8 g4 q1 (by simp) ho4
              generalize hw8 : W.putObj (w1.heap.size + 1) (.loop { rec with state := .exhausted, pending := if ex = .nrm then none else some .ret }) = w8 at *
              have nk : ∀ b, b < w.heap.size → ¬ named N4 b := by
                rintro b hb ⟨h, e, sz, hN⟩
                obtain ⟨obx, hox⟩ := f4.alive _ _ _ hN
                obtain ⟨b', z1, _, z3⟩ := f4.obs _ _ _ hox
                rw [hN] at z1; simp at z1
                obtain ⟨rfl, _⟩ := z1
                rcases z3 with z3 | z3
                · omega
                · exact z3
              have nD : ¬ named N4 w1.heap.size := by
                rintro ⟨h, e, sz, hN⟩
                have := f4.block hN
                omega
              have nl : ∀ {b}, named N4 b → w.heap.size ≤ b := fun {b} hb => Nat.le_of_not_lt fun hlt => nk b hlt hb
              have hle1 : w.heap.size ≤ w1.heap.size := e5.1
              have hle2 : w1.heap.size + 2 ≤ w2.heap.size := by have := lt_of_get hl2; omega
              -- the end
              have fin : ∀ {S9 : Pub} {N9 : Nm} {s9 : St} {a9 : Act} {w9 : World}, Sub S7 S9 → Fr w2.heap.size ⟨named N4, S4, fun p => if p = 4 then some b4 else none⟩ S9 N9 s9 a9.tmps w9.heap → resB s9 = some (r, outs) → a9.defers = [{ target := .collected w1.heap.size, args := #[] }] →
                  Keep w2.heap.size ⟨named N4, S4, fun p => if p = 4 then some b4 else none⟩ w8.heap w9.heap → Tw w8 w9 →
                  LeavesInM Fence.wide 3 P fn a9.tmps (fun e w' => ∃ v S', e = .returned v ∧ Done w S [] r outs v w' S') a9.defers .returning w9 := by
                intro S9 N9 s9 a9 w9 sub9 fr9 res9 df9 keep9 tw9
                have hD9 : w9.heap[w1.heap.size]? = some (.deferred (some [])) := (keep9.2.1 _ (by omega) nD).trans hD8
                refine leaves_of X.res fr9 res9 df9 hD9 fun v hrv hov => ?_
                subst hrv hov
                have fr10 := FR.putObj fr9 hD9 (fun _ _ _ h => by cases h) (fun _ _ h => by cases h) (.deferred none)
                refine ⟨_, S9, rfl, ⟨(e1.trans e7).trans sub9, WF.of fr10, ?_, fun b hb _ => ?_, fun b => ?_, fun b o hc => ?_, fun b hc => ?_, ?_, rfl, ?_⟩⟩
                · rw [World.putObj_size]; have := keep9.1; omega
                · rw [World.putObj_heap_other (by omega), keep9.2.1 b (by omega) (nk b hb), old8 b (by omega) (by omega) (nk b hb), hg2.2 b (by omega)]
                  exact e5.2.1 b hb (by simp)
                · refine Nat.le_trans (e5.2.2 b) (Nat.le_trans ?_ (Nat.le_trans (rows8 b) (Nat.le_trans (keep9.2.2 b) (rows_putObj hD9 (fun _ _ _ h => by cases h) b))))
                  rcases Nat.lt_or_ge b w1.heap.size with hb | hb
                  · exact rowSize_of_eq (hg2.2 b hb)
                  · simp [rowSize, Array.getElem?_eq_none hb]
                · rcases fr9.oldc b o hc with h | h | h
                  · exact (f4.oldc b o h).imp id fun h => h.resolve_right id
                  · right; omega
                  · exact .inr (nl h)
                · rcases fr9.oldm b hc with h | h | h
                  · exact (f4.oldm b h).imp id fun h => h.resolve_right id
                  · right; omega
                  · exact .inr (nl h)
                · refine ⟨[], by rw [adoptR_b]; rfl, by simp, by simp, fun h c N _ => ?_⟩
                  rw [adoptR_b]; simp only [V]
                · exact e6.trans (tw2.trans (tw8.trans (tw9.trans ⟨rfl, rfl, rfl, Nat.le_refl _⟩)))
              rcases hend with ⟨rfl, s6, ev6, r6⟩ | ⟨rfl, r6⟩
              · -- on behind the loop
                show Code.wpIn _ _ _ tail _ _ _
                refine wpIn_wide.2 (code_ok (a := { a1 with defers := [{ target := .collected w1.heap.size, args := #[] }] ++ a1.defers }) hm hn2 hsem fuel tail tt f9 sz8 hsz1 ev6 fun a9 w9 o9 => ?_)
                obtain ⟨S9, N9, z1, z2, z3, z4, z5, z6⟩ := o9
                exact fin z1 z2 r6 (by rw [z4, hdf1]; rfl) z5 z6
              · -- out of the loop
                refine wpIn_ret ?_
                exact fin (a9 := { a1 with defers := [{ target := .collected w1.heap.size, args := #[] }] ++ a1.defers }) (Sub.refl _) f9 r6 (by rw [hdf1]; rfl) (Keep.refl _ _ _) (Tw.refl _)
            · cases h
          · cases h
        · cases h
      · cases h
    · cases h
  · cases h
end Go.Ev

/- The closure that yields the pairs, at a list of two. -/
namespace Go.Proofs
open Go.RowKit Go.Shelf
set_option maxRecDepth 100000
attribute [local go_sem] Oper.semAt_some

set_option maxHeartbeats 2000000 in
theorem Tryz.pairs_yield {m l : Nat} {r : Loop} {ad : Addr} {sb so cap : Nat} {a0 a1 : Option Addr} {n0 n1 c0 c1 : Nat} {W : World}
    (hc : W.cell? ad = some (.slice (some ⟨sb, so, none⟩) 2 cap)) (h0 : W.cell? ⟨sb, so, none⟩ = some (.slice a0 n0 c0)) (h1 : W.cell? ⟨sb, so + 1, none⟩ = some (.slice a1 n1 c1)) (hn0 : 0 < n0) (hn1 : 0 < n1) (hcap : 2 ≤ cap)
    (hs : n0 < 4611686018427387904) (hs1 : n1 < 4611686018427387904)
    (hl : W.heap[l]? = some (.loop r)) (hp : (#[Value.slice a1 n1 c1, .slice a0 n0 c0]).size = r.params.size) {R : World → Prop}
    (hR : RoundIn Fence.wide m Tryz.prog l r.fn ((r.params.zip #[.slice a1 n1 c1, .slice a0 n0 c0]).foldl (fun tmps (t, a) => tmps.setIfInBounds t a) r.tmps) r.assign r.body W fun e W' => (∃ b, e = .returned (.bool b)) ∧ R W') :
    CallsIn Fence.wide (m + 1) Tryz.prog 246 #[.func (.yield l) #[] #[], .pointer (some ad)] W fun e W' => (∃ v, e = .returned v) ∧ R W' := by
  have hy := run_yield (P := Tryz.prog) hl hp
  refine callsIn_of_wp Tryz.func246 rfl trivial ?_ rfl
  simp only [Tryz.ntmps246, List.size_toArray, List.length_cons, List.length_nil, Nat.reduceAdd, Nat.reduceSub, Array.replicate_succ, Array.replicate_zero, List.push_toArray, List.append_toArray, List.nil_append, List.cons_append]
  generalize (r.params.zip #[Value.slice a1 n1 c1, .slice a0 n0 c0]).foldl (fun tmps (t, a) => tmps.setIfInBounds t a) r.tmps = tm at hy hR
  gi_wp2
  refine wpIn_loop_rounds 3 ?_
  rw [roundsIn_succ]
  gi_wp2
  refine wpIn_loop_rounds 2 ?_
  rw [roundsIn_succ]
  gi_wp2
  rw [roundsIn_succ]
  gi_wp2
  refine wpIn_loop_rounds 2 ?_
  rw [roundsIn_succ]
  gi_wp2
  refine hR.mono ?_
  rintro e W' ⟨⟨b, rfl⟩, hR'⟩
  cases b
  · gi_wp2
    refine bodyPost_ret (results_none rfl _ _ _) rfl ?_
    exact ⟨⟨_, rfl⟩, hR'⟩
  · gi_wp2
    rw [roundsIn_succ]
    gi_wp2
    rw [roundsIn_succ]
    gi_wp2
    go_end0
    exact ⟨⟨_, rfl⟩, hR'⟩
end Go.Proofs

/- IsBasis at lists of two, in the program. -/
namespace Go.Ev
open Go Go.Pm Go.Proofs
set_option maxRecDepth 100000

noncomputable def getC (P : Program) (n : Nat) (c : Code) : C := (toC P KK n c).getD .fail
theorem getC_ok {P : Program} {n : Nat} {c : Code} (h : (toC P KK n c).isSome = true) : toC P KK n c = some (getC P n c) := by
  unfold getC
  cases e : toC P KK n c with
  | none => rw [e] at h; cases h
  | some x => rfl


def fst : Code → Code
  | .seq a _ => a
  | c => c
def snd : Code → Code
  | .seq _ b => b
  | c => c
def inb : Code → Code
  | .block _ c => c
  | c => c
def asg : Code → Code
  | .rangeFunc _ _ a _ => a
  | c => c
def bdy : Code → Code
  | .rangeFunc _ _ _ b => b
  | c => c
noncomputable def b90 : Code := Tryz.f90.body.getD .skip
noncomputable def g90 (c : Code) : C := getC Tryz.prog 65 c
noncomputable def loop90 : Code := inb (snd (fst (snd (snd (snd b90)))))
noncomputable def cpre90 : C := .seq (g90 (fst b90)) (.seq (g90 (fst (snd b90))) (.seq (g90 (fst (snd (snd b90)))) (g90 (fst (fst (snd (snd (snd b90))))))))
noncomputable def ca90 : C := g90 (asg loop90)
noncomputable def cb90 : C := g90 (bdy loop90)
noncomputable def ct90 : C := g90 (snd (snd (snd (snd b90))))

theorem basisFn : BasisFn Tryz.prog KK Tryz.f90 cpre90 ca90 cb90 ct90 where
  body := ⟨fst b90, fst (snd b90), fst (snd (snd b90)), fst (fst (snd (snd (snd b90)))), asg loop90, bdy loop90, snd (snd (snd (snd b90))), g90 (fst b90), g90 (fst (snd b90)), g90 (fst (snd (snd b90))), g90 (fst (fst (snd (snd (snd b90))))),
    rfl, getC_ok (by kernel_rfl), getC_ok (by kernel_rfl), getC_ok (by kernel_rfl), getC_ok (by kernel_rfl), rfl, getC_ok (by kernel_rfl), getC_ok (by kernel_rfl), getC_ok (by kernel_rfl), by kernel_rfl, by kernel_rfl⟩
  name := ne_of_beq (by kernel_rfl)
  ntmps := ⟨by decide, by decide⟩
  res := by kernel_rfl
theorem pairsLaw : PairsLaw Tryz.prog 246 := fun h1 h2 h3 h4 h5 h6 h7 h8 h9 h10 _ h11 => Tryz.pairs_yield h1 h2 h3 h4 h5 h6 h7 h8 h9 h10 h11
theorem known246 : Known Tryz.prog 246 := ⟨_, Tryz.func246, ne_of_beq (by kernel_rfl), by decide⟩
theorem s_basis {cs : Sem} (h : SemOK Tryz.prog cs) : FnOK Tryz.prog n_division_IsBasis (basisG KK 246 40 cpre90 ca90 cb90 ct90 cs) := ok_basis hm_prog h Tryz.func90 basisFn pairsLaw known246
end Go.Ev

/- The walk over a map that gathers the terms of a polynomial: whatever the order of the entries. -/
namespace Go.Ev
open Go.Pm
open Go.ChangeMaps (setBlock)

theorem ops_one {P : Program} {ops : Array Oper} {Q : Exit → Act → World → Prop} {i : Nat} {r : List Nat} {a : Act} {w w' : World} {o : Oper} {v : Value} (ho : ops[i]? = some o) (hg : o.guard = none)
    (hrun : (execOp a.eval o).run P w = .ok (.value v) w') (h : wpOps P ops Q r (a.put o.dst v) w') : wpOps P ops Q (i :: r) a w := by
  have hw : Region.wanted o (yielded ops a.tmps) = true := by simp [Region.wanted, hg]
  simp only [wpOps, ho, hw, if_true]
  left
  unfold Oper.wp
  rw [hrun]; exact h

/-- The term of an entry. -/
def termOf (e : Mono × Rat) : Option Tm := if e.2 = 0 then none else some ⟨e.2, e.1⟩
def termsAt (es : Ent) (don : List Nat) : Poly := don.filterMap fun i => (es[i]?).bind termOf

/-- The state at the head of a round. -/
def stP (T : Poly) : St := obj (put st0 3 (.ref 3 0 0 T.length)) 3 [⟨0, 12, pcells T⟩]

theorem stP_v (T : Poly) (i : Nat) : (stP T).v.get i = if i = 3 then some (.ref 3 0 0 T.length) else none := by
  show gt (stP T) i = _
  unfold stP
  rw [gt_obj, gt_put (by omega), gt_st0]

theorem stP_lst (T : Poly) (p : Nat) : lst (stP T) p = if p = 3 then [⟨0, 12, pcells T⟩] else [] := by
  unfold stP
  rw [lst_obj (by omega), lst_put, lst_st0]

def L4 : List Ins := [⟨none, .fail (some 11)⟩,
      ⟨none, .ext 12 0 (.t 11)⟩,
      ⟨none, .ext 13 1 (.t 11)⟩,
      ⟨none, .alloc 4 [.i .i64 0, .i .i64 0, .i .i64 0, .i .i64 0, .i .i64 0, .i .i64 0, .i .i64 0, .i .i64 0]⟩,
      ⟨none, .alloc 5 [.b false, .nil, .b false, .nil]⟩,
      ⟨none, .store 8 (.t 4) (.t 12)⟩,
      ⟨none, .store 4 (.t 5) (.t 13)⟩]
def L5 : List Ins := [⟨none, .load 14 4 true (.t 5)⟩,
       ⟨none, .call (some 15) n_rational_Sign [.t 14]⟩,
       ⟨none, .bin 16 .neq (.t 15) (.c (.i .i64 0))⟩]
def L6 : List Ins := [⟨none, .mv 17 (.t 3)⟩,
        ⟨none, .load 18 4 true (.t 5)⟩,
        ⟨none, .load 19 8 true (.t 4)⟩,
        ⟨none, .build 20 [.b false, .nil, .b false, .nil, .i .i64 0, .i .i64 0, .i .i64 0, .i .i64 0, .i .i64 0, .i .i64 0, .i .i64 0, .i .i64 0] [(0, 4, .t 18), (4, 8, .t 19)]⟩,
        ⟨none, .bslice 21 1 12 [.b false, .sl 0 [], .b false, .sl 0 [], .i .i64 0, .i .i64 0, .i .i64 0, .i .i64 0, .i .i64 0, .i .i64 0, .i .i64 0, .i .i64 0] [(0, 12, .t 20)]⟩,
        ⟨none, .append 22 12 128 (.t 17) (.t 21)⟩,
        ⟨none, .mv 3 (.t 22)⟩]

theorem run4 (cs : Sem) (T : Poly) (m : Mono) (c : Rat) : WL KK cs (L4.drop 1) (app (stP T) (val 11 (.tup [dMono m, dRat c]))) fun s =>
    gt s 3 = some (.ref 3 0 0 T.length) ∧ lst s 3 = [⟨0, 12, pcells T⟩] ∧ gt s 4 = some (.ptr 4 0 0) ∧ lst s 4 = [⟨2, 0, mcells m⟩] ∧ gt s 5 = some (.ptr 5 0 0) ∧ lst s 5 = [⟨2, 0, rcells c⟩] ∧ lst s 21 = [] ∧ s.z = [] := by
  unfold L4 stP
  simp

theorem run5 {cs : Sem} (hsign : ∀ q, cs n_rational_Sign [dRat q] = some (.i .i64 (sgn q), [])) {T : Poly} {m : Mono} {c : Rat} {s : St}
    (h : gt s 3 = some (.ref 3 0 0 T.length) ∧ lst s 3 = [⟨0, 12, pcells T⟩] ∧ gt s 4 = some (.ptr 4 0 0) ∧ lst s 4 = [⟨2, 0, mcells m⟩] ∧ gt s 5 = some (.ptr 5 0 0) ∧ lst s 5 = [⟨2, 0, rcells c⟩] ∧ lst s 21 = [] ∧ s.z = []) :
    WL KK cs L5 s fun s => (gt s 3 = some (.ref 3 0 0 T.length) ∧ lst s 3 = [⟨0, 12, pcells T⟩] ∧ gt s 4 = some (.ptr 4 0 0) ∧ lst s 4 = [⟨2, 0, mcells m⟩] ∧ gt s 5 = some (.ptr 5 0 0) ∧ lst s 5 = [⟨2, 0, rcells c⟩] ∧ lst s 21 = [] ∧ s.z = []) ∧ gt s 16 = some (.b (sgn c != 0)) := by
  obtain ⟨h1, h2, h3, h4, h5, h6, h7, h8⟩ := h
  unfold L5
  simp [h1, h2, h3, h4, h5, h6, h7, h8, hsign]

theorem run6 {cs : Sem} {T : Poly} (hT : T.length ≤ 1000000) {m : Mono} {c : Rat} {s : St}
    (h : gt s 3 = some (.ref 3 0 0 T.length) ∧ lst s 3 = [⟨0, 12, pcells T⟩] ∧ gt s 4 = some (.ptr 4 0 0) ∧ lst s 4 = [⟨2, 0, mcells m⟩] ∧ gt s 5 = some (.ptr 5 0 0) ∧ lst s 5 = [⟨2, 0, rcells c⟩] ∧ lst s 21 = [] ∧ s.z = []) :
    WL KK cs L6 s fun s => ∃ h e, gt s 3 = some (.ref h e 0 (T.length + 1)) ∧ look s h e = some ⟨0, 12, pcells (T ++ [⟨c, m⟩])⟩ ∧ (h, e) ∉ s.z := by
  obtain ⟨h1, h2, h3, h4, h5, h6, h7, h8⟩ := h
  unfold L6
  have hn : ¬ 274877906943 < T.length := by omega
  simp [h1, h2, h3, h4, h5, h6, h7, h8, hn]
  refine ⟨3, 1, ?_⟩
  simp [nth]

/-! ### The loop -/

/-- What is so at the head of a round. -/
structure J (w1 : World) (S1 : Pub) (r bm blk since : Nat) (ms : Array MapEntry) (es : Ent) (don : List Nat) (a : Act) (w : World) : Prop where
  fr : ∃ S N, Sub S1 S ∧ Fr w1.heap.size ⟨fun b => b = blk, S1, fun _ => none⟩ S N (stP (termsAt es don)) a.tmps w.heap
  size : a.tmps.size = 26
  defers : a.defers = []
  it : a.tmps.getD 8 undef = .pointer (some ⟨r, 0, none⟩)
  iter : ∃ seen c, w.heap[r]? = some (.mapIter (some bm) since seen c) ∧ since ≤ c ∧ seen.toList = don.filterMap fun i => ms[i]?.map (·.born)
  grow : w1.heap.size ≤ w.heap.size
  old : ∀ b, b < w1.heap.size → b ≠ r → b ≠ blk → w.heap[b]? = w1.heap[b]?
  rows : ∀ b, rowSize w1.heap b ≤ rowSize w.heap b
  tw : Tw w1 w
  nodup : don.Nodup
  lt : ∀ i ∈ don, i < es.length

section
variable {P : Program} {cs : Sem} {w1 : World} {S1 : Pub} {r bm blk since clk : Nat} {ms : Array MapEntry} {es : Ent}

theorem VM.get {hp : Hp} {S : Pub} {N : Nm} : ∀ {ds : List DV} {l : List MapEntry} {i : Nat} {d : DV}, VM hp S N ds l → ds[i]? = some d → ∃ e, l[i]? = some e ∧ V hp S N d (.tuple #[e.key, e.val])
  | [], _, _, _, _, h => by simp at h
  | c :: q, l, i, d, h, hi => by
    simp only [VM] at h
    obtain ⟨m, t, rfl, h1, h2⟩ := h
    cases i with
    | zero => simp at hi; subst hi; exact ⟨m, by simp, h1⟩
    | succ i => simp at hi; simpa using VM.get h2 hi
/-- What is fixed while the loop runs. -/
structure Fixed (w1 : World) (S1 : Pub) (r bm blk since clk : Nat) (ms : Array MapEntry) (es : Ent) : Prop where
  wf : WF S1 w1.heap
  hr : r < w1.heap.size
  ri : ∃ seen c, w1.heap[r]? = some (.mapIter (some bm) since seen c)
  hb : w1.heap[bm]? = some (.map ms clk)
  hbr : bm ≠ r
  hbb : bm ≠ blk
  rb : r ≠ blk
  bl : blk < w1.heap.size
  un : (∀ o, ¬ S1.c blk o) ∧ ¬ S1.m blk
  vm : VM w1.heap S1 N0 (es.map dEnt) ms.toList
  ok : MapOK ms clk
  sc : since = clk
  len : es.length ≤ 1000000

theorem Fixed.keeps (F : Fixed w1 S1 r bm blk since clk ms es) {w : World} (h : ∀ b, b < w1.heap.size → b ≠ r → b ≠ blk → w.heap[b]? = w1.heap[b]?) : Keeps S1 w1.heap w.heap := by
  obtain ⟨seen, c, hri⟩ := F.ri
  constructor
  · intro b o hc
    obtain ⟨v, hv⟩ := F.wf.1 b o hc
    refine cellAt_of_eq (h b (lt_of_cell hv) ?_ ?_)
    · rintro rfl; simp [cellAt, hri] at hv
    · rintro rfl; exact F.un.1 o hc
  · intro b hc
    obtain ⟨x, y, hv⟩ := F.wf.2 b hc
    refine h b (lt_of_get hv) ?_ ?_
    · rintro rfl; rw [hri] at hv; cases hv
    · rintro rfl; exact F.un.2 hc

theorem WL_ev {K : Cfg} {cs : Sem} {ops : List Ins} {s : St} {Q : St → Prop} (h : WL K cs ops s Q) : ∃ sf, evL K cs s ops = some sf ∧ Q sf := by
  unfold WL at h
  split at h
  · exact ⟨_, by assumption, h⟩
  · exact h.elim

theorem Fr.again {base : Nat} {S1 : Pub} {S : Pub} {N : Nm} {s : St} {a : Array Value} {hp : Hp} {blk : Nat} (f : Fr base ⟨fun b => b = blk, S1, fun _ => none⟩ S N s a hp) {T : Poly} {h e m : Nat} (hm : m = T.length)
    (h1 : gt s 3 = some (.ref h e 0 m)) (h2 : look s h e = some ⟨0, 12, pcells T⟩) (h3 : (h, e) ∉ s.z) : ∃ N', Fr base ⟨fun b => b = blk, S1, fun _ => none⟩ S N' (stP T) a hp := by
  subst hm
  obtain ⟨b, q1, q2, q3⟩ := f.obs h e _ h2
  refine ⟨_, FR.restart f (fun _ => rfl) (t := 3) (f.slots 3 _ h1) h2 q1 rfl h3 q3 f.oldc f.oldm (stP T).v.get (fun i d hd hi => ?_) ?_ (lst (stP T)) (stP_lst T) _ (fun p hp => ?_)⟩
  · rw [stP_v, if_neg hi] at hd; cases hd
  · rw [stP_v, if_pos rfl]
  · have : (stP T).z = [] := rfl
    rw [this] at hp; cases hp

theorem J.put {don : List Nat} {a : Act} {w : World} (j : J w1 S1 r bm blk since ms es don a w) {d : Nat} {v : Value} (h3 : d ≠ 3) (h8 : d ≠ 8) : J w1 S1 r bm blk since ms es don (a.put (some d) v) w := by
  obtain ⟨S, N, h1, h2⟩ := j.fr
  refine ⟨⟨S, N, h1, FR.junk h2 ?_⟩, by simp [put_some, j.size], j.defers, ?_, j.iter, j.grow, j.old, j.rows, j.tw, j.nodup, j.lt⟩
  · rw [stP_v, if_neg h3]
  · rw [getD_put (by intro e; cases e; exact h8 rfl)]; exact j.it

/-- The iterator steps on: its block is changed. -/
theorem Fr.step {S : Pub} {N : Nm} {s : St} {a : Array Value} {w : World} {base : Nat} {L : Len} (f : Fr base L S N s a w.heap) {seen : Array Nat} {c : Nat} (hr : w.heap[r]? = some (.mapIter (some bm) since seen c)) (o : Obj) : Fr base L S N s a (w.heap.setIfInBounds r o) := by
  refine FR.block_free f (fun x hc => ?_) (fun hc => ?_) (fun h e sz hN => ?_)
  · obtain ⟨v, hv⟩ := f.pub _ _ hc
    simp [cellAt, hr] at hv
  · obtain ⟨x, y, hv⟩ := f.pubm _ hc
    rw [hr] at hv; cases hv
  · obtain ⟨ob, ho⟩ := f.alive _ _ _ hN
    obtain ⟨b', g1, g2, _⟩ := f.obs _ _ _ ho
    rw [hN] at g1; simp at g1
    obtain ⟨rfl, _⟩ := g1
    rcases g2 with ⟨_, x, y, hv, _⟩ | ⟨_, x, y, _, _, hv, _⟩ <;> (rw [hr] at hv; cases hv)

theorem termsAt_append (es : Ent) (don : List Nat) (k : Nat) : termsAt es (don ++ [k]) = termsAt es don ++ ((es[k]?).bind termOf).toList := by
  unfold termsAt
  rw [List.filterMap_append]
  congr 1

theorem termsAt_length (es : Ent) (don : List Nat) : (termsAt es don).length ≤ don.length := List.length_filterMap_le _ _

theorem nodup_le : ∀ {n : Nat} {l : List Nat}, l.Nodup → (∀ i ∈ l, i < n) → l.length ≤ n := by
  intro n l hn hl
  have := hn.length_le_of_subset (l₂ := List.range n) (fun i hi => List.mem_range.2 (hl i hi))
  simpa using this

section
variable {r3 r4 r5 r6 : Array Oper} {i3 i4 i5 i6 : Nat} {o30 o31 o40 : Oper} {don : List Nat} {a : Act} {w : World}

/-- What the operations of a round are. -/
structure Ops (P : Program) (r3 r4 r5 r6 : Array Oper) (o30 o31 o40 : Oper) : Prop where
  e3 : r3 = #[o30, o31]
  p30 : o30.op = .next (.tmp 8) false
  d30 : o30.dst = some 9
  g30 : o30.guard = none
  p31 : o31.op = .extract (.tmp 9) 0
  d31 : o31.dst = some 10
  g31 : o31.guard = none
  e40 : r4[0]? = some o40
  s4 : r4.size = 7
  p40 : o40.op = .entry (.tmp 8)
  d40 : o40.dst = some 11
  g40 : o40.guard = none
  t4 : toInsL P 26 r4 r4.toList = some L4
  t5 : toInsL P 26 r5 r5.toList = some L5
  t6 : toInsL P 26 r6 r6.toList = some L6
  k4 : (r4.toList.all fun o => [8].all fun t => o.dst != some t) = true
  k5 : (r5.toList.all fun o => [8].all fun t => o.dst != some t) = true
  k6 : (r6.toList.all fun o => [8].all fun t => o.dst != some t) = true

theorem put_get {a : Act} {d : Nat} {v : Value} (h : d < a.tmps.size) : (a.put (some d) v).tmps.getD d undef = v := by
  simp [Act.put, Array.getD_eq_getD_getElem?, h]

theorem round_done (O : Ops P r3 r4 r5 r6 o30 o31 o40) (F : Fixed w1 S1 r bm blk since clk ms es) (j : J w1 S1 r bm blk since ms es don a w) {seen : Array Nat} (hs : seen.toList = don.filterMap fun i => ms[i]?.map (·.born)) (h0 : (leftOf ms seen).size = 0) :
    ∀ i, i < es.length → i ∈ don := by
  intro i hi
  have hsz : ms.size = es.length := by have := VM.length F.vm; simpa using this
  have him : i < ms.size := by omega
  have hmem : ms[i].born ∈ seen.toList := by
    rcases Classical.em (ms[i].born ∈ seen.toList) with h | h
    · exact h
    · exfalso
      have : ms[i] ∈ leftOf ms seen := by
        unfold leftOf
        rw [Array.mem_filter]
        refine ⟨Array.getElem_mem him, ?_⟩
        simpa using h
      have := Array.size_pos_of_mem this
      omega
  rw [hs] at hmem
  obtain ⟨k, hk, hk2⟩ := List.mem_filterMap.1 hmem
  simp only [Option.map_eq_some_iff] at hk2
  obtain ⟨x, hx1, hx2⟩ := hk2
  have hkl := j.lt k hk
  have hkm : k < ms.size := by omega
  rw [Array.getElem?_eq_getElem hkm] at hx1
  cases hx1
  have hp := F.ok.1
  rw [List.pairwise_iff_getElem] at hp
  rcases Nat.lt_trichotomy i k with h | h | h
  · have := hp i k (by simpa using him) (by simpa using hkm) h
    simp at this; omega
  · rw [h]; exact hk
  · have := hp k i (by simpa using hkm) (by simpa using him) h
    simp at this; omega

/-- What a round leads to. -/
def afterRound (w1 : World) (S1 : Pub) (r bm blk since : Nat) (ms : Array MapEntry) (es : Ent) (don : List Nat) : Exit → Act → World → Prop
  | .normal, a, w => ∃ k, k ∉ don ∧ J w1 S1 r bm blk since ms es (don ++ [k]) a w
  | .exit 0, a, w => J w1 S1 r bm blk since ms es don a w ∧ ∀ i, i < es.length → i ∈ don
  | _, _, _ => False

theorem J.of_out (hl : es.length ≤ 1000000) {k : Nat} (hk : k ∉ don) (hke : k < es.length) (j : J w1 S1 r bm blk since ms es don a w) {S : Pub} {a2 a3 : Act} {w2 w3 : World} {s : St} (hr : ∃ seen c, w2.heap[r]? = some (.mapIter (some bm) since seen c) ∧ since ≤ c ∧ seen.toList = (don ++ [k]).filterMap fun i => ms[i]?.map (·.born))
    (hrl : r < w1.heap.size) (hrb : r ≠ blk) (h2 : w1.heap.size ≤ w2.heap.size) (h2o : ∀ b, b < w1.heap.size → b ≠ r → b ≠ blk → w2.heap[b]? = w1.heap[b]?) (h2r : ∀ b, rowSize w1.heap b ≤ rowSize w2.heap b) (h2t : Tw w1 w2)
    (hsz : a2.tmps.size = 26) (hdf : a2.defers = []) (hit : a2.tmps.getD 8 undef = .pointer (some ⟨r, 0, none⟩)) (sub : Sub S1 S)
    (ho : Out w1.heap.size ⟨fun b => b = blk, S1, fun _ => none⟩ S s a2 w2 a3 w3) (hit3 : a3.tmps.getD 8 undef = a2.tmps.getD 8 undef) {h e m : Nat} (hm : m = (termsAt es (don ++ [k])).length)
    (g1 : gt s 3 = some (.ref h e 0 m)) (g2 : look s h e = some ⟨0, 12, pcells (termsAt es (don ++ [k]))⟩) (g3 : (h, e) ∉ s.z) : J w1 S1 r bm blk since ms es (don ++ [k]) a3 w3 := by
  obtain ⟨S', N', o1, o2, o3, o4, o5, o6⟩ := ho
  obtain ⟨N2, f2⟩ := Fr.again o2 hm g1 g2 g3
  obtain ⟨seen, c, q1, q2, q3⟩ := hr
  refine ⟨⟨S', N2, sub.trans o1, f2⟩, o3.trans hsz, o4.trans hdf, hit3.trans hit, ⟨seen, c, ?_, q2, q3⟩, Nat.le_trans h2 o5.1, fun b b1 b2 b3 => (o5.2.1 b b1 b3).trans (h2o b b1 b2 b3), fun b => Nat.le_trans (h2r b) (o5.2.2 b), h2t.trans o6, ?_, ?_⟩
  · rw [o5.2.1 r hrl hrb]; exact q1
  · rw [List.nodup_append]
    refine ⟨j.nodup, by simp, ?_⟩
    intro x hx y hy
    simp at hy; subst hy
    rintro rfl; exact hk hx
  · intro i hi
    rcases List.mem_append.1 hi with hi | hi
    · exact j.lt i hi
    · simp at hi; subst hi; exact hke

theorem sgn_ne {c : Rat} : (sgn c != 0) = decide (c ≠ 0) := by
  by_cases h : c = 0
  · subst h; decide
  · have : sgn c ≠ 0 := fun e => h (sgn_zero.1 e)
    simp [h, this]

set_option maxHeartbeats 1000000 in
theorem round_walk (O : Ops P r3 r4 r5 r6 o30 o31 o40) (hsem : SemOK P cs) (hsign : ∀ q, cs n_rational_Sign [dRat q] = some (.i .i64 (sgn q), [])) (F : Fixed w1 S1 r bm blk since clk ms es)
    (j : J w1 S1 r bm blk since ms es don a w) :
    (Code.seq (.region i3 r3 false) (.seq (.cond (.tmp 10) .skip (.exit 0)) (.block 1 (.seq (.region i4 r4 false) (.seq (.region i5 r5 false) (.cond (.tmp 16) (.region i6 r6 false) .skip)))))).wp P (afterRound w1 S1 r bm blk since ms es don) a w := by
  obtain ⟨seen, c, hr, hsc, hseen⟩ := j.iter
  obtain ⟨S, N, sub, f⟩ := j.fr
  have hms : ms.size = es.length := by have := VM.length F.vm; simpa using this
  have hbm : w.heap[bm]? = some (.map ms clk) := (j.old bm (lt_of_get F.hb) F.hbr F.hbb).trans F.hb
  have e3 := O.e3
  subst e3
  refine wp_seq (wp_region ?_)
  show wpOps P #[o30, o31] _ [0, 1] a w
  have ev8 : a.eval (.tmp 8) = .pointer (some ⟨r, 0, none⟩) := j.it
  rcases run_next_at (P := P) w o30.type r bm since c seen ms clk hr hbm (fun x hx => by rw [F.sc]; exact F.ok.2 x hx) hsc with ⟨h0, hrun⟩ | ⟨e, he, wq, hwq, hrun⟩
  · -- nothing is left
    refine ops_one (i := 0) (o := o30) rfl O.g30 (v := .tuple #[.bool false]) (w' := w) ?_ ?_
    · unfold execOp; rw [O.p30]; simp only [ev8]; simp [hrun]
    refine ops_one (i := 1) (o := o31) rfl O.g31 (v := .bool false) (w' := w) ?_ ?_
    · unfold execOp; rw [O.p31, O.d30]
      have : (a.put (some 9) (.tuple #[.bool false])).eval (.tmp 9) = .tuple #[.bool false] := put_get (by rw [j.size]; omega)
      simp [this, Instr.extract]
    rw [O.d30, O.d31]
    have j2 := (j.put (d := 9) (v := .tuple #[.bool false]) (by omega) (by omega)).put (d := 10) (v := .bool false) (by omega) (by omega)
    refine wp_seq (wp_cond_false ?_ (wp_exit ?_))
    · exact put_get (by simp [put_some, j.size])
    · exact ⟨j2, round_done O F j hseen h0⟩
  · -- an entry
    unfold leftOf at he
    rw [Array.toList_filter] at he
    obtain ⟨he1, he2⟩ := List.mem_filter.1 he
    obtain ⟨k, hkl, hk⟩ := List.getElem_of_mem he1
    have hke : k < es.length := by simp at hkl; omega
    have hkm : ms[k]? = some e := by rw [← Array.getElem?_toList, List.getElem?_eq_getElem hkl, hk]
    have hkd : k ∉ don := by
      intro hk2
      have : e.born ∈ seen.toList := by rw [hseen]; exact List.mem_filterMap.2 ⟨k, hk2, by simp [hkm]⟩
      rw [show seen.contains e.born = true by simpa using this] at he2
      cases he2
    obtain ⟨⟨m, q⟩, hmq⟩ : ∃ x, es[k]? = some x := ⟨_, List.getElem?_eq_getElem hke⟩
    obtain ⟨e', g1, g2⟩ := VM.get F.vm (i := k) (d := dEnt (m, q)) (by simp [hmq])
    rw [Array.getElem?_toList, hkm] at g1
    cases g1
    -- the world behind the step
    have hwh : wq.heap = w.heap := by rcases hwq with rfl | rfl <;> rfl
    have hwt : Tw w wq := by rcases hwq with rfl | rfl; exact Tw.refl _; exact ⟨rfl, rfl, rfl, Nat.le_succ _⟩
    have hrw : r < w.heap.size := lt_of_get hr
    have hoth : ∀ b, b ≠ r → (setBlock wq r (.mapIter (some bm) since (seen.push e.born) clk)).heap[b]? = w.heap[b]? := fun b hb => by
      show (wq.heap.setIfInBounds r _)[b]? = _
      rw [Array.getElem?_setIfInBounds_ne (Ne.symm hb), hwh]
    have hat : (setBlock wq r (.mapIter (some bm) since (seen.push e.born) clk)).heap[r]? = some (.mapIter (some bm) since (seen.push e.born) clk) := by
      show (wq.heap.setIfInBounds r _)[r]? = _
      rw [hwh]; simp [hrw]
    have f2 : Fr w1.heap.size ⟨fun b => b = blk, S1, fun _ => none⟩ S N (stP (termsAt es don)) a.tmps (setBlock wq r (.mapIter (some bm) since (seen.push e.born) clk)).heap := by
      show Fr _ _ _ _ _ _ (wq.heap.setIfInBounds r _)
      rw [hwh]; exact Fr.step f hr _
    have hsz2 : w1.heap.size ≤ (setBlock wq r (.mapIter (some bm) since (seen.push e.born) clk)).heap.size := by
      show _ ≤ (wq.heap.setIfInBounds r _).size
      rw [hwh]; simpa using j.grow
    have hrows : ∀ b, rowSize w1.heap b ≤ rowSize (setBlock wq r (.mapIter (some bm) since (seen.push e.born) clk)).heap b := by
      intro b
      refine Nat.le_trans (j.rows b) ?_
      by_cases hb : b = r
      · subst hb; simp [rowSize, hr]
      · exact rowSize_of_eq (hoth b hb)
    have hold : ∀ b, b < w1.heap.size → b ≠ r → b ≠ blk → (setBlock wq r (.mapIter (some bm) since (seen.push e.born) clk)).heap[b]? = w1.heap[b]? := fun b b1 b2 b3 => (hoth b b2).trans (j.old b b1 b2 b3)
    have htw : Tw w1 (setBlock wq r (.mapIter (some bm) since (seen.push e.born) clk)) := j.tw.trans (hwt.trans ⟨rfl, rfl, rfl, Nat.le_refl _⟩)
    have hentry := run_entry_at (P := P) (setBlock wq r (.mapIter (some bm) since (seen.push e.born) clk)) r bm since seen ms clk e hat ((hoth bm F.hbr).trans hbm) he1 (by
      have := F.ok.1
      rw [← List.pairwise_map (f := fun m : MapEntry => m.born) (R := fun a b => a < b)] at this
      exact this.imp fun h => Nat.ne_of_lt h)
    have hseen2 : (seen.push e.born).toList = (don ++ [k]).filterMap fun i => ms[i]?.map (·.born) := by
      rw [List.filterMap_append]; simp [hseen, hkm]
    have hV : V (setBlock wq r (.mapIter (some bm) since (seen.push e.born) clk)).heap S N (.tup [dMono m, dRat q]) (.tuple #[e.key, e.val]) :=
      V.mono (F.keeps hold) sub Later.of_none _ _ g2
    generalize setBlock wq r (.mapIter (some bm) since (seen.push e.born) clk) = w2 at *
    refine ops_one (i := 0) (o := o30) rfl O.g30 (v := .tuple #[.bool true, e.key, e.val]) (w' := w2) ?_ ?_
    · unfold execOp; rw [O.p30]; simp only [ev8]; simp [hrun]
    refine ops_one (i := 1) (o := o31) rfl O.g31 (v := .bool true) (w' := w2) ?_ ?_
    · unfold execOp; rw [O.p31, O.d30]
      have : (a.put (some 9) (.tuple #[.bool true, e.key, e.val])).eval (.tmp 9) = .tuple #[.bool true, e.key, e.val] := put_get (by rw [j.size]; omega)
      simp [this, Instr.extract]
    rw [O.d30, O.d31]
    have f3 : Fr w1.heap.size ⟨fun b => b = blk, S1, fun _ => none⟩ S N (stP (termsAt es don)) ((a.put (some 9) (.tuple #[.bool true, e.key, e.val])).put (some 10) (.bool true)).tmps w2.heap :=
      FR.junk (FR.junk f2 (by rw [stP_v, if_neg (by omega)])) (by rw [stP_v, if_neg (by omega)])
    have sz3 : ((a.put (some 9) (.tuple #[.bool true, e.key, e.val])).put (some 10) (.bool true)).tmps.size = 26 := by simp [put_some, j.size]
    have df3 : ((a.put (some 9) (.tuple #[.bool true, e.key, e.val])).put (some 10) (.bool true)).defers = [] := j.defers
    have it3 : ((a.put (some 9) (.tuple #[.bool true, e.key, e.val])).put (some 10) (.bool true)).tmps.getD 8 undef = .pointer (some ⟨r, 0, none⟩) := by
      rw [getD_put (by simp), getD_put (by simp)]; exact j.it
    have c10 : ((a.put (some 9) (.tuple #[.bool true, e.key, e.val])).put (some 10) (.bool true)).eval (.tmp 10) = .bool true := put_get (by simp [put_some, j.size])
    generalize (a.put (some 9) (.tuple #[.bool true, e.key, e.val])).put (some 10) (.bool true) = a3 at *
    refine wp_seq (wp_cond_true c10 (wp_skip ?_))
    refine wp_block (wp_seq (wp_region ?_))
    have hl : List.range r4.size = 0 :: (List.range r4.size).drop 1 := by rw [O.s4]; rfl
    rw [hl]
    refine ops_one (i := 0) O.e40 O.g40 (v := .tuple #[e.key, e.val]) (w' := w2) ?_ ?_
    · unfold execOp; rw [O.p40]
      have : a3.eval (.tmp 8) = .pointer (some ⟨r, 0, none⟩) := it3
      simp only [this]; simp [hentry]
    rw [O.d40]
    have f4 : Fr w1.heap.size ⟨fun b => b = blk, S1, fun _ => none⟩ S N (app (stP (termsAt es don)) (val 11 (.tup [dMono m, dRat q]))) (a3.put (some 11) (.tuple #[e.key, e.val])).tmps w2.heap := Fr.val f3 hV (by rw [sz3]; omega) (by omega)
    have sz4 : (a3.put (some 11) (.tuple #[e.key, e.val])).tmps.size = 26 := by simp [put_some, sz3]
    have df4 : (a3.put (some 11) (.tuple #[e.key, e.val])).defers = [] := df3
    have it4 : (a3.put (some 11) (.tuple #[e.key, e.val])).tmps.getD 8 undef = .pointer (some ⟨r, 0, none⟩) := by rw [getD_put (by simp)]; exact it3
    generalize a3.put (some 11) (.tuple #[e.key, e.val]) = a4 at *
    obtain ⟨s5, ev4, q4⟩ := WL_ev (run4 cs (termsAt es don) m q)
    refine ops_ev [8] 1 O.t4 (by omega) hsem O.k4 f4 hsz2 (by rw [sz4]; omega) ev4 fun a5 w5 out5 sl5 => ?_
    obtain ⟨s6, ev5, q5, q5b⟩ := WL_ev (run5 hsign q4)
    have out5' := out5
    obtain ⟨S5, N5, u1, f5, u3, u4, u5, u6⟩ := out5
    refine wp_seq (wp_region ?_)
    have h0 : wpOps P r5 _ ((List.range r5.size).drop 0) a5 w5 := ops_ev [8] 0 O.t5 (by omega) hsem O.k5 f5 (Nat.le_trans hsz2 u5.1) (by omega) ev5 (Q := Exit.then ((Code.cond (.tmp 16) (.region i6 r6 false) .skip).wp P (Exit.inBlock 1 (afterRound w1 S1 r bm blk since ms es don))) (Exit.inBlock 1 (afterRound w1 S1 r bm blk since ms es don))) fun a6 w6 out6 sl6 => ?_
    · exact h0
    have it6 : a6.tmps.getD 8 undef = a4.tmps.getD 8 undef := (sl6 8 (by simp)).trans (sl5 8 (by simp))
    have out6' : Out w1.heap.size ⟨fun b => b = blk, S1, fun _ => none⟩ S s6 a4 w2 a6 w6 := out6.trans u1 u3 u4 u5 u6
    have hT : (termsAt es don).length ≤ 1000000 := Nat.le_trans (termsAt_length _ _) (Nat.le_trans (nodup_le j.nodup j.lt) F.len)
    have hbind : (es[k]?).bind termOf = termOf (m, q) := by rw [hmq]; rfl
    obtain ⟨S6, N6, v1, f6, v3, v4, v5, v6⟩ := out6
    have c16 : a6.eval (.tmp 16) = .bool (sgn q != 0) := by
      have := f6.slots 16 _ q5b
      simp only [V] at this
      exact this
    refine wp_cond_split c16 (fun hs => ?_) (fun hs => ?_)
    · have hq : q ≠ 0 := by rw [sgn_ne] at hs; simpa using hs
      obtain ⟨s7, ev6, h7, e7, q7, q8, q9⟩ := WL_ev (run6 hT q5)
      refine wp_region ?_
      have h0 : wpOps P r6 _ ((List.range r6.size).drop 0) a6 w6 := ops_ev [8] 0 O.t6 (by omega) hsem O.k6 f6 (Nat.le_trans (Nat.le_trans hsz2 u5.1) v5.1) (by omega) ev6 (Q := Exit.inBlock 1 (afterRound w1 S1 r bm blk since ms es don)) fun a7 w7 out7 sl7 => ?_
      · exact h0
      have e1 : termsAt es (don ++ [k]) = termsAt es don ++ [⟨q, m⟩] := by rw [termsAt_append, hbind]; simp [termOf, hq]
      have out7' : Out w1.heap.size ⟨fun b => b = blk, S1, fun _ => none⟩ S s7 a4 w2 a7 w7 := (out7.trans v1 v3 v4 v5 v6).trans u1 u3 u4 u5 u6
      exact ⟨k, hkd, J.of_out F.len hkd hke j ⟨_, _, hat, by rw [F.sc]; exact Nat.le_refl _, hseen2⟩ F.hr F.rb hsz2 hold hrows htw sz4 df4 it4 sub out7' ((sl7 8 (by simp)).trans it6) (by rw [e1]; simp) q7 (by rw [e1]; exact q8) q9⟩
    · have hq : q = 0 := by rw [sgn_ne] at hs; simpa using hs
      refine wp_skip ?_
      have e1 : termsAt es (don ++ [k]) = termsAt es don := by rw [termsAt_append, hbind]; simp [termOf, hq]
      exact ⟨k, hkd, J.of_out F.len hkd hke j ⟨_, _, hat, by rw [F.sc]; exact Nat.le_refl _, hseen2⟩ F.hr F.rb hsz2 hold hrows htw sz4 df4 it4 sub out6' it6 (by rw [e1]) q5.1 (by rw [e1, look_lst, q5.2.1]; simp [nth]) (by rw [q5.2.2.2.2.2.2.2]; simp)⟩
end
end
end Go.Ev

/- slices.SortFunc at the terms of a polynomial, said of deep values. -/
namespace Go.Ev
open Go.Pm Go.Proofs Go.Sort Go.Shelf

/-- A term, of whatever coefficient. -/
structure Q4 where
  a : DV
  b : DV
  c : DV
  d : DV
  m : Mono

def Q4.cells (q : Q4) : List DV := q.a :: q.b :: q.c :: q.d :: mcells q.m
def Q4.ok (q : Q4) : Prop := areDeep q.cells = true ∧ q.cells.all isCell = true

theorem Q4.cells_inj {p q : Q4} (h : p.cells = q.cells) : p = q := by
  simp only [Q4.cells, List.cons.injEq] at h
  obtain ⟨h1, h2, h3, h4, h5⟩ := h
  have h5 := mcells_inj h5
  cases p; cases q; simp_all

theorem Q4.cells_length (q : Q4) : q.cells.length = 12 := by simp [Q4.cells]

noncomputable def g_cmpQ : G := spec (fun a : Q4 × Q4 => [.agg a.1.cells, .agg a.2.cells]) (fun a => a.1.ok ∧ a.2.ok) (fun a => (.i .i64 (Mono.cmp a.2.m a.1.m), []))

/-- An element of the row. -/
structure El (hp : Hp) (S : Pub) where
  q : Q4
  vs : List Value
  ok : q.ok
  v : VL hp S N0 q.cells vs

instance (hp : Hp) (S : Pub) : Inhabited (El hp S) := ⟨⟨⟨.b false, .non, .b false, .non, Mono.zero⟩, [.bool false, .slice none 0 0, .bool false, .slice none 0 0, .int .i64 0, .int .i64 0, .int .i64 0, .int .i64 0, .int .i64 0, .int .i64 0, .int .i64 0, .int .i64 0], by
  constructor <;> rfl, by simp [Q4.cells, mcells, Mono.zero, Mono.l, VL, V]⟩⟩

variable {P : Program}

def cfEl {hp : Hp} {S : Pub} (x y : El hp S) : Int := Mono.cmp y.q.m x.q.m

theorem ltEl {hp : Hp} {S : Pub} {x y : El hp S} : ltOf cfEl x y = true ↔ 0 < Mono.cmp x.q.m y.q.m := by
  have e := Mono.cmp_neg x.q.m y.q.m
  unfold ltOf cfEl
  rw [decide_eq_true_iff, e]
  omega

theorem swoEl (hp : Hp) (S : Pub) : SWO (ltOf (cfEl (hp := hp) (S := S))) where
  irrefl x := by
    cases h : ltOf cfEl x x
    · rfl
    · have := ltEl.1 h; rw [Mono.cmp_self] at this; omega
  trans x y z h1 h2 := ltEl.2 (Mono.cmp_trans (ltEl.1 h1) (ltEl.1 h2))
  ntrans x y z h1 h2 := by
    cases h : ltOf cfEl x z
    · rfl
    · exfalso
      have h3 := ltEl.1 h
      have g1 : ¬ 0 < Mono.cmp x.q.m y.q.m := fun g => by rw [ltEl.2 g] at h1; cases h1
      have g2 : ¬ 0 < Mono.cmp y.q.m z.q.m := fun g => by rw [ltEl.2 g] at h2; cases h2
      rcases Mono.cmp_range x.q.m y.q.m with c | c | c
      · have e := Mono.cmp_neg x.q.m y.q.m
        have := Mono.cmp_trans (a := y.q.m) (b := x.q.m) (c := z.q.m) (by omega) h3
        exact g2 this
      · have := Mono.cmp_zero.1 c
        rw [this] at h3; exact g2 h3
      · omega

theorem El.len {hp : Hp} {S : Pub} (x : El hp S) : x.vs.length = 12 := by rw [VL.length x.v, Q4.cells_length]
theorem El.one {hp : Hp} {S : Pub} (x : El hp S) : ∀ v ∈ x.vs, v.oneCell' = true := areCells_ok x.v x.ok.2

theorem els_of {hp : Hp} {S : Pub} : ∀ {qs : List Q4} {us : List Value}, (∀ q ∈ qs, q.ok) → VL hp S N0 (qs.flatMap Q4.cells) us → ∃ l : List (El hp S), l.map El.q = qs ∧ l.flatMap El.vs = us
  | [], us, _, h => ⟨[], rfl, by simp only [List.flatMap_nil, VL] at h; simp [h]⟩
  | q :: r, us, hq, h => by
    rw [List.flatMap_cons] at h
    have h1 := VL.take 12 h
    have h2 := VL.drop 12 h
    rw [List.take_left' (Q4.cells_length q)] at h1
    rw [List.drop_left' (Q4.cells_length q)] at h2
    obtain ⟨l, e1, e2⟩ := els_of (fun p hp => hq p (List.mem_cons_of_mem _ hp)) h2
    exact ⟨⟨q, us.take 12, hq q (List.mem_cons_self ..), h1⟩ :: l, by simp [e1], by simp [e2]⟩

theorem flat_get {α : Type} {f : α → List Value} {k : Nat} (hk : 0 < k) (hf : ∀ x, (f x).length = k) : ∀ (l : List α) (j : Nat), (l.flatMap f)[j]? = (l[j / k]?).bind fun x => (f x)[j % k]?
  | [], j => by simp
  | x :: r, j => by
    rw [List.flatMap_cons, List.getElem?_append, hf]
    split
    · rename_i h
      rw [Nat.div_eq_of_lt h, Nat.mod_eq_of_lt h]; simp
    · rename_i h
      rw [flat_get hk hf r (j - k)]
      have e : j = (j - k) + k := by omega
      conv => rhs; rw [e, Nat.add_div_right _ hk, Nat.add_mod_right]
      simp

theorem flatK_toList {hp : Hp} {S : Pub} (d : Array (El hp S)) : (flatK El.vs 12 d).toList = d.toList.flatMap El.vs := by
  apply List.ext_getElem?
  intro j
  rw [flat_get (by omega) El.len]
  simp only [flatK, Array.toList_map, Array.toList_range, List.getElem?_map]
  by_cases h : j < d.size * 12
  · rw [List.getElem?_range h]
    have hd : j / 12 < d.size := by omega
    have hl := El.len d[j / 12]
    simp only [Option.map_some, Array.getElem?_toList]
    rw [Array.getElem?_eq_getElem hd, getElem!_pos d (j / 12) hd]
    simp only [Option.bind_some]
    have hm : j % 12 < (d[j / 12]).vs.length := by omega
    rw [List.getElem?_eq_getElem hm, getElem!_pos (d[j / 12]).vs (j % 12) hm]
  · rw [List.getElem?_eq_none (by simp; omega)]
    have : d.toList[j / 12]? = none := List.getElem?_eq_none (by simp; omega)
    rw [this]; rfl

/-! ### The call -/

theorem grow_of {w w' : World} (t : Tw w w') (hs : w.heap.size ≤ w'.heap.size) (old : ∀ b, b < w.heap.size → w'.heap[b]? = w.heap[b]?) : ∃ q os, w' = grow (w.drewN q) os := by
  refine ⟨w'.drawn - w.drawn, w'.heap.extract w.heap.size w'.heap.size, ?_⟩
  have e1 : w.heap ++ w'.heap.extract w.heap.size w'.heap.size = w'.heap := by
    apply Array.ext_getElem?
    intro i
    rw [Array.getElem?_append]
    split
    · rename_i h; exact (old i h).symm
    · rename_i h
      rw [Array.getElem?_extract]
      split
      · congr 1; omega
      · rw [Array.getElem?_eq_none (by omega)]
  have e2 : w.drawn + (w'.drawn - w.drawn) = w'.drawn := by have := t.drawn; omega
  obtain ⟨h, tp, dr, os, out⟩ := w'
  have h1 := t.os; have h2 := t.tape; have h3 := t.output
  simp only at h1 h2 h3 e1 e2
  subst h1 h2 h3
  unfold grow World.drewN
  simp only [e1, e2]

theorem cmpLays_of {hp0 : Hp} {S : Pub} {w : World} (hw : w.heap = hp0) {g : Nat} (hg : FnOK P g g_cmpQ) (wf : WF S hp0) {blk : Nat} (un : (∀ o, ¬ S.c blk o) ∧ ¬ S.m blk) (n : Nat) (hblk : blk < w.heap.size) :
    CmpLays P g #[] (El.vs (hp := hp0) (S := S)) 12 cfEl blk 0 n w := by
  intro m os dk hdk x y
  subst hw
  have hoth : ∀ b, b < w.heap.size → b ≠ blk → (sortWorldK El.vs 12 w blk 0 m dk os).heap[b]? = w.heap[b]? := by
    intro b hb hne
    unfold sortWorldK grow putRowK putRow mapBlock Sort.ahead
    simp only
    rw [Array.getElem?_append_left (by simpa using hb), Array.getElem?_modify, if_neg (Ne.symm hne)]
  have hsz : w.heap.size ≤ (sortWorldK El.vs 12 w blk 0 m dk os).heap.size := by
    unfold sortWorldK grow putRowK putRow mapBlock Sort.ahead
    simp
  have kp : Keeps S w.heap (sortWorldK El.vs 12 w blk 0 m dk os).heap := by
    constructor
    · intro b o hc
      obtain ⟨v, hv⟩ := wf.1 b o hc
      exact cellAt_of_eq (hoth b (lt_of_cell hv) (by rintro rfl; exact un.1 o hc))
    · intro b hc
      obtain ⟨e, c, hv⟩ := wf.2 b hc
      exact hoth b (lt_of_get hv) (by rintro rfl; exact un.2 hc)
  generalize sortWorldK El.vs 12 w blk 0 m dk os = W at *
  have hW : WF S W.heap := ⟨fun b o hc => by rw [kp.1 b o hc]; exact wf.1 b o hc, fun b hc => by rw [kp.2 b hc]; exact wf.2 b hc⟩
  have hx : V W.heap S N0 (.agg x.q.cells) (.agg x.vs.toArray) := V.mono kp (Sub.refl _) Later.of_none _ _ (by simp only [V]; exact ⟨_, rfl, x.v⟩)
  have hy : V W.heap S N0 (.agg y.q.cells) (.agg y.vs.toArray) := V.mono kp (Sub.refl _) Later.of_none _ _ (by simp only [V]; exact ⟨_, rfl, y.v⟩)
  have hds : areDeep [DV.agg x.q.cells, .agg y.q.cells] = true := by simp [areDeep, isDeep, x.ok.1, y.ok.1]
  have hspec : g_cmpQ [DV.agg x.q.cells, .agg y.q.cells] = some (.i .i64 (Mono.cmp y.q.m x.q.m), []) :=
    spec_eq (enc := fun a : Q4 × Q4 => [DV.agg a.1.cells, .agg a.2.cells]) (out := fun a => (DV.i .i64 (Mono.cmp a.2.m a.1.m), [])) (a := (x.q, y.q)) (fun a b h => by
      simp only [List.cons.injEq, DV.agg.injEq, and_true] at h
      exact Prod.ext (Q4.cells_inj h.1) (Q4.cells_inj h.2)) ⟨x.ok, y.ok⟩
  have hc := (hg _ _ _ hspec).2 W S [.agg x.vs.toArray, .agg y.vs.toArray] [] hW (ArgsR_of hds (by simp only [VL]; exact ⟨_, _, rfl, hx, _, _, rfl, hy, rfl⟩)) ⟨by simp, by simp⟩
  rw [Array.append_empty]
  refine Calls.mono hc fun e w' he => ?_
  obtain ⟨v, S', rfl, dn⟩ := he
  obtain ⟨news, _, _, _, n4⟩ := dn.res
  have hv := n4 0 0 (fun h e => if h = 0 then (news[e]?).map (fun p => some (p.1, p.2.sz)) else none) (fun i p hi => by simp [hi])
  rw [adoptR_i] at hv
  simp only [V] at hv
  subst hv
  exact ⟨rfl, grow_of dn.tw dn.size fun b hb => dn.old b hb (by simp)⟩

/-- Terms in order: none is above an earlier one. -/
def Sorted (qs : List Q4) : Prop := qs.Pairwise fun p q => ¬ 0 < Mono.cmp q.m p.m

/-- What slices.SortFunc does to a row of elements of twelve cells. -/
def SortLaw (P : Program) (F : FuncId) : Prop := ∀ (α : Type) [Inhabited α] (enc : α → List Value) (_ : ∀ x, (enc x).length = 12) (_ : ∀ x, ∀ v ∈ enc x, v.oneCell' = true) (cf : α → α → Int) (_ : SWO (ltOf cf)) (g : Nat) (cb : Array Value) (blk off cap : Nat) (d : Array α) (w : World)
    (_ : ∀ args w, (callFunc g args).run P w = .ok (.enter g args) w) (_ : CmpLays P g cb enc 12 cf blk off d.size w) (_ : HoldsK enc 12 w blk off d) (_ : blk < w.heap.size) (_ : d.size < 4611686018427387904),
    Calls P F #[.slice (some ⟨blk, off, none⟩) d.size cap, .func (.func g) #[] cb] w fun e w' =>
      e = .returned (.tuple #[]) ∧ ∃ d' n os, PermIn 0 d.size d d' ∧ SortedIn (ltOf cf) 0 d.size d' ∧ w' = sortWorldK enc 12 w blk off n d' os

theorem sort_ok {F : FuncId} (L : SortLaw P F) {g : Nat} (hg : FnOK P g g_cmpQ) {w : World} {S : Pub} (wf : WF S w.heap) {blk cap : Nat} (un : (∀ o, ¬ S.c blk o) ∧ ¬ S.m blk)
    {arr : Array Value} {E : TypeId} {us t : List Value} (hb : w.heap[blk]? = some (.cells arr E (0, 0))) (ha : arr.toList = us ++ t) {qs : List Q4} (hq : ∀ q ∈ qs, q.ok) (hv : VL w.heap S N0 (qs.flatMap Q4.cells) us) (hn : qs.length ≤ 1000000) :
    Calls P F #[.slice (some ⟨blk, 0, none⟩) qs.length cap, .func (.func g) #[] #[]] w fun e w' => e = .returned (.tuple #[]) ∧ ∃ qs' : List Q4, qs'.Perm qs ∧ Sorted qs' ∧ Tw w w' ∧ w.heap.size ≤ w'.heap.size ∧
      (∀ b, b < w.heap.size → b ≠ blk → w'.heap[b]? = w.heap[b]?) ∧ ∃ arr' us' t', w'.heap[blk]? = some (.cells arr' E (0, 0)) ∧ arr'.size = arr.size ∧ arr'.toList = us' ++ t' ∧ VL w'.heap S N0 (qs'.flatMap Q4.cells) us' := by
  obtain ⟨l, l1, l2⟩ := els_of (hp := w.heap) (S := S) hq hv
  have hblk := lt_of_get hb
  have hlen : l.length = qs.length := by rw [← l1]; simp
  have hus : us.length = l.length * 12 := by
    have := VL.length hv
    rw [this, hlen]
    clear l1 l2 hv hn hlen this hq
    induction qs with
    | nil => rfl
    | cons q r ih => rw [List.flatMap_cons, List.length_append, ih, Q4.cells_length]; simp; omega
  have hsp : ((1 : Nat) = 1) := rfl
  have known : ∀ args w', (callFunc g args).run P w' = .ok (.enter g args) w' := by
    have hd : (default : El w.heap S).q.ok := (default : El w.heap S).ok
    have hspec : g_cmpQ [DV.agg (default : El w.heap S).q.cells, .agg (default : El w.heap S).q.cells] = some (.i .i64 (Mono.cmp (default : El w.heap S).q.m (default : El w.heap S).q.m), []) :=
      spec_eq (enc := fun a : Q4 × Q4 => [DV.agg a.1.cells, .agg a.2.cells]) (out := fun a => (DV.i .i64 (Mono.cmp a.2.m a.1.m), [])) (a := ((default : El w.heap S).q, (default : El w.heap S).q)) (fun a b h => by
        simp only [List.cons.injEq, DV.agg.injEq, and_true] at h
        exact Prod.ext (Q4.cells_inj h.1) (Q4.cells_inj h.2)) ⟨hd, hd⟩
    exact fun args w' => run_callFunc (hg _ _ _ hspec).1 args w'
  have hH : HoldsK El.vs 12 w blk 0 l.toArray := by
    intro j hj
    rw [size_flatK] at hj
    have hju : j < us.length := by rw [hus]; simpa using hj
    have e1 : (flatK El.vs 12 l.toArray)[j]! = us[j] := by
      have h2 := flatK_toList l.toArray
      rw [List.toList_toArray, l2] at h2
      have h3 : (flatK El.vs 12 l.toArray)[j]? = us[j]? := by rw [← Array.getElem?_toList, h2]
      rw [getElem!_def, h3, List.getElem?_eq_getElem hju]
    have harr : arr[j]? = some us[j] := by
      rw [← Array.getElem?_toList, ha, List.getElem?_append_left hju, List.getElem?_eq_getElem hju]
    refine ⟨?_, by simp [World.frozen?, hb]⟩
    simp only [World.cell?, hb]
    simp [harr, e1]
  have hmain := L (El w.heap S) El.vs El.len El.one cfEl (swoEl w.heap S) g #[] blk 0 cap l.toArray w known (cmpLays_of rfl hg wf un _ hblk) hH hblk (by simp; omega)
  rw [show l.toArray.size = qs.length by simp [hlen]] at hmain
  refine Calls.mono hmain fun e w' he => ?_
  obtain ⟨rfl, d', n, os, hp, hs, rfl⟩ := he
  have hd'len : d'.size = qs.length := by have := hp.1; simpa [hlen] using this
  have hperm : d'.toList.Perm l := by
    have := hp.2.2
    simp only [Array.toList_extract, List.extract_eq_take_drop, List.drop_zero, Nat.sub_zero] at this
    rw [List.take_of_length_le (by simp [hd'len, hlen]), List.take_of_length_le (by simp [hlen])] at this
    exact this
  have hoth : ∀ b, b < w.heap.size → b ≠ blk → (sortWorldK El.vs 12 w blk 0 n d' os).heap[b]? = w.heap[b]? := by
    intro b hb hne
    unfold sortWorldK grow putRowK putRow mapBlock Sort.ahead
    simp only
    rw [Array.getElem?_append_left (by simpa using hb), Array.getElem?_modify, if_neg (Ne.symm hne)]
  have hsz : w.heap.size ≤ (sortWorldK El.vs 12 w blk 0 n d' os).heap.size := by
    unfold sortWorldK grow putRowK putRow mapBlock Sort.ahead
    simp
  have hat : (sortWorldK El.vs 12 w blk 0 n d' os).heap[blk]? = some (.cells (putCells id 0 (flatK El.vs 12 d') arr) E (0, 0)) := by
    unfold sortWorldK grow putRowK putRow mapBlock Sort.ahead
    simp only
    rw [Array.getElem?_append_left (by simpa using hblk), Array.getElem?_modify, if_pos rfl, hb]
    rfl
  have htw : Tw w (sortWorldK El.vs 12 w blk 0 n d' os) := ⟨rfl, rfl, rfl, Nat.le_add_right _ _⟩
  generalize sortWorldK El.vs 12 w blk 0 n d' os = W at *
  have kp : Keeps S w.heap W.heap := by
    constructor
    · intro b o hc
      obtain ⟨v, hv⟩ := wf.1 b o hc
      exact cellAt_of_eq (hoth b (lt_of_cell hv) (by rintro rfl; exact un.1 o hc))
    · intro b hc
      obtain ⟨e, c, hv⟩ := wf.2 b hc
      exact hoth b (lt_of_get hv) (by rintro rfl; exact un.2 hc)
  have hF := flatK_toList d'
  have hFs : (flatK El.vs 12 d').size = us.length := by rw [size_flatK, hus, hd'len, hlen]
  refine ⟨rfl, d'.toList.map El.q, by rw [← l1]; exact hperm.map _, ?_, htw, hsz, hoth, _, (flatK El.vs 12 d').toList, t, hat, by simp [putCells], ?_, ?_⟩
  · unfold Sorted
    rw [List.pairwise_map, List.pairwise_iff_getElem]
    intro i j hi hj hij
    have := hs i j (Nat.zero_le _) hij (by simpa [hd'len] using hj)
    rw [getElem!_pos d' i (by simpa using hi), getElem!_pos d' j (by simpa using hj)] at this
    intro h
    have h2 := (ltEl (x := d'[j]'(by simpa using hj)) (y := d'[i]'(by simpa using hi))).2 (by simpa using h)
    rw [h2] at this; cases this
  · apply List.ext_getElem?
    intro i
    rw [Array.getElem?_toList]
    unfold putCells
    rw [Array.getElem?_mapIdx, List.getElem?_append]
    have hl : (flatK El.vs 12 d').toList.length = us.length := by simpa using hFs
    rw [hl]
    have ha' : arr[i]? = (us ++ t)[i]? := by rw [← ha, Array.getElem?_toList]
    rw [ha', List.getElem?_append]
    by_cases h : i < us.length
    · rw [if_pos h, if_pos h, List.getElem?_eq_getElem h]
      simp only [Option.map_some]
      rw [if_pos ⟨Nat.zero_le _, by rw [hFs]; omega⟩]
      have h3 : i < (flatK El.vs 12 d').size := by omega
      rw [Array.getElem?_toList, Array.getElem?_eq_getElem h3]
      have h4 : (flatK El.vs 12 d')[i - 0]! = (flatK El.vs 12 d')[i] := by
        rw [Nat.sub_zero]; exact getElem!_pos (flatK El.vs 12 d') i h3
      rw [h4]; rfl
    · rw [if_neg h, if_neg h]
      cases t[i - us.length]? with
      | none => rfl
      | some v =>
        simp only [Option.map_some]
        rw [if_neg (by rw [hFs]; omega)]
  · rw [hF]
    clear hs hp hperm hd'len hFs hF hat
    generalize d'.toList = dl
    induction dl with
    | nil => simp [VL]
    | cons x r ih => simp only [List.map_cons, List.flatMap_cons]; exact VL.append (VL.mono kp (Sub.refl _) Later.of_none _ _ x.v) ih
end Go.Ev

/- The polynomial of a map: the terms that are not zero, in order. -/
namespace Go.Ev
open Go.Pm Go.Proofs Go.Sort Go.Shelf

/-! ### The plain law -/

def qOf (t : Tm) : Q4 := ⟨.b (decide (t.c.num < 0)), dNat t.c.num.natAbs, .b false, dNat t.c.den, t.m⟩
theorem qOf_cells (t : Tm) : (qOf t).cells = tcells t := rfl
theorem qOf_ok (t : Tm) : (qOf t).ok := ⟨by rw [qOf_cells]; exact tcells_deep t, by rw [qOf_cells]; exact tcells_cell t⟩
theorem qOf_flat (T : Poly) : (T.map qOf).flatMap Q4.cells = pcells T := by
  unfold pcells
  rw [List.flatMap_map]
  rfl

theorem insT_perm (t : Tm) : ∀ p, (insT t p).Perm (t :: p)
  | [] => by simp [insT]
  | u :: p => by
    unfold insT
    split
    · exact .refl _
    · exact ((insT_perm t p).cons u).trans (.swap ..)

theorem polyOf_perm : ∀ es : Ent, (polyOf es).Perm (es.filterMap termOf)
  | [] => by simp [polyOf]
  | (m, c) :: r => by
    unfold polyOf
    by_cases h : c = 0
    · rw [if_pos h, List.filterMap_cons_none (by simp [termOf, h])]; exact polyOf_perm r
    · rw [if_neg h, List.filterMap_cons_some (b := ⟨c, m⟩) (by simp [termOf, h])]
      exact (insT_perm _ _).trans ((polyOf_perm r).cons _)

theorem keys_one : ∀ {es : Ent} {m : Mono} {c c' : Rat}, KeysOk es → (m, c) ∈ es → (m, c') ∈ es → c = c'
  | [], _, _, _, _, h, _ => by simp at h
  | (k, v) :: r, m, c, c', hk, h, h' => by
    simp only [KeysOk, List.map_cons, List.nodup_cons] at hk
    rcases List.mem_cons.1 h with e | h <;> rcases List.mem_cons.1 h' with e' | h'
    · cases e; cases e'; rfl
    · cases e; exact absurd (List.mem_map.2 ⟨_, h', rfl⟩) hk.1
    · cases e'; exact absurd (List.mem_map.2 ⟨_, h, rfl⟩) hk.1
    · exact keys_one (es := r) hk.2 h h'

theorem sorted_polyOf {es : Ent} (h : KeysOk es) : Sorted ((polyOf es).map qOf) := by
  have hc := Canon.polyOf h
  unfold Sorted
  rw [List.pairwise_map]
  generalize polyOf es = p at hc
  induction p with
  | nil => exact .nil
  | cons t p ih =>
    refine .cons (fun u hu => ?_) (ih hc.2.2)
    have := hc.2.1 u hu
    have e := Mono.cmp_neg t.m u.m
    show ¬ 0 < Mono.cmp u.m t.m
    omega

theorem perm_eq {α : Type} {R : α → α → Prop} : ∀ {l l' : List α}, (∀ a b, a ∈ l → b ∈ l → R a b → R b a → a = b) → l.Pairwise R → l'.Pairwise R → l.Perm l' → l = l'
  | [], l', _, _, _, hp => by have := hp.nil_eq; exact this
  | a :: l, [], _, _, _, hp => by have := hp.length_eq; simp at this
  | a :: l, b :: l', ha, h1, h2, hp => by
    have hab : a = b := by
      have m1 : a ∈ b :: l' := hp.subset (List.mem_cons_self ..)
      have m2 : b ∈ a :: l := hp.symm.subset (List.mem_cons_self ..)
      rcases List.mem_cons.1 m1 with e | m1
      · exact e
      · rcases List.mem_cons.1 m2 with e | m2
        · exact e.symm
        · exact ha a b (List.mem_cons_self ..) (List.mem_cons_of_mem _ m2) ((List.pairwise_cons.1 h1).1 b m2) ((List.pairwise_cons.1 h2).1 a m1)
    subst hab
    congr 1
    exact perm_eq (fun x y hx hy => ha x y (List.mem_cons_of_mem _ hx) (List.mem_cons_of_mem _ hy)) (List.pairwise_cons.1 h1).2 (List.pairwise_cons.1 h2).2 hp.cons_inv

theorem poly_sorted {es : Ent} (h : KeysOk es) {qs : List Q4} (hp : qs.Perm ((es.filterMap termOf).map qOf)) (hs : Sorted qs) : qs = (polyOf es).map qOf := by
  refine perm_eq (R := fun p q : Q4 => ¬ 0 < Mono.cmp q.m p.m) (fun a b ha hb h1 h2 => ?_) hs (sorted_polyOf h) (hp.trans ((polyOf_perm es).map qOf).symm)
  have hm : a.m = b.m := by
    have e := Mono.cmp_neg a.m b.m
    exact Mono.cmp_zero.1 (by omega)
  obtain ⟨t, ht, rfl⟩ := List.mem_map.1 (hp.subset ha)
  obtain ⟨u, hu, rfl⟩ := List.mem_map.1 (hp.subset hb)
  obtain ⟨⟨m1, c1⟩, g1, g2⟩ := List.mem_filterMap.1 ht
  obtain ⟨⟨m2, c2⟩, g3, g4⟩ := List.mem_filterMap.1 hu
  unfold termOf at g2 g4
  split at g2
  · cases g2
  · split at g4
    · cases g4
    · cases g2; cases g4
      simp only [qOf] at hm
      subst hm
      have := keys_one h g1 g3
      subst this
      rfl

theorem termsAt_all {es : Ent} {don : List Nat} (hn : don.Nodup) (hl : ∀ i ∈ don, i < es.length) (ha : ∀ i, i < es.length → i ∈ don) : (termsAt es don).Perm (es.filterMap termOf) := by
  have hp : don.Perm (List.range es.length) := by
    refine (List.perm_ext_iff_of_nodup hn List.nodup_range).2 fun i => ?_
    rw [List.mem_range]
    exact ⟨hl i, ha i⟩
  have h1 : (termsAt es don).Perm (termsAt es (List.range es.length)) := hp.filterMap _
  have h2 : termsAt es (List.range es.length) = es.filterMap termOf := by
    unfold termsAt
    have : es.filterMap termOf = ((List.range es.length).filterMap (es[·]?)).filterMap termOf := by rw [range_get]
    rw [this, List.filterMap_filterMap]
  rw [← h2]; exact h1

/-! ### The comparison -/

variable {P : Program}

theorem cmpQ_rets (cs : Sem) (hcmp : ∀ a b, cs n_monomial_Cmp [dMono a, dMono b] = some (.i .i64 (Mono.cmp a b), [])) (p q : Q4) (hp : p.ok) (hq : q.ok) :
    Rets KK cs false c_polynomial_sum_poly_1 [.agg p.cells, .agg q.cells] (.i .i64 (Mono.cmp q.m p.m)) [] := by
  obtain ⟨a1, a2, a3, a4, m⟩ := p
  obtain ⟨b1, b2, b3, b4, k⟩ := q
  have e : ∀ (x1 x2 x3 x4 : DV) (m : Mono), part (x1 :: x2 :: x3 :: x4 :: mcells m) 4 8 true = some (dMono m) := fun _ _ _ _ _ => rfl
  obtain ⟨hp1, hp2⟩ := hp
  obtain ⟨hq1, hq2⟩ := hq
  simp only [Q4.cells] at *
  refine Rets.of rfl ?_
  unfold c_polynomial_sum_poly_1
  simp [hp1, hq1, hp2, hq2, hcmp, e]

theorem ok_cmpQ (hm : P.follows .mixedOrders = true) (hh : Has P n_polynomial_sum_poly_1 c_polynomial_sum_poly_1) (h1 : FnOK P n_monomial_Cmp g_monomial_Cmp) : FnOK P n_polynomial_sum_poly_1 g_cmpQ :=
  ok_of hm (l := [(n_monomial_Cmp, g_monomial_Cmp)]) (by simpa using h1) hh rfl fun a h => cmpQ_rets _ (fun a b => e_monomial_Cmp a b) a.1 a.2 h.1 h.2

/-! ### The walk -/

theorem ops_call {ops : Array Oper} {Q : Exit → Act → World → Prop} {i : Nat} {r : List Nat} {a : Act} {w : World} {o : Oper} {F : FuncId} {args : Array Value} (ho : ops[i]? = some o) (hg : o.guard = none)
    (hrun : (execOp a.eval o).run P w = .ok (.enter F args) w) (h : Calls P F args w fun e w' => ∃ v, e = .returned v ∧ wpOps P ops Q r (a.put o.dst v) w') : wpOps P ops Q (i :: r) a w := by
  have hw : Region.wanted o (yielded ops a.tmps) = true := by simp [Region.wanted, hg]
  simp only [wpOps, ho, hw, if_true]
  left
  unfold Oper.wp
  rw [hrun, Oper.upon_enter]
  refine Calls.mono h fun e w' he => ?_
  obtain ⟨v, rfl, h⟩ := he
  exact h

theorem Fr.init {w : World} {S : Pub} (wf : WF S w.heap) {d : DV} {v : Value} (hd : V w.heap S N0 d v) {a : Array Value} (ha : a.getD 0 undef = v) : Fr w.heap.size ⟨fun _ => False, S, fun _ => none⟩ S N0 (put st0 0 d) a w.heap := by
  refine ⟨fun i x h => ?_, fun h e ob ho => ?_, fun h e => ?_, fun h e p hp => (by cases hp), fun h e h' e' b sz sz' hp => (by cases hp), fun h e hz => ?_, wf.1, wf.2, fun b o h => .inl h, fun b h => .inl h, fun p b h => (by cases h)⟩
  · have h : gt (put st0 0 d) i = some x := h
    rw [gt_put (by omega), gt_st0] at h
    split at h
    · rename_i hi; cases h; subst hi; rw [ha]; exact hd
    · cases h
  · rw [lst_put, lst_st0] at ho; simp [nth] at ho
  · rw [lst_put, lst_st0]; simp
  · have : (put st0 0 d).z = [] := rfl
    rw [this] at hz; cases hz

/-- What the function is. -/
structure PolyFn (P : Program) (fn : Func) (r0 r1 r2 r3 r4 r5 r6 r7 r8 : Array Oper) (o20 o21 o30 o31 o40 o70 o71 o80 o81 : Oper) : Prop where
  body : ∃ i0 i1 i2 i3 i4 i5 i6 i7 i8, fn.body = some (.seq (.region i0 r0 false) (.seq (.region i1 r1 false) (.seq (.seq (.region i2 r2 false) (.block 0 (.loop (.seq (.region i3 r3 false) (.seq (.cond (.tmp 10) .skip (.exit 0)) (.block 1 (.seq (.region i4 r4 false) (.seq (.region i5 r5 false) (.cond (.tmp 16) (.region i6 r6 false) .skip)))))))))
    (.seq (.region i7 r7 false) (.seq (.region i8 r8 false) .ret)))))
  name : fn.name ≠ "runtime.NumGoroutine"
  ntmps : fn.ntmps = 26
  res : fn.results = #[.tmp 2]
  ops : Ops P r3 r4 r5 r6 o30 o31 o40
  t0 : toInsL P 26 r0 r0.toList = some [⟨none, .mv 2 (.c (.nil))⟩]
  t1 : toInsL P 26 r1 r1.toList = some [⟨none, .bslice 6 0 12 [.b false, .sl 0 [], .b false, .sl 0 [], .i .i64 0, .i .i64 0, .i .i64 0, .i .i64 0, .i .i64 0, .i .i64 0, .i .i64 0, .i .i64 0] []⟩, ⟨none, .mv 3 (.t 6)⟩]
  e2 : r2 = #[o20, o21]
  p20 : o20.op = .move (.tmp 0)
  d20 : o20.dst = some 7
  g20 : o20.guard = none
  p21 : ∃ ty k e, o21.op = .range ty (.tmp 7) ∧ P.underlying ty = some (.map k e)
  d21 : o21.dst = some 8
  g21 : o21.guard = none
  e7 : r7 = #[o70, o71]
  p70 : o70.op = .move (.tmp 3)
  d70 : o70.dst = some 23
  g70 : o70.guard = none
  p71 : ∃ c : Call, o71.op = .call c ∧ c.callee = .value (.func n_slices_SortFunc_api_Poly_api_Term) ∧ c.args = #[.tmp 23, .func n_polynomial_sum_poly_1]
  d71 : o71.dst = some 24
  g71 : o71.guard = none
  e8 : r8 = #[o80, o81]
  p80 : o80.op = .move (.tmp 3)
  d80 : o80.dst = some 25
  g80 : o80.guard = none
  p81 : o81.op = .assign (.tmp 25)
  d81 : o81.dst = some 2
  g81 : o81.guard = none

theorem run01 (cs : Sem) (d : DV) : WL KK cs [⟨none, .mv 2 (.c (.nil))⟩] (put st0 0 d) fun s => gt s 0 = some d ∧ s = put (put st0 0 d) 2 .nil := by
  simp
theorem run02 (cs : Sem) (d : DV) : WL KK cs [⟨none, .bslice 6 0 12 [.b false, .sl 0 [], .b false, .sl 0 [], .i .i64 0, .i .i64 0, .i .i64 0, .i .i64 0, .i .i64 0, .i .i64 0, .i .i64 0, .i .i64 0] []⟩, ⟨none, .mv 3 (.t 6)⟩] (put (put st0 0 d) 2 .nil) fun s =>
    gt s 0 = some d ∧ gt s 3 = some (.ref 6 0 0 0) ∧ look s 6 0 = some ⟨0, 12, []⟩ ∧ s.z = [] := by
  simp [nth]

noncomputable def g_sort0 : G := spec (fun _ : Unit => [.emp, .fn n_polynomial_sum_poly_1 []]) (fun _ => True) (fun _ => (.tup [], []))
theorem e_sort0 : g_sort0 [.emp, .fn n_polynomial_sum_poly_1 []] = some (.tup [], []) := spec_eq (a := ()) (fun _ _ _ => rfl) trivial
end Go.Ev

/- The function that makes a polynomial of a map: what it answers. -/
namespace Go.Ev
open Go.Pm Go.Proofs Go.Sort Go.Shelf
open Go.ChangeMaps (setBlock)
variable {P : Program}

/-- The end of the function: the row is sorted and handed back. -/
theorem poly_end {fn : Func} {r0 r1 r2 r3 r4 r5 r6 r7 r8 : Array Oper} {o20 o21 o30 o31 o40 o70 o71 o80 o81 : Oper} (X : PolyFn P fn r0 r1 r2 r3 r4 r5 r6 r7 r8 o20 o21 o30 o31 o40 o70 o71 o80 o81) (ks : Known P n_slices_SortFunc_api_Poly_api_Term)
    {i7 i8 : Nat} {a : Act} {w : World} (hsz : a.tmps.size = 26) {Q : Exit → Act → World → Prop} {x3 : Value} (h3 : a.tmps.getD 3 undef = x3)
    (hc : Calls P n_slices_SortFunc_api_Poly_api_Term #[x3, .func (.func n_polynomial_sum_poly_1) #[] #[]] w fun e w' => ∃ v, e = .returned v ∧ ∀ a', a'.tmps.getD 2 undef = x3 → a'.defers = a.defers → Q .ret a' w') :
    (Code.seq (.region i7 r7 false) (.seq (.region i8 r8 false) .ret)).wp P Q a w := by
  have e7 := X.e7
  have e8 := X.e8
  subst e7 e8
  refine wp_seq (wp_region ?_)
  show wpOps P #[o70, o71] _ [0, 1] a w
  refine ops_one (i := 0) (o := o70) rfl X.g70 (v := x3) (w' := w) ?_ ?_
  · unfold execOp; rw [X.p70]
    have : a.eval (.tmp 3) = x3 := h3
    simp [this]
  rw [X.d70]
  obtain ⟨c, hc1, hc2, hc3⟩ := X.p71
  have h23 : (a.put (some 23) x3).eval (.tmp 23) = x3 := put_get (by omega)
  refine ops_call (i := 1) (o := o71) rfl X.g71 (F := n_slices_SortFunc_api_Poly_api_Term) (args := #[x3, .func (.func n_polynomial_sum_poly_1) #[] #[]]) ?_ ?_
  · rw [← run_callFunc ks]
    unfold execOp; rw [hc1]
    have e1 : (a.put (some 23) x3).eval (.func n_slices_SortFunc_api_Poly_api_Term) = .func (.func n_slices_SortFunc_api_Poly_api_Term) #[] #[] := rfl
    have e2 : (a.put (some 23) x3).eval (.func n_polynomial_sum_poly_1) = .func (.func n_polynomial_sum_poly_1) #[] #[] := rfl
    simp only [resolve, hc2, hc3, e1]
    simp only [Deferred.ofValue, Sem.run_bind, Sem.run_pure, Result.andThen_ok, invoke]
    simp [h23, e2]
  rw [X.d71]
  refine Calls.mono hc fun e w' he => ?_
  obtain ⟨v, rfl, hQ⟩ := he
  refine ⟨v, rfl, ?_⟩
  have h3b : ((a.put (some 23) x3).put (some 24) v).tmps.getD 3 undef = x3 := by rw [getD_put (by simp), getD_put (by simp)]; exact h3
  have hs2 : ((a.put (some 23) x3).put (some 24) v).tmps.size = 26 := by simp [put_some, hsz]
  have hd2 : ((a.put (some 23) x3).put (some 24) v).defers = a.defers := rfl
  generalize (a.put (some 23) x3).put (some 24) v = a2 at *
  refine wp_seq (wp_region ?_)
  show wpOps P #[o80, o81] _ [0, 1] a2 w'
  refine ops_one (i := 0) (o := o80) rfl X.g80 (v := x3) (w' := w') ?_ ?_
  · unfold execOp; rw [X.p80]
    have : a2.eval (.tmp 3) = x3 := h3b
    simp [this]
  rw [X.d80]
  refine ops_one (i := 1) (o := o81) rfl X.g81 (v := x3) (w' := w') ?_ ?_
  · unfold execOp; rw [X.p81]
    have : (a2.put (some 25) x3).eval (.tmp 25) = x3 := put_get (by omega)
    simp [this]
  rw [X.d81]
  exact wp_ret (hQ _ (put_get (by simp [put_some, hs2])) hd2)

theorem msl_row {w : World} {S : Pub} {N : Nm} {es : List DV} {v : Value} (h : V w.heap S N (.msl es) v) (hd : areDeep es = true) : ∃ bm ms clk, v = .map (some bm) ∧ S.m bm ∧ w.heap[bm]? = some (.map ms clk) ∧ MapOK ms clk ∧ VM w.heap S N0 es ms.toList := by
  simp only [V] at h
  obtain ⟨r, ms, clk, h1, h2, h3, h4, h5⟩ := h
  exact ⟨r, ms, clk, h1, h2, h3, h4.2, VM.deep _ _ hd h5⟩

/-- What the loop is entered with. -/
theorem poly_start {es : Ent} (hlen : es.length ≤ 1000000) {w0 w1 : World} {S0 S1 : Pub} {N1 : Nm} {s1 : St} {a1 : Act} (f1 : Fr w0.heap.size ⟨fun _ => False, S0, fun _ => none⟩ S1 N1 s1 a1.tmps w1.heap) (hsz : a1.tmps.size = 26) (hdf : a1.defers = [])
    (g0 : gt s1 0 = some (.msl (es.map dEnt))) (g3 : gt s1 3 = some (.ref 6 0 0 0)) (g6 : look s1 6 0 = some ⟨0, 12, []⟩) (gz : s1.z = []) (g7 : gt s1 7 = none) (g8 : gt s1 8 = none) :
    ∃ bm ms clk blk, a1.tmps.getD 0 undef = .map (some bm) ∧ w1.heap[bm]? = some (.map ms clk) ∧ (w0.heap.size ≤ blk) ∧
      Fixed (w1.alloc (.mapIter (some bm) clk #[] clk)) S1 w1.heap.size bm blk clk clk ms es ∧
      J (w1.alloc (.mapIter (some bm) clk #[] clk)) S1 w1.heap.size bm blk clk ms es [] ((a1.put (some 7) (.map (some bm))).put (some 8) (.pointer (some ⟨w1.heap.size, 0, none⟩))) (w1.alloc (.mapIter (some bm) clk #[] clk)) := by
  obtain ⟨bm, ms, clk, h1, h2, h3, h4, h5⟩ := msl_row (f1.slots 0 _ g0) (ent_deep es)
  obtain ⟨blk, q1, q2, q3⟩ := f1.obs 6 0 _ g6
  have hbase : w0.heap.size ≤ blk := by
    rcases q3 with q3 | q3
    · exact q3
    · exact q3.elim
  have hz : ¬ ((6, 0) ∈ s1.z) := by rw [gz]; simp
  have wf := WF.of f1
  have un : (∀ o, ¬ S1.c blk o) ∧ ¬ S1.m blk := OB.unpub wf (OB.unnamed (by rfl) (fun h => (hz h).elim) q2)
  have hblk := q2.block
  have hbm := lt_of_get h3
  have hbb : bm ≠ blk := by rintro rfl; exact un.2 h2
  have g : Grows w1.heap (w1.alloc (.mapIter (some bm) clk #[] clk)).heap := Grows.push _ _
  have hnew : (w1.alloc (.mapIter (some bm) clk #[] clk)).heap[w1.heap.size]? = some (.mapIter (some bm) clk #[] clk) := heap_alloc_new w1 _
  have hsize : (w1.alloc (.mapIter (some bm) clk #[] clk)).heap.size = w1.heap.size + 1 := by
    show (w1.heap.push _).size = _
    simp
  have f2 : Fr w0.heap.size ⟨fun _ => False, S0, fun _ => none⟩ S1 N1 s1 ((a1.put (some 7) (.map (some bm))).put (some 8) (.pointer (some ⟨w1.heap.size, 0, none⟩))).tmps (w1.alloc (.mapIter (some bm) clk #[] clk)).heap :=
    FR.junk (FR.junk (FR.grows f1 g) g7) g8
  have kp := f1.keeps g
  refine ⟨bm, ms, clk, blk, h1, h3, hbase, ?_⟩
  generalize hw2 : w1.alloc (.mapIter (some bm) clk #[] clk) = w2 at *
  refine ⟨⟨WF.of f2, by omega, ⟨_, _, hnew⟩, (g.2 bm hbm).trans h3, by omega, hbb, by omega, by omega, un, VM.mono kp (Sub.refl _) Later.of_none _ _ h5, h4, rfl, hlen⟩, ?_⟩
  refine ⟨⟨S1, _, Sub.refl _, FR.restart f2 (base' := w2.heap.size) (L' := ⟨fun b => b = blk, S1, fun _ => none⟩) (fun _ => rfl) (t := 3) (f2.slots 3 _ g3) g6 q1 rfl hz (.inr rfl) (fun b o h => .inl h) (fun b h => .inl h) (stP (termsAt es [])).v.get
    (fun i d hd hi => ?_) ?_ (lst (stP (termsAt es []))) (stP_lst _) _ (fun p hp => ?_)⟩, by simp [put_some, hsz], hdf, ?_, ⟨#[], clk, hnew, Nat.le_refl _, rfl⟩, Nat.le_refl _, fun _ _ _ _ => rfl, fun _ => Nat.le_refl _, Tw.refl _, by simp, by simp⟩
  · rw [stP_v, if_neg hi] at hd; cases hd
  · rw [stP_v, if_pos rfl]; rfl
  · have : (stP (termsAt es [])).z = [] := rfl
    rw [this] at hp; cases hp
  · exact put_get (by simp [put_some, hsz])

theorem V_emp {hp : Hp} {S : Pub} {N N' : Nm} {h e : Nat} {x : Value} (hv : V hp S N (.ref h e 0 0) x) : V hp S N' .emp x := by
  simp only [V] at hv ⊢
  obtain ⟨a, cap, r, h1, h2, h3, h4, h5⟩ := hv
  exact ⟨a, cap, h1, fun _ => h3⟩

set_option maxHeartbeats 1000000 in
theorem ok_sumpoly {fn : Func} {r0 r1 r2 r3 r4 r5 r6 r7 r8 : Array Oper} {o20 o21 o30 o31 o40 o70 o71 o80 o81 : Oper} (hm : P.follows .mixedOrders = true) (hf : P.funcs[n_polynomial_sum_poly]? = some fn) (X : PolyFn P fn r0 r1 r2 r3 r4 r5 r6 r7 r8 o20 o21 o30 o31 o40 o70 o71 o80 o81)
    (hsign : FnOK P n_rational_Sign g_sign) (hcmp : FnOK P n_polynomial_sum_poly_1 g_cmpQ) (hsort0 : FnOK P n_slices_SortFunc_api_Poly_api_Term g_sort0) (L : SortLaw P n_slices_SortFunc_api_Poly_api_Term) : FnOK P n_polynomial_sum_poly g_sumpoly := by
  refine spec_ok fun es hes => ?_
  obtain ⟨hk, hlen⟩ := hes
  have ks : Known P n_slices_SortFunc_api_Poly_api_Term := (hsort0 _ _ _ e_sort0).1
  have hsem : SemOK P (sem [(n_rational_Sign, g_sign)]) := sem_ok (by simpa using hsign)
  obtain ⟨i0, i1, i2, i3, i4, i5, i6, i7, i8, hbody⟩ := X.body
  have hmd : isDeep (.msl (es.map dEnt)) = true := by simp only [isDeep]; exact ent_deep es
  refine FnAt.hand hf X.name hbody hmd (dPoly_deep _) X.res fun w S v a wf hv ha hd => ?_
  have hasz : a.tmps.size = 26 := by rw [ha, X.ntmps]; simp
  have ha0 : a.tmps.getD 0 undef = v := by rw [ha, Array.getD_eq_getD_getElem?, Array.getElem?_append_left (by simp)]; simp
  -- the first two regions
  obtain ⟨s1, ev1, _, rfl⟩ := WL_ev (run01 (sem [(n_rational_Sign, g_sign)]) (.msl (es.map dEnt)))
  refine wp_seq (region_ok (K := KK) hm (by omega) hsem X.t0 (by simp) (Fr.init wf hv ha0) (Nat.le_refl _) (by omega) ev1 fun a1 w1 out1 => ?_)
  obtain ⟨S1, N1, u1, f1, u3, u4, u5, u6⟩ := out1
  obtain ⟨s2, ev2, g0, g3, g6, gz⟩ := WL_ev (run02 (sem [(n_rational_Sign, g_sign)]) (.msl (es.map dEnt)))
  have g78 : gt s2 7 = none ∧ gt s2 8 = none := by
    have := WL_ev (K := KK) (cs := sem [(n_rational_Sign, g_sign)]) (ops := [⟨none, .bslice 6 0 12 [.b false, .sl 0 [], .b false, .sl 0 [], .i .i64 0, .i .i64 0, .i .i64 0, .i .i64 0, .i .i64 0, .i .i64 0, .i .i64 0, .i .i64 0] []⟩, ⟨none, .mv 3 (.t 6)⟩]) (s := put (put st0 0 (.msl (es.map dEnt))) 2 .nil) (Q := fun s => gt s 7 = none ∧ gt s 8 = none) (by simp)
    obtain ⟨sf, e1, e2⟩ := this
    rw [ev2] at e1; cases e1
    exact e2
  refine wp_seq (region_ok (K := KK) hm (by omega) hsem X.t1 (by simp) f1 u5.1 (by omega) ev2 fun a2 w2 out2 => ?_)
  obtain ⟨S2, N2, t1, f2, t3, t4, t5, t6⟩ := out2
  have hsz2 : a2.tmps.size = 26 := by omega
  have hdf2 : a2.defers = [] := (t4.trans u4).trans hd
  have sub2 : Sub S S2 := u1.trans t1
  have keep2 := u5.trans t5
  have tw2 := u6.trans t6
  have newc2 : ∀ b o, S2.c b o → S.c b o ∨ w.heap.size ≤ b := fun b o h => (f2.oldc b o h).imp id fun h => h.resolve_right id
  have newm2 : ∀ b, S2.m b → S.m b ∨ w.heap.size ≤ b := fun b h => (f2.oldm b h).imp id fun h => h.resolve_right id
  obtain ⟨bm, ms, clk, blk, hbm, hbh, hblk, F, j⟩ := poly_start hlen f2 hsz2 hdf2 g0 g3 g6 gz g78.1 g78.2
  -- the map is asked for its entries
  have e2 := X.e2
  subst e2
  refine wp_seq (wp_seq (wp_region ?_))
  show wpOps P #[o20, o21] _ [0, 1] a2 w2
  refine ops_one (i := 0) (o := o20) rfl X.g20 (v := .map (some bm)) (w' := w2) ?_ ?_
  · unfold execOp; rw [X.p20]
    have : a2.eval (.tmp 0) = .map (some bm) := hbm
    simp [this]
  rw [X.d20]
  obtain ⟨ty, kt, et, p21, pu⟩ := X.p21
  refine ops_one (i := 1) (o := o21) rfl X.g21 (v := .pointer (some ⟨w2.heap.size, 0, none⟩)) (w' := w2.alloc (.mapIter (some bm) clk #[] clk)) ?_ ?_
  · unfold execOp; rw [p21]
    have : (a2.put (some 7) (.map (some bm))).eval (.tmp 7) = .map (some bm) := put_get (by omega)
    simp [this, run_range_map w2 ty kt et bm ms clk pu hbh]
  rw [X.d21]
  have hgr3 : Grows w2.heap (w2.alloc (.mapIter (some bm) clk #[] clk)).heap := Grows.push _ _
  have tw3 : Tw w (w2.alloc (.mapIter (some bm) clk #[] clk)) := tw2.trans ⟨rfl, rfl, rfl, Nat.le_refl _⟩
  have keep3 : Keep w.heap.size ⟨fun _ => False, S, fun _ => none⟩ w.heap (w2.alloc (.mapIter (some bm) clk #[] clk)).heap := keep2.trans (Keep.grows keep2.1 hgr3)
  have hrsz : w.heap.size ≤ w2.heap.size := keep2.1
  generalize w2.alloc (.mapIter (some bm) clk #[] clk) = w3 at *
  generalize (a2.put (some 7) (.map (some bm))).put (some 8) (.pointer (some ⟨w2.heap.size, 0, none⟩)) = a3 at *
  -- the loop
  refine wp_block (wp_loop (fun a w => ∃ don, J w3 S2 w2.heap.size bm blk clk ms es don a w) (fun a w => es.length - (match w.heap[w2.heap.size]? with
    | some (.mapIter _ _ seen _) => seen.size
    | _ => 0)) ⟨[], j⟩ fun a4 w4 hI => ?_)
  obtain ⟨don, j4⟩ := hI
  have lenseen : ∀ {don : List Nat} {a : Act} {w : World}, J w3 S2 w2.heap.size bm blk clk ms es don a w → (match w.heap[w2.heap.size]? with
    | some (.mapIter _ _ seen _) => seen.size
    | _ => 0) = don.length := by
    intro don a w j
    obtain ⟨seen, c, h1, h2, h3⟩ := j.iter
    rw [h1]
    simp only
    rw [← Array.length_toList, h3]
    have hms : ms.size = es.length := by have := VM.length F.vm; simpa using this
    have : ∀ l : List Nat, (∀ i ∈ l, i < es.length) → (l.filterMap fun i => ms[i]?.map (·.born)).length = l.length := by
      intro l
      induction l with
      | nil => intro _; rfl
      | cons x r ih =>
        intro hl
        have hx := hl x (List.mem_cons_self ..)
        have hx2 : x < ms.size := by omega
        rw [List.filterMap_cons_some (b := ms[x].born) (by rw [Array.getElem?_eq_getElem hx2]; rfl)]
        simp [ih fun i hi => hl i (List.mem_cons_of_mem _ hi)]
    exact this don j.lt
  refine wp_mono (round_walk X.ops hsem (fun q => e_sign q) F j4) fun e a5 w5 h => ?_
  cases e with
  | normal =>
    obtain ⟨k, hkd, j5⟩ := h
    refine ⟨⟨_, j5⟩, ?_⟩
    rw [lenseen j5, lenseen j4]
    have := nodup_le j5.nodup j5.lt
    simp at this ⊢; omega
  | exit id =>
    cases id with
    | succ n => exact h.elim
    | zero =>
    obtain ⟨j5, hall⟩ := h
    show (Code.seq (.region i7 r7 false) (.seq (.region i8 r8 false) .ret)).wp P _ a5 w5
    have hperm := termsAt_all j5.nodup j5.lt hall
    obtain ⟨S5, N5, sub5, f5⟩ := j5.fr
    have keep5 : (∀ b, b < w.heap.size → w5.heap[b]? = w.heap[b]?) := fun b hb => (j5.old b (by have := keep3.1; omega) (by omega) (by omega)).trans (keep3.2.1 b hb (by simp))
    have size5 : w.heap.size ≤ w5.heap.size := Nat.le_trans keep3.1 j5.grow
    have rows5 : ∀ b, rowSize w.heap b ≤ rowSize w5.heap b := fun b => Nat.le_trans (keep3.2.2 b) (j5.rows b)
    have tw5 : Tw w w5 := tw3.trans j5.tw
    have newc5 : ∀ b o, S5.c b o → S.c b o ∨ w.heap.size ≤ b := fun b o h => by
      rcases f5.oldc b o h with h | h | h
      · exact newc2 b o h
      · have := keep3.1; right; omega
      · right; have : b = blk := h; omega
    have newm5 : ∀ b, S5.m b → S.m b ∨ w.heap.size ≤ b := fun b h => by
      rcases f5.oldm b h with h | h | h
      · exact newm2 b h
      · have := keep3.1; right; omega
      · right; have : b = blk := h; omega
    have sub05 : Sub S S5 := sub2.trans sub5
    have hv3 := f5.slots 3 _ (by rw [stP_v, if_pos rfl])
    have hlook : look (stP (termsAt es don)) 3 0 = some ⟨0, 12, pcells (termsAt es don)⟩ := by rw [look_lst, stP_lst, if_pos rfl]; simp [nth]
    obtain ⟨b5, q1, q2, q3⟩ := f5.obs 3 0 _ hlook
    have hb5 : w.heap.size ≤ b5 := by
      rcases q3 with q3 | q3
      · have := keep3.1; omega
      · have : b5 = blk := q3; omega
    have wf5 := WF.of f5
    have hz5 : (stP (termsAt es don)).z = [] := rfl
    have un5 : (∀ o, ¬ S5.c b5 o) ∧ ¬ S5.m b5 := OB.unpub wf5 (OB.unnamed (pcells_deep _) (fun h => by rw [hz5] at h; cases h) q2)
    refine poly_end X ks j5.size rfl ?_
    by_cases hT : termsAt es don = []
    · -- no term
      rw [hT] at hv3
      have hve := V_emp (N' := N0) hv3
      have hP : polyOf es = [] := by
        have := (polyOf_perm es).trans hperm.symm
        rw [hT] at this
        exact this.eq_nil
      have hc := (hsort0 _ _ _ e_sort0).2 w5 S5 [a5.tmps.getD 3 undef, .func (.func n_polynomial_sum_poly_1) #[] #[]] [] wf5 (ArgsR_of (by rfl) (by
        simp only [VL]
        exact ⟨_, _, rfl, hve, _, _, rfl, by simp only [V, VL]; exact ⟨[], rfl, rfl⟩, rfl⟩)) ⟨by simp, by simp⟩
      refine Calls.mono hc fun e w6 he => ?_
      obtain ⟨v6, S6, rfl, dn⟩ := he
      refine ⟨v6, rfl, fun a' ha' hd' => ⟨rfl, hd'.trans j5.defers, S6, sub05.trans dn.sub, dn.wf, Nat.le_trans size5 dn.size, fun b hb => (dn.old b (by omega) (by simp)).trans (keep5 b hb), fun b => Nat.le_trans (rows5 b) (dn.rows b), fun b o h => ?_, fun b h => ?_, ?_, tw5.trans dn.tw⟩⟩
      · rcases dn.newc b o h with h | h
        · exact newc5 b o h
        · right; omega
      · rcases dn.newm b h with h | h
        · exact newm5 b h
        · right; omega
      · rw [ha', hP]
        simp only [V] at hve
        obtain ⟨ad, cap, h1, h2⟩ := hve
        simp only [List.length_nil, pcells_nil, V]
        exact ⟨some ad, cap, h1, Nat.zero_le _, rfl, ⟨by simp, by simp⟩, fun ad' e hc => by cases e; exact ⟨h2 hc, by simp only [VC]⟩⟩
    · -- terms
      rcases q2 with ⟨c1, _⟩ | ⟨c1, arr, E, vs, t, c2, c3, c4, c5, c6⟩
      · cases c1
      have hTl : 0 < (termsAt es don).length := List.length_pos_iff.2 hT
      simp only [V] at hv3
      obtain ⟨ad, cap, rr, x1, x2, x3, x4, x5⟩ := hv3
      rw [q1] at x4; cases x4
      obtain ⟨y1, y2, y3⟩ := x5 b5 12 rfl (by omega)
      have had : ad = ⟨b5, 0, none⟩ := by
        obtain ⟨bb, oo, sp⟩ := ad
        simp only at x3 y1 y2
        subst x3 y1 y2
        rfl
      have hvl : VL w5.heap S5 N0 (((termsAt es don).map qOf).flatMap Q4.cells) vs := by rw [qOf_flat]; exact VL.deep _ _ (pcells_deep _) c4
      have hTm : (termsAt es don).length ≤ 1000000 := Nat.le_trans (termsAt_length _ _) (Nat.le_trans (nodup_le j5.nodup j5.lt) hlen)
      have hc := sort_ok (cap := cap) L hcmp wf5 un5 c2 c3 (qs := (termsAt es don).map qOf) (fun q hq => by obtain ⟨t, _, rfl⟩ := List.mem_map.1 hq; exact qOf_ok t) hvl (by simpa using hTm)
      rw [List.length_map] at hc
      rw [x1, had]
      refine Calls.mono hc fun e w6 he => ?_
      obtain ⟨rfl, qs', p1, p2, p3, p4, p5, arr', us', t', p6, p7, p8, p9⟩ := he
      have hqs : qs' = (polyOf es).map qOf := poly_sorted hk (p1.trans (hperm.map _)) p2
      rw [hqs, qOf_flat] at p9
      have hPl : (polyOf es).length = (termsAt es don).length := by
        have := p1.length_eq
        rw [hqs] at this
        simpa using this
      -- what is published in the end
      have hl9 := VL.length p9
      have keepS : Keeps S5 w5.heap w6.heap := by
        constructor
        · intro b o h
          obtain ⟨v, hv⟩ := wf5.1 b o h
          exact cellAt_of_eq (p5 b (lt_of_cell hv) (by rintro rfl; exact un5.1 o h))
        · intro b h
          obtain ⟨x, y, hv⟩ := wf5.2 b h
          exact p5 b (lt_of_get hv) (by rintro rfl; exact un5.2 h)
      let S6 : Pub := ⟨fun b o => S5.c b o ∨ (b = b5 ∧ o < (pcells (polyOf es)).length), S5.m, S5.r, S5.ok⟩
      have sub6 : Sub S5 S6 := ⟨fun _ _ h => .inl h, fun _ h => h, rfl⟩
      have wf6 : WF S6 w6.heap := by
        constructor
        · intro b o h
          rcases h with h | ⟨rfl, h⟩
          · rw [keepS.1 b o h]; exact wf5.1 b o h
          · have hlt : o < us'.length := by omega
            refine ⟨us'[o], ?_⟩
            simp only [cellAt, p6]
            rw [← Array.getElem?_toList, p8, List.getElem?_append_left hlt, List.getElem?_eq_getElem hlt]
        · intro b h
          rw [keepS.2 b h]; exact wf5.2 b h
      refine ⟨_, rfl, fun a' ha' hd' => ⟨rfl, hd'.trans j5.defers, S6, sub05.trans sub6, wf6, Nat.le_trans size5 p4, fun b hb => (p5 b (by omega) (by omega)).trans (keep5 b hb), fun b => Nat.le_trans (rows5 b) ?_, fun b o h => ?_, fun b h => newm5 b h, ?_, tw5.trans p3⟩⟩
      · by_cases hb : b = b5
        · subst hb
          simp only [rowSize, c2, p6]; omega
        · rcases Nat.lt_or_ge b w5.heap.size with hb2 | hb2
          · exact rowSize_of_eq (p5 b hb2 hb)
          · simp [rowSize, Array.getElem?_eq_none hb2]
      · rcases h with h | ⟨rfl, _⟩
        · exact newc5 b o h
        · exact .inr hb5
      · rw [ha']
        simp only [V]
        refine ⟨some ⟨b5, 0, none⟩, cap, by rw [hPl], by omega, pcells_deep _, ⟨by simp, fun h => by omega⟩, fun ad' e _ => ?_⟩
        cases e
        refine ⟨rfl, ?_⟩
        have := VC.of_row p6 p8 (VL.mono (Keeps.refl S5 w6.heap) sub6 (Later.refl _ _) _ _ p9) (fun o ho => .inr ⟨rfl, ho⟩) 0
        simpa using this
  | _ => exact h.elim
end Go.Ev

/- SortFunc at the terms of a polynomial, in the program. -/
namespace Go.Proofs
open Go.Shelf Go.RowKit Go.Lib Go.Sort
set_option maxRecDepth 100000
def Tryz.sortTerms_ren : Go.Shelf.Ren := ⟨fun | 14 => 286 | 20 => 302 | 21 => 303 | 22 => 304 | 23 => 305 | 24 => 306 | 25 => 307 | 26 => 308 | 27 => 309 | 46 => 323 | 47 => 324 | 48 => 325 | 49 => 326 | 50 => 327 | 15 => 287 | 57 => 330 | 28 => 310 | 29 => 311 | n => n, fun | 24 => 97 | 22 => 32 | 3 => 3 | 25 => 216 | 4 => 4 | 0 => 0 | 46 => 305 | 45 => 304 | 50 => 309 | 66 => 323 | 39 => 253 | 55 => 197 | 70 => 327 | 76 => 329 | 77 => 330 | 53 => 258 | 5 => 5 | 9 => 9 | n => n, fun | n => n⟩
theorem Tryz.sortTerms : Go.Proofs.SlLaysF0.n14 Tryz.prog Tryz.sortTerms_ren := {
  mixed := by kernel_rfl
  f14 := ⟨Tryz.f286.name, by decide, Tryz.func286.trans (congrArg some (by kernel_rfl))⟩
  f15 := Tryz.func287.trans (congrArg some (by kernel_rfl))
  f20 := ⟨Tryz.f302.name, by decide, Tryz.func302.trans (congrArg some (by kernel_rfl))⟩
  f21 := ⟨Tryz.f303.name, by decide, Tryz.func303.trans (congrArg some (by kernel_rfl))⟩
  f22 := ⟨Tryz.f304.name, by decide, Tryz.func304.trans (congrArg some (by kernel_rfl))⟩
  f23 := ⟨Tryz.f305.name, by decide, Tryz.func305.trans (congrArg some (by kernel_rfl))⟩
  f24 := ⟨Tryz.f306.name, by decide, Tryz.func306.trans (congrArg some (by kernel_rfl))⟩
  f25 := ⟨Tryz.f307.name, by decide, Tryz.func307.trans (congrArg some (by kernel_rfl))⟩
  f26 := ⟨Tryz.f308.name, by decide, Tryz.func308.trans (congrArg some (by kernel_rfl))⟩
  f27 := ⟨Tryz.f309.name, by decide, Tryz.func309.trans (congrArg some (by kernel_rfl))⟩
  f28 := Tryz.func310.trans (congrArg some (by kernel_rfl))
  f29 := Tryz.func311.trans (congrArg some (by kernel_rfl))
  f46 := ⟨Tryz.f323.name, by decide, Tryz.func323.trans (congrArg some (by kernel_rfl))⟩
  f47 := Tryz.func324.trans (congrArg some (by kernel_rfl))
  f48 := Tryz.func325.trans (congrArg some (by kernel_rfl))
  f49 := ⟨Tryz.f326.name, by decide, Tryz.func326.trans (congrArg some (by kernel_rfl))⟩
  f50 := ⟨Tryz.f327.name, by decide, Tryz.func327.trans (congrArg some (by kernel_rfl))⟩
  f57 := ⟨Tryz.f330.name, by decide, Tryz.func330.trans (congrArg some (by kernel_rfl))⟩
  t0 := Tryz.underlying0
  a0 := Tryz.isAgg0
  z0 := Tryz.sizeOf0
  v0 := Tryz.zeroValue0
  t3 := Tryz.underlying3
  a3 := Tryz.isAgg3
  z3 := Tryz.sizeOf3
  v3 := Tryz.zeroValue3
  t4 := Tryz.underlying4
  a4 := Tryz.isAgg4
  z4 := Tryz.sizeOf4
  v4 := Tryz.zeroValue4
  t5 := Tryz.underlying5
  a5 := Tryz.isAgg5
  z5 := Tryz.sizeOf5
  v5 := Tryz.zeroValue5
  t9 := Tryz.underlying9
  a9 := Tryz.isAgg9
  z9 := Tryz.sizeOf9
  v9 := Tryz.zeroValue9
  t22 := Tryz.underlying32
  a22 := Tryz.isAgg32
  z22 := Tryz.sizeOf32
  v22 := Tryz.zeroValue32
  t25 := Tryz.underlying216
  a25 := Tryz.isAgg216
  z25 := Tryz.sizeOf216
  v25 := Tryz.zeroValue216
  t39 := Tryz.underlying253
  a39 := Tryz.isAgg253
  z39 := Tryz.sizeOf253
  v39 := Tryz.zeroValue253
  t45 := Tryz.underlying304
  a45 := Tryz.isAgg304
  z45 := Tryz.sizeOf304
  v45 := Tryz.zeroValue304
  t46 := Tryz.underlying305
  a46 := Tryz.isAgg305
  z46 := Tryz.sizeOf305
  v46 := Tryz.zeroValue305
  t50 := Tryz.underlying309
  a50 := Tryz.isAgg309
  z50 := Tryz.sizeOf309
  v50 := Tryz.zeroValue309
  t53 := Tryz.underlying258
  a53 := Tryz.isAgg258
  z53 := Tryz.sizeOf258
  v53 := Tryz.zeroValue258
  t55 := Tryz.underlying197
  a55 := Tryz.isAgg197
  z55 := Tryz.sizeOf197
  v55 := Tryz.zeroValue197
  t66 := Tryz.underlying323
  a66 := Tryz.isAgg323
  z66 := Tryz.sizeOf323
  v66 := Tryz.zeroValue323
  t70 := Tryz.underlying327
  a70 := Tryz.isAgg327
  z70 := Tryz.sizeOf327
  v70 := Tryz.zeroValue327
  t76 := Tryz.underlying329
  a76 := Tryz.isAgg329
  z76 := Tryz.sizeOf329
  v76 := Tryz.zeroValue329
  t77 := Tryz.underlying330
  a77 := Tryz.isAgg330
  z77 := Tryz.sizeOf330
  v77 := Tryz.zeroValue330 }
example : Tryz.sortTerms_ren.f 14 = 286 := by kernel_rfl
example : Tryz.sortTerms_ren.f 15 = 287 := by kernel_rfl
example : Tryz.sortTerms_ren.t 24 = 97 := by kernel_rfl

set_option maxHeartbeats 2000000 in
theorem Tryz.sortLaw : Go.Ev.SortLaw Tryz.prog 255 := by
  intro α _ enc hk h1 cf hO g cb blk off cap d w eg hcmp hH hblk hsz
  have hlim : Lib.bitLen d.size < 4611686018427387904 := Nat.lt_of_le_of_lt (Lib.bitLen_le d.size 62 (by omega) (by omega)) (by omega)
  have hp := AnyQ.pdqsortCmpFunc_all Tryz.sortTerms 12 Tryz.isAgg97 Tryz.sizeOf97 enc cf g cb hO blk off cap d w eg hcmp ⟨hk, h1, hH, hblk⟩ (d.size + 1) 0 d.size (Lib.bitLen d.size) d w (by omega) rfl (SWK.start hH) (Nat.zero_le _) (Nat.le_refl _) hsz hlim (Or.inl rfl)
  have hl : Calls Tryz.prog 287 #[.int .u64 (d.size : Int)] w fun e w' => e = .returned (.int .i64 (Lib.bitLen d.size : Nat)) ∧ w' = w := by
    have h := Any.bits_Len (SlLaysF0.n15.bits (P := Tryz.prog) (ρ := Tryz.sortTerms_ren) { Tryz.sortTerms with }) (d.size : Int) w (by omega) (by omega)
    rwa [Int.toNat_natCast] at h
  have wr : IntKind.u64.wrap (d.size : Int) = d.size := by simp [IntKind.wrap, IntKind.bits, IntKind.signed]; omega
  change Calls Tryz.prog 286 _ _ _ at hp
  clear hH hcmp hk h1
  refine Calls.mono (R := fun e w' => e = .returned (.tuple #[]) ∧ SWK enc 12 w blk off (pdq (ltOf cf) d 0 d.size (Lib.bitLen d.size) true true) w') ?_ ?_
  · generalize pdq (ltOf cf) d 0 d.size (Lib.bitLen d.size) true true = r at hp ⊢
    go_enter Tryz.func255, Tryz.ntmps255
    go_wp2_with (first | (go_at_call 287; refine hl.mono ?_; rintro e w' ⟨rfl, rfl⟩) | (go_at_call 286; refine hp.mono ?_; rintro e w' ⟨rfl, hw'⟩))
    go_end0
    exact ⟨rfl, hw'⟩
  · intro e w' he
    obtain ⟨rfl, n, os, rfl⟩ := he
    have h := pdq_sorts (ltOf cf) hO d 0 d.size (Lib.bitLen d.size) true true (Nat.zero_le _) (Nat.le_refl _) (Or.inl rfl)
    exact ⟨rfl, _, n, os, h.1, h.2, rfl⟩
end Go.Proofs

/- The function that makes a polynomial of a map, in the program. -/
namespace Go.Ev
open Go Go.Pm Go.Proofs
set_option maxRecDepth 100000

/-! ### SortFunc at an empty list -/
def KSL : List (Nat × Fun) := [(n_slices_SortFunc_api_Poly_api_Term, c_slices_SortFunc_api_Poly_api_Term), (n_slices_pdqsortCmpFunc_api_Term, c_slices_pdqsortCmpFunc_api_Term), (n_slices_insertionSortCmpFunc_api_Term, c_slices_insertionSortCmpFunc_api_Term), (n_math_bits_Len, c_math_bits_Len), (n_math_bits_Len64, c_math_bits_Len64)]
def KS : Cfg := ⟨fcOf, fun f => (KSL.find? (·.1 == f)).map (·.2)⟩
theorem KS_all : ∀ x ∈ KSL, HasK KS Tryz.prog x.1 x.2 := by
  simp only [KSL, List.forall_mem_cons, List.not_mem_nil, false_implies, implies_true, and_true]
  exact ⟨⟨_, Tryz.func255, ne_of_beq (by kernel_rfl), by kernel_rfl⟩, ⟨_, Tryz.func286, ne_of_beq (by kernel_rfl), by kernel_rfl⟩, ⟨_, Tryz.func302, ne_of_beq (by kernel_rfl), by kernel_rfl⟩, ⟨_, Tryz.func287, ne_of_beq (by kernel_rfl), by kernel_rfl⟩, ⟨_, Tryz.func311, ne_of_beq (by kernel_rfl), by kernel_rfl⟩⟩
def runS : Sem := evFn KS (fun _ => none) 20
theorem runS_ok : SemOK Tryz.prog runS := run_ok hm_prog KS_all (ov := fun _ => none) (fun _ _ h => by cases h) 20
theorem ok_sort0 : FnOK Tryz.prog n_slices_SortFunc_api_Poly_api_Term g_sort0 := spec_ok fun _ _ => (runS_ok n_slices_SortFunc_api_Poly_api_Term).at (by kernel_rfl)

/-! ### The comparison, the function -/
theorem s_isNaN : FnOK Tryz.prog n_cmp_isNaN_int g_isNaN := ok_isNaN hm_prog has_cmp_isNaN_int
theorem s_cmp_int : FnOK Tryz.prog n_cmp_Compare_int g_cmp_int := ok_cmp_int hm_prog has_cmp_Compare_int s_isNaN
theorem s_Compare : FnOK Tryz.prog n_slices_Compare_int_int g_slices_Compare := ok_slices_Compare hm_prog has_slices_Compare_int_int s_cmp_int
theorem s_monomial_Cmp : FnOK Tryz.prog n_monomial_Cmp g_monomial_Cmp := ok_monomial_Cmp hm_prog has_monomial_Cmp s_Compare
theorem s_cmpQ : FnOK Tryz.prog n_polynomial_sum_poly_1 g_cmpQ := ok_cmpQ hm_prog ⟨_, Tryz.func256, ne_of_beq (by kernel_rfl), by kernel_rfl⟩ s_monomial_Cmp
theorem s_sign : FnOK Tryz.prog n_rational_Sign g_sign := ok_sign_prog hm_prog has_rational_Sign has_integer_Sign

theorem polyFn : ∃ r0 r1 r2 r3 r4 r5 r6 r7 r8 o20 o21 o30 o31 o40 o70 o71 o80 o81, PolyFn Tryz.prog Tryz.f198 r0 r1 r2 r3 r4 r5 r6 r7 r8 o20 o21 o30 o31 o40 o70 o71 o80 o81 :=
  ⟨_, _, _, _, _, _, _, _, _, _, _, _, _, _, _, _, _, _, {
    body := ⟨_, _, _, _, _, _, _, _, _, rfl⟩
    name := ne_of_beq (by kernel_rfl)
    ntmps := rfl
    res := rfl
    ops := { e3 := rfl, p30 := rfl, d30 := rfl, g30 := rfl, p31 := rfl, d31 := rfl, g31 := rfl, e40 := rfl, s4 := rfl, p40 := rfl, d40 := rfl, g40 := rfl, t4 := by kernel_rfl, t5 := by kernel_rfl, t6 := by kernel_rfl, k4 := by kernel_rfl, k5 := by kernel_rfl, k6 := by kernel_rfl }
    t0 := by kernel_rfl
    t1 := by kernel_rfl
    e2 := rfl
    p20 := rfl
    d20 := rfl
    g20 := rfl
    p21 := ⟨_, _, _, rfl, Tryz.underlying223⟩
    d21 := rfl
    g21 := rfl
    e7 := rfl
    p70 := rfl
    d70 := rfl
    g70 := rfl
    p71 := ⟨_, rfl, rfl, rfl⟩
    d71 := rfl
    g71 := rfl
    e8 := rfl
    p80 := rfl
    d80 := rfl
    g80 := rfl
    p81 := rfl
    d81 := rfl
    g81 := rfl }⟩

theorem s_sumpoly : FnOK Tryz.prog n_polynomial_sum_poly g_sumpoly := by
  obtain ⟨r0, r1, r2, r3, r4, r5, r6, r7, r8, o20, o21, o30, o31, o40, o70, o71, o80, o81, X⟩ := polyFn
  exact ok_sumpoly hm_prog Tryz.func198 X s_sign s_cmpQ ok_sort0 Tryz.sortLaw
end Go.Ev

/- The polynomial of a map, computed: whole coefficients of one word. -/
namespace Go.Ev
open Go.Pm

def parseE : DV → Option (Mono × Int)
  | .tup [.agg [.i .i64 e0, .i .i64 e1, .i .i64 e2, .i .i64 e3, .i .i64 e4, .i .i64 e5, .i .i64 e6, .i .i64 e7], .agg [.b s, .sl k ws, .b false, .sl 1 [.i .u32 1]]] =>
    match k, ws with
    | 0, [] => if s then none else some (⟨e0, e1, e2, e3, e4, e5, e6, e7⟩, 0)
    | 1, [.i .u32 w] => if 0 < w ∧ w < 4294967296 then some (⟨e0, e1, e2, e3, e4, e5, e6, e7⟩, if s then -w else w) else none
    | _, _ => none
  | _ => none

def parseL : List DV → Option (List (Mono × Int))
  | [] => some []
  | d :: r => match parseE d, parseL r with
    | some x, some l => some (x :: l)
    | _, _ => none

def insI (t : Mono × Int) : List (Mono × Int) → List (Mono × Int)
  | [] => [t]
  | u :: p => if 0 < Mono.cmp t.1 u.1 then t :: u :: p else u :: insI t p

def polyI : List (Mono × Int) → List (Mono × Int)
  | [] => []
  | (m, c) :: r => if c = 0 then polyI r else insI (m, c) (polyI r)

def wholeCells (x : Int) : List DV := cells (whole x)

def keysB : List (Mono × Int) → Bool
  | [] => true
  | (m, _) :: r => r.all (fun x => x.1 != m) && keysB r

def polyG : G := fun ds =>
  match ds with
  | [.msl es] => match parseL es with
    | some l => if keysB l ∧ l.length ≤ 1000000 then (let p := polyI l; some (.sl p.length (p.flatMap fun t => wholeCells t.2 ++ mcells t.1), [])) else none
    | none => none
  | _ => none

def toR (x : Mono × Int) : Mono × Rat := (x.1, (x.2 : Rat))
def toT (x : Mono × Int) : Tm := ⟨(x.2 : Rat), x.1⟩

theorem parseE_ok {d : DV} {x : Mono × Int} (h : parseE d = some x) : d = dEnt (toR x) ∧ x.2.natAbs < 4294967296 := by
  unfold parseE at h
  split at h
  · rename_i e0 e1 e2 e3 e4 e5 e6 e7 s k ws
    split at h
    · split at h
      · cases h
      · rename_i hs
        cases h
        refine ⟨?_, by simp⟩
        have := whole_dRat (x := 0) (by decide)
        simp only [toR, dEnt]
        rw [← this]
        cases s
        · rfl
        · simp at hs
    · split at h
      · rename_i w hw
        cases h
        have hb : (if s then -w else w).natAbs < 4294967296 := by split <;> omega
        refine ⟨?_, hb⟩
        simp only [toR, dEnt]
        rw [← whole_dRat hb]
        cases s
        · have h1 : ¬ w < 0 := by omega
          have h2 : ¬ w = 0 := by omega
          simp [whole, h1, h2, mcells, Mono.l]
        · have h1 : 0 < w := by omega
          have h2 : ¬ w = 0 := by omega
          simp [whole, h1, h2, mcells, Mono.l]
      · cases h
    · cases h
  · cases h

theorem parseL_ok : ∀ {es : List DV} {l : List (Mono × Int)}, parseL es = some l → es = (l.map toR).map dEnt ∧ ∀ x ∈ l, x.2.natAbs < 4294967296
  | [], l, h => by simp [parseL] at h; subst h; simp
  | d :: r, l, h => by
    simp only [parseL] at h
    split at h
    · rename_i x l' h1 h2
      cases h
      obtain ⟨e1, b1⟩ := parseE_ok h1
      obtain ⟨e2, b2⟩ := parseL_ok h2
      refine ⟨by simp [← e2, e1], fun y hy => ?_⟩
      rcases List.mem_cons.1 hy with rfl | hy
      · exact b1
      · exact b2 y hy
    · cases h

theorem insI_ok (t : Mono × Int) : ∀ p, (insI t p).map toT = insT (toT t) (p.map toT)
  | [] => rfl
  | u :: p => by
    unfold insI
    simp only [List.map_cons, insT]
    have e : (toT t).m = t.1 ∧ (toT u).m = u.1 := ⟨rfl, rfl⟩
    rw [e.1, e.2]
    split
    · simp
    · simp [insI_ok t p]

theorem polyI_ok : ∀ l : List (Mono × Int), (polyI l).map toT = polyOf (l.map toR)
  | [] => rfl
  | (m, c) :: r => by
    simp only [polyI, List.map_cons, toR, polyOf]
    by_cases h : c = 0
    · simp [h, polyI_ok r, toR]
    · have h' : ¬ (c : Rat) = 0 := by simpa using h
      rw [if_neg h, if_neg h', insI_ok, polyI_ok r]; rfl

theorem mem_insI {t u : Mono × Int} : ∀ {p}, u ∈ insI t p → u = t ∨ u ∈ p
  | [], h => by simp [insI] at h; exact .inl h
  | v :: p, h => by
    unfold insI at h
    split at h
    · simpa using h
    · rcases List.mem_cons.1 h with h | h
      · exact .inr (by simp [h])
      · exact (mem_insI h).imp id fun h => List.mem_cons_of_mem _ h
theorem mem_polyI {u : Mono × Int} : ∀ {l}, u ∈ polyI l → u ∈ l
  | [], h => by simp [polyI] at h
  | (m, c) :: r, h => by
    unfold polyI at h
    split at h
    · exact List.mem_cons_of_mem _ (mem_polyI h)
    · rcases mem_insI h with h | h
      · simp [h]
      · exact List.mem_cons_of_mem _ (mem_polyI h)

theorem keysB_ok : ∀ {l : List (Mono × Int)}, keysB l = true → KeysOk (l.map toR)
  | [], _ => by simp [KeysOk]
  | (m, c) :: r, h => by
    simp only [keysB, Bool.and_eq_true] at h
    simp only [KeysOk, List.map_cons, List.nodup_cons]
    refine ⟨fun hm => ?_, keysB_ok (l := r) h.2⟩
    simp only [List.mem_map] at hm
    obtain ⟨y, ⟨x, hx, rfl⟩, hy⟩ := hm
    have := List.all_eq_true.1 h.1 x hx
    simp only [toR] at hy
    rw [hy] at this
    simp at this

theorem cells_whole {p : List (Mono × Int)} (h : ∀ x ∈ p, x.2.natAbs < 4294967296) : (p.flatMap fun t => wholeCells t.2 ++ mcells t.1) = pcells (p.map toT) := by
  induction p with
  | nil => rfl
  | cons t p ih =>
    rw [List.flatMap_cons, List.map_cons, pcells_cons, ih fun x hx => h x (List.mem_cons_of_mem _ hx)]
    congr 1
    unfold wholeCells tcells
    rw [whole_dRat (h t (List.mem_cons_self ..))]
    rfl

theorem ok_polyG {P : Program} (h : FnOK P n_polynomial_sum_poly g_sumpoly) : FnOK P n_polynomial_sum_poly polyG := by
  intro ds r outs hg
  unfold polyG at hg
  split at hg
  · rename_i es
    split at hg
    · rename_i l hl
      split at hg
      · rename_i hc
        simp only [Option.some.injEq, Prod.mk.injEq] at hg
        obtain ⟨rfl, rfl⟩ := hg
        obtain ⟨e1, b1⟩ := parseL_ok hl
        subst e1
        have := h.at (e_sumpoly (l.map toR) ⟨keysB_ok hc.1, by simpa using hc.2⟩)
        rw [← polyI_ok, dPoly, ← cells_whole (fun x hx => b1 x (mem_polyI hx)), List.length_map] at this
        exact this
      · cases hg
    · cases hg
  · cases hg
end Go.Ev

/- Sums and products of small whole numbers, computed. -/
namespace Go.Ev
open Go.Pm

def parseW : DV → Option Int
  | .agg [.b s, .sl k ws, .b false, .sl 1 [.i .u32 1]] =>
    match k, ws with
    | 0, [] => if s then none else some 0
    | 1, [.i .u32 w] => if 0 < w ∧ w ≤ 16000 then some (if s then -w else w) else none
    | _, _ => none
  | _ => none

theorem parseW_ok {d : DV} {x : Int} (h : parseW d = some x) : d = dRat (x : Rat) ∧ x.natAbs ≤ 16000 := by
  unfold parseW at h
  split at h
  · rename_i s k ws
    split at h
    · split at h
      · cases h
      · rename_i hs
        cases h
        refine ⟨?_, by simp⟩
        have := whole_dRat (x := 0) (by decide)
        rw [← this]
        cases s
        · rfl
        · simp at hs
    · split at h
      · rename_i w hw
        cases h
        have hb : (if s then -w else w).natAbs ≤ 16000 := by split <;> omega
        refine ⟨?_, hb⟩
        rw [← whole_dRat (by omega)]
        cases s
        · have h1 : ¬ w < 0 := by omega
          have h2 : ¬ w = 0 := by omega
          simp [whole, h1, h2]
        · have h1 : 0 < w := by omega
          have h2 : ¬ w = 0 := by omega
          simp [whole, h1, h2]
      · cases h
    · cases h
  · cases h

def wG (o : Int → Int → Int) : G := fun ds =>
  match ds with
  | [a, b] => match parseW a, parseW b with
    | some x, some y => some (whole (o x y), [])
    | _, _ => none
  | _ => none

theorem sm_int {x : Int} (h : x.natAbs ≤ 16000) : Sm 16000 (x : Rat) := ⟨by simp, by unfold nm; simpa using h⟩

theorem ok_wadd {P : Program} {f : Nat} (h : FnOK P f g_add) : FnOK P f (wG (· + ·)) := by
  intro ds r outs hg
  unfold wG at hg
  split at hg
  · split at hg
    · rename_i x y hx hy
      simp only [Option.some.injEq, Prod.mk.injEq] at hg
      obtain ⟨rfl, rfl⟩ := hg
      obtain ⟨e1, b1⟩ := parseW_ok hx
      obtain ⟨e2, b2⟩ := parseW_ok hy
      subst e1 e2
      have := h.at (e_add _ _ (sm_int b1) (sm_int b2))
      rw [← Rat.intCast_add, ← whole_dRat (x := x + y) (by omega)] at this
      exact this
    · cases hg
  · cases hg

theorem ok_wmul {P : Program} {f : Nat} (h : FnOK P f g_mul) : FnOK P f (wG (· * ·)) := by
  intro ds r outs hg
  unfold wG at hg
  split at hg
  · split at hg
    · rename_i x y hx hy
      simp only [Option.some.injEq, Prod.mk.injEq] at hg
      obtain ⟨rfl, rfl⟩ := hg
      obtain ⟨e1, b1⟩ := parseW_ok hx
      obtain ⟨e2, b2⟩ := parseW_ok hy
      subst e1 e2
      have := h.at (e_mul _ _ (sm_int b1) (sm_int b2))
      rw [← Rat.intCast_mul, ← whole_dRat (x := x * y) (mul_bound b1 b2)] at this
      exact this
    · cases hg
  · cases hg
end Go.Ev

/- A table of code for runs, and that the program has it. Printed by a program of mine. -/
namespace Go.Ev
open Go Go.Pm Go.Proofs
set_option maxRecDepth 100000
def KFL : List (Nat × Fun) := [(n_rational_Add, c_rational_Add), (n_rational_Mul, c_rational_Mul), (n_rational_product, c_rational_product), (n_rational_lowest, c_rational_lowest), (n_integer_Of, c_integer_Of), (n_integer_Mul, c_integer_Mul), (n_integer_Add, c_integer_Add), (n_integer_Gcd, c_integer_Gcd), (n_integer_Sign, c_integer_Sign), (n_integer_Neg, c_integer_Neg), (n_integer_DivMod, c_integer_DivMod), (n_integer_natural, c_integer_natural), (n_integer_nat_norm, c_integer_nat_norm), (n_integer_nat_signed, c_integer_nat_signed), (n_integer_nat_at, c_integer_nat_at), (n_integer_nat_cmp, c_integer_nat_cmp), (n_integer_nat_add, c_integer_nat_add), (n_integer_nat_sub, c_integer_nat_sub), (n_integer_nat_mul, c_integer_nat_mul), (n_integer_nat_word, c_integer_nat_word), (n_integer_nat_div, c_integer_nat_div), (n_math_bits_Add32, c_math_bits_Add32), (n_math_bits_Sub32, c_math_bits_Sub32), (n_math_bits_Div32, c_math_bits_Div32), (n_cmp_Compare_uint32, c_cmp_Compare_uint32), (n_cmp_isNaN_uint32, c_cmp_isNaN_uint32), (n_cmp_Compare_int, c_cmp_Compare_int), (n_cmp_isNaN_int, c_cmp_isNaN_int), (n_ref02_Add, c_ref02_Add), (n_ref02_Mul, c_ref02_Mul), (n_ref02_Whole, c_ref02_Whole), (n_ref02_lowest, c_ref02_lowest), (n_ref02_exact, c_ref02_exact), (n_ref01_trim, c_ref01_trim), (n_ref01_made, c_ref01_made), (n_ref01_words, c_ref01_words), (n_ref01_word, c_ref01_word), (n_ref01_number, c_ref01_number), (n_ref01_compared, c_ref01_compared), (n_ref01_added, c_ref01_added), (n_ref01_taken, c_ref01_taken), (n_ref01_times, c_ref01_times), (n_ref01_shortly, c_ref01_shortly), (n_ref01_divided, c_ref01_divided), (n_ref01_common, c_ref01_common), (n_ref01_euclid, c_ref01_euclid), (n_ref01_Of, c_ref01_Of), (n_ref01_Neg, c_ref01_Neg), (n_ref01_Add, c_ref01_Add), (n_ref01_Mul, c_ref01_Mul), (n_ref01_DivMod, c_ref01_DivMod), (n_ref01_Gcd, c_ref01_Gcd), (n_ref01_Sign, c_ref01_Sign)]
def KF : Cfg := ⟨fcOf, fun f => (KFL.find? (·.1 == f)).map (·.2)⟩
theorem KF_rational_Add : HasK KF Tryz.prog n_rational_Add c_rational_Add := ⟨_, Tryz.func176, ne_of_beq (by kernel_rfl), by kernel_rfl⟩
theorem KF_rational_Mul : HasK KF Tryz.prog n_rational_Mul c_rational_Mul := ⟨_, Tryz.func197, ne_of_beq (by kernel_rfl), by kernel_rfl⟩
theorem KF_rational_product : HasK KF Tryz.prog n_rational_product c_rational_product := ⟨_, Tryz.func192, ne_of_beq (by kernel_rfl), by kernel_rfl⟩
theorem KF_rational_lowest : HasK KF Tryz.prog n_rational_lowest c_rational_lowest := ⟨_, Tryz.func248, ne_of_beq (by kernel_rfl), by kernel_rfl⟩
theorem KF_integer_Of : HasK KF Tryz.prog n_integer_Of c_integer_Of := ⟨_, Tryz.func204, ne_of_beq (by kernel_rfl), by kernel_rfl⟩
theorem KF_integer_Mul : HasK KF Tryz.prog n_integer_Mul c_integer_Mul := ⟨_, Tryz.func253, ne_of_beq (by kernel_rfl), by kernel_rfl⟩
theorem KF_integer_Add : HasK KF Tryz.prog n_integer_Add c_integer_Add := ⟨_, Tryz.func249, ne_of_beq (by kernel_rfl), by kernel_rfl⟩
theorem KF_integer_Gcd : HasK KF Tryz.prog n_integer_Gcd c_integer_Gcd := ⟨_, Tryz.func278, ne_of_beq (by kernel_rfl), by kernel_rfl⟩
theorem KF_integer_Sign : HasK KF Tryz.prog n_integer_Sign c_integer_Sign := ⟨_, Tryz.func252, ne_of_beq (by kernel_rfl), by kernel_rfl⟩
theorem KF_integer_Neg : HasK KF Tryz.prog n_integer_Neg c_integer_Neg := ⟨_, Tryz.func195, ne_of_beq (by kernel_rfl), by kernel_rfl⟩
theorem KF_integer_DivMod : HasK KF Tryz.prog n_integer_DivMod c_integer_DivMod := ⟨_, Tryz.func279, ne_of_beq (by kernel_rfl), by kernel_rfl⟩
theorem KF_integer_natural : HasK KF Tryz.prog n_integer_natural c_integer_natural := ⟨_, Tryz.func259, ne_of_beq (by kernel_rfl), by kernel_rfl⟩
theorem KF_integer_nat_norm : HasK KF Tryz.prog n_integer_nat_norm c_integer_nat_norm := ⟨_, Tryz.func284, ne_of_beq (by kernel_rfl), by kernel_rfl⟩
theorem KF_integer_nat_signed : HasK KF Tryz.prog n_integer_nat_signed c_integer_nat_signed := ⟨_, Tryz.func254, ne_of_beq (by kernel_rfl), by kernel_rfl⟩
theorem KF_integer_nat_at : HasK KF Tryz.prog n_integer_nat_at c_integer_nat_at := ⟨_, Tryz.func299, ne_of_beq (by kernel_rfl), by kernel_rfl⟩
theorem KF_integer_nat_cmp : HasK KF Tryz.prog n_integer_nat_cmp c_integer_nat_cmp := ⟨_, Tryz.func281, ne_of_beq (by kernel_rfl), by kernel_rfl⟩
theorem KF_integer_nat_add : HasK KF Tryz.prog n_integer_nat_add c_integer_nat_add := ⟨_, Tryz.func280, ne_of_beq (by kernel_rfl), by kernel_rfl⟩
theorem KF_integer_nat_sub : HasK KF Tryz.prog n_integer_nat_sub c_integer_nat_sub := ⟨_, Tryz.func282, ne_of_beq (by kernel_rfl), by kernel_rfl⟩
theorem KF_integer_nat_mul : HasK KF Tryz.prog n_integer_nat_mul c_integer_nat_mul := ⟨_, Tryz.func283, ne_of_beq (by kernel_rfl), by kernel_rfl⟩
theorem KF_integer_nat_word : HasK KF Tryz.prog n_integer_nat_word c_integer_nat_word := ⟨_, Tryz.func317, ne_of_beq (by kernel_rfl), by kernel_rfl⟩
theorem KF_integer_nat_div : HasK KF Tryz.prog n_integer_nat_div c_integer_nat_div := ⟨_, Tryz.func297, ne_of_beq (by kernel_rfl), by kernel_rfl⟩
theorem KF_math_bits_Add32 : HasK KF Tryz.prog n_math_bits_Add32 c_math_bits_Add32 := ⟨_, Tryz.func298, ne_of_beq (by kernel_rfl), by kernel_rfl⟩
theorem KF_math_bits_Sub32 : HasK KF Tryz.prog n_math_bits_Sub32 c_math_bits_Sub32 := ⟨_, Tryz.func301, ne_of_beq (by kernel_rfl), by kernel_rfl⟩
theorem KF_math_bits_Div32 : HasK KF Tryz.prog n_math_bits_Div32 c_math_bits_Div32 := ⟨_, Tryz.func329, ne_of_beq (by kernel_rfl), by kernel_rfl⟩
theorem KF_cmp_Compare_uint32 : HasK KF Tryz.prog n_cmp_Compare_uint32 c_cmp_Compare_uint32 := ⟨_, Tryz.func300, ne_of_beq (by kernel_rfl), by kernel_rfl⟩
theorem KF_cmp_isNaN_uint32 : HasK KF Tryz.prog n_cmp_isNaN_uint32 c_cmp_isNaN_uint32 := ⟨_, Tryz.func322, ne_of_beq (by kernel_rfl), by kernel_rfl⟩
theorem KF_cmp_Compare_int : HasK KF Tryz.prog n_cmp_Compare_int c_cmp_Compare_int := ⟨_, Tryz.func261, ne_of_beq (by kernel_rfl), by kernel_rfl⟩
theorem KF_cmp_isNaN_int : HasK KF Tryz.prog n_cmp_isNaN_int c_cmp_isNaN_int := ⟨_, Tryz.func288, ne_of_beq (by kernel_rfl), by kernel_rfl⟩
theorem KF_ref02_Add : HasK KF Tryz.prog n_ref02_Add c_ref02_Add := ⟨_, Tryz.func75, ne_of_beq (by kernel_rfl), by kernel_rfl⟩
theorem KF_ref02_Mul : HasK KF Tryz.prog n_ref02_Mul c_ref02_Mul := ⟨_, Tryz.func131, ne_of_beq (by kernel_rfl), by kernel_rfl⟩
theorem KF_ref02_Whole : HasK KF Tryz.prog n_ref02_Whole c_ref02_Whole := ⟨_, Tryz.func29, ne_of_beq (by kernel_rfl), by kernel_rfl⟩
theorem KF_ref02_lowest : HasK KF Tryz.prog n_ref02_lowest c_ref02_lowest := ⟨_, Tryz.func130, ne_of_beq (by kernel_rfl), by kernel_rfl⟩
theorem KF_ref02_exact : HasK KF Tryz.prog n_ref02_exact c_ref02_exact := ⟨_, Tryz.func229, ne_of_beq (by kernel_rfl), by kernel_rfl⟩
theorem KF_ref01_trim : HasK KF Tryz.prog n_ref01_trim c_ref01_trim := ⟨_, Tryz.func245, ne_of_beq (by kernel_rfl), by kernel_rfl⟩
theorem KF_ref01_made : HasK KF Tryz.prog n_ref01_made c_ref01_made := ⟨_, Tryz.func162, ne_of_beq (by kernel_rfl), by kernel_rfl⟩
theorem KF_ref01_words : HasK KF Tryz.prog n_ref01_words c_ref01_words := ⟨_, Tryz.func163, ne_of_beq (by kernel_rfl), by kernel_rfl⟩
theorem KF_ref01_word : HasK KF Tryz.prog n_ref01_word c_ref01_word := ⟨_, Tryz.func271, ne_of_beq (by kernel_rfl), by kernel_rfl⟩
theorem KF_ref01_number : HasK KF Tryz.prog n_ref01_number c_ref01_number := ⟨_, Tryz.func295, ne_of_beq (by kernel_rfl), by kernel_rfl⟩
theorem KF_ref01_compared : HasK KF Tryz.prog n_ref01_compared c_ref01_compared := ⟨_, Tryz.func224, ne_of_beq (by kernel_rfl), by kernel_rfl⟩
theorem KF_ref01_added : HasK KF Tryz.prog n_ref01_added c_ref01_added := ⟨_, Tryz.func223, ne_of_beq (by kernel_rfl), by kernel_rfl⟩
theorem KF_ref01_taken : HasK KF Tryz.prog n_ref01_taken c_ref01_taken := ⟨_, Tryz.func225, ne_of_beq (by kernel_rfl), by kernel_rfl⟩
theorem KF_ref01_times : HasK KF Tryz.prog n_ref01_times c_ref01_times := ⟨_, Tryz.func226, ne_of_beq (by kernel_rfl), by kernel_rfl⟩
theorem KF_ref01_shortly : HasK KF Tryz.prog n_ref01_shortly c_ref01_shortly := ⟨_, Tryz.func313, ne_of_beq (by kernel_rfl), by kernel_rfl⟩
theorem KF_ref01_divided : HasK KF Tryz.prog n_ref01_divided c_ref01_divided := ⟨_, Tryz.func296, ne_of_beq (by kernel_rfl), by kernel_rfl⟩
theorem KF_ref01_common : HasK KF Tryz.prog n_ref01_common c_ref01_common := ⟨_, Tryz.func272, ne_of_beq (by kernel_rfl), by kernel_rfl⟩
theorem KF_ref01_euclid : HasK KF Tryz.prog n_ref01_euclid c_ref01_euclid := ⟨_, Tryz.func294, ne_of_beq (by kernel_rfl), by kernel_rfl⟩
theorem KF_ref01_Of : HasK KF Tryz.prog n_ref01_Of c_ref01_Of := ⟨_, Tryz.func86, ne_of_beq (by kernel_rfl), by kernel_rfl⟩
theorem KF_ref01_Neg : HasK KF Tryz.prog n_ref01_Neg c_ref01_Neg := ⟨_, Tryz.func228, ne_of_beq (by kernel_rfl), by kernel_rfl⟩
theorem KF_ref01_Add : HasK KF Tryz.prog n_ref01_Add c_ref01_Add := ⟨_, Tryz.func128, ne_of_beq (by kernel_rfl), by kernel_rfl⟩
theorem KF_ref01_Mul : HasK KF Tryz.prog n_ref01_Mul c_ref01_Mul := ⟨_, Tryz.func129, ne_of_beq (by kernel_rfl), by kernel_rfl⟩
theorem KF_ref01_DivMod : HasK KF Tryz.prog n_ref01_DivMod c_ref01_DivMod := ⟨_, Tryz.func273, ne_of_beq (by kernel_rfl), by kernel_rfl⟩
theorem KF_ref01_Gcd : HasK KF Tryz.prog n_ref01_Gcd c_ref01_Gcd := ⟨_, Tryz.func227, ne_of_beq (by kernel_rfl), by kernel_rfl⟩
theorem KF_ref01_Sign : HasK KF Tryz.prog n_ref01_Sign c_ref01_Sign := ⟨_, Tryz.func133, ne_of_beq (by kernel_rfl), by kernel_rfl⟩
theorem KF_all : ∀ x ∈ KFL, HasK KF Tryz.prog x.1 x.2 := by
  simp only [KFL, List.forall_mem_cons, List.not_mem_nil, false_implies, implies_true, and_true]
  exact ⟨KF_rational_Add, KF_rational_Mul, KF_rational_product, KF_rational_lowest, KF_integer_Of, KF_integer_Mul, KF_integer_Add, KF_integer_Gcd, KF_integer_Sign, KF_integer_Neg, KF_integer_DivMod, KF_integer_natural, KF_integer_nat_norm, KF_integer_nat_signed, KF_integer_nat_at, KF_integer_nat_cmp, KF_integer_nat_add, KF_integer_nat_sub, KF_integer_nat_mul, KF_integer_nat_word, KF_integer_nat_div, KF_math_bits_Add32, KF_math_bits_Sub32, KF_math_bits_Div32, KF_cmp_Compare_uint32, KF_cmp_isNaN_uint32, KF_cmp_Compare_int, KF_cmp_isNaN_int, KF_ref02_Add, KF_ref02_Mul, KF_ref02_Whole, KF_ref02_lowest, KF_ref02_exact, KF_ref01_trim, KF_ref01_made, KF_ref01_words, KF_ref01_word, KF_ref01_number, KF_ref01_compared, KF_ref01_added, KF_ref01_taken, KF_ref01_times, KF_ref01_shortly, KF_ref01_divided, KF_ref01_common, KF_ref01_euclid, KF_ref01_Of, KF_ref01_Neg, KF_ref01_Add, KF_ref01_Mul, KF_ref01_DivMod, KF_ref01_Gcd, KF_ref01_Sign⟩
end Go.Ev

namespace Go.Ev
open Go Go.Pm Go.Proofs
set_option maxRecDepth 100000

def ovF : Nat → Option G := fun n => if n = n_slices_Clone_integer_nat_uint32 then some (g_clone false) else none
theorem ovF_ok : ∀ f g, ovF f = some g → FnOK Tryz.prog f g := by
  intro f g h
  unfold ovF at h
  split at h
  · rename_i e; subst e; cases h; exact ok_clone_nat hm_prog has_slices_Clone_integer_nat_uint32
  · cases h
def runF : Sem := evFn KF (fun f => (ovF f).map fun g _ => g) 80
theorem runF_ok : SemOK Tryz.prog runF := run_ok hm_prog KF_all ovF_ok 80

end Go.Ev

/- Answers that are known already, for runs in pieces. -/
namespace Go.Ev
open Go.Pm

mutual
def eqD : DV → DV → Bool
  | .b v, .b w => v == w
  | .i k n, .i l m => k == l && n == m
  | .nilfn, .nilfn => true
  | .sl n cs, .sl m ds => n == m && eqDL cs ds
  | .fn f cs, .fn g ds => f == g && eqDL cs ds
  | .agg cs, .agg ds => eqDL cs ds
  | .tup cs, .tup ds => eqDL cs ds
  | _, _ => false
def eqDL : List DV → List DV → Bool
  | [], [] => true
  | x :: r, y :: t => eqD x y && eqDL r t
  | _, _ => false
end

mutual
theorem eqD_ok : ∀ {x y : DV}, eqD x y = true → x = y
  | .b v, .b w, h => by simp [eqD] at h; rw [h]
  | .i k n, .i l m, h => by simp [eqD] at h; rw [h.1, h.2]
  | .nilfn, .nilfn, _ => rfl
  | .sl n cs, .sl m ds, h => by simp [eqD] at h; rw [h.1, eqDL_ok h.2]
  | .fn f cs, .fn g ds, h => by simp [eqD] at h; rw [h.1, eqDL_ok h.2]
  | .agg cs, .agg ds, h => by simp [eqD] at h; rw [eqDL_ok h]
  | .tup cs, .tup ds, h => by simp [eqD] at h; rw [eqDL_ok h]
  | .nil, y, h => by cases y <;> simp [eqD] at h
  | .ref .., y, h => by cases y <;> simp [eqD] at h
  | .ptr .., y, h => by cases y <;> simp [eqD] at h
  | .rop _, y, h => by cases y <;> simp [eqD] at h
  | .mref .., y, h => by cases y <;> simp [eqD] at h
  | .msl _, y, h => by cases y <;> simp [eqD] at h
  | .own .., y, h => by cases y <;> simp [eqD] at h
  | .x .., y, h => by cases y <;> simp [eqD] at h
  | .u .., y, h => by cases y <;> simp [eqD] at h
  | .non, y, h => by cases y <;> simp [eqD] at h
  | .emp, y, h => by cases y <;> simp [eqD] at h
theorem eqDL_ok : ∀ {x y : List DV}, eqDL x y = true → x = y
  | [], [], _ => rfl
  | x :: r, y :: t, h => by simp [eqDL] at h; rw [eqD_ok h.1, eqDL_ok h.2]
  | [], _ :: _, h => by simp [eqDL] at h
  | _ :: _, [], h => by simp [eqDL] at h
end

abbrev Memo := List (Nat × List DV × DV)

def memoG (n : Nat) : Memo → G
  | [], _ => none
  | (f, a, r) :: l, ds => if f == n && eqDL a ds then some (r, []) else memoG n l ds

theorem memoG_ok {P : Program} {n : Nat} : ∀ {l : Memo}, (∀ x ∈ l, FnAt P x.1 x.2.1 x.2.2 []) → FnOK P n (memoG n l)
  | [], _, ds, r, outs, h => by simp [memoG] at h
  | (f, a, r) :: l, hl, ds, r', outs, h => by
    unfold memoG at h
    split at h
    · rename_i hc
      simp only [Bool.and_eq_true, beq_iff_eq] at hc
      obtain ⟨rfl, hc⟩ := hc
      have := eqDL_ok hc
      subst this
      cases h
      exact hl _ (List.mem_cons_self ..)
    · exact memoG_ok (fun x hx => hl x (List.mem_cons_of_mem _ hx)) ds r' outs h

def ovM (l : Memo) (ov : Nat → Option (Sem → G)) : Nat → Option (Sem → G) := fun n => if l.any (fun x => x.1 == n) then some fun _ => memoG n l else ov n

theorem ovM_ok {P : Program} {l : Memo} (hl : ∀ x ∈ l, FnAt P x.1 x.2.1 x.2.2 []) {ov : Nat → Option (Sem → G)} (h : ∀ f g, ov f = some g → ∀ cs, SemOK P cs → FnOK P f (g cs)) : ∀ f g, ovM l ov f = some g → ∀ cs, SemOK P cs → FnOK P f (g cs) := by
  intro f g hg cs hcs
  unfold ovM at hg
  split at hg
  · cases hg; exact memoG_ok hl
  · exact h f g hg cs hcs
end Go.Ev

/- Answers on the way of sanity, printed by a program of mine. -/
namespace Go.Ev
def ma0 : List DV := [.sl 2 [.sl 1 [.b false, .sl 1 [.i .u32 1], .b false, .sl 1 [.i .u32 1], .i .i64 0, .i .i64 1, .i .i64 0, .i .i64 0, .i .i64 0, .i .i64 0, .i .i64 0, .i .i64 0], .sl 1 [.b false, .sl 1 [.i .u32 1], .b false, .sl 1 [.i .u32 1], .i .i64 1, .i .i64 0, .i .i64 0, .i .i64 0, .i .i64 0, .i .i64 0, .i .i64 0, .i .i64 0]], .sl 0 []]
def mr0 : DV := .b true
def ma1 : List DV := [.sl 2 [.sl 1 [.b false, .sl 1 [.i .u32 1], .b false, .sl 1 [.i .u32 1], .i .i64 0, .i .i64 1, .i .i64 0, .i .i64 0, .i .i64 0, .i .i64 0, .i .i64 0, .i .i64 0], .sl 1 [.b false, .sl 1 [.i .u32 1], .b false, .sl 1 [.i .u32 1], .i .i64 1, .i .i64 0, .i .i64 0, .i .i64 0, .i .i64 0, .i .i64 0, .i .i64 0, .i .i64 0]], .sl 0 []]
def mr1 : DV := .tup [.sl 1 [.sl 2 [.sl 1 [.b false, .sl 1 [.i .u32 1], .b false, .sl 1 [.i .u32 1], .i .i64 1, .i .i64 0, .i .i64 0, .i .i64 0, .i .i64 0, .i .i64 0, .i .i64 0, .i .i64 0], .sl 1 [.b true, .sl 1 [.i .u32 1], .b false, .sl 1 [.i .u32 1], .i .i64 0, .i .i64 1, .i .i64 0, .i .i64 0, .i .i64 0, .i .i64 0, .i .i64 0, .i .i64 0]]], .i .i64 0]
def ma2 : List DV := [.sl 2 [.sl 2 [.b false, .sl 1 [.i .u32 1], .b false, .sl 1 [.i .u32 1], .i .i64 0, .i .i64 2, .i .i64 0, .i .i64 0, .i .i64 0, .i .i64 0, .i .i64 0, .i .i64 0, .b true, .sl 1 [.i .u32 1], .b false, .sl 1 [.i .u32 1], .i .i64 0, .i .i64 0, .i .i64 0, .i .i64 0, .i .i64 0, .i .i64 0, .i .i64 0, .i .i64 0], .sl 2 [.b false, .sl 1 [.i .u32 1], .b false, .sl 1 [.i .u32 1], .i .i64 1, .i .i64 0, .i .i64 0, .i .i64 0, .i .i64 0, .i .i64 0, .i .i64 0, .i .i64 0, .b true, .sl 1 [.i .u32 1], .b false, .sl 1 [.i .u32 1], .i .i64 0, .i .i64 1, .i .i64 0, .i .i64 0, .i .i64 0, .i .i64 0, .i .i64 0, .i .i64 0]], .sl 0 []]
def mr2 : DV := .b true
def ma3 : List DV := [.sl 2 [.sl 2 [.b false, .sl 1 [.i .u32 1], .b false, .sl 1 [.i .u32 1], .i .i64 0, .i .i64 2, .i .i64 0, .i .i64 0, .i .i64 0, .i .i64 0, .i .i64 0, .i .i64 0, .b true, .sl 1 [.i .u32 1], .b false, .sl 1 [.i .u32 1], .i .i64 0, .i .i64 0, .i .i64 0, .i .i64 0, .i .i64 0, .i .i64 0, .i .i64 0, .i .i64 0], .sl 2 [.b false, .sl 1 [.i .u32 1], .b false, .sl 1 [.i .u32 1], .i .i64 1, .i .i64 0, .i .i64 0, .i .i64 0, .i .i64 0, .i .i64 0, .i .i64 0, .i .i64 0, .b true, .sl 1 [.i .u32 1], .b false, .sl 1 [.i .u32 1], .i .i64 0, .i .i64 1, .i .i64 0, .i .i64 0, .i .i64 0, .i .i64 0, .i .i64 0, .i .i64 0]], .sl 0 []]
def mr3 : DV := .tup [.sl 1 [.sl 2 [.sl 2 [.b false, .sl 1 [.i .u32 1], .b false, .sl 1 [.i .u32 1], .i .i64 1, .i .i64 0, .i .i64 0, .i .i64 0, .i .i64 0, .i .i64 0, .i .i64 0, .i .i64 0, .b true, .sl 1 [.i .u32 1], .b false, .sl 1 [.i .u32 1], .i .i64 0, .i .i64 1, .i .i64 0, .i .i64 0, .i .i64 0, .i .i64 0, .i .i64 0, .i .i64 0], .sl 2 [.b true, .sl 1 [.i .u32 1], .b false, .sl 1 [.i .u32 1], .i .i64 0, .i .i64 2, .i .i64 0, .i .i64 0, .i .i64 0, .i .i64 0, .i .i64 0, .i .i64 0, .b false, .sl 1 [.i .u32 1], .b false, .sl 1 [.i .u32 1], .i .i64 0, .i .i64 0, .i .i64 0, .i .i64 0, .i .i64 0, .i .i64 0, .i .i64 0, .i .i64 0]]], .i .i64 0]
def ma4 : List DV := [.sl 2 [.sl 2 [.b false, .sl 1 [.i .u32 1], .b false, .sl 1 [.i .u32 1], .i .i64 1, .i .i64 1, .i .i64 0, .i .i64 0, .i .i64 0, .i .i64 0, .i .i64 0, .i .i64 0, .b false, .sl 1 [.i .u32 1], .b false, .sl 1 [.i .u32 1], .i .i64 0, .i .i64 0, .i .i64 0, .i .i64 0, .i .i64 0, .i .i64 0, .i .i64 0, .i .i64 0], .sl 2 [.b false, .sl 1 [.i .u32 1], .b false, .sl 1 [.i .u32 1], .i .i64 0, .i .i64 2, .i .i64 0, .i .i64 0, .i .i64 0, .i .i64 0, .i .i64 0, .i .i64 0, .b true, .sl 1 [.i .u32 1], .b false, .sl 1 [.i .u32 1], .i .i64 0, .i .i64 0, .i .i64 0, .i .i64 0, .i .i64 0, .i .i64 0, .i .i64 0, .i .i64 0]], .sl 0 []]
def mr4 : DV := .b false
def ma5 : List DV := [.sl 2 [.sl 2 [.b false, .sl 1 [.i .u32 1], .b false, .sl 1 [.i .u32 1], .i .i64 1, .i .i64 1, .i .i64 0, .i .i64 0, .i .i64 0, .i .i64 0, .i .i64 0, .i .i64 0, .b false, .sl 1 [.i .u32 1], .b false, .sl 1 [.i .u32 1], .i .i64 0, .i .i64 0, .i .i64 0, .i .i64 0, .i .i64 0, .i .i64 0, .i .i64 0, .i .i64 0], .sl 2 [.b false, .sl 1 [.i .u32 1], .b false, .sl 1 [.i .u32 1], .i .i64 0, .i .i64 2, .i .i64 0, .i .i64 0, .i .i64 0, .i .i64 0, .i .i64 0, .i .i64 0, .b true, .sl 1 [.i .u32 1], .b false, .sl 1 [.i .u32 1], .i .i64 0, .i .i64 0, .i .i64 0, .i .i64 0, .i .i64 0, .i .i64 0, .i .i64 0, .i .i64 0]], .sl 0 []]
def mr5 : DV := .tup [.sl 0 [], .i .i64 120]
def ma6 : List DV := [.sl 2 [.sl 1 [.b false, .sl 1 [.i .u32 1], .b false, .sl 1 [.i .u32 1], .i .i64 1, .i .i64 0, .i .i64 0, .i .i64 0, .i .i64 0, .i .i64 0, .i .i64 0, .i .i64 0], .sl 0 []], .sl 0 []]
def mr6 : DV := .tup [.sl 0 [], .i .i64 120]
def ma7 : List DV := [.sl 0 [], .sl 1 [.i .i64 (-1), .i .i64 0, .i .i64 0, .i .i64 0, .i .i64 0, .i .i64 0, .i .i64 0, .i .i64 0]]
def mr7 : DV := .tup [.sl 0 [], .i .i64 50]
def ma8 : List DV := [.sl 2 [.sl 1 [.b false, .sl 1 [.i .u32 1], .b false, .sl 1 [.i .u32 1], .i .i64 1, .i .i64 1, .i .i64 0, .i .i64 0, .i .i64 0, .i .i64 0, .i .i64 0, .i .i64 0], .sl 1 [.b true, .sl 1 [.i .u32 1], .b false, .sl 1 [.i .u32 1], .i .i64 0, .i .i64 2, .i .i64 0, .i .i64 0, .i .i64 0, .i .i64 0, .i .i64 0, .i .i64 0]], .sl 2 [.sl 1 [.b false, .sl 1 [.i .u32 1], .b false, .sl 1 [.i .u32 1], .i .i64 0, .i .i64 1, .i .i64 0, .i .i64 0, .i .i64 0, .i .i64 0, .i .i64 0, .i .i64 0], .sl 1 [.b false, .sl 1 [.i .u32 1], .b false, .sl 1 [.i .u32 1], .i .i64 1, .i .i64 0, .i .i64 0, .i .i64 0, .i .i64 0, .i .i64 0, .i .i64 0, .i .i64 0]]]
def mr8 : DV := .b true
def ma9 : List DV := [.sl 2 [.sl 1 [.b false, .sl 1 [.i .u32 1], .b false, .sl 1 [.i .u32 1], .i .i64 1, .i .i64 1, .i .i64 0, .i .i64 0, .i .i64 0, .i .i64 0, .i .i64 0, .i .i64 0], .sl 1 [.b true, .sl 1 [.i .u32 1], .b false, .sl 1 [.i .u32 1], .i .i64 0, .i .i64 2, .i .i64 0, .i .i64 0, .i .i64 0, .i .i64 0, .i .i64 0, .i .i64 0]], .sl 2 [.sl 1 [.b false, .sl 1 [.i .u32 1], .b false, .sl 1 [.i .u32 1], .i .i64 0, .i .i64 1, .i .i64 0, .i .i64 0, .i .i64 0, .i .i64 0, .i .i64 0, .i .i64 0], .sl 1 [.b false, .sl 1 [.i .u32 1], .b false, .sl 1 [.i .u32 1], .i .i64 1, .i .i64 0, .i .i64 0, .i .i64 0, .i .i64 0, .i .i64 0, .i .i64 0, .i .i64 0]], .sl 0 []]
def mr9 : DV := .tup [.sl 1 [.sl 1 [.b false, .sl 1 [.i .u32 1], .b false, .sl 1 [.i .u32 1], .i .i64 0, .i .i64 1, .i .i64 0, .i .i64 0, .i .i64 0, .i .i64 0, .i .i64 0, .i .i64 0]], .i .i64 0]
def ma10 : List DV := [.sl 2 [.sl 1 [.b false, .sl 1 [.i .u32 1], .b false, .sl 1 [.i .u32 1], .i .i64 1, .i .i64 0, .i .i64 0, .i .i64 0, .i .i64 0, .i .i64 0, .i .i64 0, .i .i64 0], .sl 1 [.b false, .sl 1 [.i .u32 1], .b false, .sl 1 [.i .u32 1], .i .i64 0, .i .i64 1, .i .i64 0, .i .i64 0, .i .i64 0, .i .i64 0, .i .i64 0, .i .i64 0]], .sl 2 [.sl 1 [.b false, .sl 1 [.i .u32 1], .b false, .sl 1 [.i .u32 1], .i .i64 0, .i .i64 1, .i .i64 0, .i .i64 0, .i .i64 0, .i .i64 0, .i .i64 0, .i .i64 0], .sl 1 [.b false, .sl 1 [.i .u32 1], .b false, .sl 1 [.i .u32 1], .i .i64 1, .i .i64 0, .i .i64 0, .i .i64 0, .i .i64 0, .i .i64 0, .i .i64 0, .i .i64 0]]]
def mr10 : DV := .b false
def ma11 : List DV := [.sl 2 [.sl 1 [.b false, .sl 1 [.i .u32 1], .b false, .sl 1 [.i .u32 1], .i .i64 1, .i .i64 0, .i .i64 0, .i .i64 0, .i .i64 0, .i .i64 0, .i .i64 0, .i .i64 0], .sl 1 [.b false, .sl 1 [.i .u32 1], .b false, .sl 1 [.i .u32 1], .i .i64 0, .i .i64 1, .i .i64 0, .i .i64 0, .i .i64 0, .i .i64 0, .i .i64 0, .i .i64 0]], .sl 2 [.sl 1 [.b false, .sl 1 [.i .u32 1], .b false, .sl 1 [.i .u32 1], .i .i64 0, .i .i64 1, .i .i64 0, .i .i64 0, .i .i64 0, .i .i64 0, .i .i64 0, .i .i64 0], .sl 1 [.b false, .sl 1 [.i .u32 1], .b false, .sl 1 [.i .u32 1], .i .i64 1, .i .i64 0, .i .i64 0, .i .i64 0, .i .i64 0, .i .i64 0, .i .i64 0, .i .i64 0]], .sl 0 []]
def mr11 : DV := .tup [.sl 0 [], .i .i64 1]
def ma12 : List DV := [.sl 2 [.sl 1 [.b false, .sl 1 [.i .u32 1], .b false, .sl 1 [.i .u32 1], .i .i64 0, .i .i64 1, .i .i64 0, .i .i64 0, .i .i64 0, .i .i64 0, .i .i64 0, .i .i64 0], .sl 1 [.b true, .sl 1 [.i .u32 1], .b false, .sl 1 [.i .u32 1], .i .i64 1, .i .i64 0, .i .i64 0, .i .i64 0, .i .i64 0, .i .i64 0, .i .i64 0, .i .i64 0]], .sl 2 [.sl 1 [.b false, .sl 1 [.i .u32 1], .b false, .sl 1 [.i .u32 1], .i .i64 1, .i .i64 0, .i .i64 0, .i .i64 0, .i .i64 0, .i .i64 0, .i .i64 0, .i .i64 0], .sl 1 [.b false, .sl 1 [.i .u32 1], .b false, .sl 1 [.i .u32 1], .i .i64 0, .i .i64 1, .i .i64 0, .i .i64 0, .i .i64 0, .i .i64 0, .i .i64 0, .i .i64 0]]]
def mr12 : DV := .b true
def ma13 : List DV := [.sl 1 [.sl 1 [.b false, .sl 1 [.i .u32 1], .b false, .sl 1 [.i .u32 1], .i .i64 1, .i .i64 0, .i .i64 0, .i .i64 0, .i .i64 0, .i .i64 0, .i .i64 0, .i .i64 0]], .sl 2 [.sl 1 [.b false, .sl 1 [.i .u32 1], .b false, .sl 1 [.i .u32 1], .i .i64 1, .i .i64 0, .i .i64 0, .i .i64 0, .i .i64 0, .i .i64 0, .i .i64 0, .i .i64 0], .sl 1 [.b false, .sl 1 [.i .u32 1], .b false, .sl 1 [.i .u32 1], .i .i64 0, .i .i64 1, .i .i64 0, .i .i64 0, .i .i64 0, .i .i64 0, .i .i64 0, .i .i64 0]]]
def mr13 : DV := .b false
def memo0 : Memo := []
def memo1 : Memo := [(90, ma0, mr0), (90, ma2, mr2), (90, ma4, mr4)]
def memo2 : Memo := [(90, ma0, mr0), (30, ma1, mr1), (90, ma2, mr2), (30, ma3, mr3), (90, ma4, mr4), (30, ma5, mr5), (30, ma6, mr6), (30, ma7, mr7), (24, ma8, mr8), (24, ma10, mr10), (24, ma12, mr12), (24, ma13, mr13)]
def memo3 : Memo := [(90, ma0, mr0), (30, ma1, mr1), (90, ma2, mr2), (30, ma3, mr3), (90, ma4, mr4), (30, ma5, mr5), (30, ma6, mr6), (30, ma7, mr7), (24, ma8, mr8), (36, ma9, mr9), (24, ma10, mr10), (36, ma11, mr11), (24, ma12, mr12), (24, ma13, mr13)]
end Go.Ev

namespace Go.Ev
open Go Go.Pm Go.Proofs
set_option maxRecDepth 100000
theorem num_whole : FnOK Tryz.prog n_ref02_Whole g_whole := ok_whole_of (runF_ok n_ref02_Whole) (by kernel_rfl)
end Go.Ev

/- What the arguments of the laws read as, said as deep values. -/
namespace Go.Ev
open Go.Pm Go.Deep

/-- All cells of a memory are published. -/
def allS (hp : Hp) : Pub := ⟨fun b o => ∃ v, cellAt hp b o = some v, fun _ => False, fun _ => 1, fun _ => by simp [Pl.top]⟩

theorem allS_wf (hp : Hp) : WF (allS hp) hp := ⟨fun _ _ h => h, fun _ h => h.elim⟩

section
variable {H : Type} {enc : TypeId × Value → H} {P : Program} {w : World} {spare : Nat → Bool} {held : Bool}

theorem cellAt_of {a : Addr} {v : Value} (h : w.cell? a = some v) : a.spot = none ∧ cellAt w.heap a.block a.off = some v := by
  have hs := World.cell?_spot h
  exact ⟨hs, by rw [← cell?_eq w a hs]; exact h⟩

theorem raws_get : ∀ (q : Raw) (i : Nat), (rawsCells q)[i]? = (q[i / 5]?).bind fun r => (rawCells r)[i % 5]?
  | [], i => by simp [rawsCells]
  | r :: q, i => by
    have e0 : rawsCells (r :: q) = rawCells r ++ rawsCells q := rfl
    have e5 := rawCells_length r
    rw [e0, List.getElem?_append]
    split
    · rename_i h
      have h1 : i / 5 = 0 := by omega
      have h2 : i % 5 = i := by omega
      rw [h1, h2]; simp
    · rename_i h
      rw [raws_get q, e5]
      have h1 : i / 5 = (i - 5) / 5 + 1 := by omega
      have h2 : i % 5 = (i - 5) % 5 := by omega
      rw [h1, h2]; simp

instance : Inhabited RawT := ⟨⟨0, [0, 0, 0, 0], rfl, by omega, by simp⟩⟩

/-- A row of small numbers. -/
theorem read_raw {t5 t e : TypeId} (h5 : P.underlying t5 = some (.slice t)) (ht : P.underlying t = some (.array 5 e)) (he : P.underlying e = some (.int .i8)) (hc : P.cellsOf t = 5) (hce : P.cellsOf e = 1) {fuel : Nat} {v : Value} {x : DataW H × List MemPlace}
    (hsp : ∀ b, spare b = true) (h : DataW.trod enc P w 0 spare held fuel t5 [v] = some x) : ∃ q : Raw, V w.heap (allS w.heap) N0 (rawSl q) v := by
  rcases open_slice h5 h with ⟨h1, _⟩ | ⟨a, len, cap, m, n, D, Pl, h1, _, hl, _, hm, _, hx⟩
  · simp at h1
    subst h1
    refine ⟨[], ?_⟩
    simp only [rawSl, V]
    exact ⟨none, 0, rfl, Nat.le_refl _, rfl, ⟨fun _ => rfl, fun _ => rfl⟩, fun ad e => by cases e⟩
  · simp at h1
    subst h1
    rw [hsp, if_pos rfl] at hm
    subst hm
    -- one term
    have one : ∀ i, i < m → ∃ r : RawT, ∀ j, j < 5 → ∃ d, (rawCells r)[j]? = some d ∧ ∃ u, w.cell? (a.add (i * 5 + j)) = some u ∧ V w.heap (allS w.heap) N0 d u := by
      intro i hi
      obtain ⟨cs', hc1, hc2⟩ := hx i hi
      rw [hc] at hc1
      obtain ⟨_, hlen, hget⟩ := World.cells?_some hc1
      obtain ⟨xs, k, _, _, _, hxl, hxs⟩ := DataW.trod_array ht hc2
      have num : ∀ j, j < 5 → ∃ z : Int, cs'[j]? = some (.int .i8 z) ∧ -128 ≤ z ∧ z ≤ 127 := by
        intro j hj
        have := hxs j hj
        rw [hce, Nat.mul_one, List.getElem?_eq_getElem (by omega)] at this
        obtain ⟨z, hz1, _, hz3⟩ := DataW.trod_int he this
        have h0 := congrArg (fun l : List Value => l[0]?) hz1
        simp only [List.getElem?_take_of_lt (show 0 < 1 by omega), List.getElem?_drop, Nat.add_zero, List.getElem?_cons_zero] at h0
        exact ⟨z, h0, bounds_i8 hz3⟩
      obtain ⟨z0, k0, b0⟩ := num 0 (by omega)
      obtain ⟨z1, k1, b1⟩ := num 1 (by omega)
      obtain ⟨z2, k2, b2⟩ := num 2 (by omega)
      obtain ⟨z3, k3, b3⟩ := num 3 (by omega)
      obtain ⟨z4, k4, b4⟩ := num 4 (by omega)
      refine ⟨⟨z0, [z1, z2, z3, z4], rfl, b0, by simp; omega⟩, fun j hj => ?_⟩
      have cell : ∀ (j : Nat) (z : Int), j < 5 → cs'[j]? = some (.int .i8 z) → ∃ u, w.cell? (a.add (i * 5 + j)) = some u ∧ V w.heap (allS w.heap) N0 (.i .i8 z) u := by
        intro j z hj hz
        refine ⟨.int .i8 z, ?_, by simp only [V]⟩
        rw [← add_add, hget j hj]; exact hz
      match j, hj with
      | 0, _ => exact ⟨_, rfl, cell 0 z0 (by omega) k0⟩
      | 1, _ => exact ⟨_, rfl, cell 1 z1 (by omega) k1⟩
      | 2, _ => exact ⟨_, rfl, cell 2 z2 (by omega) k2⟩
      | 3, _ => exact ⟨_, rfl, cell 3 z3 (by omega) k3⟩
      | 4, _ => exact ⟨_, rfl, cell 4 z4 (by omega) k4⟩
    obtain ⟨R, hR⟩ := choose_lt one
    refine ⟨(List.range len).map R, ?_⟩
    simp only [rawSl, V]
    refine ⟨some a, m, by simp, by simpa using hl, rawsCells_deep _, ⟨by simp, fun h0 => ?_⟩, fun ad e hm0 => ?_⟩
    · have : len = 0 := by omega
      subst this; rfl
    · cases e
      have hsa : a.spot = none := by
        obtain ⟨d, _, u, hu, _⟩ := hR 0 (by omega) 0 (by omega)
        have := (cellAt_of hu).1
        simpa [Addr.add] using this
      refine ⟨hsa, VC.mk fun i d hd => ?_⟩
      rw [raws_get] at hd
      cases hq : ((List.range len).map R)[i / 5]? with
      | none => rw [hq] at hd; cases hd
      | some r =>
        rw [hq] at hd
        simp only [Option.bind_some] at hd
        have hlt : i / 5 < len := by
          rcases Nat.lt_or_ge (i / 5) len with g | g
          · exact g
          · rw [List.getElem?_eq_none (by simpa using g)] at hq; cases hq
        simp [hlt] at hq
        subst hq
        obtain ⟨d', k1, u, k2, k3⟩ := hR (i / 5) (by omega) (i % 5) (by omega)
        rw [hd] at k1; cases k1
        have k4 := (cellAt_of k2).2
        rw [show i / 5 * 5 + i % 5 = i by omega, add_block, add_off] at k4
        exact ⟨⟨u, k4⟩, u, k4, k3⟩

/-- A struct that holds one such row. -/
theorem read_rawT {t27 t5 t e : TypeId} {fs : Array Field} (h27 : P.underlying t27 = some (.struct fs)) (hf : ∃ f, fs[0]? = some f ∧ f.type = t5 ∧ f.offset = 0) (hc5 : P.cellsOf t5 = 1) (h5 : P.underlying t5 = some (.slice t)) (ht : P.underlying t = some (.array 5 e)) (he : P.underlying e = some (.int .i8)) (hc : P.cellsOf t = 5) (hce : P.cellsOf e = 1) {fuel : Nat} {v : Value} {x : DataW H × List MemPlace}
    (hsp : ∀ b, spare b = true) (h : DataW.trod enc P w 0 spare held fuel t27 [v] = some x) : ∃ q : Raw, V w.heap (allS w.heap) N0 (rawSl q) v := by
  obtain ⟨xs, n, _, _, _, hxl, hx⟩ := DataW.trod_struct h27 h
  obtain ⟨f, f1, f2, f3⟩ := hf
  have := hx 0 f f1
  rw [f2, f3, hc5] at this
  have hl : 0 < fs.size := by
    rcases Nat.lt_or_ge 0 fs.size with g | g
    · exact g
    · rw [Array.getElem?_eq_none g] at f1; cases f1
  rw [List.getElem?_eq_getElem (by omega)] at this
  exact read_raw h5 ht he hc hce hsp (by simpa using this)

/-- A list of such structs. -/
theorem read_raws {t22 t27 t5 t e : TypeId} {fs : Array Field} (h22 : P.underlying t22 = some (.slice t27)) (hc27 : P.cellsOf t27 = 1) (h27 : P.underlying t27 = some (.struct fs)) (hf : ∃ f, fs[0]? = some f ∧ f.type = t5 ∧ f.offset = 0) (hc5 : P.cellsOf t5 = 1) (h5 : P.underlying t5 = some (.slice t)) (ht : P.underlying t = some (.array 5 e)) (he : P.underlying e = some (.int .i8)) (hc : P.cellsOf t = 5) (hce : P.cellsOf e = 1) {fuel : Nat} {v : Value} {x : DataW H × List MemPlace}
    (hsp : ∀ b, spare b = true) (h : DataW.trod enc P w 0 spare held fuel t22 [v] = some x) : ∃ l : List Raw, V w.heap (allS w.heap) N0 (dRaws l) v := by
  rcases open_slice1 h22 hc27 h with ⟨h1, _⟩ | ⟨a, len, cap, m, n, Vs, D, Pl, h1, _, hl, _, hm, _, hx⟩
  · simp at h1
    subst h1
    refine ⟨[], ?_⟩
    simp only [dRaws, V]
    exact ⟨none, 0, rfl, Nat.le_refl _, rfl, ⟨fun _ => rfl, fun _ => rfl⟩, fun ad e => by cases e⟩
  · simp at h1
    subst h1
    rw [hsp, if_pos rfl] at hm
    subst hm
    have one : ∀ i, i < m → ∃ r : Raw, V w.heap (allS w.heap) N0 (rawSl r) (Vs i) := fun i hi => read_rawT h27 hf hc5 h5 ht he hc hce hsp (hx i hi).2
    obtain ⟨R, hR⟩ := choose_lt one
    refine ⟨(List.range len).map R, ?_⟩
    simp only [dRaws, V]
    refine ⟨some a, m, by simp, by simpa using hl, areDeep_iff.2 fun d hd => ?_, ⟨by simp, fun h0 => ?_⟩, fun ad e hm0 => ?_⟩
    · obtain ⟨r, _, rfl⟩ := List.mem_map.1 hd
      simp only [rawSl, isDeep]; exact rawsCells_deep r
    · have : len = 0 := by omega
      subst this; rfl
    · cases e
      have hsa : a.spot = none := by
        have := (cellAt_of (hx 0 (by omega)).1).1
        simpa [Addr.add] using this
      refine ⟨hsa, VC.mk fun i d hd => ?_⟩
      have hlt : i < len := by
        rcases Nat.lt_or_ge i len with g | g
        · exact g
        · rw [List.getElem?_eq_none (by simpa using g)] at hd; cases hd
      simp [hlt] at hd
      subst hd
      have k4 := (cellAt_of (hx i (by omega)).1).2
      rw [add_block, add_off] at k4
      exact ⟨⟨_, k4⟩, _, k4, hR i (by omega)⟩

/-- A struct that holds such a list and a byte. -/
theorem read_pair {t24 t22 t27 t5 t e tu : TypeId} {f0 f1 : Field} {fs : Array Field} (h24 : P.underlying t24 = some (.struct #[f0, f1])) (hc24 : P.cellsOf t24 = 2) (e0 : f0.type = t22 ∧ f0.offset = 0) (e1 : f1.type = tu ∧ f1.offset = 1) (hc22 : P.cellsOf t22 = 1) (hcu : P.cellsOf tu = 1) (hu : P.underlying tu = some (.int .u8))
    (h22 : P.underlying t22 = some (.slice t27)) (hc27 : P.cellsOf t27 = 1) (h27 : P.underlying t27 = some (.struct fs)) (hf : ∃ f, fs[0]? = some f ∧ f.type = t5 ∧ f.offset = 0) (hc5 : P.cellsOf t5 = 1) (h5 : P.underlying t5 = some (.slice t)) (ht : P.underlying t = some (.array 5 e)) (he : P.underlying e = some (.int .i8)) (hc : P.cellsOf t = 5) (hce : P.cellsOf e = 1) {fuel : Nat} {cs : Array Value} {x : DataW H × List MemPlace}
    (hsp : ∀ b, spare b = true) (h : DataW.trod enc P w 0 spare held fuel t24 cs.toList = some x) : ∃ (l : List Raw) (o : Int), V w.heap (allS w.heap) N0 (.agg [dRaws l, .i .u8 o]) (.agg cs) := by
  obtain ⟨y0, y1, n, _, hl, h0, h1⟩ := Go.ChangeShapes.trod_struct2 h24 h
  rw [hc24] at hl
  rw [e0.1, e0.2, hc22] at h0
  rw [e1.1, e1.2, hcu] at h1
  obtain ⟨cl⟩ := cs
  match cl, hl with
  | [a, b], _ =>
    obtain ⟨l, hv⟩ := read_raws h22 hc27 h27 hf hc5 h5 ht he hc hce hsp (v := a) (by simpa using h0)
    obtain ⟨z, hz, _⟩ := DataW.trod_int hu h1
    simp at hz
    subst hz
    refine ⟨l, z, ?_⟩
    simp only [V, VL]
    exact ⟨[a, .int .u8 z], rfl, a, _, rfl, hv, _, _, rfl, rfl, rfl⟩

/-- An array of three such structs. -/
theorem read_three {t28 t27 t5 t e : TypeId} {fs : Array Field} (h28 : P.underlying t28 = some (.array 3 t27)) (hc28 : P.cellsOf t28 = 3) (hc27 : P.cellsOf t27 = 1) (h27 : P.underlying t27 = some (.struct fs)) (hf : ∃ f, fs[0]? = some f ∧ f.type = t5 ∧ f.offset = 0) (hc5 : P.cellsOf t5 = 1) (h5 : P.underlying t5 = some (.slice t)) (ht : P.underlying t = some (.array 5 e)) (he : P.underlying e = some (.int .i8)) (hc : P.cellsOf t = 5) (hce : P.cellsOf e = 1) {fuel : Nat} {cs : Array Value} {x : DataW H × List MemPlace}
    (hsp : ∀ b, spare b = true) (h : DataW.trod enc P w 0 spare held fuel t28 cs.toList = some x) : ∃ q0 q1 q2 : Raw, V w.heap (allS w.heap) N0 (.agg [rawSl q0, rawSl q1, rawSl q2]) (.agg cs) := by
  obtain ⟨xs, m, _, _, hl, hxl, hx⟩ := DataW.trod_array h28 h
  rw [hc28] at hl
  rw [hc27] at hx
  obtain ⟨cl⟩ := cs
  match cl, hl with
  | [a, b, c], _ =>
    have one : ∀ i v, i < 3 → ([a, b, c].drop (i * 1)).take 1 = [v] → ∃ q : Raw, V w.heap (allS w.heap) N0 (rawSl q) v := by
      intro i v hi hv
      have := hx i hi
      rw [hv, List.getElem?_eq_getElem (by omega)] at this
      exact read_rawT h27 hf hc5 h5 ht he hc hce hsp this
    obtain ⟨q0, g0⟩ := one 0 a (by omega) rfl
    obtain ⟨q1, g1⟩ := one 1 b (by omega) rfl
    obtain ⟨q2, g2⟩ := one 2 c (by omega) rfl
    refine ⟨q0, q1, q2, ?_⟩
    simp only [V, VL]
    exact ⟨[a, b, c], rfl, a, _, rfl, g0, b, _, rfl, g1, c, _, rfl, g2, rfl⟩

theorem bounds_u8 {z : Int} (h : (Lit.int .u8 z).wf = true) : 0 ≤ z ∧ z ≤ 255 := by
  simp [Lit.wf, IntKind.min, IntKind.max, IntKind.signed, IntKind.bits] at h
  omega
end
end Go.Ev
