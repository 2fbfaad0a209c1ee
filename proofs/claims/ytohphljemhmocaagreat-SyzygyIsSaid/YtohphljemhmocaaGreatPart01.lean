/- Parts of the proof of the statement: EvAll, EvCall, EvDo, EvStep, EvFree, EvOrder, EvRegion, EvCode, EvBody, EvFun, EvProg, EvInst, EvWhole, EvW, PmBase, EvVal, EvSpec, EvSim, EvSet, EvNm. -/
import Derived.Test.YtohphljemhmocaaGreatPart00
import Derived.Orders
import Derived.LoopN
import Derived.Scope
import Derived.Laws.Sem
set_option linter.unusedVariables false
set_option linter.unusedSimpArgs false
/- Every operation that is no call of a function. -/
namespace Go.Ev

section
variable {base : Nat} {L : Len} {S : Pub} {N : Nm} {s : St} {a : Act} {P : Program} {w : World} {K : Cfg} {cs : Sem}

theorem toI_some {d : Option Nat} {op : Op} {x : Dl} (hx : evI K cs s (toI P d op) = some x) : ∃ i, toI? P d op = some i ∧ toI P d op = i ∧ evI K cs s i = some x := by
  unfold toI at hx ⊢
  cases h : toI? P d op with
  | none => rw [h] at hx; simp [evI] at hx
  | some i => rw [h] at hx; exact ⟨i, rfl, rfl, hx⟩

theorem op_ok (f : Fr base L S N s a.tmps w.heap) (hb : base ≤ w.heap.size) {o : Oper} (hd : DstOk o a) {x : Dl} (hx : evI K cs s (toI P o.dst o.op) = some x)
    (hp : ∀ c, o.op = .call c → ∃ b, c.callee = .builtin b) : Goes P o base L S (app s x) a w := by
  obtain ⟨i, hi, -, hx⟩ := toI_some hx
  cases ho : o.dst with
  | none =>
    rw [ho] at hi
    cases hop : o.op with
    | store t X Y => exact one_store f ho hx hop hi
    | mapUpdate t X Y Z => exact one_mapUpdate f ho hx hop hi
    | call c =>
      obtain ⟨b, hc⟩ := hp c hop
      rw [hop] at hi
      simp only [toI?] at hi
      split at hi
      · cases hi
      · split at hi <;> first
          | (rename_i hq _; rw [hc] at hq; cases hq; done)
          | (rename_i hq; rw [hc] at hq; cases hq; done)
          | (rename_i hq; cases hq; done)
          | cases hi
    | _ => rw [hop] at hi; simp [toI?] at hi
  | some d =>
    rw [ho] at hi
    cases hop : o.op with
    | move X => exact one_move f ho hd hx (.inl hop) hi
    | assign X => exact one_move f ho hd hx (.inr hop) hi
    | pick C X Y => exact one_pick f ho hd hx hop hi
    | alloc t => exact one_alloc f ho hd hx hb hop hi
    | box t X => exact one_box f ho hd hx hb hop hi
    | build t ps => exact one_build f ho hd hx hop hi
    | buildSlice t n ps => exact one_buildSlice f ho hd hx hb hop hi
    | load t X => exact one_load f ho hd hx hop hi
    | nilCheck X => exact one_nilCheck f ho hd hx hop hi
    | binOp op t X Y t' => exact one_binOp f ho hd hx hop hi
    | unOp op t X => exact one_unOp f ho hd hx hop hi
    | convert t u X => exact one_convert f ho hd hx hop hi
    | makeFunc g fi ca => exact one_makeFunc f ho hd hx hop hi
    | makeMap t r => exact one_makeMap f ho hd hx hb hop hi
    | makeSlice t X Y => exact one_makeSlice f ho hd hx hb hop hi
    | slice t X lo hi' mx => exact one_slice f ho hd hx hop hi
    | fieldAddr t X n => exact one_fieldAddr f ho hd hx hop hi
    | field t X n => exact one_field f ho hd hx hop hi
    | indexAddr t X Y => exact one_indexAddr f ho hd hx hop hi
    | index t X Y => exact one_index f ho hd hx hop hi
    | lookup t X Y ok => exact one_lookup f ho hd hx hop hi
    | extract X n => exact one_extract f ho hd hx hop hi
    | call c =>
      obtain ⟨b, hc⟩ := hp c hop
      exact one_builtin f ho hd hx hb hop hc hi
    | _ => rw [hop] at hi; simp [toI?] at hi
end
end Go.Ev

/- What a call of a function does, said of values; a call in a frame. -/
namespace Go.Ev

abbrev N0 : Nm := fun _ _ => none
abbrev NB (b sz : Nat) : Nm := fun _ _ => some (some (b, sz))

/-- What is published lies in memory. -/
def WF (S : Pub) (hp : Hp) : Prop := (∀ b o, S.c b o → ∃ v, cellAt hp b o = some v) ∧ ∀ r, S.m r → ∃ es clk, hp[r]? = some (.map es clk)

/-- The value of an object that is handed on with its identity. -/
def ownV (k h c off n : Nat) : DV := if k = 0 then .ref h c off n else if k = 1 then .mref h c else .ptr h c off

def ArgR (hp : Hp) (S : Pub) (d : DV) (v : Value) (l : List (Nat × Ob)) : Prop :=
  (l = [] ∧ isDeep d = true ∧ V hp S N0 d v) ∨ (∃ k sz cs off n b, d = .own k sz cs off n ∧ l = [(b, ⟨k, sz, cs⟩)] ∧ V hp S (NB b sz) (ownV k 0 0 off n) v)

def ArgsR (hp : Hp) (S : Pub) : List DV → List Value → List (Nat × Ob) → Prop
  | [], vs, l => vs = [] ∧ l = []
  | d :: r, vs, l => ∃ v t l1 l2, vs = v :: t ∧ l = l1 ++ l2 ∧ ArgR hp S d v l1 ∧ ArgsR hp S r t l2

/-- The objects that are lent. -/
def LentOK (hp : Hp) (S : Pub) (lent : List (Nat × Ob)) : Prop := (lent.map (·.1)).Nodup ∧ ∀ p ∈ lent, p.2.k ≠ 3 ∧ areDeep p.2.cs = true ∧ OB hp S N0 False p.2 p.1

/-- What they hold afterwards. -/
def LentR (hp : Hp) (S : Pub) : List (Nat × Ob) → List (List DV) → Prop
  | [], o => o = []
  | (b, ob) :: r, o => ∃ c t, o = c :: t ∧ areDeep c = true ∧ OB hp S N0 False { ob with cs := c } b ∧ LentR hp S r t

def ResR (lo : Nat) (hp : Hp) (S : Pub) (r : DV) (v : Value) : Prop :=
  ∃ news : List (Nat × Ob), (adoptR 0 0 r).2.reverse = news.map (·.2) ∧ (news.map (·.1)).Nodup ∧ (∀ p ∈ news, lo ≤ p.1 ∧ p.2.k ≠ 3 ∧ OB hp S N0 False p.2 p.1) ∧
    ∀ h c N, (∀ i p, news[i]? = some p → N h (c + i) = some (some (p.1, p.2.sz))) → V hp S N (adoptR h c r).1 v

structure Done (w : World) (S : Pub) (lent : List (Nat × Ob)) (r : DV) (outs : List (List DV)) (v : Value) (w' : World) (S' : Pub) : Prop where
  sub : Sub S S'
  wf : WF S' w'.heap
  size : w.heap.size ≤ w'.heap.size
  old : ∀ b, b < w.heap.size → b ∉ lent.map (·.1) → w'.heap[b]? = w.heap[b]?
  rows : ∀ b, rowSize w.heap b ≤ rowSize w'.heap b
  newc : ∀ b o, S'.c b o → S.c b o ∨ w.heap.size ≤ b
  newm : ∀ r, S'.m r → S.m r ∨ w.heap.size ≤ r
  res : ResR w.heap.size w'.heap S' r v
  lent : LentR w'.heap S' lent outs
  tw : Tw w w'

def Known (P : Program) (f : FuncId) : Prop := ∃ fn, P.funcs[f]? = some fn ∧ fn.name ≠ "runtime.NumGoroutine" ∧ fn.body ≠ none

/-- What is said of a function. -/
def FnOK (P : Program) (f : FuncId) (g : List DV → Option (DV × List (List DV))) : Prop :=
  ∀ ds r outs, g ds = some (r, outs) → Known P f ∧ ∀ w S vs lent, WF S w.heap → ArgsR w.heap S ds vs lent → LentOK w.heap S lent →
    Calls P f vs.toArray w fun e w' => ∃ v S', e = .returned v ∧ Done w S lent r outs v w' S'

def SemOK (P : Program) (cs : Sem) : Prop := ∀ f, FnOK P f (cs f)

theorem run_callFunc {P : Program} {f : FuncId} (h : Known P f) (args : Array Value) (w : World) : (callFunc f args).run P w = .ok (.enter f args) w := by
  obtain ⟨fn, h1, h2, h3⟩ := h
  simp [callFunc, h1, h2, h3]

theorem Later.of_none {N : Nm} {hp hp' : Hp} : Later N0 N hp hp' := fun _ _ _ h => by cases h

theorem OB.names {hp : Hp} {S : Pub} {N : Nm} {fz : Prop} {ob : Ob} {b : Nat} (h : OB hp S N0 fz ob b) : OB hp S N fz ob b := h.mono (Keeps.refl _ _) Later.of_none rfl id

theorem OB.unnamed {hp : Hp} {S : Pub} {N : Nm} {fz fz' : Prop} {ob : Ob} {b : Nat} (hd : areDeep ob.cs = true) (hz : fz → fz') (h : OB hp S N fz ob b) : OB hp S N0 fz' ob b := by
  rcases h with ⟨g1, ms, clk, g2, g3, g4, g5, g6⟩ | ⟨g1, arr, E, vs, t, g2, g3, g4, g5, g6⟩
  · exact .inl ⟨g1, ms, clk, g2, g3, VM.deep _ _ hd g4, g5, fun x => hz (g6 x)⟩
  · exact .inr ⟨g1, arr, E, vs, t, g2, g3, VL.deep _ _ hd g4, fun o x => ⟨hz (g5 o x).1, (g5 o x).2⟩, g6⟩

theorem WF.of {base : Nat} {L : Len} {S : Pub} {N : Nm} {vals : Nat → Option DV} {ol : Nat → List Ob} {Z : Nat × Nat → Prop} {a : Array Value} {hp : Hp} (f : FR base L S N vals ol Z a hp) : WF S hp := ⟨f.pub, f.pubm⟩

section
variable {base : Nat} {L : Len} {S : Pub} {N : Nm} {vals : Nat → Option DV} {ol : Nat → List Ob} {Z : Nat × Nat → Prop} {a : Array Value} {hp : Hp}

/-- An object that is taken over. -/
theorem FR.adopt (f : FR base L S N vals ol Z a hp) {d : Nat} {ob : Ob} {b : Nat} (hk : ob.k ≠ 3) (hb : ∀ h e sz, N h e ≠ some (some (b, sz))) (hbase : base ≤ b ∨ L b)
    (ho : OB hp S N0 False ob b) : FR base L S (more N d (ol d).length (b, ob.sz)) vals (upd ol d (ob :: ol d)) Z a hp := by
  have hfr := f.fresh d
  have l : Later N (more N d (ol d).length (b, ob.sz)) hp hp := Later.more hfr fun _ _ _ _ _ => Nat.le_refl _
  have kk := Keeps.refl S hp
  refine ⟨fun i x hx => V.mono kk (Sub.refl _) l _ _ (f.slots i x hx), ?_, ?_, ?_, ?_, ?_, f.pub, f.pubm, f.oldc, f.oldm, f.lentn_more (f.fresh d)⟩
  · intro h e o hl
    unfold upd at hl
    by_cases hh : h = d
    · subst hh
      rw [if_pos rfl, nth_cons, if_neg hk] at hl
      by_cases he : e = (ol h).length
      · subst he
        rw [if_pos rfl] at hl; cases hl
        refine ⟨b, by simp [Ev.more], ?_, hbase⟩
        exact (ho.mono (fz' := Z (h, (ol h).length)) (Keeps.refl _ _) Later.of_none rfl False.elim)
      · rw [if_neg he] at hl
        obtain ⟨b', h1, h2, h3⟩ := f.obs h e o hl
        exact ⟨b', by unfold Ev.more; rw [if_neg (by intro x; exact he x.2)]; exact h1, h2.mono kk l rfl id, h3⟩
    · rw [if_neg hh] at hl
      obtain ⟨b', h1, h2, h3⟩ := f.obs h e o hl
      exact ⟨b', by unfold Ev.more; rw [if_neg (by intro x; exact hh x.1)]; exact h1, h2.mono kk l rfl id, h3⟩
  · intro h e
    unfold Ev.more upd
    by_cases hh : h = d
    · subst hh
      by_cases he : e = (ol h).length
      · subst he; simp
      · simp only [he, and_false, if_false, if_true, List.length_cons]
        rw [f.known]; omega
    · simp only [hh, false_and, if_false]; exact f.known h e
  · intro h e p hn
    unfold Ev.more at hn
    unfold upd
    split at hn
    · rename_i hh; obtain ⟨rfl, rfl⟩ := hh
      exact ⟨ob, by rw [if_pos rfl, nth_cons, if_pos rfl, if_neg hk]⟩
    · rename_i hh
      obtain ⟨o, ho'⟩ := f.alive h e p hn
      refine ⟨o, ?_⟩
      by_cases h2 : h = d
      · subst h2; rw [if_pos rfl, nth_cons, if_neg (by intro x; exact hh ⟨rfl, x⟩)]; exact ho'
      · rw [if_neg h2]; exact ho'
  · intro h e h' e' b' sz sz' h1 h2
    unfold Ev.more at h1 h2
    split at h1
    · rename_i hh; split at h2
      · rename_i hh'; exact ⟨hh.1.trans hh'.1.symm, hh.2.trans hh'.2.symm⟩
      · simp at h1; exact absurd (h1.1 ▸ h2) (hb _ _ _)
    · split at h2
      · simp at h2; exact absurd (h2.1 ▸ h1) (hb _ _ _)
      · exact f.inj _ _ _ _ _ _ _ h1 h2
  · intro h e hz
    unfold upd
    have := f.zk h e hz
    split
    · rename_i hh; subst hh; simp; omega
    · exact this

theorem FR.adopts : ∀ (news : List (Nat × Ob)) {N : Nm} {ol : Nat → List Ob} (f : FR base L S N vals ol Z a hp) (d : Nat), (news.map (·.1)).Nodup →
    (∀ p ∈ news, p.2.k ≠ 3 ∧ (∀ h e sz, N h e ≠ some (some (p.1, sz))) ∧ (base ≤ p.1 ∨ L p.1) ∧ OB hp S N0 False p.2 p.1) →
    ∃ N', Later N N' hp hp ∧ FR base L S N' vals (upd ol d ((news.map (·.2)).reverse ++ ol d)) Z a hp ∧ (∀ i p, news[i]? = some p → N' d ((ol d).length + i) = some (some (p.1, p.2.sz)))
  | [], N, ol, f, d, _, _ => by
    refine ⟨N, Later.refl _ _, ?_, fun i p h => by simp at h⟩
    have : upd ol d ((([] : List (Nat × Ob)).map (·.2)).reverse ++ ol d) = ol := by funext i; unfold upd; split <;> simp_all
    rw [this]; exact f
  | p :: r, N, ol, f, d, hn, hp => by
    simp only [List.map_cons, List.nodup_cons] at hn
    have hp0 := hp p (List.mem_cons_self ..)
    have f1 := f.adopt (d := d) hp0.1 hp0.2.1 hp0.2.2.1 hp0.2.2.2
    obtain ⟨N', h1, h2, h3⟩ := FR.adopts r f1 d hn.2 (fun q hq => by
      have hq0 := hp q (List.mem_cons_of_mem _ hq)
      refine ⟨hq0.1, fun h e sz hN => ?_, hq0.2.2.1, hq0.2.2.2⟩
      unfold more at hN
      split at hN
      · simp at hN
        exact hn.1 (hN.1 ▸ List.mem_map_of_mem hq)
      · exact hq0.2.1 _ _ _ hN)
    have l1 : Later N (more N d (ol d).length (p.1, p.2.sz)) _ _ := Later.more (hp := ‹Hp›) (hp' := ‹Hp›) (f.fresh d) fun _ _ _ _ _ => Nat.le_refl _
    refine ⟨N', fun h e x hx => ?_, ?_, fun i q hq => ?_⟩
    · obtain ⟨r1, a1, a2, a3⟩ := l1 h e x hx
      obtain ⟨r2, b1, b2, b3⟩ := h1 h e r1 a1
      refine ⟨r2, b1, ?_, fun _ _ _ => Nat.le_refl _⟩
      rcases b2 with b2 | b2
      · exact .inl b2
      · rcases a2 with a2 | a2
        · exact .inl (b2.trans a2)
        · exact .inr (b2.trans a2)
    · refine cast ?_ h2
      congr 1
      funext i
      unfold upd
      by_cases hi : i = d
      · subst hi; simp
      · simp [hi]
    · cases i with
      | zero =>
        simp at hq; subst hq
        have hm : more N d (ol d).length (p.1, p.2.sz) d (ol d).length = some (some (p.1, p.2.sz)) := by simp [more]
        obtain ⟨r2, b1, b2, _⟩ := h1 _ _ _ hm
        rcases b2 with b2 | b2
        · -- the name is still alive
          exfalso
          subst b2
          have hlt : (ol d).length < (upd (upd ol d (p.2 :: ol d)) d ((r.map (·.2)).reverse ++ upd ol d (p.2 :: ol d) d) d).length := by simp [upd]; omega
          have hnth : nth (upd (upd ol d (p.2 :: ol d)) d ((r.map (·.2)).reverse ++ upd ol d (p.2 :: ol d) d) d) (ol d).length = some p.2 := by
            unfold nth; rw [if_pos hlt]
            have e : (upd (upd ol d (p.2 :: ol d)) d ((r.map (·.2)).reverse ++ upd ol d (p.2 :: ol d) d) d) = (r.map (·.2)).reverse ++ p.2 :: ol d := by simp [upd]
            rw [e]
            have e2 : ((r.map (·.2)).reverse ++ p.2 :: ol d).length - 1 - (ol d).length = ((r.map (·.2)).reverse).length := by simp
            rw [e2]; simp [hp0.1]
          obtain ⟨b3, c1, _⟩ := h2.obs _ _ _ hnth
          rw [b1] at c1; cases c1
        · rw [b2] at b1; simpa using b1
      | succ i =>
        simp at hq
        have := h3 i q hq
        simp [upd] at this
        rw [show (ol d).length + (i + 1) = (ol d).length + 1 + i by omega]; exact this

/-- After a call: memory has grown, one object or none holds something else. -/
theorem FR.after (f : FR base L S N vals ol Z a hp) {S' : Pub} {hp' : Hp} {ol' : Nat → List Ob} (sub : Sub S S') (keeps : Keeps S hp hp') (rows : ∀ b, rowSize hp b ≤ rowSize hp' b) (wf : WF S' hp')
    (len : ∀ h, (ol' h).length = (ol h).length) (obs : ∀ h e ob, nth (ol' h) e = some ob → ∃ b, N h e = some (some (b, ob.sz)) ∧ OB hp' S' N (Z (h, e)) ob b ∧ (base ≤ b ∨ L b))
    (alive : ∀ h e ob, nth (ol h) e = some ob → ∃ ob', nth (ol' h) e = some ob') (newc : ∀ b o, S'.c b o → S.c b o ∨ base ≤ b) (newm : ∀ b, S'.m b → S.m b ∨ base ≤ b) :
    FR base L S' N vals ol' Z a hp' := by
  have l : Later N N hp hp' := fun h e r hr => ⟨r, hr, .inr rfl, fun b _ _ => rows b⟩
  refine ⟨fun i x hx => V.mono keeps sub l _ _ (f.slots i x hx), obs, ?_, ?_, f.inj, ?_, wf.1, wf.2, ?_, ?_, f.lentn⟩
  · intro h e; rw [f.known, len]
  · intro h e p hn
    obtain ⟨ob, h1⟩ := f.alive h e p hn
    exact alive _ _ _ h1
  · intro h e hz; rw [len]; exact f.zk _ _ hz
  · intro b o h
    rcases newc b o h with h | h
    · exact f.oldc b o h
    · exact .inr (.inl h)
  · intro b h
    rcases newm b h with h | h
    · exact f.oldm b h
    · exact .inr (.inl h)
end

/-! ### What is handed on -/

theorem ArgR.mono {hp hp' : Hp} {S S' : Pub} (k : Keeps S hp hp') (s : Sub S S') (hr : ∀ b, rowSize hp b ≤ rowSize hp' b) {d : DV} {v : Value} {l : List (Nat × Ob)} (h : ArgR hp S d v l) : ArgR hp' S' d v l := by
  rcases h with ⟨h1, h2, h3⟩ | ⟨k1, sz, cs, off, n, b, h1, h2, h3⟩
  · exact .inl ⟨h1, h2, V.mono k s Later.of_none _ _ h3⟩
  · exact .inr ⟨k1, sz, cs, off, n, b, h1, h2, V.mono k s (fun h e r hh => ⟨r, hh, .inr rfl, fun b _ _ => hr b⟩) _ _ h3⟩

theorem ArgsR.mono {hp hp' : Hp} {S S' : Pub} (k : Keeps S hp hp') (s : Sub S S') (hr : ∀ b, rowSize hp b ≤ rowSize hp' b) : ∀ {ds : List DV} {vs : List Value} {l : List (Nat × Ob)}, ArgsR hp S ds vs l → ArgsR hp' S' ds vs l
  | [], _, _, h => h
  | d :: r, vs, l, h => by
    obtain ⟨v, t, l1, l2, h1, h2, h3, h4⟩ := h
    exact ⟨v, t, l1, l2, h1, h2, h3.mono k s hr, h4.mono k s hr⟩

section
variable {base : Nat} {L : Len} {N : Nm} {s : St} {a : Array Value} {hp : Hp} {vals : Nat → Option DV}

/-- What is lent, by its name. -/
def lentOf (s : St) (N : Nm) (q : Option (Nat × Nat)) (lent : List (Nat × Ob)) : Prop :=
  match q with
  | none => lent = []
  | some (h, e) => ∃ b ob, lent = [(b, ob)] ∧ look s h e = some ob ∧ ob.k ≠ 3 ∧ areDeep ob.cs = true ∧ N h e = some (some (b, ob.sz))

theorem V_NB {S : Pub} {h e off n : Nat} {b sz : Nat} {v : Value} {k : Nat} (hN : N h e = some (some (b, sz))) (hv : V hp S N (ownV k h e off n) v) : V hp S (NB b sz) (ownV k 0 0 off n) v := by
  unfold ownV at hv ⊢
  split
  · rename_i hk; rw [if_pos hk] at hv
    simp only [V] at hv ⊢
    obtain ⟨ad, cap, r, h1, h2, h3, h4, h5⟩ := hv
    rw [hN] at h4; cases h4
    exact ⟨ad, cap, _, h1, h2, h3, rfl, h5⟩
  · rename_i hk; rw [if_neg hk] at hv
    split
    · rename_i hk1; rw [if_pos hk1] at hv
      simp only [V] at hv ⊢
      obtain ⟨q, r, h1, h4, h5⟩ := hv
      rw [hN] at h4; cases h4
      exact ⟨q, _, h1, rfl, h5⟩
    · rename_i hk1; rw [if_neg hk1] at hv
      simp only [V] at hv ⊢
      obtain ⟨ad, r, h1, h2, h4, h5⟩ := hv
      rw [hN] at h4; cases h4
      exact ⟨ad, _, h1, h2, rfl, h5⟩

theorem argsIn_ok : ∀ (ds : List DV) (br : List Bool) {vs : List Value} {l : List DV} {z : List (Nat × Nat)} {q : Option (Nat × Nat)} {S : Pub} {Z : Nat × Nat → Prop},
    FR base L S N vals (lst s) Z a hp → VL hp S N ds vs → argsIn s br ds = some (l, z, q) →
    ∃ S' lent, Sub S S' ∧ FR base L S' N vals (lst s) (fun p => Z p ∨ p ∈ z) a hp ∧ ArgsR hp S' l vs lent ∧ lentOf s N q lent
  | [], br, vs, l, z, q, S, Z, f, hv, h => by
    simp [argsIn] at h
    obtain ⟨rfl, rfl, rfl⟩ := h
    simp only [VL] at hv; subst hv
    exact ⟨S, [], Sub.refl _, by simpa using f, ⟨rfl, rfl⟩, rfl⟩
  | d :: r, br, vs, l, z, q, S, Z, f, hv, h => by
    simp only [VL] at hv
    obtain ⟨v, t, rfl, hv1, hv2⟩ := hv
    simp only [argsIn] at h
    cases ht : argsIn s br.tail r with
    | none => rw [ht] at h; cases h
    | some x =>
      obtain ⟨l0, z0, q0⟩ := x
      rw [ht] at h
      obtain ⟨S1, lent0, s1, f1, g1, g2⟩ := argsIn_ok r br.tail f hv2 ht
      have hv1' := V.mono (Keeps.refl _ _) s1 (Later.refl _ _) _ _ hv1
      simp only at h
      split at h
      · -- with its identity
        have hown : ∀ (k hh e off n : Nat) (ob : Ob), look s hh e = some ob → q0 = none → ob.k = k → k < 3 → areDeep ob.cs = true → V hp S1 N (ownV k hh e off n) v →
            some (DV.own k ob.sz ob.cs off n :: l0, z0, some (hh, e)) = some (l, z, q) →
            ∃ S' lent, Sub S S' ∧ FR base L S' N vals (lst s) (fun p => Z p ∨ p ∈ z) a hp ∧ ArgsR hp S' l (v :: t) lent ∧ lentOf s N q lent := by
          intro k hh e off n ob ho hq hk hk3 hd hvv he
          simp only [Option.some.injEq, Prod.mk.injEq] at he
          obtain ⟨rfl, rfl, rfl⟩ := he
          subst hq
          simp only [lentOf] at g2; subst g2
          obtain ⟨b, n1, _, _⟩ := f1.obs _ _ _ ho
          refine ⟨S1, [(b, ob)], s1, f1, ⟨v, t, [(b, ob)], [], rfl, rfl, .inr ⟨k, ob.sz, ob.cs, off, n, b, rfl, by subst hk; rfl, V_NB n1 hvv⟩, g1⟩, ?_⟩
          exact ⟨b, ob, rfl, ho, by omega, hd, n1⟩
        have hdp : ∀ hh e ob, look s hh e = some ob → ob.k = 0 ∨ ob.k = 1 → areDeep ob.cs = true := by
          intro hh e ob ho hk
          obtain ⟨b, _, g2, _⟩ := f1.obs _ _ _ ho
          rcases g2 with ⟨c1, ms, clk, c2, c3, _⟩ | ⟨c1, arr, E, vs, t, c2, c3, c4, c5, c6⟩
          · exact c3
          · exact c6 (hk.resolve_right c1)
        split at h
        · rename_i hh e off n
          split at h
          · rename_i ob ho
            split at h
            · rename_i hk
              exact hown 0 _ _ off n ob ho rfl hk (by omega) (hdp _ _ _ ho (.inl hk)) (by simpa [ownV] using hv1') h
            · cases h
          · cases h
        · rename_i hh e off
          split at h
          · rename_i ob ho
            split at h
            · rename_i hk
              exact hown 2 _ _ off 0 ob ho rfl hk.1 (by omega) hk.2 (by simpa [ownV] using hv1') h
            · cases h
          · cases h
        · rename_i hh e
          split at h
          · rename_i ob ho
            split at h
            · rename_i hk
              exact hown 1 _ _ 0 0 ob ho rfl hk (by omega) (hdp _ _ _ ho (.inr hk)) (by simpa [ownV] using hv1') h
            · cases h
          · cases h
        · cases h
      · split at h
        · rename_i x y hdd
          simp only [Option.some.injEq, Prod.mk.injEq] at h
          obtain ⟨rfl, rfl, rfl⟩ := h
          obtain ⟨S2, a1, a2, a3, a4⟩ := deepen_ok s d x y v S1 _ f1 hv1' hdd
          refine ⟨S2, lent0, s1.trans a1, ?_, ⟨v, t, [], lent0, rfl, rfl, .inl ⟨rfl, a3, V.deep _ _ a3 a4⟩, g1.mono (Keeps.refl _ _) a1 (fun _ => Nat.le_refl _)⟩, g2⟩
          refine cast ?_ a2
          congr 1
          funext p
          simp only [List.mem_append, eq_iff_iff, or_assoc, or_comm (a := p ∈ z0)]
        · cases h
end
end Go.Ev

/- A call of a function in a frame, as the interpreter says. -/
namespace Go.Ev

theorem adoptL_objs (h c h' c' : Nat) : ∀ (ds : List DV), (adoptL h c ds).2 = (adoptL h' c' ds).2 := by
  intro ds
  induction ds generalizing c c' with
  | nil => rfl
  | cons d r ih =>
    have e : (adopt h c d).2 = (adopt h' c' d).2 := by cases d <;> rfl
    simp only [adoptL, e]
    rw [ih]

theorem adoptR_objs (h c : Nat) (d : DV) : (adoptR h c d).2 = (adoptR 0 0 d).2 := by
  cases d <;> first | rfl | exact adoptL_objs _ _ _ _ _

theorem OB.after {hp hp' : Hp} {S S' : Pub} {N : Nm} {fz : Prop} {ob : Ob} {b : Nat} (k : Keeps S hp hp') (s : Sub S S') (l : Later N N hp hp') (hb : hp'[b]? = hp[b]?)
    (nc : ∀ o, S'.c b o → S.c b o) (nm : S'.m b → S.m b) (h : OB hp S N fz ob b) : OB hp' S' N fz ob b := by
  rcases h with ⟨g1, ms, clk, g2, g3, g4, g5, g6⟩ | ⟨g1, arr, E, vs, t, g2, g3, g4, g5, g6⟩
  · exact .inl ⟨g1, ms, clk, hb.trans g2, g3, VM.mono k s l _ _ g4, g5, fun x => g6 (nm x)⟩
  · exact .inr ⟨g1, arr, E, vs, t, hb.trans g2, g3, VL.mono k s l _ _ g4, fun o x => g5 o (nc o x), g6⟩

theorem OB.unpub {hp : Hp} {S : Pub} {N : Nm} {ob : Ob} {b : Nat} (wf : WF S hp) (h : OB hp S N False ob b) : (∀ o, ¬ S.c b o) ∧ ¬ S.m b := by
  rcases h with ⟨g1, ms, clk, g2, g3, g4, g5, g6⟩ | ⟨g1, arr, E, vs, t, g2, g3, g4, g5, g6⟩
  · refine ⟨fun o x => ?_, g6⟩
    obtain ⟨v, hv⟩ := wf.1 _ _ x
    simp [cellAt, g2] at hv
  · refine ⟨fun o x => (g5 o x).1, fun x => ?_⟩
    obtain ⟨es, clk, hv⟩ := wf.2 _ x
    rw [g2] at hv; cases hv

theorem Keeps.of_done {S : Pub} {w w' : World} {lent : List (Nat × Ob)} (wf : WF S w.heap) (lo : LentOK w.heap S lent) (old : ∀ b, b < w.heap.size → b ∉ lent.map (·.1) → w'.heap[b]? = w.heap[b]?) : Keeps S w.heap w'.heap := by
  have hl : ∀ b, b ∈ lent.map (·.1) → (∀ o, ¬ S.c b o) ∧ ¬ S.m b := by
    intro b hb
    obtain ⟨p, hp, rfl⟩ := List.mem_map.1 hb
    exact OB.unpub wf (lo.2 p hp).2.2
  constructor
  · intro b o h
    obtain ⟨v, hv⟩ := wf.1 _ _ h
    exact cellAt_of_eq (old b (lt_of_cell hv) fun hb => (hl b hb).1 o h)
  · intro r h
    obtain ⟨es, clk, hv⟩ := wf.2 _ h
    exact old r (lt_of_get hv) fun hb => (hl r hb).2 h

section
variable {base : Nat} {L : Len} {S : Pub} {N : Nm} {s : St} {a : Act} {P : Program} {w : World} {K : Cfg} {cs : Sem}

theorem goes_call (f : Fr base L S N s a.tmps w.heap) (hb : base ≤ w.heap.size) (hsem : SemOK P cs) {o : Oper} {d : Nat} (ho : o.dst = some d) (hd : d < a.tmps.size) (hd' : d < 1000000)
    {F : FuncId} {ds : List DV} {vs : List Value} (hv : VL w.heap S N ds vs) (hex : (execOp a.eval o).run P w = (callFunc F vs.toArray).run P w) {x : Dl} (hx : doCall K cs s (some d) F ds = some x) :
    Goes P o base L S (app s x) a w := by
  simp only [doCall] at hx
  cases hai : argsIn s (K.fc F).byref ds with
  | none => rw [hai] at hx; cases hx
  | some t =>
  obtain ⟨l, z, q⟩ := t
  rw [hai] at hx
  simp only at hx
  cases hcs : cs F l with
  | none => rw [hcs] at hx; cases hx
  | some t2 =>
  obtain ⟨r, outs⟩ := t2
  rw [hcs] at hx
  simp only at hx
  obtain ⟨S1, lent, sub1, f1, args, hlent⟩ := argsIn_ok ds _ f hv hai
  obtain ⟨known, calls⟩ := hsem F l r outs hcs
  -- what is lent
  have hq : (q = none ∧ outs = [] ∧ lent = [] ∧ x = ⟨some (d, (adoptR d (cnt s d) r).1), (if (adoptR d (cnt s d) r).2.isEmpty then [] else [(d, (adoptR d (cnt s d) r).2 ++ lst s d)]), z⟩) ∨
      ∃ h e c ob b, q = some (h, e) ∧ outs = [c] ∧ lent = [(b, ob)] ∧ look s h e = some ob ∧ ob.k ≠ 3 ∧ areDeep ob.cs = true ∧ N h e = some (some (b, ob.sz)) ∧ (h ≠ d ∧ (h, e) ∉ z ∧ (h, e) ∉ s.z ∧ h < 1000000) ∧
        x = ⟨some (d, (adoptR d (cnt s d) r).1), (h, setAt (lst s h) e { ob with cs := c }) :: (if (adoptR d (cnt s d) r).2.isEmpty then [] else [(d, (adoptR d (cnt s d) r).2 ++ lst s d)]), z⟩ := by
    split at hx
    · cases hx
      exact .inl ⟨rfl, rfl, hlent, rfl⟩
    · rename_i h e c
      split at hx
      · rename_i ob hob
        split at hx
        · rename_i hc
          cases hx
          obtain ⟨b, ob', g1, g2, g3, g4, g5⟩ := hlent
          rw [hob] at g2; cases g2
          exact .inr ⟨h, e, c, ob, b, rfl, rfl, g1, hob, g3, g4, g5, hc, rfl⟩
        · cases hx
      · cases hx
    · cases hx
  have wf1 := WF.of f1
  have lok : LentOK w.heap S1 lent := by
    rcases hq with ⟨rfl, rfl, rfl, _⟩ | ⟨h, e, c, ob, b, rfl, rfl, rfl, g1, g2, g3, g4, g5, _⟩
    · exact ⟨by simp, by simp⟩
    · refine ⟨by simp, fun p hp => ?_⟩
      simp at hp; subst hp
      obtain ⟨b', k1, k2, _⟩ := f1.obs _ _ _ g1
      rw [g4] at k1; simp at k1; subst k1
      exact ⟨g2, g3, k2.unnamed g3 fun hz => hz.elim g5.2.2.1 g5.2.1⟩
  intro K' Q hK
  unfold Oper.wp
  rw [hex, run_callFunc known, Oper.upon_enter]
  refine Calls.mono (calls w S1 vs lent wf1 args lok) fun e w' he => ?_
  obtain ⟨v, S', rfl, dn⟩ := he
  have keeps := Keeps.of_done wf1 lok dn.old
  have later : Later N N w.heap w'.heap := fun h e r hr => ⟨r, hr, .inr rfl, fun b _ _ => dn.rows b⟩
  show K' (a.put o.dst v) w'
  -- the objects afterwards
  obtain ⟨ol', hlen, hol, f2⟩ : ∃ ol' : Nat → List Ob, (∀ h, (ol' h).length = (lst s h).length) ∧
      lst (app s x) = upd ol' d ((adoptR d (cnt s d) r).2 ++ ol' d) ∧ FR base L S' N s.v.get ol' (fun p => p ∈ s.z ∨ p ∈ z) a.tmps w'.heap := by
    have hnc : ∀ b o, S'.c b o → S1.c b o ∨ base ≤ b := fun b o h => (dn.newc b o h).imp id (Nat.le_trans hb)
    have hnm : ∀ b, S'.m b → S1.m b ∨ base ≤ b := fun b h => (dn.newm b h).imp id (Nat.le_trans hb)
    have hobs : ∀ h1 e1 ob1, nth (lst s h1) e1 = some ob1 → (∀ b, N h1 e1 = some (some (b, ob1.sz)) → b ∉ lent.map (·.1)) →
        ∃ b, N h1 e1 = some (some (b, ob1.sz)) ∧ OB w'.heap S' N ((h1, e1) ∈ s.z ∨ (h1, e1) ∈ z) ob1 b ∧ (base ≤ b ∨ L b) := by
      intro h1 e1 ob1 hn hnl
      obtain ⟨b1, k1, k2, k3⟩ := f1.obs _ _ _ hn
      have hlt := k2.block
      refine ⟨b1, k1, OB.after keeps dn.sub later (dn.old b1 hlt (hnl b1 k1)) (fun o hc => ?_) (fun hm => ?_) k2, k3⟩
      · exact (dn.newc _ _ hc).resolve_right (by omega)
      · exact (dn.newm _ hm).resolve_right (by omega)
    rcases hq with ⟨rfl, rfl, rfl, rfl⟩ | ⟨h, e, c, ob, b, rfl, rfl, rfl, g1, g2, g3, g4, g5, rfl⟩
    · refine ⟨lst s, fun _ => rfl, ?_, ?_⟩
      · by_cases hne : (adoptR d (cnt s d) r).2 = []
        · rw [app_lst_nil (by simp [hne])]
          funext i; unfold upd; split <;> simp_all
        · rw [app_lst_one (h := d) (l := (adoptR d (cnt s d) r).2 ++ lst s d) (by simp [hne]) hd']
      · exact f1.after dn.sub keeps dn.rows dn.wf (fun _ => rfl) (fun h1 e1 ob1 hn => hobs h1 e1 ob1 hn (by simp)) (fun h1 e1 ob1 hn => ⟨ob1, hn⟩) hnc hnm
    · have he := nth_lt (l := lst s h) g1
      refine ⟨upd (lst s) h (setAt (lst s h) e { ob with cs := c }), fun h1 => ?_, ?_, ?_⟩
      · unfold upd; split
        · rename_i hh; subst hh; exact setAt_length
        · rfl
      · have hud : upd (lst s) h (setAt (lst s h) e { ob with cs := c }) d = lst s d := by unfold upd; rw [if_neg (Ne.symm g5.1)]
        rw [hud]
        by_cases hne : (adoptR d (cnt s d) r).2 = []
        · rw [app_lst_one (h := h) (l := setAt (lst s h) e { ob with cs := c }) (by simp [hne]) g5.2.2.2]
          funext i
          by_cases hi : i = d
          · subst hi; simp [upd, hne, Ne.symm g5.1]
          · simp [upd, hi]
        · rw [app_lst_two (h := h) (l := setAt (lst s h) e { ob with cs := c }) (h2 := d) (l2 := (adoptR d (cnt s d) r).2 ++ lst s d) (by simp [hne]) g5.2.2.2 hd']
      · refine f1.after dn.sub keeps dn.rows dn.wf (fun h1 => ?_) (fun h1 e1 ob1 hn => ?_) (fun h1 e1 ob1 hn => ?_) hnc hnm
        · unfold upd; split
          · rename_i hh; subst hh; exact setAt_length
          · rfl
        · by_cases hh : h1 = h ∧ e1 = e
          · obtain ⟨rfl, rfl⟩ := hh
            unfold upd at hn
            rw [if_pos rfl, nth_setAt he, if_pos rfl, if_neg (by simpa using g2)] at hn
            cases hn
            obtain ⟨c', t, e1', e2', e3', e4'⟩ := dn.lent
            simp at e1'; obtain ⟨rfl, rfl⟩ := e1'
            obtain ⟨b', k1, _, k3⟩ := f1.obs _ _ _ g1
            rw [g4] at k1; simp at k1; subst k1
            exact ⟨b, g4, e3'.names.mono (Keeps.refl _ _) (Later.refl _ _) rfl False.elim, k3⟩
          · have hn' : nth (lst s h1) e1 = some ob1 := by
              unfold upd at hn
              split at hn
              · rename_i h2; subst h2
                rw [nth_setAt he, if_neg (fun x => hh ⟨rfl, x⟩)] at hn; exact hn
              · exact hn
            refine hobs h1 e1 ob1 hn' fun b1 hb1 hmem => ?_
            simp at hmem; subst hmem
            exact hh (f1.inj _ _ _ _ _ _ _ hb1 g4)
        · unfold upd
          by_cases h2 : h1 = h
          · subst h2
            rw [if_pos rfl, nth_setAt he]
            by_cases h3 : e1 = e
            · rw [if_pos h3, if_neg (by simpa using g2)]; exact ⟨_, rfl⟩
            · rw [if_neg h3]; exact ⟨_, hn⟩
          · rw [if_neg h2]; exact ⟨_, hn⟩
  -- the result
  obtain ⟨news, n1, n2, n3, n4⟩ := dn.res
  obtain ⟨N', l', f3, hnm⟩ := FR.adopts news f2 d n2 fun p hp => by
    obtain ⟨a1, a2, a3⟩ := n3 p hp
    refine ⟨a2, fun h e sz hN => ?_, .inl (Nat.le_trans hb a1), a3⟩
    have := f1.block hN
    omega
  have hcnt : (ol' d).length = cnt s d := hlen d
  have hval := n4 d (cnt s d) N' (fun i p hp => by rw [← hcnt]; exact hnm i p hp)
  have f4 := f3.val hd hval
  have hxs : x.v = some (d, (adoptR d (cnt s d) r).1) ∧ x.z = z := by
    rcases hq with ⟨_, _, _, rfl⟩ | ⟨_, _, _, _, _, _, _, _, _, _, _, _, _, rfl⟩ <;> exact ⟨rfl, rfl⟩
  refine hK _ _ ⟨S', N', sub1.trans dn.sub, ?_, by rw [ho]; simp [put_some], by rw [ho]; simp [put_some], ⟨dn.size, fun b hb1 hb2 => ?_, dn.rows⟩, dn.tw⟩
  · show FR base L S' N' (app s x).v.get (lst (app s x)) (fun p => p ∈ (app s x).z) _ _
    rw [app_v hxs.1 hd', hol, ho]
    have e1 : (news.map (·.2)).reverse = (adoptR d (cnt s d) r).2 := by rw [adoptR_objs, ← n1, List.reverse_reverse]
    rw [e1] at f4
    refine cast ?_ f4
    congr 1
    funext p
    simp [app, hxs.2, or_comm]
  · refine dn.old b (Nat.lt_of_lt_of_le hb1 hb) fun hmem => ?_
    rcases hq with ⟨_, _, rfl, _⟩ | ⟨h, e, c, ob, b0, _, _, rfl, g1, g2, g3, g4, g5, _⟩
    · simp at hmem
    · simp at hmem; subst hmem
      obtain ⟨b', k1, _, k3⟩ := f1.obs _ _ _ g1
      rw [g4] at k1; simp at k1; subst k1
      rcases k3 with k3 | k3
      · omega
      · exact hb2 k3
end
end Go.Ev

/- Every operation, and every instruction with its guard. -/
namespace Go.Ev

section
variable {base : Nat} {L : Len} {S : Pub} {N : Nm} {s : St} {a : Act} {P : Program} {w : World} {K : Cfg} {cs : Sem}

theorem call_op (f : Fr base L S N s a.tmps w.heap) (hb : base ≤ w.heap.size) (hsem : SemOK P cs) {o : Oper} (hd : DstOk o a) {x : Dl} (hx : evI K cs s (toI P o.dst o.op) = some x)
    {c : Call} (hop : o.op = .call c) (hc : ∀ b, c.callee ≠ .builtin b) : Goes P o base L S (app s x) a w := by
  obtain ⟨i, hi, -, hx⟩ := toI_some hx
  rw [hop] at hi
  simp only [toI?] at hi
  split at hi
  · cases hi
  · rename_i l hl
    have hvs : ∀ ds, opvL s l = some ds → VL w.heap S N ds (c.args.toList.map a.eval) := fun ds h => opvL_ok f hl h
    have hex0 : ∀ g, c.callee = .value g → (execOp a.eval o).run P w = (do let d ← Deferred.ofValue (a.eval g) (c.args.map a.eval); invoke d.target d.args : Go.Sem Next).run P w := by
      intro g hg
      unfold execOp; rw [hop]
      simp only [resolve, hg]
    split at hi
    · rename_i F hcal
      cases hi
      simp only [evI, Option.bind_eq_some_iff] at hx
      obtain ⟨ds, h1, h2⟩ := hx
      cases ho : o.dst with
      | none => rw [ho] at h2; simp [doCall] at h2
      | some d =>
        rw [ho] at h2
        refine goes_call f hb hsem ho (hd d ho).1 (hd d ho).2 (F := F) (hvs ds h1) ?_ h2
        rw [hex0 _ hcal]
        have : a.eval (.func F) = .func (.func F) #[] #[] := rfl
        rw [this]
        simp only [Deferred.ofValue, Sem.run_bind, Sem.run_pure, Result.andThen_ok, invoke]
        congr 2
        apply Array.ext'
        simp
    · rename_i g hng hcal
      simp only [Option.map_eq_some_iff] at hi
      obtain ⟨g', hg', rfl⟩ := hi
      simp only [evI] at hx
      split at hx
      · rename_i F caps ds h1 h2
        split at hx
        · cases hx
        · cases ho : o.dst with
          | none => rw [ho] at hx; simp [doCall] at hx
          | some d =>
            rw [ho] at hx
            have hg := opv_ok f hg' h1
            simp only [V] at hg
            obtain ⟨us, e1, e2⟩ := hg
            refine goes_call f hb hsem ho (hd d ho).1 (hd d ho).2 (F := F) (VL.append (hvs ds h2) e2) ?_ hx
            rw [hex0 _ hcal, e1]
            simp only [Deferred.ofValue, Sem.run_bind, Sem.run_pure, Result.andThen_ok, invoke]
            congr 2
            apply Array.ext'
            simp
      · cases hx
    · rename_i hq _; exact absurd hq (hc _)
    · rename_i hq _; exact absurd hq (hc _)
    · rename_i hq _; exact absurd hq (hc _)
    · rename_i hq _; exact absurd hq (hc _)
    · cases hi

theorem any_op (f : Fr base L S N s a.tmps w.heap) (hb : base ≤ w.heap.size) (hsem : SemOK P cs) {o : Oper} (hd : DstOk o a) {x : Dl} (hx : evI K cs s (toI P o.dst o.op) = some x) :
    Goes P o base L S (app s x) a w := by
  by_cases h : ∀ c, o.op = .call c → ∃ b, c.callee = .builtin b
  · exact op_ok f hb hd hx h
  · simp only [Classical.not_forall] at h
    obtain ⟨c, hop, h⟩ := h
    exact call_op f hb hsem hd hx hop fun b hb => h ⟨b, hb⟩

/-- An operation of a region, with its guard, goes as the interpreter says of its instruction. -/
theorem ins_ok (f : Fr base L S N s a.tmps w.heap) (hb : base ≤ w.heap.size) (hsem : SemOK P cs) {n : Nat} (hn : n ≤ a.tmps.size) (hn' : n ≤ 1000000) {ops : Array Oper} {i : Nat} {o : Oper} (hi : ops[i]? = some o) {y : Ins} (hy : toIns P n ops o = some y)
    {x : Dl} (hx : evIns K cs s y = some x) (K' : Act → World → Prop) (Q : Exit → Act → World → Prop) (hK : ∀ a' w', Out base L S (app s x) a w a' w' → K' a' w') :
    wpOp P ops Q i K' a w := by
  unfold toIns at hy
  simp only at hy
  split at hy
  · rename_i hc
    have hd : DstOk o a := by
      intro d ho
      have := hc.1
      rw [ho] at this
      have h2 : d < n := by simpa [dstIn] using this
      exact ⟨Nat.lt_of_lt_of_le h2 hn, Nat.lt_of_lt_of_le h2 hn'⟩
    unfold wpOp
    rw [hi]
    split at hy
    · rename_i hg
      cases hy
      simp only [evIns] at hx
      have hw : Region.wanted o (yielded ops a.tmps) = true := by simp [Region.wanted, hg]
      simp only [hw, if_true]
      exact .inl (any_op f hb hsem hd hx K' Q hK)
    · rename_i g w0 hg
      split at hy
      · rename_i t d ht ho
        cases hy
        have hvb : ∀ v, s.v.get t = some (.b v) → yielded ops a.tmps g = some v := by
          intro v hv
          have := f.slots t _ hv
          simp only [V] at this
          unfold yielded
          rw [ht]
          simp only [Option.bind_some]
          rw [Array.getD_eq_getD_getElem?] at this
          cases hq : a.tmps[t]? with
          | none => rw [hq] at this; simp [undef] at this
          | some u => rw [hq] at this; simp at this; subst this; rfl
        have hvt : s.v.get t = some (.tup []) → yielded ops a.tmps g = none := by
          intro hv
          have := f.slots t _ hv
          simp only [V, VL] at this
          obtain ⟨vs, h1, rfl⟩ := this
          unfold yielded
          rw [ht]
          simp only [Option.bind_some]
          rw [Array.getD_eq_getD_getElem?] at h1
          cases hq : a.tmps[t]? with
          | none => rfl
          | some u => rw [hq] at h1; simp at h1; subst h1; rfl
        have hun : Fr base L S N (app s (val d (.tup []))) (a.put o.dst undef).tmps w.heap := by
          rw [ho]
          exact Fr.val f (by simp only [V, VL]; exact ⟨[], rfl, rfl⟩) (hd d ho).1 (hd d ho).2
        have hskip : Region.wanted o (yielded ops a.tmps) = false → x = val d (.tup []) → (if Region.wanted o (yielded ops a.tmps) = true then o.wp P a w K' Q ∨ (o.asks P a w ∧ LetsOut Q) else K' (a.put o.dst undef) w) := by
          intro h1 h2
          rw [h1, if_neg (by simp)]
          subst h2
          exact hK _ _ ⟨S, N, Sub.refl _, hun, by rw [ho]; simp [put_some], by rw [ho]; simp [put_some], Keep.refl _ _ _, Tw.refl _⟩
        simp only [evIns] at hx
        split at hx
        · rename_i v hv
          split at hx
          · rename_i hvw
            have hw : Region.wanted o (yielded ops a.tmps) = true := by simp [Region.wanted, hg, hvb v hv, hvw]
            simp only [hw, if_true]
            exact .inl (any_op f hb hsem hd hx K' Q hK)
          · rename_i hvw
            cases hx
            exact hskip (by simp [Region.wanted, hg, hvb v hv, hvw]) rfl
        · rename_i hv
          cases hx
          exact hskip (by simp [Region.wanted, hg, hvt hv]) rfl
        · cases hx
      · cases hy
  · cases hy
end
end Go.Ev

/- What an instruction depends on, and what it changes. -/
namespace Go.Ev

/-- States that no instruction tells apart. -/
structure SEq (s s' : St) : Prop where
  v : s'.v.get = s.v.get
  o : lst s' = lst s
  z : ∀ p, p ∈ s'.z ↔ p ∈ s.z

theorem SEq.refl (s : St) : SEq s s := ⟨rfl, rfl, fun _ => Iff.rfl⟩
theorem SEq.trans {a b c : St} (h : SEq a b) (g : SEq b c) : SEq a c := ⟨g.v.trans h.v, g.o.trans h.o, fun p => (g.z p).trans (h.z p)⟩
theorem SEq.symm {a b : St} (h : SEq a b) : SEq b a := ⟨h.v.symm, h.o.symm, fun p => (h.z p).symm⟩

theorem Fr.congr {base : Nat} {L : Len} {S : Pub} {N : Nm} {s s' : St} {a : Array Value} {hp : Hp} (q : SEq s s') (f : Fr base L S N s a hp) : Fr base L S N s' a hp := by
  show FR base L S N s'.v.get (lst s') (fun p => p ∈ s'.z) a hp
  have hz : (fun p => p ∈ s'.z) = fun p => p ∈ s.z := by funext p; exact propext (q.z p)
  rw [q.v, q.o, hz]; exact f

mutual
/-- The names that a value shows are good ones. -/
def Gd (G : Nat → Nat → Prop) : DV → Prop
  | .ref h e _ _ | .ptr h e _ | .mref h e => G h e
  | .fn _ cs | .agg cs | .tup cs => GdL G cs
  | _ => True
def GdL (G : Nat → Nat → Prop) : List DV → Prop
  | [] => True
  | d :: r => Gd G d ∧ GdL G r
end

mutual
theorem V_Gd {hp : Hp} {S : Pub} {N : Nm} {G : Nat → Nat → Prop} (hG : ∀ h e r, N h e = some r → G h e) : ∀ (d : DV) (v : Value), V hp S N d v → Gd G d
  | .b _, _, _ => trivial
  | .i _ _, _, _ => trivial
  | .nilfn, _, _ => trivial
  | .nil, _, _ => trivial
  | .sl _ _, _, _ => trivial
  | .ref h e _ _, v, hv => by simp only [V] at hv; obtain ⟨_, _, r, _, _, _, hn, _⟩ := hv; exact hG _ _ _ hn
  | .ptr h e _, v, hv => by simp only [V] at hv; obtain ⟨_, r, _, _, hn, _⟩ := hv; exact hG _ _ _ hn
  | .rop _, _, _ => trivial
  | .fn _ cs, v, hv => by simp only [V] at hv; obtain ⟨vs, _, hn⟩ := hv; exact VL_Gd hG cs vs hn
  | .mref h e, v, hv => by simp only [V] at hv; obtain ⟨_, r, _, hn, _⟩ := hv; exact hG _ _ _ hn
  | .msl _, _, _ => trivial
  | .agg cs, v, hv => by simp only [V] at hv; obtain ⟨vs, _, hn⟩ := hv; exact VL_Gd hG cs vs hn
  | .tup cs, v, hv => by simp only [V] at hv; obtain ⟨vs, _, hn⟩ := hv; exact VL_Gd hG cs vs hn
  | .own .., _, _ => trivial
  | .x _ _, _, _ => trivial
  | .u .., _, _ => trivial
  | .non, _, _ => trivial
  | .emp, _, _ => trivial
theorem VL_Gd {hp : Hp} {S : Pub} {N : Nm} {G : Nat → Nat → Prop} (hG : ∀ h e r, N h e = some r → G h e) : ∀ (ds : List DV) (vs : List Value), VL hp S N ds vs → GdL G ds
  | [], _, _ => trivial
  | d :: r, vs, hv => by simp only [VL] at hv; obtain ⟨v, t, _, h1, h2⟩ := hv; exact ⟨V_Gd hG d v h1, VL_Gd hG r t h2⟩
end

mutual
theorem Gd_true : ∀ (d : DV), Gd (fun _ _ => True) d
  | .b _ | .i _ _ | .nilfn | .nil | .sl _ _ | .ref .. | .ptr .. | .rop _ | .mref .. | .msl _ | .own .. | .x _ _ | .u .. | .non | .emp => trivial
  | .fn _ cs | .agg cs | .tup cs => GdL_true cs
theorem GdL_true : ∀ (ds : List DV), GdL (fun _ _ => True) ds
  | [] => trivial
  | d :: r => ⟨Gd_true d, GdL_true r⟩
end

theorem GdL.append {G : Nat → Nat → Prop} : ∀ {a b : List DV}, GdL G a → GdL G b → GdL G (a ++ b)
  | [], _, _, h => h
  | _ :: _, _, h, g => ⟨h.1, GdL.append h.2 g⟩

section
variable {s s' : St} {G : Nat → Nat → Prop}

mutual
theorem deepen_frame (hl : ∀ h e ob, G h e → look s h e = some ob → look s' h e = some ob) : ∀ (d : DV) {r : DV × List (Nat × Nat)}, Gd G d → deepen s d = some r → deepen s' d = some r
  | .b _, _, _, h => h
  | .i _ _, _, _, h => h
  | .nilfn, _, _, h => h
  | .nil, _, _, h => h
  | .sl _ _, _, _, h => h
  | .rop _, _, _, h => h
  | .msl _, _, _, h => h
  | .ref h e off n, r, g, hd => by
    simp only [deepen] at hd ⊢
    cases ho : look s h e with
    | none => rw [ho] at hd; cases hd
    | some ob => rw [ho] at hd; rw [hl _ _ _ g ho]; exact hd
  | .ptr h e off, r, g, hd => by
    simp only [deepen] at hd ⊢
    cases ho : look s h e with
    | none => rw [ho] at hd; cases hd
    | some ob => rw [ho] at hd; rw [hl _ _ _ g ho]; exact hd
  | .mref h e, r, g, hd => by
    simp only [deepen] at hd ⊢
    cases ho : look s h e with
    | none => rw [ho] at hd; cases hd
    | some ob => rw [ho] at hd; rw [hl _ _ _ g ho]; exact hd
  | .fn f cs, r, g, hd => by
    simp only [deepen] at hd ⊢
    cases ho : deepenL s cs with
    | none => rw [ho] at hd; cases hd
    | some x => rw [ho] at hd; rw [deepenL_frame hl cs g ho]; exact hd
  | .agg cs, r, g, hd => by
    simp only [deepen] at hd ⊢
    cases ho : deepenL s cs with
    | none => rw [ho] at hd; cases hd
    | some x => rw [ho] at hd; rw [deepenL_frame hl cs g ho]; exact hd
  | .tup cs, r, g, hd => by
    simp only [deepen] at hd ⊢
    cases ho : deepenL s cs with
    | none => rw [ho] at hd; cases hd
    | some x => rw [ho] at hd; rw [deepenL_frame hl cs g ho]; exact hd
  | .own .., _, _, h => by simp [deepen] at h
  | .x _ _, _, _, h => h
  | .u .., _, _, h => h
  | .non, _, _, h => h
  | .emp, _, _, h => h
theorem deepenL_frame (hl : ∀ h e ob, G h e → look s h e = some ob → look s' h e = some ob) : ∀ (ds : List DV) {r : List DV × List (Nat × Nat)}, GdL G ds → deepenL s ds = some r → deepenL s' ds = some r
  | [], _, _, h => h
  | d :: t, r, g, hd => by
    simp only [deepenL] at hd ⊢
    cases h1 : deepen s d with
    | none => rw [h1] at hd; cases hd
    | some x =>
      cases h2 : deepenL s t with
      | none => rw [h1, h2] at hd; cases hd
      | some y => rw [h1, h2] at hd; rw [deepen_frame hl d g.1 h1, deepenL_frame hl t g.2 h2]; exact hd
end

theorem deepen_look (hl : look s' = look s) (d : DV) : deepen s' d = deepen s d := by
  have h1 : ∀ h e ob, True → look s h e = some ob → look s' h e = some ob := fun h e ob _ q => by rw [hl]; exact q
  have h2 : ∀ h e ob, True → look s' h e = some ob → look s h e = some ob := fun h e ob _ q => by rw [← hl]; exact q
  cases h : deepen s d with
  | some r => exact deepen_frame (G := fun _ _ => True) h1 d (Gd_true d) h
  | none =>
    cases g : deepen s' d with
    | none => rfl
    | some r => rw [deepen_frame (G := fun _ _ => True) h2 d (Gd_true d) g] at h; cases h

theorem argsIn_frame (hl : ∀ h e ob, G h e → look s h e = some ob → look s' h e = some ob) : ∀ (ds : List DV) (br : List Bool) {r : List DV × List (Nat × Nat) × Option (Nat × Nat)}, GdL G ds → argsIn s br ds = some r → argsIn s' br ds = some r
  | [], _, _, _, h => by simpa [argsIn] using h
  | d :: t, br, r, g, h => by
    simp only [argsIn] at h ⊢
    cases ht : argsIn s br.tail t with
    | none => rw [ht] at h; cases h
    | some x =>
      obtain ⟨l, z, q⟩ := x
      rw [ht] at h; rw [argsIn_frame hl t br.tail g.2 ht]
      simp only at h ⊢
      split
      · rename_i hb
        rw [if_pos hb] at h
        split at h
        · rename_i h0 e0 off n
          cases ho : look s h0 e0 with
          | none => rw [ho] at h; cases h
          | some ob => rw [ho] at h; rw [hl _ _ _ g.1 ho]; exact h
        · rename_i h0 e0 off
          cases ho : look s h0 e0 with
          | none => rw [ho] at h; cases h
          | some ob => rw [ho] at h; rw [hl _ _ _ g.1 ho]; exact h
        · rename_i h0 e0
          cases ho : look s h0 e0 with
          | none => rw [ho] at h; cases h
          | some ob => rw [ho] at h; rw [hl _ _ _ g.1 ho]; exact h
        · cases h
      · rename_i hb
        rw [if_neg hb] at h
        cases hd : deepen s d with
        | none => rw [hd] at h; cases h
        | some y => rw [hd] at h; rw [deepen_frame hl d g.1 hd]; exact h

theorem argsIn_none : ∀ (ds : List DV) (br : List Bool) {l : List DV} {z : List (Nat × Nat)} {q : Option (Nat × Nat)}, br.any id = false → argsIn s br ds = some (l, z, q) → q = none
  | [], _, _, _, _, _, h => by simp [argsIn] at h; exact h.2.2.symm
  | d :: t, br, l, z, q, hb, h => by
    simp only [argsIn] at h
    cases ht : argsIn s br.tail t with
    | none => rw [ht] at h; cases h
    | some x =>
      obtain ⟨l0, z0, q0⟩ := x
      rw [ht] at h
      have hb1 : br.tail.any id = false := by cases br <;> simp_all
      have hb2 : br.headD false = false := by cases br <;> simp_all
      have := argsIn_none t br.tail hb1 ht
      subst this
      simp only [hb2, Bool.false_eq_true, if_false] at h
      split at h
      · simp at h; exact h.2.2.symm
      · cases h

theorem partsOf_frame : ∀ (ps : List (Nat × Nat × Opd)), (∀ x ∈ ps.map (·.2.2), opv s' x = opv s x) → partsOf s' ps = partsOf s ps
  | [], _ => rfl
  | (o, n, x) :: r, h => by
    simp only [partsOf]
    rw [h x (by simp), partsOf_frame r fun y hy => h y (by simp only [List.map_cons, List.mem_cons]; exact .inr hy)]

theorem partsOf_Gd : ∀ (ps : List (Nat × Nat × Opd)) {l : List (Nat × Nat × DV)}, (∀ x ∈ ps.map (·.2.2), ∀ d, opv s x = some d → Gd G d) → partsOf s ps = some l → ∀ y ∈ l, Gd G y.2.2
  | [], l, _, h => by simp [partsOf] at h; subst h; simp
  | (o, n, x) :: r, l, hg, h => by
    simp only [partsOf] at h
    split at h
    · rename_i d l0 h1 h2
      cases h
      intro y hy
      rcases List.mem_cons.1 hy with rfl | hy
      · exact hg x (by simp) d h1
      · exact partsOf_Gd r (fun y hy => hg y (by simp only [List.map_cons, List.mem_cons]; exact .inr hy)) h2 y hy
    · cases h

theorem deepParts_frame (hl : ∀ h e ob, G h e → look s h e = some ob → look s' h e = some ob) : ∀ (ps : List (Nat × Nat × DV)) {r : List (Nat × Nat × DV) × List (Nat × Nat)}, (∀ y ∈ ps, Gd G y.2.2) → deepParts s ps = some r → deepParts s' ps = some r
  | [], _, _, h => h
  | (o, n, x) :: t, r, g, h => by
    simp only [deepParts] at h ⊢
    cases h1 : deepen s x with
    | none => rw [h1] at h; cases h
    | some y =>
      cases h2 : deepParts s t with
      | none => rw [h1, h2] at h; cases h
      | some z =>
        rw [h1, h2] at h
        rw [deepen_frame hl x (g _ (List.mem_cons_self ..)) h1, deepParts_frame hl t (fun y hy => g y (List.mem_cons_of_mem _ hy)) h2]; exact h

theorem opvL_frame : ∀ (xs : List Opd), (∀ x ∈ xs, opv s' x = opv s x) → opvL s' xs = opvL s xs
  | [], _ => rfl
  | x :: r, h => by
    simp only [opvL]
    rw [h x (by simp), opvL_frame r fun y hy => h y (List.mem_cons_of_mem _ hy)]

theorem opvL_Gd : ∀ (xs : List Opd) {l : List DV}, (∀ x ∈ xs, ∀ d, opv s x = some d → Gd G d) → opvL s xs = some l → GdL G l
  | [], l, _, h => by simp [opvL] at h; subst h; trivial
  | x :: r, l, hg, h => by
    simp only [opvL] at h
    split at h
    · rename_i d l0 h1 h2
      cases h
      exact ⟨hg x (by simp) d h1, opvL_Gd r (fun y hy => hg y (List.mem_cons_of_mem _ hy)) h2⟩
    · cases h

theorem bnd_frame (x : Option Opd) (h : ∀ y ∈ x.toList, opv s' y = opv s y) : bnd s' x = bnd s x := by
  cases x with
  | none => rfl
  | some y => simp only [bnd]; rw [h y (by simp)]

/-- What has to stay for an instruction to do the same. -/
structure FrameTo (K : Cfg) (G : Nat → Nat → Prop) (i : I) (s s' : St) : Prop where
  ops : ∀ x ∈ i.opds, opv s' x = opv s x
  good : i.touch = true → ∀ x ∈ i.opds, ∀ d, opv s x = some d → Gd G d
  look : i.touch = true → ∀ h e ob, G h e → look s h e = some ob → look s' h e = some ob
  dst : i.touch = true → ∀ d, i.dst = some d → lst s' d = lst s d
  mutd : i.mut K = true → lst s' = lst s ∧ ∀ p, p ∈ s'.z ↔ p ∈ s.z

theorem lst_look (h : lst s' = lst s) : look s' = look s := by funext a b; simp [look, h]
theorem lst_cnt {d : Nat} (h : lst s' d = lst s d) : cnt s' d = cnt s d := by simp [cnt, h]

theorem doCall_frame {K : Cfg} {cs : Sem} {d : Option Nat} {f : Nat} {l : List DV} {x : Dl} (hg : GdL G l) (hl : ∀ h e ob, G h e → look s h e = some ob → look s' h e = some ob) (hd : ∀ d0, d = some d0 → lst s' d0 = lst s d0)
    (hm : (K.fc f).byref.any id = true → lst s' = lst s ∧ ∀ p, p ∈ s'.z ↔ p ∈ s.z) (h : doCall K cs s d f l = some x) : doCall K cs s' d f l = some x := by
  cases d with
  | none => simp [doCall] at h
  | some d =>
    simp only [doCall] at h ⊢
    cases ha : argsIn s (K.fc f).byref l with
    | none => rw [ha] at h; cases h
    | some t =>
      obtain ⟨l0, z, q⟩ := t
      rw [ha] at h; rw [argsIn_frame hl l _ hg ha]
      simp only at h ⊢
      cases hc : cs f l0 with
      | none => rw [hc] at h; cases h
      | some t2 =>
        obtain ⟨r, outs⟩ := t2
        rw [hc] at h
        simp only [lst_cnt (hd d rfl), hd d rfl] at h ⊢
        cases hb : (K.fc f).byref.any id with
        | false =>
          have := argsIn_none l _ hb ha
          subst this
          cases outs with
          | nil => exact h
          | cons c t => simp at h
        | true =>
          obtain ⟨m1, m2⟩ := hm hb
          simp only [lst_look m1, m1, m2] at h ⊢
          exact h

theorem evI_frame {K : Cfg} {cs : Sem} {i : I} (f : FrameTo K G i s s') {x : Dl} (h : evI K cs s i = some x) : evI K cs s' i = some x := by
  have ops := f.ops
  cases i with
  | mv d x => simp only [evI] at h ⊢; rw [ops x (by simp [I.opds])]; exact h
  | pick d c a b => simp only [evI] at h ⊢; rw [ops c (by simp [I.opds]), ops a (by simp [I.opds]), ops b (by simp [I.opds])]; exact h
  | bin d op x y => simp only [evI] at h ⊢; rw [ops x (by simp [I.opds]), ops y (by simp [I.opds])]; exact h
  | un d op x => simp only [evI] at h ⊢; rw [ops x (by simp [I.opds])]; exact h
  | conv d k x => simp only [evI] at h ⊢; rw [ops x (by simp [I.opds])]; exact h
  | len d x => simp only [evI] at h ⊢; rw [ops x (by simp [I.opds])]; exact h
  | mnx d mx x y => simp only [evI] at h ⊢; rw [ops x (by simp [I.opds]), ops y (by simp [I.opds])]; exact h
  | ext d ix x => simp only [evI] at h ⊢; rw [ops x (by simp [I.opds])]; exact h
  | fld d off n agg x => simp only [evI] at h ⊢; rw [ops x (by simp [I.opds])]; exact h
  | idx d c sz agg x y => simp only [evI] at h ⊢; rw [ops x (by simp [I.opds]), ops y (by simp [I.opds])]; exact h
  | build d zero ps => simp only [evI] at h ⊢; rw [partsOf_frame ps (fun x hx => ops x (by simpa [I.opds] using hx))]; exact h
  | faddr d off x => simp only [evI] at h ⊢; rw [ops x (by simp [I.opds])]; exact h
  | iaddrA d c sz x y => simp only [evI] at h ⊢; rw [ops x (by simp [I.opds]), ops y (by simp [I.opds])]; exact h
  | iaddrS d sz x y => simp only [evI] at h ⊢; rw [ops x (by simp [I.opds]), ops y (by simp [I.opds])]; exact h
  | beq d ne x y => simp only [evI] at h ⊢; rw [ops x (by simp [I.opds]), ops y (by simp [I.opds])]; exact h
  | eqa d n ne x y => simp only [evI] at h ⊢; rw [ops x (by simp [I.opds]), ops y (by simp [I.opds])]; exact h
  | isnil d ne x => simp only [evI] at h ⊢; rw [ops x (by simp [I.opds])]; exact h
  | idxc d tbl x => simp only [evI] at h ⊢; rw [ops x (by simp [I.opds])]; exact h
  | mkfn d g xs => simp only [evI] at h ⊢; rw [opvL_frame xs (fun x hx => ops x (by simpa [I.opds] using hx))]; exact h
  | slice d sz x lo hi mx =>
    simp only [evI] at h ⊢
    rw [ops x (by simp [I.opds]), bnd_frame lo (fun y hy => ops y (by simp only [I.opds, List.mem_cons, List.mem_append]; exact .inr (.inl hy))), bnd_frame hi (fun y hy => ops y (by simp only [I.opds, List.mem_cons, List.mem_append]; exact .inr (.inr (.inl hy)))),
      bnd_frame mx (fun y hy => ops y (by simp only [I.opds, List.mem_cons, List.mem_append]; exact .inr (.inr (.inr hy))))]
    exact h
  | fail d => simp [evI] at h
  | load d n agg x =>
    simp only [evI] at h ⊢
    rw [ops x (by simp [I.opds])]
    split at h
    · rename_i h0 e0 o0 hx
      have hgd := f.good rfl x (by simp [I.opds]) _ hx
      cases ho : look s h0 e0 with
      | none => rw [ho] at h; cases h
      | some ob => rw [ho] at h; simp only [f.look rfl _ _ _ hgd ho]; exact h
    · exact h
    · cases h
  | alloc d z => simp only [evI, newOb] at h ⊢; rw [lst_cnt (f.dst rfl d rfl), f.dst rfl d rfl]; exact h
  | box d n x => simp only [evI, newOb] at h ⊢; rw [ops x (by simp [I.opds]), lst_cnt (f.dst rfl d rfl), f.dst rfl d rfl]; exact h
  | mkmap d => simp only [evI, newOb] at h ⊢; rw [lst_cnt (f.dst rfl d rfl), f.dst rfl d rfl]; exact h
  | mkslice d sz z l c => simp only [evI, newOb] at h ⊢; rw [ops l (by simp [I.opds]), ops c (by simp [I.opds]), lst_cnt (f.dst rfl d rfl), f.dst rfl d rfl]; exact h
  | bslice d c sz z ps =>
    simp only [evI, newOb] at h ⊢
    rw [partsOf_frame ps (fun x hx => ops x (by simpa [I.opds] using hx)), lst_cnt (f.dst rfl d rfl), f.dst rfl d rfl]
    cases hp : partsOf s ps with
    | none => rw [hp] at h; cases h
    | some l =>
      rw [hp] at h
      simp only [Option.bind_some] at h ⊢
      cases hd : deepParts s l with
      | none => rw [hd] at h; cases h
      | some r =>
        rw [hd] at h
        rw [deepParts_frame (f.look rfl) l (partsOf_Gd ps (fun x hx d hd => f.good rfl x (by simpa [I.opds] using hx) d hd) hp) hd]; exact h
  | sliceA d n x =>
    simp only [evI] at h ⊢
    rw [ops x (by simp [I.opds])]
    split at h
    · rename_i h0 e0 o0 hx
      have hgd := f.good rfl x (by simp [I.opds]) _ hx
      cases ho : look s h0 e0 with
      | none => rw [ho] at h; cases h
      | some ob => rw [ho] at h; simp only [f.look rfl _ _ _ hgd ho]; exact h
    · cases h
  | lookup d ksz z x k ok =>
    simp only [evI] at h ⊢
    rw [ops x (by simp [I.opds]), ops k (by simp [I.opds])]
    split at h
    · rename_i h0 e0 kc hx hk
      have hgd := f.good rfl x (by simp [I.opds]) _ hx
      cases ho : look s h0 e0 with
      | none => rw [ho] at h; cases h
      | some ob => rw [ho] at h; simp only [f.look rfl _ _ _ hgd ho]; exact h
    · cases h
  | store n x y =>
    obtain ⟨m1, m2⟩ := f.mutd rfl
    simp only [evI] at h ⊢
    simp only [ops x (by simp [I.opds]), ops y (by simp [I.opds]), lst_look m1, m1, m2, deepen_look (lst_look m1)]
    exact h
  | append d sz by_ x y =>
    obtain ⟨m1, m2⟩ := f.mutd rfl
    have hc : ∀ v, slCells s' v = slCells s v := fun v => by cases v <;> simp [slCells, lst_look m1]
    have hn : ∀ d, cnt s' d = cnt s d := fun d => by simp [cnt, m1]
    simp only [evI, newOb] at h ⊢
    simp only [ops x (by simp [I.opds]), ops y (by simp [I.opds]), lst_look m1, m1, m2, hc, hn]
    exact h
  | mupd ksz x k v =>
    obtain ⟨m1, m2⟩ := f.mutd rfl
    simp only [evI] at h ⊢
    simp only [ops x (by simp [I.opds]), ops k (by simp [I.opds]), ops v (by simp [I.opds]), lst_look m1, m1, m2, deepen_look (lst_look m1)]
    exact h
  | call d g xs =>
    simp only [evI] at h ⊢
    rw [opvL_frame xs (fun x hx => ops x (by simpa [I.opds] using hx))]
    cases hx : opvL s xs with
    | none => rw [hx] at h; cases h
    | some l =>
      rw [hx] at h
      simp only [Option.bind_some] at h ⊢
      exact doCall_frame (opvL_Gd xs (fun x hx d hd => f.good rfl x (by simpa [I.opds] using hx) d hd) hx) (f.look rfl) (fun d0 hd => f.dst rfl d0 hd) (fun hb => f.mutd (by simpa [I.mut] using hb)) h
  | callv d g xs =>
    simp only [evI] at h ⊢
    rw [ops g (by simp [I.opds]), opvL_frame xs (fun x hx => ops x (by simp only [I.opds, List.mem_cons]; exact .inr hx))]
    split at h
    · rename_i F caps l hg hx
      split at h
      · cases h
      · rename_i hb
        rw [if_neg hb]
        have g1 := f.good rfl g (by simp [I.opds]) _ hg
        exact doCall_frame (GdL.append (opvL_Gd xs (fun x hx d hd => f.good rfl x (by simp only [I.opds, List.mem_cons]; exact .inr hx) d hd) hx) g1) (f.look rfl) (fun d0 hd => f.dst rfl d0 hd) (fun h2 => absurd h2 hb) h
    · cases h
end
end Go.Ev

/- The order of the instructions of a region does not matter where they are apart. -/
namespace Go.Ev

mutual
theorem noNames_Gd {G : Nat → Nat → Prop} : ∀ (d : DV), noNames d = true → Gd G d
  | .b _, _ | .i _ _, _ | .nilfn, _ | .nil, _ | .sl _ _, _ | .rop _, _ | .msl _, _ | .own .., _ | .x _ _, _ | .u .., _ | .non, _ | .emp, _ => trivial
  | .ref .., h | .ptr .., h | .mref .., h => by simp [noNames] at h
  | .fn _ cs, h | .agg cs, h | .tup cs, h => noNamesL_Gd cs (by simpa [noNames] using h)
theorem noNamesL_Gd {G : Nat → Nat → Prop} : ∀ (ds : List DV), noNamesL ds = true → GdL G ds
  | [], _ => trivial
  | d :: r, h => by
    simp only [noNamesL, Bool.and_eq_true] at h
    exact ⟨noNames_Gd d h.1, noNamesL_Gd r h.2⟩
end

/-- What an instruction does to a state, in outline. -/
structure Shape (K : Cfg) (s : St) (i : I) (x : Dl) : Prop where
  v : match x.v with
    | some (d, _) => i.dst = some d
    | none => i.dst = none
  big : ∀ p ∈ x.o, p.1 < 1000000
  still : i.touch = false → x.o = [] ∧ x.z = []
  add : i.mut K = false → x.o = [] ∨ ∃ d l, i.dst = some d ∧ x.o = [(d, l ++ lst s d)]

section
variable {K : Cfg} {cs : Sem} {s : St}

theorem Shape.val {i : I} {d : Nat} {y : DV} (h : i.dst = some d) : Shape K s i (val d y) := ⟨h, by simp [Ev.val], fun _ => ⟨rfl, rfl⟩, fun _ => .inl rfl⟩

theorem Shape.new {i : I} {d : Nat} {y : DV} {ob : Ob} {z : List (Nat × Nat)} (h : i.dst = some d) (hd : d < 1000000) (ht : i.touch = true) : Shape K s i (newOb s d ob z y) :=
  ⟨h, by simp [newOb, hd], fun q => by rw [ht] at q; simp at q, fun _ => .inr ⟨d, [ob], h, rfl⟩⟩

theorem Shape.mutate {i : I} {x : Dl} (hv : match x.v with | some (d, _) => i.dst = some d | none => i.dst = none) (hb : ∀ p ∈ x.o, p.1 < 1000000) (ht : i.touch = true) (hm : i.mut K = true) : Shape K s i x :=
  ⟨hv, hb, fun q => by rw [ht] at q; simp at q, fun q => by rw [hm] at q; simp at q⟩

theorem doCall_shape {i : I} {d : Option Nat} {f : Nat} {l : List DV} {x : Dl} (hi : i.dst = d) (hd : ∀ d0, d = some d0 → d0 < 1000000) (ht : i.touch = true) (hm : i.mut K = false → (K.fc f).byref.any id = false)
    (h : doCall K cs s d f l = some x) : Shape K s i x := by
  cases d with
  | none => simp [doCall] at h
  | some d =>
    have hd := hd d rfl
    simp only [doCall] at h
    split at h
    · rename_i d' l' z q he ha
      cases he
      split at h
      · cases h
      · rename_i r outs hc
        split at h
        · rename_i hoq _ _
          cases h
          refine ⟨hi, fun p hp => ?_, fun q => (by rw [ht] at q; simp at q), fun _ => ?_⟩
          · simp only at hp
            split at hp
            · cases hp
            · simp at hp; subst hp; exact hd
          · simp only
            split
            · exact .inl rfl
            · exact .inr ⟨d, _, hi, rfl⟩
        · split at h
          · split at h
            · rename_i hcond
              cases h
              refine ⟨hi, fun p hp => ?_, fun q => (by rw [ht] at q; simp at q), fun hmf => ?_⟩
              · simp only [List.mem_cons] at hp
                rcases hp with rfl | hp
                · exact hcond.2.2.2
                · split at hp
                  · cases hp
                  · simp at hp; subst hp; exact hd
              · have := argsIn_none l _ (hm hmf) ha
                cases this
            · cases h
          · cases h
        · cases h
    · cases h

theorem evI_shape {i : I} (hd : ∀ d, i.dst = some d → d < 1000000) {X : Dl} (h : evI K cs s i = some X) : Shape K s i X := by
  cases i with
  | mv d x | un d _ x | conv d _ x | len d x | ext d _ x | fld d _ _ _ x | faddr d _ x | sliceA d _ x | idxc d _ x | isnil d _ x | bin d _ x _ | mnx d _ x _ | idx d _ _ _ x _ | iaddrA d _ _ x _ | iaddrS d _ x _ | beq d _ x _ | eqa d _ _ x _ | build d _ _ | mkfn d _ _ | lookup d _ _ x _ _ | pick d _ _ _ | slice d _ x _ _ _ =>
    have : ∃ y, X = Ev.val d y := by
      simp only [evI] at h
      repeat' split at h
      all_goals first
        | (cases h; exact ⟨_, rfl⟩)
        | (cases h; done)
        | (simp only [Option.map_eq_some_iff] at h; obtain ⟨_, _, rfl⟩ := h; exact ⟨_, rfl⟩)
    obtain ⟨y, rfl⟩ := this
    exact Shape.val rfl
  | load d n g x =>
    have : ∃ y, X = Ev.val d y := by
      simp only [evI] at h
      split at h
      · simp only [Option.bind_eq_some_iff] at h
        obtain ⟨ob, _, h⟩ := h
        split at h
        · cases h
        · simp only [Option.map_eq_some_iff] at h; obtain ⟨_, _, rfl⟩ := h; exact ⟨_, rfl⟩
      · simp only [Option.map_eq_some_iff] at h; obtain ⟨_, _, rfl⟩ := h; exact ⟨_, rfl⟩
      · cases h
    obtain ⟨y, rfl⟩ := this
    exact Shape.val rfl
  | fail d => simp [evI] at h
  | alloc d z => simp only [evI] at h; cases h; exact Shape.new rfl (hd d rfl) rfl
  | mkmap d => simp only [evI] at h; cases h; exact Shape.new rfl (hd d rfl) rfl
  | box d n y =>
    simp only [evI, Option.bind_eq_some_iff] at h
    obtain ⟨v, _, h⟩ := h
    split at h
    · cases h; exact Shape.new rfl (hd d rfl) rfl
    · cases h
  | bslice d c sz z ps =>
    simp only [evI] at h
    split at h
    · simp only [Option.map_eq_some_iff] at h; obtain ⟨_, _, rfl⟩ := h; exact Shape.new rfl (hd d rfl) rfl
    · cases h
  | mkslice d sz z a b =>
    simp only [evI] at h
    split at h
    · split at h
      · cases h; exact Shape.new rfl (hd d rfl) rfl
      · cases h
    · cases h
  | store n a b =>
    simp only [evI] at h
    split at h
    · split at h
      · cases h
      · split at h
        · cases h
        · rename_i hn
          have hlt : ∀ {h0 : Nat} {A B : Prop}, ¬ (A ∨ B ∨ 1000000 ≤ h0) → h0 < 1000000 := by
            intro h0 A B hh
            rcases Nat.lt_or_ge h0 1000000 with q | q
            · exact q
            · exact absurd (.inr (.inr q)) hh
          split at h
          · simp only [Option.map_eq_some_iff] at h
            obtain ⟨_, _, rfl⟩ := h
            exact Shape.mutate rfl (by simp; exact hlt hn) rfl rfl
          · split at h
            · split at h
              · cases h
              · simp only [Option.map_eq_some_iff] at h
                obtain ⟨_, _, rfl⟩ := h
                exact Shape.mutate rfl (by simp; exact hlt hn) rfl rfl
            · cases h
    · cases h
  | append d sz by_ a b =>
    simp only [evI] at h
    split at h
    · split at h
      · split at h
        · cases h
        · split at h
          · cases h
          · split at h
            · split at h
              · cases h; exact Shape.mutate rfl (by simp [Ev.val]) rfl rfl
              · cases h; exact Shape.mutate rfl (by simp [newOb]; exact hd d rfl) rfl rfl
            · split at h
              · split at h
                · cases h; exact Shape.mutate rfl (by simp [Ev.val]) rfl rfl
                · split at h
                  · rename_i hc
                    cases h; exact Shape.mutate rfl (by simp; exact hc.2.2.2.2) rfl rfl
                  · cases h
              · cases h
            · cases h
      · cases h
    · cases h
  | mupd ksz a k v =>
    simp only [evI] at h
    split at h
    · split at h
      · split at h
        · rename_i hc
          split at h
          · cases h; exact Shape.mutate rfl (by simp; exact hc.2.2.2.2.2) rfl rfl
          · cases h; exact Shape.mutate rfl (by simp; exact hc.2.2.2.2.2) rfl rfl
          · cases h
        · cases h
      · cases h
    · cases h
  | call d g xs =>
    simp only [evI, Option.bind_eq_some_iff] at h
    obtain ⟨l, _, h⟩ := h
    exact doCall_shape rfl (fun d0 hh => hd d0 hh) rfl (fun hh => by simpa [I.mut] using hh) h
  | callv d g xs =>
    simp only [evI] at h
    split at h
    · split at h
      · cases h
      · rename_i hb
        exact doCall_shape rfl (fun d0 hh => hd d0 hh) rfl (fun _ => by simpa using hb) h
    · cases h

/-- An instruction as it is translated. -/
structure WFI (x : Ins) : Prop where
  g : ∀ t w d, x.g = some (t, w, d) → x.i.dst = some d
  d : ∀ d, x.i.dst = some d → d < 1000000
  c : x.i.opds.all okOpd = true

theorem evIns_shape {x : Ins} (hx : WFI x) {y : Dl} (h : evIns K cs s x = some y) : Shape K s x.i y := by
  unfold evIns at h
  split at h
  · exact evI_shape hx.d h
  · rename_i t w d hg
    split at h
    · split at h
      · exact evI_shape hx.d h
      · cases h; exact Shape.val (hx.g _ _ _ hg)
    · cases h; exact Shape.val (hx.g _ _ _ hg)
    · cases h

theorem evIns_frame {G : Nat → Nat → Prop} {s' : St} {x : Ins} (hg : ∀ t ∈ x.looks, s'.v.get t = s.v.get t) (f : FrameTo K G x.i s s') {y : Dl} (h : evIns K cs s x = some y) : evIns K cs s' x = some y := by
  unfold evIns at h ⊢
  cases h0 : x.g with
  | none =>
    simp only [h0] at h
    exact evI_frame f h
  | some p =>
    obtain ⟨t, w, d⟩ := p
    simp only [h0] at h
    simp only
    rw [hg t (by simp [Ins.looks, h0])]
    split at h
    · rename_i v hv
      split at h
      · rename_i hw; simp only [hw, if_true]; exact evI_frame f h
      · rename_i hw; simp only [hw, if_false]; exact h
    · exact h
    · cases h

theorem looks_ops {s' : St} {x : Ins} (hg : ∀ t ∈ x.looks, s'.v.get t = s.v.get t) : ∀ y ∈ x.i.opds, opv s' y = opv s y := by
  intro y hy
  cases y with
  | t n =>
    refine hg n ?_
    have : n ∈ x.i.opds.filterMap opdSlot := List.mem_filterMap.2 ⟨_, hy, rfl⟩
    unfold Ins.looks
    split
    · exact List.mem_cons_of_mem _ this
    · exact this
  | c d => rfl

/-! ### What a change does to the slots and to the objects -/

def updO (f : Nat → List Ob) : List (Nat × List Ob) → Nat → List Ob
  | [] => f
  | (h, l) :: r => updO (upd f h l) r

theorem setO_lst : ∀ (l : List (Nat × List Ob)) (o : Tr (List Ob)), (∀ p ∈ l, p.1 < 1000000) → (fun h => ((setO o l).get h).getD []) = updO (fun h => (o.get h).getD []) l
  | [], o, _ => rfl
  | (h, l) :: r, o, hb => by
    simp only [setO, updO]
    rw [setO_lst r _ fun p hp => hb p (List.mem_cons_of_mem _ hp)]
    congr 1
    funext i
    unfold upd
    rw [Tr.get_setF 24 _ _ _ _ (by have := hb (h, l) (List.mem_cons_self ..); simp at this; omega)]
    split <;> simp

theorem app_lst {x : Dl} (hb : ∀ p ∈ x.o, p.1 < 1000000) : lst (app s x) = updO (lst s) x.o := setO_lst x.o s.o hb

theorem app_get {i : I} {x : Dl} (sh : Shape K s i x) (hd : ∀ d, i.dst = some d → d < 1000000) {s' : St} : (app s' x).v.get = match x.v with
    | some (d, y) => upd s'.v.get d (some y)
    | none => s'.v.get := by
  have := sh.v
  cases hx : x.v with
  | none => rw [app_v_none hx]
  | some p =>
    rw [hx] at this
    rw [app_v (d := p.1) (y := p.2) hx (hd _ this)]

theorem app_get_ne {i : I} {x : Dl} (sh : Shape K s i x) (hd : ∀ d, i.dst = some d → d < 1000000) {s' : St} {t : Nat} (ht : i.dst ≠ some t) : (app s' x).v.get t = s'.v.get t := by
  rw [app_get sh hd]
  have := sh.v
  cases hx : x.v with
  | none => rfl
  | some p =>
    rw [hx] at this
    simp only [upd]
    rw [if_neg]
    rintro rfl
    exact ht this

theorem SEq.app {i : I} {x : Dl} (sh : Shape K s i x) (hd : ∀ d, i.dst = some d → d < 1000000) {s1 s2 : St} (q : SEq s1 s2) : SEq (app s1 x) (app s2 x) := by
  refine ⟨?_, ?_, fun p => ?_⟩
  · rw [app_get sh hd, app_get sh hd, q.v]
  · rw [app_lst sh.big, app_lst sh.big, q.o]
  · simp [Ev.app, q.z]

theorem upd_comm {α : Type} {f : Nat → α} {d e : Nat} {x y : α} (h : d ≠ e) : upd (upd f d x) e y = upd (upd f e y) d x := by
  funext i
  unfold upd
  by_cases h1 : i = d
  · subst h1; simp [h]
  · by_cases h2 : i = e
    · subst h2; simp [h1]
    · simp [h1, h2]

theorem apart_spec {x y : Ins} (h : apartI K x y = true) : (∀ d, x.i.dst = some d → d ∉ y.looks ∧ y.i.dst ≠ some d) ∧ (∀ d, y.i.dst = some d → d ∉ x.looks) ∧ ¬ (x.i.mut K = true ∧ y.i.touch = true) ∧ ¬ (y.i.mut K = true ∧ x.i.touch = true) := by
  unfold apartI at h
  simp only [Bool.and_eq_true, Bool.not_eq_true'] at h
  obtain ⟨⟨⟨h1, h2⟩, h3⟩, h4⟩ := h
  refine ⟨fun d hd => ?_, fun d hd => ?_, fun hm => ?_, fun hm => ?_⟩
  · rw [hd] at h1
    simp at h1
    exact ⟨h1.1, h1.2⟩
  · rw [hd] at h2
    simpa using h2
  · rw [hm.1, hm.2] at h3; simp at h3
  · rw [hm.1, hm.2] at h4; simp at h4

/-- Changes that are apart can be exchanged. -/
theorem app_comm {x y : Ins} {sx sy : St} {a b : Dl} (wx : WFI x) (wy : WFI y) (h : apartI K x y = true) (ha : Shape K sx x.i a) (hb : Shape K sy y.i b) : SEq (app (app s a) b) (app (app s b) a) := by
  obtain ⟨h1, h2, h3, h4⟩ := apart_spec h
  refine ⟨?_, ?_, fun p => ?_⟩
  · rw [app_get ha wx.d, app_get hb wy.d, app_get hb wy.d, app_get ha wx.d]
    have e1 := ha.v
    have e2 := hb.v
    cases ca : a.v with
    | none => rfl
    | some p =>
      cases cb : b.v with
      | none => rfl
      | some q =>
        rw [ca] at e1; rw [cb] at e2
        simp only at e1 e2 ⊢
        refine (upd_comm ?_).symm
        intro hh
        exact (h1 _ e1).2 (hh ▸ e2)
  · rw [app_lst ha.big, app_lst hb.big, app_lst hb.big, app_lst ha.big]
    cases tx : x.i.touch with
    | false => rw [(ha.still tx).1]; rfl
    | true =>
      cases ty : y.i.touch with
      | false => rw [(hb.still ty).1]; rfl
      | true =>
        have mx : x.i.mut K = false := by
          cases q : x.i.mut K
          · rfl
          · exact absurd ⟨q, ty⟩ h3
        have my : y.i.mut K = false := by
          cases q : y.i.mut K
          · rfl
          · exact absurd ⟨q, tx⟩ h4
        rcases ha.add mx with e1 | ⟨d, l, e0, e1⟩
        · rw [e1]; rfl
        · rcases hb.add my with g1 | ⟨d2, l2, g0, g1⟩
          · rw [g1]; rfl
          · rw [e1, g1]
            simp only [updO]
            refine (upd_comm ?_).symm
            intro hh
            exact (h1 _ e0).2 (hh ▸ g0)
  · simp only [Ev.app, List.mem_append]
    constructor
    · rintro (q | q | q)
      · exact .inr (.inl q)
      · exact .inl q
      · exact .inr (.inr q)
    · rintro (q | q | q)
      · exact .inr (.inl q)
      · exact .inl q
      · exact .inr (.inr q)

theorem nth_append {l m : List Ob} {e : Nat} (h : e < m.length) : nth (l ++ m) e = nth m e := by
  unfold nth
  rw [if_pos (by simp; omega), if_pos h]
  rw [List.getElem?_append_right (by simp; omega)]
  congr 2
  simp; omega

/-- What stays for the one when the other is done first. -/
theorem frame_after {G : Nat → Nat → Prop} {x y : Ins} {a : Dl} (wx : WFI x) (h : apartI K x y = true) (ha : Shape K s x.i a) (hG : y.i.touch = true → ∀ z ∈ y.i.opds, ∀ d, opv s z = some d → Gd G d) :
    (∀ t ∈ y.looks, (app s a).v.get t = s.v.get t) ∧ FrameTo K G y.i s (app s a) := by
  obtain ⟨h1, h2, h3, h4⟩ := apart_spec h
  have hl : ∀ t ∈ y.looks, (app s a).v.get t = s.v.get t := fun t ht => app_get_ne ha wx.d fun e => (h1 t e).1 ht
  refine ⟨hl, looks_ops hl, hG, fun ht hh e ob _ ho => ?_, fun ht d hd => ?_, fun hm => ?_⟩
  · have mx : x.i.mut K = false := by
      cases q : x.i.mut K
      · rfl
      · exact absurd ⟨q, ht⟩ h3
    unfold look at ho ⊢
    rw [app_lst ha.big]
    rcases ha.add mx with e1 | ⟨d, l, e0, e1⟩
    · rw [e1]; exact ho
    · rw [e1]
      simp only [updO, upd]
      split
      · rename_i hd; subst hd; rw [nth_append (nth_lt ho)]; exact ho
      · exact ho
  · have mx : x.i.mut K = false := by
      cases q : x.i.mut K
      · rfl
      · exact absurd ⟨q, ht⟩ h3
    rw [app_lst ha.big]
    rcases ha.add mx with e1 | ⟨d2, l, e0, e1⟩
    · rw [e1]; rfl
    · rw [e1]
      simp only [updO, upd]
      rw [if_neg]
      rintro rfl
      exact (h1 _ e0).2 hd
  · have tx : x.i.touch = false := by
      cases q : x.i.touch
      · rfl
      · exact absurd ⟨hm, q⟩ h4
    obtain ⟨e1, e2⟩ := ha.still tx
    rw [app_lst ha.big, e1]
    exact ⟨rfl, fun p => by simp [Ev.app, e2]⟩

/-- What stays for the one when the other is not done yet. -/
theorem frame_before {G : Nat → Nat → Prop} {x y : Ins} {a : Dl} (wx : WFI x) (h : apartI K x y = true) (ha : Shape K s x.i a) (hG : y.i.touch = true → (∀ h e, G h e → e < (lst s h).length) ∧ ∀ z ∈ y.i.opds, ∀ d, opv s z = some d → Gd G d) :
    (∀ t ∈ y.looks, s.v.get t = (app s a).v.get t) ∧ FrameTo K G y.i (app s a) s := by
  obtain ⟨h1, h2, h3, h4⟩ := apart_spec h
  have hl : ∀ t ∈ y.looks, (app s a).v.get t = s.v.get t := fun t ht => app_get_ne ha wx.d fun e => (h1 t e).1 ht
  have hops := looks_ops hl
  obtain ⟨f1, f2⟩ := frame_after (G := fun _ _ => True) wx h ha (fun _ _ _ d _ => Gd_true d)
  refine ⟨fun t ht => (hl t ht).symm, fun z hz => (hops z hz).symm, fun ht z hz d hd => (hG ht).2 z hz d (by rw [← hops z hz]; exact hd), fun ht hh e ob hg ho => ?_, fun ht d hd => (f2.dst ht d hd).symm, fun hm => ⟨(f2.mutd hm).1.symm, fun p => ((f2.mutd hm).2 p).symm⟩⟩
  have mx : x.i.mut K = false := by
    cases q : x.i.mut K
    · rfl
    · exact absurd ⟨q, ht⟩ h3
  have hlt := (hG ht).1 _ _ hg
  unfold look at ho ⊢
  rw [app_lst ha.big] at ho
  rcases ha.add mx with e1 | ⟨d, l, e0, e1⟩
  · rw [e1] at ho; exact ho
  · rw [e1] at ho
    simp only [updO, upd] at ho
    split at ho
    · rename_i hd; subst hd; rw [nth_append hlt] at ho; exact ho
    · exact ho

theorem SEq.frame {G : Nat → Nat → Prop} {s' : St} {y : Ins} (q : SEq s s') (hG : ∀ d, Gd G d) : (∀ t ∈ y.looks, s'.v.get t = s.v.get t) ∧ FrameTo K G y.i s s' := by
  have hl : ∀ t ∈ y.looks, s'.v.get t = s.v.get t := fun t _ => by rw [q.v]
  exact ⟨hl, looks_ops hl, fun _ _ _ d _ => hG d, fun _ h e ob _ ho => by rw [lst_look q.o]; exact ho, fun _ d _ => by rw [q.o], fun _ => ⟨q.o, q.z⟩⟩

theorem evL_congr : ∀ (l : List Ins) {s s' sf : St}, (∀ j ∈ l, WFI j) → SEq s s' → evL K cs s l = some sf → ∃ sf', evL K cs s' l = some sf' ∧ SEq sf sf'
  | [], s, s', sf, _, q, h => by simp only [evL] at h ⊢; cases h; exact ⟨s', rfl, q⟩
  | x :: r, s, s', sf, hw, q, h => by
    simp only [evL] at h ⊢
    cases hx : evIns K cs s x with
    | none => rw [hx] at h; cases h
    | some a =>
      rw [hx] at h
      have wx := hw x (List.mem_cons_self ..)
      obtain ⟨f1, f2⟩ := q.frame (K := K) (y := x) (G := fun _ _ => True) Gd_true
      rw [evIns_frame f1 f2 hx]
      exact evL_congr r (fun j hj => hw j (List.mem_cons_of_mem _ hj)) (q.app (evIns_shape wx hx) wx.d) h

/-- An instruction that is apart from those before it can be done first. -/
theorem pull {i : Ins} (wi : WFI i) : ∀ (pre post : List Ins) {s sf : St} (G : Nat → Nat → Prop), (∀ j ∈ pre, WFI j ∧ apartI K j i = true) → (∀ j ∈ post, WFI j) →
    (i.i.touch = true → (∀ h e, G h e → e < (lst s h).length) ∧ ∀ z ∈ i.i.opds, ∀ d, opv s z = some d → Gd G d) → evL K cs s (pre ++ i :: post) = some sf →
    ∃ x sf', evIns K cs s i = some x ∧ evL K cs (app s x) (pre ++ post) = some sf' ∧ SEq sf sf'
  | [], post, s, sf, G, _, _, _, h => by
    simp only [List.nil_append, evL] at h ⊢
    cases hx : evIns K cs s i with
    | none => rw [hx] at h; cases h
    | some a => rw [hx] at h; exact ⟨a, sf, rfl, h, SEq.refl _⟩
  | j :: pre, post, s, sf, G, hp, hq, hG, h => by
    simp only [List.cons_append, evL] at h ⊢
    obtain ⟨wj, ap⟩ := hp j (List.mem_cons_self ..)
    cases hj : evIns K cs s j with
    | none => rw [hj] at h; cases h
    | some b =>
      rw [hj] at h
      have shj := evIns_shape wj hj
      obtain ⟨fl, fb⟩ := frame_before (G := G) wj ap shj hG
      obtain ⟨x, sf', h1, h2, h3⟩ := pull wi pre post (s := app s b) G (fun k hk => hp k (List.mem_cons_of_mem _ hk)) hq (fun ht => by
        refine ⟨fun h e g => ?_, fun z hz d hd => fb.good ht z hz d hd⟩
        have := (hG ht).1 h e g
        rw [app_lst shj.big]
        obtain ⟨_, _, m3, _⟩ := apart_spec ap
        have mj : j.i.mut K = false := by
          cases q : j.i.mut K
          · rfl
          · exact absurd ⟨q, ht⟩ m3
        rcases shj.add mj with e1 | ⟨d, l, e0, e1⟩
        · rw [e1]; exact this
        · rw [e1]
          simp only [updO, upd]
          split
          · rename_i hh; subst hh; simp; omega
          · exact this) h
      have hi := evIns_frame fl fb h1
      have shi := evIns_shape wi hi
      -- the other one afterwards
      have ap' : apartI K i j = true := by
        obtain ⟨m1, m2, m3, m4⟩ := apart_spec ap
        unfold apartI
        simp only [Bool.and_eq_true, Bool.not_eq_true']
        refine ⟨⟨⟨?_, ?_⟩, ?_⟩, ?_⟩
        · cases hd : i.i.dst with
          | none => rfl
          | some d =>
            have := m2 d hd
            simp [this]
            intro hh
            exact (m1 d hh).2 hd
        · cases hd : j.i.dst with
          | none => rfl
          | some d => have := (m1 d hd).1; simp [this]
        · cases q : i.i.mut K <;> cases q2 : j.i.touch <;> simp
          exact m4 ⟨q, q2⟩
        · cases q : j.i.mut K <;> cases q2 : i.i.touch <;> simp
          exact m3 ⟨q, q2⟩
      obtain ⟨gl, ga⟩ := frame_after (G := fun _ _ => True) wi ap' shi (fun _ _ _ d _ => Gd_true d)
      have hj2 := evIns_frame gl ga hj
      have hcomm := app_comm (s := s) wj wi ap shj shi
      obtain ⟨sf2, k1, k2⟩ := evL_congr (pre ++ post) (fun k hk => (List.mem_append.1 hk).elim (fun q => (hp k (List.mem_cons_of_mem _ q)).1) (hq k)) hcomm h2
      refine ⟨x, sf2, hi, ?_, h3.trans k2⟩
      rw [hj2]; exact k1
end
end Go.Ev

/- A region, in its own order or in any. -/
namespace Go.Ev

/-! ### The edges -/

/-- One edge, added to the set of what comes before. -/
def edge (acc : List Nat) (x : Option Nat) (e : Edge) : Option Nat :=
  match x with
  | none => none
  | some x => if (match e.ground with | .textOnly _ | .gcOnly _ => false | _ => true) then
      (if h : e.on < acc.length then some (x ||| 2 ^ e.on ||| acc[e.on]) else none) else some x

theorem binds_any (e : Edge) : Region.binds .any e = (match e.ground with | .textOnly _ | .gcOnly _ => false | _ => true) := by
  unfold Region.binds
  cases e.ground <;> rfl

theorem edge_none (acc : List Nat) : ∀ (l : List Edge), l.foldl (edge acc) none = none
  | [] => rfl
  | _ :: r => edge_none acc r

theorem edges_ok (acc : List Nat) : ∀ (l : List Edge) {x m : Nat}, l.foldl (edge acc) (some x) = some m →
    (∀ e ∈ l, Region.binds .any e = true → e.on < acc.length) ∧ ∀ t, m.testBit t = true → x.testBit t = true ∨ ∃ e ∈ l, Region.binds .any e = true ∧ (t = e.on ∨ ((acc[e.on]?).getD 0).testBit t = true)
  | [], x, m, h => by simp at h; subst h; exact ⟨by simp, fun t ht => .inl ht⟩
  | e :: r, x, m, h => by
    rw [List.foldl_cons] at h
    by_cases hb : Region.binds .any e = true
    · by_cases hl : e.on < acc.length
      · have : edge acc (some x) e = some (x ||| 2 ^ e.on ||| acc[e.on]) := by
          unfold edge; simp only
          rw [← binds_any, hb, if_pos rfl, dif_pos hl]
        rw [this] at h
        obtain ⟨h1, h2⟩ := edges_ok acc r h
        refine ⟨fun e' he' hb' => ?_, fun t ht => ?_⟩
        · rcases List.mem_cons.1 he' with rfl | he'
          · exact hl
          · exact h1 e' he' hb'
        · rcases h2 t ht with h3 | ⟨e', he', hb', h3⟩
          · simp only [Nat.testBit_or, Bool.or_eq_true] at h3
            rcases h3 with (h3 | h3) | h3
            · exact .inl h3
            · refine .inr ⟨e, List.mem_cons_self .., hb, .inl ?_⟩
              rw [Nat.testBit_two_pow] at h3
              simpa using (of_decide_eq_true h3).symm
            · refine .inr ⟨e, List.mem_cons_self .., hb, .inr ?_⟩
              rw [List.getElem?_eq_getElem hl]; exact h3
          · exact .inr ⟨e', List.mem_cons_of_mem _ he', hb', h3⟩
      · have : edge acc (some x) e = none := by
          unfold edge; simp only
          rw [← binds_any, hb, if_pos rfl, dif_neg hl]
        rw [this, edge_none] at h; cases h
    · have : edge acc (some x) e = some x := by
        unfold edge; simp only
        rw [← binds_any, if_neg hb]
      rw [this] at h
      obtain ⟨h1, h2⟩ := edges_ok acc r h
      refine ⟨fun e' he' hb' => ?_, fun t ht => ?_⟩
      · rcases List.mem_cons.1 he' with rfl | he'
        · exact absurd hb' hb
        · exact h1 e' he' hb'
      · rcases h2 t ht with h3 | ⟨e', he', hb', h3⟩
        · exact .inl h3
        · exact .inr ⟨e', List.mem_cons_of_mem _ he', hb', h3⟩

theorem before_ok : ∀ (ops : List Oper) {acc b : List Nat}, before ops acc = some b →
    (∃ t, b = acc ++ t) ∧ b.length = acc.length + ops.length ∧ ∀ k o, ops[k]? = some o → (∀ e ∈ o.after.toList, Region.binds .any e = true → e.on < acc.length + k) ∧
      ∀ t, ((b[acc.length + k]?).getD 0).testBit t = true → ∃ e ∈ o.after.toList, Region.binds .any e = true ∧ (t = e.on ∨ ((b[e.on]?).getD 0).testBit t = true)
  | [], acc, b, h => by simp [before] at h; subst h; exact ⟨⟨[], by simp⟩, by simp, by simp⟩
  | o :: r, acc, b, h => by
    simp only [before] at h
    split at h
    · cases h
    · rename_i m hm
      have hm : o.after.toList.foldl (edge acc) (some 0) = some m := hm
      obtain ⟨e1, e2⟩ := edges_ok acc _ hm
      obtain ⟨⟨t, ht⟩, h2, h3⟩ := before_ok r h
      refine ⟨⟨m :: t, by rw [ht]; simp⟩, by rw [h2]; simp; omega, fun k o' hk => ?_⟩
      cases k with
      | zero =>
        simp at hk; subst hk
        refine ⟨e1, fun t' ht' => ?_⟩
        have hb : b[acc.length + 0]? = some m := by rw [ht]; simp
        rw [hb] at ht'
        rcases e2 t' ht' with h4 | ⟨e, he, hb', h4⟩
        · simp at h4
        · refine ⟨e, he, hb', h4.imp id fun h5 => ?_⟩
          have hlt := e1 e he hb'
          have : b[e.on]? = acc[e.on]? := by
            rw [ht, List.append_assoc]
            exact List.getElem?_append_left hlt
          rw [this]; exact h5
      | succ k =>
        simp at hk
        have := h3 k o' hk
        simp only [List.length_append, List.length_singleton] at this
        rw [show acc.length + (k + 1) = acc.length + 1 + k by omega]
        exact this

/-- The set of what comes before lies in each set that is closed downward and holds what is directly before. -/
theorem before_closed {ops : Array Oper} {b : List Nat} (hb : before ops.toList [] = some b) (T : Nat → Prop) (hT : ∀ i o, T i → ops[i]? = some o → ∀ e ∈ o.after.toList, Region.binds .any e = true → T e.on) :
    ∀ (i : Nat) (o : Oper), ops[i]? = some o → (∀ e ∈ o.after.toList, Region.binds .any e = true → T e.on) → ∀ t, ((b[i]?).getD 0).testBit t = true → T t := by
  obtain ⟨_, hlen, hsp⟩ := before_ok _ hb
  intro i
  induction i using Nat.strongRecOn with
  | _ i ih =>
    intro o ho he t ht
    have := hsp i o (by simpa using ho)
    simp only [List.length_nil, Nat.zero_add] at this
    obtain ⟨e, h1, h2, h3⟩ := this.2 t ht
    have hTe := he e h1 h2
    rcases h3 with rfl | h3
    · exact hTe
    · have hlt := this.1 e h1 h2
      cases ho' : ops[e.on]? with
      | none =>
        have hsz : ops.size ≤ e.on := by
          rcases Nat.lt_or_ge e.on ops.size with q | q
          · rw [Array.getElem?_eq_getElem q] at ho'; cases ho'
          · exact q
        have : b[e.on]? = none := List.getElem?_eq_none (by rw [hlen]; simpa using hsz)
        rw [this] at h3; simp at h3
      | some o' => exact ih e.on hlt o' ho' (fun e' => hT e.on o' hTe ho' e') t h3

theorem freeOf_ok {K : Cfg} {b : List Nat} {i : Nat} {x : Ins} : ∀ {l : List Ins} {j : Nat}, freeOf K b i x j l = true → ∀ k y, l[k]? = some y → ordered b i (j + k) = true ∨ apartI K x y = true
  | [], _, _, k, y, h => by simp at h
  | z :: r, j, h, k, y, hk => by
    simp only [freeOf, Bool.and_eq_true, Bool.or_eq_true] at h
    cases k with
    | zero => simp at hk; subst hk; exact h.1
    | succ k => simp at hk; rw [show j + (k + 1) = j + 1 + k by omega]; exact freeOf_ok h.2 k y hk

theorem freeAll_ok {K : Cfg} {b : List Nat} : ∀ {l : List Ins} {i : Nat}, freeAll K b i l = true → ∀ p q x y, p < q → l[p]? = some x → l[q]? = some y → ordered b (i + p) (i + q) = true ∨ apartI K x y = true
  | [], _, _, p, q, x, y, _, h, _ => by simp at h
  | z :: r, i, h, p, q, x, y, hpq, hx, hy => by
    simp only [freeAll, Bool.and_eq_true] at h
    cases q with
    | zero => omega
    | succ q =>
      simp at hy
      cases p with
      | zero =>
        simp at hx; subst hx
        have := freeOf_ok h.1 q y hy
        rw [show i + (q + 1) = i + 1 + q by omega]; exact this
      | succ p =>
        simp at hx
        rw [show i + (p + 1) = i + 1 + p by omega, show i + (q + 1) = i + 1 + q by omega]
        exact freeAll_ok h.2 p q x y (by omega) hx hy

section
variable {base : Nat} {L : Len} {S : Pub} {N : Nm} {s : St} {P : Program} {K : Cfg} {cs : Sem} {n : Nat} {ops : Array Oper} {Q : Exit → Act → World → Prop}

theorem toInsL_ok : ∀ {os : List Oper} {l : List Ins}, toInsL P n ops os = some l → l.length = os.length ∧ ∀ (i : Nat) (o : Oper), os[i]? = some o → ∃ y, l[i]? = some y ∧ toIns P n ops o = some y
  | [], l, h => by simp [toInsL] at h; subst h; simp
  | o :: r, l, h => by
    simp only [toInsL] at h
    split at h
    · rename_i x l0 h1 h2
      cases h
      obtain ⟨h3, h4⟩ := toInsL_ok h2
      refine ⟨by simp [h3], fun i o' hi => ?_⟩
      cases i with
      | zero => simp at hi; subst hi; exact ⟨x, by simp, h1⟩
      | succ i => simp at hi; simpa using h4 i o' hi
    · cases h

theorem toIns_wf {o : Oper} {y : Ins} (hn : n ≤ 1000000) (h : toIns P n ops o = some y) : WFI y := by
  unfold toIns at h
  simp only at h
  split at h
  · rename_i hc
    have hd : ∀ d, (toI P o.dst o.op).dst = some d → d < 1000000 := by
      intro d hd
      rw [hc.2.1] at hd
      have := hc.1
      rw [hd] at this
      have h2 : d < n := by simpa [dstIn] using this
      exact Nat.lt_of_lt_of_le h2 hn
    split at h
    · cases h; exact ⟨by simp, hd, hc.2.2⟩
    · split at h
      · rename_i t d ht ho
        cases h
        refine ⟨fun t' w' d' hg => ?_, hd, hc.2.2⟩
        simp at hg
        show (toI P o.dst o.op).dst = some d'
        rw [hc.2.1, ho, hg.2.2]
      · cases h
  · cases h

theorem Out.trans {s : St} {a a' a'' : Act} {w w' w'' : World} {S' : Pub} (h1 : Sub S S') (h2 : a'.tmps.size = a.tmps.size) (h3 : a'.defers = a.defers) (h4 : Keep base L w.heap w'.heap) (h5 : Tw w w')
    (h : Out base L S' s a' w' a'' w'') : Out base L S s a w a'' w'' := by
  obtain ⟨S2, N2, g1, g2, g3, g4, g5, g6⟩ := h
  exact ⟨S2, N2, h1.trans g1, g2, g3.trans h2, g4.trans h3, h4.trans g5, h5.trans g6⟩

theorem Fr.good {a : Array Value} {hp : Hp} (f : Fr base L S N s a hp) {i : Ins} (hc : i.i.opds.all okOpd = true) : ∀ z ∈ i.i.opds, ∀ d, opv s z = some d → Gd (fun h e => e < (lst s h).length) d := by
  intro z hz d hd
  cases z with
  | t m => exact V_Gd (fun h e r hr => (f.known h e).1 ⟨r, hr⟩) d _ (f.slots m d hd)
  | c x =>
    simp only [opv] at hd; cases hd
    have := List.all_eq_true.1 hc _ hz
    exact noNames_Gd _ this

/-- The indices that are not listed yet. -/
def rest (n : Nat) (listed : Array Bool) : List Nat := (List.range n).filter fun i => !listed.getD i true

theorem rest_set {listed : Array Bool} {m i : Nat} (hs : listed.size = m) : rest m (listed.setIfInBounds i true) = (rest m listed).filter (fun j => j ≠ i) := by
  unfold rest
  rw [List.filter_filter]
  apply List.filter_congr
  intro j hj
  have hj : j < listed.size := by rw [hs]; exact List.mem_range.1 hj
  by_cases h : j = i
  · subst h; simp [Array.getD_eq_getD_getElem?, hj]
  · simp only [Array.getD_eq_getD_getElem?]
    rw [Array.getElem?_setIfInBounds_ne (Ne.symm h)]; simp [h]

theorem wpAny_ev {l : List Ins} {b : List Nat} (hl : toInsL P n ops ops.toList = some l) (hn : n ≤ 1000000) (hb : before ops.toList [] = some b) (hf : freeAll K b 0 l = true) (hsem : SemOK P cs) :
    ∀ (fuel : Nat) (listed : Array Bool) (S : Pub) (N : Nm) (s : St) (a : Act) (w : World) (sf : St), listed.size = ops.size → (∀ i o, i < ops.size → listed.getD i true = true → ops[i]? = some o → ∀ e ∈ o.after.toList, Region.binds .any e = true → listed.getD e.on false = true) →
    (rest ops.size listed).length ≤ fuel → Fr base L S N s a.tmps w.heap → base ≤ w.heap.size → n ≤ a.tmps.size → evL K cs s ((rest ops.size listed).filterMap (l[·]?)) = some sf →
    (∀ sf' a' w', SEq sf sf' → Out base L S sf' a w a' w' → Q .normal a' w') → wpAny P .any ops Q fuel listed a w := by
  obtain ⟨hlen, hget⟩ := toInsL_ok hl
  obtain ⟨_, hblen, hbsp⟩ := before_ok _ hb
  have hbsp : ∀ k o, ops[k]? = some o → (∀ e ∈ o.after.toList, Region.binds .any e = true → e.on < k) := by
    intro k o ho
    have := (hbsp k o (by simpa using ho)).1
    simpa using this
  intro fuel
  have hdone : ∀ (fuel : Nat) (listed : Array Bool) (S : Pub) (N : Nm) (s : St) (a : Act) (w : World) (sf : St), listed.size = ops.size → Region.ready .any ops listed = [] →
      (∀ i o, i < ops.size → listed.getD i true = true → ops[i]? = some o → ∀ e ∈ o.after.toList, Region.binds .any e = true → listed.getD e.on false = true) → Fr base L S N s a.tmps w.heap →
      evL K cs s ((rest ops.size listed).filterMap (l[·]?)) = some sf → (∀ sf' a' w', SEq sf sf' → Out base L S sf' a w a' w' → Q .normal a' w') → Q .normal a w := by
    intro fuel listed S N s a w sf hsz hr hcl f hev hQ
    have hrest : rest ops.size listed = [] := by
      cases hre : rest ops.size listed with
      | nil => rfl
      | cons i r =>
        exfalso
        -- the first one is ready
        have hi : i ∈ rest ops.size listed := by rw [hre]; simp
        have hi2 := List.mem_filter.1 hi
        have hilt := List.mem_range.1 hi2.1
        have hmin : ∀ j, j < i → listed.getD j true = true := by
          intro j hj
          cases hq : listed.getD j true
          · exfalso
            have hjm : j ∈ rest ops.size listed := List.mem_filter.2 ⟨List.mem_range.2 (by omega), by simp [hq]⟩
            have hp : (rest ops.size listed).Pairwise (· < ·) := List.Pairwise.filter _ List.pairwise_lt_range
            rw [hre] at hjm hp
            rcases List.mem_cons.1 hjm with rfl | hjm
            · omega
            · have := (List.pairwise_cons.1 hp).1 j hjm; omega
          · rfl
        have : i ∈ Region.ready .any ops listed := by
          unfold Region.ready
          refine List.mem_filter.2 ⟨hi2.1, ?_⟩
          simp only [hi2.2, Bool.true_and]
          rw [Array.getElem?_eq_getElem hilt]
          simp only [Option.map_some, Option.getD_some]
          rw [Array.all_eq_true']
          intro e he
          by_cases hbe : Region.binds .any e = true
          · have hlt := hbsp i _ (Array.getElem?_eq_getElem hilt) e (by simpa using he) hbe
            have := hmin e.on hlt
            have hlt2 : e.on < listed.size := by rw [hsz]; omega
            simp only [Array.getD_eq_getD_getElem?, Array.getElem?_eq_getElem hlt2, Option.getD_some] at this ⊢
            simp [this]
          · simp [hbe]
        rw [hr] at this; simp at this
    rw [hrest] at hev
    simp [evL] at hev
    subst hev
    exact hQ s a w (SEq.refl _) ⟨S, N, Sub.refl _, f, rfl, rfl, Keep.refl _ _ _, Tw.refl _⟩
  induction fuel with
  | zero =>
    intro listed S N s a w sf hsz hcl hfl f hba hna hev hQ
    have hre : rest ops.size listed = [] := List.eq_nil_of_length_eq_zero (by omega)
    have hrd : Region.ready .any ops listed = [] := by
      apply List.eq_nil_iff_forall_not_mem.2
      intro i hi
      have hi2 := List.mem_filter.1 hi
      have h3 : (!listed.getD i true) = true := by
        have := hi2.2
        simp only [Bool.and_eq_true] at this
        exact this.1
      have : i ∈ rest ops.size listed := List.mem_filter.2 ⟨hi2.1, h3⟩
      rw [hre] at this; simp at this
    exact ⟨hrd, hdone 0 listed S N s a w sf hsz hrd hcl f hev hQ⟩
  | succ fuel ih =>
    intro listed S N s a w sf hsz hcl hfl f hba hna hev hQ
    refine ⟨fun hr => hdone 0 listed S N s a w sf hsz hr hcl f hev hQ, fun i hi => ?_⟩
    have hi2 := List.mem_filter.1 hi
    have hilt := List.mem_range.1 hi2.1
    have hi3 := hi2.2
    simp only [Bool.and_eq_true] at hi3
    have hoi : ops[i]? = some ops[i] := Array.getElem?_eq_getElem hilt
    have hedges : ∀ e ∈ ops[i].after.toList, Region.binds .any e = true → listed.getD e.on false = true := by
      intro e he hbe
      have := hi3.2
      rw [hoi] at this
      simp only [Option.map_some, Option.getD_some] at this
      rw [Array.all_eq_true'] at this
      have := this e (by simpa using he)
      simpa [hbe] using this
    obtain ⟨y, hy, hty⟩ := hget i ops[i] (by simp)
    have hmem : i ∈ rest ops.size listed := List.mem_filter.2 ⟨hi2.1, hi3.1⟩
    obtain ⟨pre, post, hre⟩ := List.append_of_mem hmem
    have hpw : (rest ops.size listed).Pairwise (· < ·) := List.Pairwise.filter _ List.pairwise_lt_range
    rw [hre] at hpw
    have hpre : ∀ j ∈ pre, j < i := fun j hj => (List.pairwise_append.1 hpw).2.2 j hj i (by simp)
    have hpost : ∀ j ∈ post, i < j := fun j hj => (List.pairwise_cons.1 (List.pairwise_append.1 hpw).2.1).1 j hj
    have hnl : ∀ j ∈ pre, listed.getD j true = false := by
      intro j hj
      have : j ∈ rest ops.size listed := by rw [hre]; exact List.mem_append_left _ hj
      simpa using (List.mem_filter.1 this).2
    have hwfi : ∀ (j : Nat) (z : Ins), l[j]? = some z → WFI z := by
      intro j z hz
      have hjl : j < ops.size := by
        rcases Nat.lt_or_ge j l.length with q | q
        · rw [hlen] at q; simpa using q
        · rw [List.getElem?_eq_none q] at hz; cases hz
      obtain ⟨z', h1, h2⟩ := hget j ops[j] (by simp [hjl])
      rw [hz] at h1; cases h1
      exact toIns_wf hn h2
    have hapart : ∀ j ∈ pre, ∀ z : Ins, l[j]? = some z → apartI K z y = true := by
      intro j hj z hz
      have hji := hpre j hj
      rcases freeAll_ok hf j i z y hji hz hy with h | h
      · exfalso
        unfold ordered at h
        simp only [Nat.zero_add, Bool.or_eq_true] at h
        rcases h with h | h
        · have := before_closed hb (fun k => listed.getD k false = true) (fun k o hk ho e he hbe => by
            have hklt : k < ops.size := by
              rcases Nat.lt_or_ge k ops.size with q | q
              · exact q
              · rw [Array.getElem?_eq_none q] at ho; cases ho
            refine hcl k o hklt ?_ ho e he hbe
            have hk2 : k < listed.size := by rw [hsz]; exact hklt
            simp only [Array.getD_eq_getD_getElem?, Array.getElem?_eq_getElem hk2, Option.getD_some] at hk ⊢
            exact hk) i ops[i] hoi hedges j h
          have h2 := hnl j hj
          have hj2 : j < listed.size := by rw [hsz]; omega
          simp only [Array.getD_eq_getD_getElem?, Array.getElem?_eq_getElem hj2, Option.getD_some] at this h2
          rw [this] at h2; cases h2
        · have hjlt : j < ops.size := by omega
          have := before_closed hb (fun k => k < j) (fun k o hk ho e he hbe => Nat.lt_trans (hbsp k o ho e he hbe) hk) j ops[j] (Array.getElem?_eq_getElem hjlt) (fun e he hbe => hbsp j _ (Array.getElem?_eq_getElem hjlt) e he hbe) i h
          omega
      · exact h
    have wy := toIns_wf hn hty
    rw [hre, List.filterMap_append, List.filterMap_cons, hy] at hev
    obtain ⟨x, sf', h1, h2, h3⟩ := pull wy (pre.filterMap (l[·]?)) (post.filterMap (l[·]?)) (fun h e => e < (lst s h).length)
      (fun z hz => by
        obtain ⟨j, hj, hz⟩ := List.mem_filterMap.1 hz
        exact ⟨hwfi j z hz, hapart j hj z hz⟩)
      (fun z hz => by
        obtain ⟨j, hj, hz⟩ := List.mem_filterMap.1 hz
        exact hwfi j z hz)
      (fun _ => ⟨fun h e g => g, Fr.good f wy.c⟩) hev
    refine ins_ok f hba hsem hna hn hoi hty h1 _ Q fun a' w' hout => ?_
    obtain ⟨S', N', o1, o2, o3, o4, o5, o6⟩ := hout
    have hre' : rest ops.size (listed.setIfInBounds i true) = pre ++ post := by
      rw [rest_set hsz, hre, List.filter_append, List.filter_cons]
      have e1 : pre.filter (fun j => decide (j ≠ i)) = pre := List.filter_eq_self.2 fun j hj => by have := hpre j hj; simp; omega
      have e2 : post.filter (fun j => decide (j ≠ i)) = post := List.filter_eq_self.2 fun j hj => by have := hpost j hj; simp; omega
      rw [e1, e2]; simp
    refine ih (listed.setIfInBounds i true) S' N' (app s x) a' w' sf' (by simp [hsz]) (fun k o hk hkl ho e he hbe => ?_) ?_ o2 (Nat.le_trans hba o5.1) (by omega) ?_ ?_
    · have hlt := hbsp k o ho e he hbe
      by_cases hki : k = i
      · subst hki
        rw [hoi] at ho; cases ho
        have := hedges e he hbe
        simp only [Array.getD_eq_getD_getElem?] at this ⊢
        rw [Array.getElem?_setIfInBounds_ne (by omega)]; exact this
      · have hkl' : listed.getD k true = true := by
          simp only [Array.getD_eq_getD_getElem?] at hkl ⊢
          rw [Array.getElem?_setIfInBounds_ne (Ne.symm hki)] at hkl; exact hkl
        have := hcl k o hk hkl' ho e he hbe
        by_cases hei : e.on = i
        · rw [hei]
          have : i < listed.size := by rw [hsz]; exact hilt
          simp [Array.getD_eq_getD_getElem?, this]
        · simp only [Array.getD_eq_getD_getElem?] at this ⊢
          rw [Array.getElem?_setIfInBounds_ne (Ne.symm hei)]; exact this
    · rw [hre'] ; rw [hre] at hfl; simp at hfl ⊢; omega
    · rw [hre', List.filterMap_append]; exact h2
    · intro sf2 a2 w2 hq hout2
      exact hQ sf2 a2 w2 (h3.trans hq) (hout2.trans o1 o3 o4 o5 o6)
end
end Go.Ev

/- Code, and the body of a function. -/
namespace Go.Ev

def exOf : Ex → Exit
  | .nrm => .normal
  | .exit id => .exit id
  | .ret => .ret

section
variable {base : Nat} {L : Len} {P : Program} {K : Cfg} {cs : Sem} {n : Nat}

theorem Out.congr {S : Pub} {sf sf' : St} {a a' : Act} {w w' : World} (q : SEq sf sf') (h : Out base L S sf' a w a' w') : Out base L S sf a w a' w' := by
  obtain ⟨S', N', h1, h2, h3⟩ := h
  exact ⟨S', N', h1, Fr.congr q.symm h2, h3⟩

theorem wpOps_ev {ops : Array Oper} {l : List Ins} (hl : toInsL P n ops ops.toList = some l) (hn : n ≤ 1000000) (hsem : SemOK P cs) {Q : Exit → Act → World → Prop} :
    ∀ (idx : List Nat) (S : Pub) (N : Nm) (s sf : St) (a : Act) (w : World), (∀ i ∈ idx, i < ops.size) → Fr base L S N s a.tmps w.heap → base ≤ w.heap.size → n ≤ a.tmps.size → evL K cs s (idx.filterMap (l[·]?)) = some sf →
    (∀ a' w', Out base L S sf a w a' w' → Q .normal a' w') → wpOps P ops Q idx a w
  | [], S, N, s, sf, a, w, _, f, _, _, h, hQ => by
    simp [evL] at h; subst h
    simp only [wpOps]
    exact hQ a w ⟨S, N, Sub.refl _, f, rfl, rfl, Keep.refl _ _ _, Tw.refl _⟩
  | i :: r, S, N, s, sf, a, w, hi, f, hb, ht, h, hQ => by
    rw [wpOps_cons]
    have hilt := hi i (List.mem_cons_self ..)
    have hoi : ops[i]? = some ops[i] := Array.getElem?_eq_getElem hilt
    obtain ⟨y, hy, hty⟩ := (toInsL_ok hl).2 i ops[i] (by simp [hilt])
    rw [List.filterMap_cons, hy] at h
    simp only [evL] at h
    cases hx : evIns K cs s y with
    | none => rw [hx] at h; cases h
    | some x =>
      rw [hx] at h
      refine ins_ok f hb hsem ht hn hoi hty hx _ Q fun a' w' hout => ?_
      obtain ⟨S', N', o1, o2, o3, o4, o5, o6⟩ := hout
      exact wpOps_ev hl hn hsem r S' N' (app s x) sf a' w' (fun j hj => hi j (List.mem_cons_of_mem _ hj)) o2 (Nat.le_trans hb o5.1) (by omega) h fun a2 w2 h2 => hQ a2 w2 (h2.trans o1 o3 o4 o5 o6)

theorem range_get' {α : Type} : ∀ (l : List α) (k : Nat) (m : List α), m.length = k → (List.range' k l.length).filterMap ((m ++ l)[·]?) = l
  | [], _, _, _ => by simp
  | x :: r, k, m, h => by
    rw [List.length_cons, List.range'_succ, List.filterMap_cons]
    have e : (m ++ x :: r)[k]? = some x := by rw [List.getElem?_append_right (by omega), h]; simp
    rw [e]
    have := range_get' r (k + 1) (m ++ [x]) (by simp [h])
    simp only [List.append_assoc, List.singleton_append] at this
    simp only [this]
theorem range_get {α : Type} (l : List α) : (List.range l.length).filterMap (l[·]?) = l := by
  have := range_get' l 0 [] rfl
  rw [List.range_eq_range']; simpa using this

theorem region_ok (hm : P.follows .mixedOrders = true) (hn : n ≤ 1000000) (hsem : SemOK P cs) {id : Nat} {ops : Array Oper} {draw : Bool} {l : List Ins} (hl : toInsL P n ops ops.toList = some l) (hd : ¬ (draw && !freeOrder K ops l) = true)
    {S : Pub} {N : Nm} {s sf : St} {a : Act} {w : World} (f : Fr base L S N s a.tmps w.heap) (hb : base ≤ w.heap.size) (ht : n ≤ a.tmps.size) (h : evL K cs s l = some sf) {Q : Exit → Act → World → Prop}
    (hQ : ∀ a' w', Out base L S sf a w a' w' → Q .normal a' w') : (Code.region id ops draw).wp P Q a w := by
  have hlen := (toInsL_ok hl).1
  simp at hlen
  cases draw with
  | false =>
    refine wp_region ?_
    refine wpOps_ev (K := K) hl hn hsem _ S N s sf a w (fun i hi => List.mem_range.1 hi) f hb ht ?_ hQ
    rw [← hlen, range_get]; exact h
  | true =>
    have hfo : freeOrder K ops l = true := by
      cases q : freeOrder K ops l
      · rw [q] at hd; simp at hd
      · rfl
    unfold freeOrder at hfo
    split at hfo
    · cases hfo
    · rename_i b hbf
      refine wp_region_any hm ?_
      have hrest : rest ops.size (Array.replicate ops.size false) = List.range ops.size := by
        unfold rest
        refine List.filter_eq_self.2 fun i hi => ?_
        have := List.mem_range.1 hi
        simp [Array.getD_eq_getD_getElem?, this]
      refine wpAny_ev hl hn hbf hfo hsem ops.size _ S N s a { w with drawn := w.drawn + 1 } sf (by simp) (fun i o hi h2 => ?_) ?_ f hb ht ?_ ?_
      · simp [Array.getD_eq_getD_getElem?, hi] at h2
      · rw [hrest]; simp
      · rw [hrest, ← hlen, range_get]; exact h
      · intro sf' a' w' q ho
        obtain ⟨S', N', o1, o2, o3, o4, o5, o6⟩ := ho
        exact hQ a' w' (Out.congr q ⟨S', N', o1, o2, o3, o4, o5, Tw.trans (b := { w with drawn := w.drawn + 1 }) ⟨rfl, rfl, rfl, Nat.le_succ _⟩ o6⟩)

theorem code_ok (hm : P.follows .mixedOrders = true) (hn : n ≤ 1000000) (hsem : SemOK P cs) (fuel : Nat) : ∀ (c : Code) {cc : C} {S : Pub} {N : Nm} {s sf : St} {ex : Ex} {a : Act} {w : World} {Q : Exit → Act → World → Prop},
    toC P K n c = some cc → Fr base L S N s a.tmps w.heap → base ≤ w.heap.size → n ≤ a.tmps.size → evC K cs fuel cc s = some (ex, sf) → (∀ a' w', Out base L S sf a w a' w' → Q (exOf ex) a' w') → c.wp P Q a w := by
  have refl : ∀ {S : Pub} {N : Nm} {s : St} {a : Act} {w : World}, Fr base L S N s a.tmps w.heap → Out base L S s a w a w := fun f => ⟨_, _, Sub.refl _, f, rfl, rfl, Keep.refl _ _ _, Tw.refl _⟩
  intro c
  induction c with
  | skip =>
    intro cc S N s sf ex a w Q hc f hb ht h hQ
    simp [toC] at hc; subst hc
    simp [evC] at h; obtain ⟨rfl, rfl⟩ := h
    exact wp_skip (hQ a w (refl f))
  | label l =>
    intro cc S N s sf ex a w Q hc f hb ht h hQ
    simp [toC] at hc; subst hc
    simp [evC] at h; obtain ⟨rfl, rfl⟩ := h
    exact wp_label (hQ a w (refl f))
  | exit id =>
    intro cc S N s sf ex a w Q hc f hb ht h hQ
    simp [toC] at hc; subst hc
    simp [evC] at h; obtain ⟨rfl, rfl⟩ := h
    exact wp_exit (hQ a w (refl f))
  | ret =>
    intro cc S N s sf ex a w Q hc f hb ht h hQ
    simp [toC] at hc; subst hc
    simp [evC] at h; obtain ⟨rfl, rfl⟩ := h
    exact wp_ret (hQ a w (refl f))
  | region id ops draw =>
    intro cc S N s sf ex a w Q hc f hb ht h hQ
    simp only [toC] at hc
    split at hc
    · rename_i l hl
      split at hc
      · cases hc
      · rename_i hd
        cases hc
        simp only [evC, Option.map_eq_some_iff] at h
        obtain ⟨s1, h1, h2⟩ := h
        cases h2
        exact region_ok hm hn hsem hl hd f hb ht h1 hQ
    · cases hc
  | seq x y ihx ihy =>
    intro cc S N s sf ex a w Q hc f hb ht h hQ
    simp only [toC] at hc
    split at hc
    · rename_i cx cy hx hy
      cases hc
      simp only [evC] at h
      refine wp_seq ?_
      cases h1 : evC K cs fuel cx s with
      | none => rw [h1] at h; cases h
      | some p =>
        obtain ⟨e1, s1⟩ := p
        rw [h1] at h
        refine ihx hx f hb ht h1 fun a' w' ho => ?_
        cases e1 with
        | nrm =>
          obtain ⟨S', N', o1, o2, o3, o4, o5, o6⟩ := ho
          exact ihy hy o2 (Nat.le_trans hb o5.1) (by omega) h fun a2 w2 h2 => hQ a2 w2 (h2.trans o1 o3 o4 o5 o6)
        | exit id => simp at h; obtain ⟨rfl, rfl⟩ := h; exact hQ a' w' ho
        | ret => simp at h; obtain ⟨rfl, rfl⟩ := h; exact hQ a' w' ho
    · cases hc
  | cond c x y ihx ihy =>
    intro cc S N s sf ex a w Q hc f hb ht h hQ
    simp only [toC] at hc
    split at hc
    · rename_i c' cx cy hc' hx hy
      cases hc
      simp only [evC] at h
      split at h
      · rename_i hv
        have := opv_ok f hc' hv
        simp only [V] at this
        exact wp_cond_true this (ihx hx f hb ht h hQ)
      · rename_i hv
        have := opv_ok f hc' hv
        simp only [V] at this
        exact wp_cond_false this (ihy hy f hb ht h hQ)
      · cases h
    · cases hc
  | block id x ih =>
    intro cc S N s sf ex a w Q hc f hb ht h hQ
    simp only [toC, Option.map_eq_some_iff] at hc
    obtain ⟨cx, hx, rfl⟩ := hc
    simp only [evC] at h
    refine wp_block ?_
    cases h1 : evC K cs fuel cx s with
    | none => rw [h1] at h; cases h
    | some p =>
      obtain ⟨e1, s1⟩ := p
      rw [h1] at h
      refine ih hx f hb ht h1 fun a' w' ho => ?_
      cases e1 with
      | nrm => simp at h; obtain ⟨rfl, rfl⟩ := h; exact hQ a' w' ho
      | exit j =>
        simp only at h
        split at h
        · rename_i hj
          cases h; subst hj
          simp only [exOf, Exit.inBlock, if_true]; exact hQ a' w' ho
        · rename_i hj
          cases h
          simp only [exOf, Exit.inBlock, hj, if_false]; exact hQ a' w' ho
      | ret => simp at h; obtain ⟨rfl, rfl⟩ := h; exact hQ a' w' ho
  | loop x ih =>
    intro cc S N s sf ex a w Q hc f hb ht h hQ
    simp only [toC, Option.map_eq_some_iff] at hc
    obtain ⟨cx, hx, rfl⟩ := hc
    simp only [evC] at h
    have key : ∀ (k : Nat) {S : Pub} {N : Nm} {s : St} {a : Act} {w : World}, Fr base L S N s a.tmps w.heap → base ≤ w.heap.size → n ≤ a.tmps.size → loopN (fun s => evC K cs fuel cx s) k s = some (ex, sf) →
        (∀ a' w', Out base L S sf a w a' w' → Q (exOf ex) a' w') → Code.rounds P x Q k a w := by
      intro k
      induction k with
      | zero => intro S N s a w _ _ _ h _; simp [loopN] at h
      | succ k ihk =>
        intro S N s a w f hb ht h hQ
        rw [rounds_succ]
        simp only [loopN] at h
        cases h1 : evC K cs fuel cx s with
        | none => rw [h1] at h; cases h
        | some p =>
          obtain ⟨e1, s1⟩ := p
          rw [h1] at h
          refine ih hx f hb ht h1 fun a' w' ho => ?_
          cases e1 with
          | nrm =>
            obtain ⟨S', N', o1, o2, o3, o4, o5, o6⟩ := ho
            exact ihk o2 (Nat.le_trans hb o5.1) (by omega) h fun a2 w2 h2 => hQ a2 w2 (h2.trans o1 o3 o4 o5 o6)
          | exit id => simp at h; obtain ⟨rfl, rfl⟩ := h; exact hQ a' w' ho
          | ret => simp at h; obtain ⟨rfl, rfl⟩ := h; exact hQ a' w' ho
    exact wp_loop_rounds fuel (key fuel f hb ht h hQ)
  | scope x ih =>
    intro cc S N s sf ex a w Q hc f hb ht h hQ
    simp only [toC, Option.map_eq_some_iff] at hc
    obtain ⟨cx, hx, rfl⟩ := hc
    simp only [evC] at h
    refine wp_scope_straight (ih hx f hb ht h fun a' w' ho => ?_)
    cases ex <;> exact hQ a' w' ho
  | _ =>
    intro cc S N s sf ex a w Q hc f hb ht h hQ
    simp [toC] at hc
    subst hc
    simp [evC] at h

end
end Go.Ev

/- The body of a function: how it starts, what it returns. -/
namespace Go.Ev

section
variable {base : Nat} {L : Len} {S : Pub} {N : Nm} {vals : Nat → Option DV} {ol : Nat → List Ob} {Z : Nat × Nat → Prop} {a : Array Value} {hp : Hp}

/-- A slot that holds its value already. -/
theorem FR.slot (f : FR base L S N vals ol Z a hp) {d : Nat} {x : DV} (hv : V hp S N x (a.getD d undef)) : FR base L S N (upd vals d (some x)) ol Z a hp := by
  refine ⟨fun i y hy => ?_, f.obs, f.known, f.alive, f.inj, f.zk, f.pub, f.pubm, f.oldc, f.oldm, f.lentn⟩
  unfold upd at hy
  split at hy
  · rename_i h; subst h; cases hy; exact hv
  · exact f.slots i y hy

theorem FR.relen (f : FR base L S N vals ol Z a hp) {nm : Nat → Option Nat} (h : ∀ p b, nm p = some b → ∃ r, N p 0 = some r ∧ (r = none ∨ ∃ sz, r = some (b, sz))) : FR base ⟨L.f, L.s, nm⟩ S N vals ol Z a hp :=
  ⟨f.slots, f.obs, f.known, f.alive, f.inj, f.zk, f.pub, f.pubm, f.oldc, f.oldm, h⟩

/-- Where the lent objects are named. -/
def LP (N : Nm) : Nat → List DV → List (Nat × Ob) → Prop
  | _, [], lent => lent = []
  | p, d :: r, lent => (isDeep d = true ∧ LP N (p + 1) r lent) ∨ ∃ k sz cs off n b l2, d = .own k sz cs off n ∧ lent = (b, ⟨k, sz, cs⟩) :: l2 ∧ N p 0 = some (some (b, sz)) ∧ LP N (p + 1) r l2

theorem LP.mono {N N' : Nm} (h : ∀ h e r, N h e = some r → N' h e = some r) : ∀ {ds : List DV} {p : Nat} {lent : List (Nat × Ob)}, LP N p ds lent → LP N' p ds lent
  | [], _, _, g => g
  | d :: r, p, lent, g => by
    rcases g with ⟨g1, g2⟩ | ⟨k, sz, cs, off, n, b, l2, g1, g2, g3, g4⟩
    · exact .inl ⟨g1, g2.mono h⟩
    · exact .inr ⟨k, sz, cs, off, n, b, l2, g1, g2, h _ _ _ g3, g4.mono h⟩

theorem startL_deep {p : Nat} {d : DV} {r : List DV} {s : St} (h : isDeep d = true) : startL p (d :: r) s = startL (p + 1) r (app s (val p d)) := by
  cases d <;> simp [isDeep] at h <;> rfl

theorem V_own {hp : Hp} {S : Pub} {N : Nm} {k p off n b sz : Nat} {v : Value} (hN : N p 0 = some (some (b, sz))) (hv : V hp S (NB b sz) (ownV k 0 0 off n) v) : V hp S N (ownV k p 0 off n) v := by
  unfold ownV at hv ⊢
  split
  · rename_i hk; rw [if_pos hk] at hv
    simp only [V] at hv ⊢
    obtain ⟨ad, cap, r, h1, h2, h3, h4, h5⟩ := hv
    cases h4
    exact ⟨ad, cap, _, h1, h2, h3, hN, h5⟩
  · rename_i hk; rw [if_neg hk] at hv
    split
    · rename_i hk1; rw [if_pos hk1] at hv
      simp only [V] at hv ⊢
      obtain ⟨q, r, h1, h4, h5⟩ := hv
      cases h4
      exact ⟨q, _, h1, hN, h5⟩
    · rename_i hk1; rw [if_neg hk1] at hv
      simp only [V] at hv ⊢
      obtain ⟨ad, r, h1, h2, h4, h5⟩ := hv
      cases h4
      exact ⟨ad, _, h1, h2, hN, h5⟩

theorem start_ok : ∀ (ds : List DV) {vs : List Value} {lent : List (Nat × Ob)} {p : Nat} {s : St} {N : Nm}, Fr base L S N s a hp → s.z = [] → (∀ h, p ≤ h → lst s h = []) → ArgsR hp S ds vs lent → LentOK hp S lent →
    (∀ h e b sz, N h e = some (some (b, sz)) → b ∉ lent.map (·.1)) → (∀ q ∈ lent, L q.1) → (∀ i v, vs[i]? = some v → a.getD (p + i) undef = v) → p + ds.length ≤ 1000000 →
    ∃ N', Fr base L S N' (startL p ds s) a hp ∧ (startL p ds s).z = [] ∧ (∀ h e r, N h e = some r → N' h e = some r) ∧ LP N' p ds lent
  | [], vs, lent, p, s, N, f, hz, hh, hargs, hlent, hN, hL, hv, hpl => by
    obtain ⟨rfl, rfl⟩ := hargs
    exact ⟨N, f, hz, fun _ _ _ h => h, rfl⟩
  | d :: r, vs, lent, p, s, N, f, hz, hh, hargs, hlent, hN, hL, hv, hpl => by
    obtain ⟨v, t, l1, l2, rfl, rfl, ha, hr⟩ := hargs
    simp only [List.length_cons] at hpl
    have hv0 : a.getD p undef = v := by simpa using hv 0 v (by simp)
    have hvr : ∀ i u, t[i]? = some u → a.getD (p + 1 + i) undef = u := fun i u hu => by
      have := hv (i + 1) u (by simpa using hu)
      rw [← this]; congr 1; omega
    rcases ha with ⟨rfl, hd, hvv⟩ | ⟨k, sz, cs, off, n, b, rfl, rfl, hvv⟩
    · rw [startL_deep hd]
      have f1 : Fr base L S N (app s (val p d)) a hp := by
        show FR base L S N (app s (Ev.val p d)).v.get (lst (app s (Ev.val p d))) (fun q => q ∈ (app s (Ev.val p d)).z) a hp
        rw [app_v (s := s) (x := Ev.val p d) rfl (by omega), app_lst_nil rfl]
        exact f.slot (by rw [hv0]; exact V.mono (Keeps.refl _ _) (Sub.refl _) Later.of_none _ _ hvv)
      obtain ⟨N', g1, g2, g3, g4⟩ := start_ok r (p := p + 1) f1 (by simp [app, val, hz]) (fun h hle => by rw [app_lst_nil rfl]; exact hh h (by omega)) hr (by simpa using hlent) (by simpa using hN) (by simpa using hL) hvr (by omega)
      exact ⟨N', g1, g2, g3, .inl ⟨hd, by simpa using g4⟩⟩
    · have hst : startL p (DV.own k sz cs off n :: r) s = startL (p + 1) r (app s (newOb s p ⟨k, sz, cs⟩ [] (ownV k p 0 off n))) := rfl
      rw [hst]
      have hb0 := hlent.2 (b, ⟨k, sz, cs⟩) (by simp)
      have hl0 : lst s p = [] := hh p (Nat.le_refl _)
      have fa := FR.adopt (ob := ⟨k, sz, cs⟩) (d := p) (b := b) f hb0.1 (fun h e z hN' => hN h e b z hN' (by simp)) (.inr (hL (b, ⟨k, sz, cs⟩) (by simp))) hb0.2.2
      have hname : more N p (lst s p).length (b, sz) p 0 = some (some (b, sz)) := by unfold more; rw [hl0]; simp
      have f1 : Fr base L S (more N p (lst s p).length (b, sz)) (app s (newOb s p ⟨k, sz, cs⟩ [] (ownV k p 0 off n))) a hp := by
        show FR base L S _ (app s (newOb s p ⟨k, sz, cs⟩ [] (ownV k p 0 off n))).v.get (lst (app s (newOb s p ⟨k, sz, cs⟩ [] (ownV k p 0 off n)))) (fun q => q ∈ (app s (newOb s p ⟨k, sz, cs⟩ [] (ownV k p 0 off n))).z) a hp
        rw [app_v (s := s) (x := newOb s p ⟨k, sz, cs⟩ [] (ownV k p 0 off n)) rfl (by omega), app_lst_one (x := newOb s p ⟨k, sz, cs⟩ [] (ownV k p 0 off n)) rfl (by omega)]
        have := fa.slot (d := p) (x := ownV k p 0 off n) (by rw [hv0]; exact V_own hname hvv)
        simpa [app, newOb] using this
      have hlent2 : LentOK hp S l2 := ⟨by have := hlent.1; simp at this; exact this.2, fun q hq => hlent.2 q (by simp [hq])⟩
      obtain ⟨N', g1, g2, g3, g4⟩ := start_ok r (p := p + 1) f1 (by simp [app, newOb, hz])
        (fun h hle => by rw [app_lst_one (x := newOb s p ⟨k, sz, cs⟩ [] (ownV k p 0 off n)) rfl (by omega)]; unfold upd; rw [if_neg (by omega)]; exact hh h (by omega)) hr hlent2
        (fun h e b' z hN' => by
          unfold more at hN'
          split at hN'
          · simp at hN'
            have := hlent.1
            simp only [List.cons_append, List.nil_append, List.map_cons, List.nodup_cons] at this
            exact hN'.1 ▸ this.1
          · exact fun hm => hN h e b' z hN' (by simp only [List.cons_append, List.nil_append, List.map_cons, List.mem_cons]; exact .inr hm)) (fun q hq => hL q (by simp [hq])) hvr (by omega)
      refine ⟨N', g1, g2, fun h e x hx => g3 _ _ _ ?_, .inr ⟨k, sz, cs, off, n, b, l2, rfl, rfl, g3 _ _ _ hname, g4⟩⟩
      unfold more
      rw [if_neg]
      · exact hx
      · rintro ⟨rfl, rfl⟩
        rw [f.fresh h] at hx; cases hx

/-! ### What is returned -/

/-- A result, with the name that keeps its identity. -/
def GR (s : St) (np : Nat) (hp : Hp) (S : Pub) (N : Nm) (x : DV) (v : Value) (q : List (Nat × Nat)) : Prop :=
  (q = [] ∧ isDeep x = true ∧ V hp S N0 x v) ∨
  ∃ h e n ob b, q = [(h, e)] ∧ look s h e = some ob ∧ ob.k = 0 ∧ x = .own 0 ob.sz ob.cs 0 n ∧ N h e = some (some (b, ob.sz)) ∧ V hp S (NB b ob.sz) (.ref 0 0 0 n) v ∧ np ≤ h

def GRL (s : St) (np : Nat) (hp : Hp) (S : Pub) (N : Nm) : List DV → List Value → List (Nat × Nat) → Prop
  | [], vs, q => vs = [] ∧ q = []
  | x :: r, vs, q => ∃ v t q1 q2, vs = v :: t ∧ q = q1 ++ q2 ∧ GR s np hp S N x v q1 ∧ GRL s np hp S N r t q2

theorem GR.mono {s : St} {np : Nat} {S S' : Pub} {x : DV} {v : Value} {q : List (Nat × Nat)} (sb : Sub S S') (h : GR s np hp S N x v q) : GR s np hp S' N x v q := by
  rcases h with ⟨h1, h2, h3⟩ | ⟨h0, e, n, ob, b, h1, h2, h3, h4, h5, h6, h7⟩
  · exact .inl ⟨h1, h2, V.mono (Keeps.refl _ _) sb (Later.refl _ _) _ _ h3⟩
  · exact .inr ⟨h0, e, n, ob, b, h1, h2, h3, h4, h5, V.mono (Keeps.refl _ _) sb (Later.refl _ _) _ _ h6, h7⟩

theorem giveOne_ok {s : St} {own : Bool} {np : Nat} {d x : DV} {z q : List (Nat × Nat)} {v : Value} (f : FR base L S N vals (lst s) Z a hp) (hv : V hp S N d v) (h : giveOne s own np d = some (x, z, q)) :
    ∃ S', Sub S S' ∧ FR base L S' N vals (lst s) (fun p => Z p ∨ p ∈ z) a hp ∧ GR s np hp S' N x v q := by
  have hdeep : (match deepen s d with | some (x, z) => some (x, z, ([] : List (Nat × Nat))) | none => none) = some (x, z, q) →
      ∃ S', Sub S S' ∧ FR base L S' N vals (lst s) (fun p => Z p ∨ p ∈ z) a hp ∧ GR s np hp S' N x v q := by
    intro h
    split at h
    · rename_i x' z' hd
      cases h
      obtain ⟨S', a1, a2, a3, a4⟩ := deepen_ok s d x z v S Z f hv hd
      exact ⟨S', a1, a2, .inl ⟨rfl, a3, V.deep _ _ a3 a4⟩⟩
    · cases h
  unfold giveOne at h
  split at h
  · rename_i h0 e off n
    split at h
    · rename_i ob ho
      split at h
      · rename_i hc
        cases h
        obtain ⟨b, n1, _, _⟩ := f.obs _ _ _ ho
        refine ⟨S, Sub.refl _, by simpa using f, .inr ⟨h0, e, n, ob, b, rfl, ho, hc.2.1, rfl, n1, ?_, hc.1⟩⟩
        have := V_NB (k := 0) n1 (by simpa [ownV] using hv)
        rw [hc.2.2.2.1] at this
        simpa [ownV] using this
      · cases h
    · cases h
  · exact hdeep h

theorem giveL_ok {s : St} {own : Bool} {np : Nat} : ∀ {ds xs : List DV} {z q : List (Nat × Nat)} {vs : List Value} {S : Pub} {Z : Nat × Nat → Prop}, FR base L S N vals (lst s) Z a hp → VL hp S N ds vs → giveL s own np ds = some (xs, z, q) →
    ∃ S', Sub S S' ∧ FR base L S' N vals (lst s) (fun p => Z p ∨ p ∈ z) a hp ∧ GRL s np hp S' N xs vs q
  | [], xs, z, q, vs, S, Z, f, hv, h => by
    simp [giveL] at h; obtain ⟨rfl, rfl, rfl⟩ := h
    simp only [VL] at hv
    exact ⟨S, Sub.refl _, by simpa using f, ⟨hv, rfl⟩⟩
  | d :: r, xs, z, q, vs, S, Z, f, hv, h => by
    simp only [VL] at hv
    obtain ⟨v, t, rfl, hv1, hv2⟩ := hv
    simp only [giveL] at h
    split at h
    · rename_i x z1 q1 l z2 q2 h1 h2
      cases h
      obtain ⟨S1, a1, a2, a3⟩ := giveOne_ok f hv1 h1
      obtain ⟨S2, b1, b2, b3⟩ := giveL_ok a2 (VL.mono (Keeps.refl _ _) a1 (Later.refl _ _) _ _ hv2) h2
      refine ⟨S2, a1.trans b1, ?_, v, t, q1, q2, rfl, rfl, a3.mono b1, b3⟩
      refine cast ?_ b2
      congr 1
      funext p
      simp [List.mem_append, or_assoc]
    · cases h

theorem adoptL_deep {h c : Nat} : ∀ {ds : List DV}, areDeep ds = true → adoptL h c ds = (ds, [])
  | [], _ => rfl
  | d :: r, hd => by
    simp only [areDeep, Bool.and_eq_true] at hd
    have e : adopt h c d = (d, []) := by cases d <;> simp [isDeep] at hd <;> rfl
    simp only [adoptL, e]
    rw [adoptL_deep hd.2]
    simp

theorem adoptR_deep {h c : Nat} {d : DV} (hd : isDeep d = true) : adoptR h c d = (d, []) := by
  cases d <;> simp [isDeep] at hd <;> first | rfl | (simp only [adoptR]; rw [adoptL_deep hd])

/-- Results in a list, taken over. -/
theorem GRL.news {s : St} {np lo : Nat} (inj : ∀ h e h' e' b sz sz', N h e = some (some (b, sz)) → N h' e' = some (some (b, sz')) → h = h' ∧ e = e') :
    ∀ {xs : List DV} {vs : List Value} {q : List (Nat × Nat)}, GRL s np hp S N xs vs q → q.Nodup →
    (∀ h e ob b, (h, e) ∈ q → look s h e = some ob → np ≤ h → ob.k = 0 → N h e = some (some (b, ob.sz)) → lo ≤ b ∧ OB hp S N0 False ob b) →
    ∃ news : List (Nat × Ob), (adoptL 0 0 xs).2.reverse = news.map (·.2) ∧ (news.map (·.1)).Nodup ∧ (∀ b ∈ news.map (·.1), ∃ h e sz, (h, e) ∈ q ∧ N h e = some (some (b, sz))) ∧
      (∀ p ∈ news, lo ≤ p.1 ∧ p.2.k ≠ 3 ∧ OB hp S N0 False p.2 p.1) ∧
      ∀ h c N', (∀ i p, news[i]? = some p → N' h (c + i) = some (some (p.1, p.2.sz))) → VL hp S N' (adoptL h c xs).1 vs
  | [], vs, q, g, _, _ => by
    obtain ⟨rfl, rfl⟩ := g
    exact ⟨[], rfl, by simp, by simp, by simp, fun _ _ _ _ => by simp [adoptL, VL]⟩
  | x :: r, vs, q, g, hq, hob => by
    obtain ⟨v, t, q1, q2, rfl, rfl, g1, g2⟩ := g
    have hq2 : q2.Nodup := (List.nodup_append.1 hq).2.1
    obtain ⟨news, n1, n2, n3, n4, n5⟩ := GRL.news inj g2 hq2 (fun h e ob b hm => hob h e ob b (List.mem_append_right _ hm))
    rcases g1 with ⟨rfl, h2, h3⟩ | ⟨h0, e, n, ob, b, rfl, h2, h3, rfl, h5, h6, h7⟩
    · have e : ∀ h c, adopt h c x = (x, []) := fun h c => by cases x <;> simp [isDeep] at h2 <;> rfl
      refine ⟨news, ?_, n2, ?_, n4, fun h c N' hN => ?_⟩
      · simp only [adoptL, e]; simpa using n1
      · simpa using n3
      · simp only [adoptL, e, List.length_nil, Nat.add_zero, VL]
        exact ⟨v, t, rfl, V.mono (Keeps.refl _ _) (Sub.refl _) Later.of_none _ _ h3, n5 h c N' hN⟩
    · have hb := hob h0 e ob b (by simp) h2 h7 h3 h5
      have ek : (⟨0, ob.sz, ob.cs⟩ : Ob) = ob := by cases ob; simp at h3; simp [h3]
      refine ⟨(b, ob) :: news, ?_, ?_, ?_, ?_, fun h c N' hN => ?_⟩
      · simp only [adoptL, adopt, List.length_singleton, List.reverse_append, List.reverse_cons, List.reverse_nil, List.nil_append, List.map_cons, List.singleton_append, ek]
        rw [adoptL_objs 0 (0 + 1) 0 0, n1]
      · simp only [List.map_cons, List.nodup_cons]
        refine ⟨fun hm => ?_, n2⟩
        obtain ⟨h', e', sz', m1, m2⟩ := n3 b hm
        obtain ⟨rfl, rfl⟩ := inj _ _ _ _ _ _ _ h5 m2
        exact (List.nodup_append.1 hq).2.2 _ (by simp) _ m1 rfl
      · intro b' hm
        simp only [List.map_cons, List.mem_cons] at hm
        rcases hm with rfl | hm
        · exact ⟨h0, e, _, by simp, h5⟩
        · obtain ⟨h', e', sz', m1, m2⟩ := n3 b' hm
          exact ⟨h', e', sz', List.mem_append_right _ m1, m2⟩
      · intro p hp
        rcases List.mem_cons.1 hp with rfl | hp
        · exact ⟨hb.1, by simp [h3], hb.2⟩
        · exact n4 p hp
      · simp only [adoptL, adopt, List.length_singleton, VL, if_true]
        refine ⟨v, t, rfl, ?_, n5 h (c + 1) N' fun i p hi => ?_⟩
        · have hN0 := hN 0 (b, ob) (by simp)
          simp at hN0
          simp only [V] at h6 ⊢
          obtain ⟨ad, cap, r', k1, k2, k3, k4, k5⟩ := h6
          cases k4
          exact ⟨ad, cap, _, k1, k2, k3, hN0, k5⟩
        · have := hN (i + 1) p (by simpa using hi)
          rw [← this]; congr 1; omega
end
end Go.Ev

/- A function does what the interpreter says; so does each function of a program. -/
namespace Go.Ev

def retV : List Value → Value
  | [v] => v
  | vs => .tuple vs.toArray

theorem ArgsR.length {hp : Hp} {S : Pub} : ∀ {ds : List DV} {vs : List Value} {l : List (Nat × Ob)}, ArgsR hp S ds vs l → vs.length = ds.length
  | [], _, _, h => by rw [h.1]; rfl
  | d :: r, vs, l, h => by
    obtain ⟨v, t, l1, l2, rfl, _, _, h2⟩ := h
    simp [ArgsR.length h2]

theorem LentR.unpub {hp : Hp} {S : Pub} (wf : WF S hp) : ∀ {lent : List (Nat × Ob)} {outs : List (List DV)}, LentR hp S lent outs → ∀ b ∈ lent.map (·.1), (∀ o, ¬ S.c b o) ∧ ¬ S.m b
  | [], _, _, b, h => by simp at h
  | (b0, ob) :: r, outs, g, b, h => by
    obtain ⟨c, t, _, _, h3, h4⟩ := g
    simp only [List.map_cons, List.mem_cons] at h
    rcases h with rfl | h
    · exact OB.unpub wf h3
    · exact LentR.unpub wf h4 b h

section
variable {base : Nat} {L : Len} {S : Pub} {N : Nm} {s : St} {P : Program}

theorem lent_ok {z : List (Nat × Nat)} {a : Array Value} {hp : Hp} {N1 : Nm} (f : FR base L S N s.v.get (lst s) (fun p => p ∈ s.z ∨ p ∈ z) a hp) (hnm : ∀ p b sz, N1 p 0 = some (some (b, sz)) → L.nm p = some b) :
    ∀ (ds : List DV) {p : Nat} {lent : List (Nat × Ob)} {outs : List (List DV)}, lentOuts s z p ds = some outs → LP N1 p ds lent →
    LentR hp S lent outs ∧ ∀ b ∈ lent.map (·.1), ∃ p' sz, p ≤ p' ∧ p' < p + ds.length ∧ N p' 0 = some (some (b, sz))
  | [], p, lent, outs, h, g => by
    simp [lentOuts] at h; subst h
    simp only [LP] at g; subst g
    exact ⟨rfl, by simp⟩
  | d :: r, p, lent, outs, h, g => by
    rcases g with ⟨hd, g⟩ | ⟨k, sz, cs, off, n, b, l2, rfl, rfl, h3, g⟩
    · have h' : lentOuts s z (p + 1) r = some outs := by
        cases d <;> simp [isDeep] at hd <;> simpa [lentOuts] using h
      obtain ⟨e1, e2⟩ := lent_ok f hnm r h' g
      exact ⟨e1, fun b hb => by
        obtain ⟨p', sz, q1, q2, q3⟩ := e2 b hb
        exact ⟨p', sz, by omega, by simp only [List.length_cons]; omega, q3⟩⟩
    · simp only [lentOuts] at h
      split at h
      · rename_i ob l ho hl
        split at h
        · rename_i hc
          cases h
          obtain ⟨c1, c2, c3, c4, c5⟩ := hc
          obtain ⟨e1, e2⟩ := lent_ok f hnm r hl g
          obtain ⟨b', n1, n2, _⟩ := f.obs _ _ _ ho
          obtain ⟨r', m1, m2⟩ := f.lentn p b (hnm _ _ _ h3)
          rw [n1] at m1
          rcases m2 with rfl | ⟨sz', rfl⟩
          · cases m1
          · simp only [Option.some.injEq, Prod.mk.injEq] at m1
            obtain ⟨rfl, _⟩ := m1
            have hdeep : areDeep ob.cs = true := by
              rcases n2 with ⟨k1, ms, clk, k2, k3, _⟩ | ⟨k1, arr, E, vs, t, k2, k3, k4, k5, k6⟩
              · exact k3
              · by_cases hk : ob.k = 0
                · exact k6 hk
                · exact c3 (by omega)
            refine ⟨⟨ob.cs, l, rfl, hdeep, ?_, e1⟩, ?_⟩
            · have : (⟨k, sz, ob.cs⟩ : Ob) = ob := by cases ob; simp at c1 c2; simp [c1, c2]
              show OB hp S N0 False (⟨k, sz, ob.cs⟩ : Ob) b'
              rw [this]
              exact n2.unnamed hdeep fun hz => hz.elim c4 c5
            · intro b hb
              simp only [List.map_cons, List.mem_cons] at hb
              rcases hb with rfl | hb
              · exact ⟨p, _, Nat.le_refl _, by simp, n1⟩
              · obtain ⟨p', sz, q1, q2, q3⟩ := e2 b hb
                exact ⟨p', sz, by omega, by simp only [List.length_cons]; omega, q3⟩
        · cases h
      · cases h

def toVal (tmps : Array Value) : ResultVar → Go.Sem Value
  | .tmp t => pure (tmps.getD t undef)
  | .cell a t => do loadVar t (← asAddr (tmps.getD a undef))

theorem resRaw_ok {a : Act} {w : World} (f : Fr base L S N s a.tmps w.heap) {x : ResultVar} {y : RV} {d : DV} (h : toRes P x = some y) (hr : resRaw s y = some d) : ∃ v, (toVal a.tmps x).run P w = .ok v w ∧ V w.heap S N d v := by
  cases x with
  | tmp t =>
    simp [toRes] at h; subst h
    simp only [resRaw] at hr
    exact ⟨_, rfl, f.slots t d hr⟩
  | cell b t =>
    simp only [toRes] at h
    split at h
    · rename_i n g h1 h2
      cases h
      simp only [resRaw] at hr
      split at hr
      · rename_i h0 e off hs
        split at hr
        · rename_i ob ho
          split at hr
          · cases hr
          · rename_i hk
            obtain ⟨ad, e1, e2, _⟩ := At.of_ptr (a := a) f (f.slots b _ hs) ho hk
            have h7 : Ev.part (ob.cs.drop off) 0 n g = some d := by
              unfold Ev.part at hr ⊢
              cases g
              · simpa using hr
              · simp only [if_true] at hr ⊢
                split at hr
                · rename_i hl; rw [if_pos (by simp; omega)]; simpa using hr
                · cases hr
            obtain ⟨v, q1, q2⟩ := load_ok (P := P) e2 h7 h2 h1
            refine ⟨v, ?_, q2⟩
            simp only [toVal, e1, asAddr]
            simp only [Instr.loadAt, Instr.sureAddr] at q1
            simpa using q1
        · cases hr
      · cases hr
    · cases h

theorem resRaws_ok {a : Act} {w : World} (f : Fr base L S N s a.tmps w.heap) : ∀ {xs : List ResultVar} {ys : List RV} {ds : List DV}, toResL P xs = some ys → resRaws s ys = some ds → ∃ vs, (xs.mapM (toVal a.tmps)).run P w = .ok vs w ∧ VL w.heap S N ds vs
  | [], ys, ds, h, hr => by
    simp [toResL] at h; subst h
    simp [resRaws] at hr; subst hr
    exact ⟨[], by simp, by simp [VL]⟩
  | x :: r, ys, ds, h, hr => by
    simp only [toResL] at h
    split at h
    · rename_i y l h1 h2
      cases h
      simp only [resRaws] at hr
      split at hr
      · rename_i d dl g1 g2
        cases hr
        obtain ⟨v, a1, a2⟩ := resRaw_ok f h1 g1
        obtain ⟨vs, b1, b2⟩ := resRaws_ok f h2 g2
        refine ⟨v :: vs, ?_, by simp only [VL]; exact ⟨v, vs, rfl, a2, b2⟩⟩
        simp [List.mapM_cons, a1, b1]
      · cases hr
    · cases h

theorem results_ok {a : Act} {w : World} (f : Fr base L S N s a.tmps w.heap) {fn : Func} {ys : List RV} {ds : List DV} (h : toResL P fn.results.toList = some ys) (hr : resRaws s ys = some ds) :
    ∃ vs, VL w.heap S N ds vs ∧ (results fn a.tmps).run P w = .ok (retV vs) w := by
  obtain ⟨vs, h1, h2⟩ := resRaws_ok f h hr
  refine ⟨vs, h2, ?_⟩
  have e : (fn.results.mapM (toVal a.tmps)).run P w = .ok vs.toArray w := by
    rw [Array.mapM_eq_mapM_toList]
    simp [h1]
  have e2 : (results fn a.tmps) = (do let vs ← fn.results.mapM (toVal a.tmps); pure (if h : vs.size = 1 then vs[0] else .tuple vs) : Go.Sem Value) := rfl
  rw [e2, Sem.run_bind, e]
  simp only [Result.andThen_ok, Sem.run_pure]
  congr 1
  split
  · rename_i hs
    match vs, hs with
    | [v], _ => rfl
  · rename_i hs
    match vs, hs with
    | [], _ => rfl
    | [v], hs => simp at hs
    | v :: u :: r, _ => rfl

/-- The result of a body, with what its names are. -/
theorem resOf_ok {own : Bool} {np : Nat} {ys : List RV} {r : DV} {z q : List (Nat × Nat)} {a : Array Value} {hp : Hp} {ds : List DV} {vs : List Value} (f : Fr base L S N s a hp) (hr : resRaws s ys = some ds) (hv : VL hp S N ds vs)
    (h : resOf s own np ys = some (r, z, q)) :
    ∃ S', Sub S S' ∧ FR base L S' N s.v.get (lst s) (fun p => p ∈ s.z ∨ p ∈ z) a hp ∧
      ∀ lo, q.Nodup → (∀ h e ob b, (h, e) ∈ q → look s h e = some ob → np ≤ h → ob.k = 0 → N h e = some (some (b, ob.sz)) → lo ≤ b ∧ OB hp S' N0 False ob b) → ResR lo hp S' r (retV vs) := by
  unfold resOf at h
  rw [hr] at h
  -- results in a list
  have many : ∀ {xs : List DV} {us : List Value} {S' : Pub}, FR base L S' N s.v.get (lst s) (fun p => p ∈ s.z ∨ p ∈ z) a hp → GRL s np hp S' N xs us q → ∀ (mk : List DV → DV) (mv : List Value → Value), (∀ h c, adoptR h c (mk xs) = (mk (adoptL h c xs).1, (adoptL h c xs).2)) →
      (∀ N' l us, VL hp S' N' l us → V hp S' N' (mk l) (mv us)) → ∀ lo, q.Nodup → (∀ h e ob b, (h, e) ∈ q → look s h e = some ob → np ≤ h → ob.k = 0 → N h e = some (some (b, ob.sz)) → lo ≤ b ∧ OB hp S' N0 False ob b) → ResR lo hp S' (mk xs) (mv us) := by
    intro xs us S' f' g mk mv h1 h2 lo hq hob
    obtain ⟨news, n1, n2, _, n4, n5⟩ := GRL.news (lo := lo) f'.inj g hq hob
    refine ⟨news, by rw [h1]; exact n1, n2, n4, fun h c N' hN => ?_⟩
    rw [h1]
    exact h2 _ _ _ (n5 h c N' hN)
  have one : ∀ {d : DV} {v : Value}, VL hp S N [d] [v] → giveOne s own np d = some (r, z, q) → ∃ S', Sub S S' ∧ FR base L S' N s.v.get (lst s) (fun p => p ∈ s.z ∨ p ∈ z) a hp ∧
      ∀ lo, q.Nodup → (∀ h e ob b, (h, e) ∈ q → look s h e = some ob → np ≤ h → ob.k = 0 → N h e = some (some (b, ob.sz)) → lo ≤ b ∧ OB hp S' N0 False ob b) → ResR lo hp S' r v := by
    intro d v hv h
    simp only [VL] at hv
    obtain ⟨v', t, e1, hv, _⟩ := hv
    cases e1
    obtain ⟨S', a1, a2, a3⟩ := giveOne_ok f hv h
    refine ⟨S', a1, a2, fun lo hq hob => ?_⟩
    obtain ⟨news, n1, n2, _, n4, n5⟩ := GRL.news (lo := lo) a2.inj (xs := [r]) (vs := [v]) (q := q) ⟨v, [], q, [], rfl, by simp, a3, rfl, rfl⟩ hq hob
    rcases a3 with ⟨_, h2, h3⟩ | ⟨h0, e, n, ob, b, rfl, h2, h3, rfl, h5, h6, h7⟩
    · have e0 : ∀ h c, adoptL h c [r] = ([r], []) := fun h c => adoptL_deep (by simp [areDeep, h2])
      refine ⟨news, by rw [adoptR_deep h2]; rw [e0] at n1; exact n1, n2, n4, fun h c N' hN => ?_⟩
      rw [adoptR_deep h2]
      exact V.mono (Keeps.refl _ _) (Sub.refl _) Later.of_none _ _ h3
    · refine ⟨news, by simpa [adoptL, adoptR] using n1, n2, n4, fun h c N' hN => ?_⟩
      have := n5 h c N' hN
      simp only [adoptL, VL] at this
      obtain ⟨v', t, e1, this, _⟩ := this
      cases e1
      exact this
  split at h
  · cases h
  · rename_i d he
    cases he
    have hv' := hv
    simp only [VL] at hv'
    obtain ⟨v, t, rfl, hvd, rfl⟩ := hv'
    unfold giveV at h
    split at h
    · rename_i l
      split at h
      · rename_i xs z' q' hg
        cases h
        simp only [V] at hvd
        obtain ⟨us, rfl, hvl⟩ := hvd
        obtain ⟨S', a1, a2, a3⟩ := giveL_ok f hvl hg
        exact ⟨S', a1, a2, many a2 a3 .agg (fun us => .agg us.toArray) (fun _ _ => rfl) (fun N' l us h => by simp only [V]; exact ⟨us, rfl, h⟩)⟩
      · cases h
    · exact one hv h
  · rename_i ds' hne he
    cases he
    split at h
    · rename_i xs z' q' hg
      cases h
      obtain ⟨S', a1, a2, a3⟩ := giveL_ok f hv hg
      refine ⟨S', a1, a2, ?_⟩
      have hmv : (retV vs) = .tuple vs.toArray := by
        match vs with
        | [] => rfl
        | [v] =>
          exfalso
          have := VL.length hv
          match ds, this with
          | [d], _ => exact hne d rfl
        | _ :: _ :: _ => rfl
      rw [hmv]
      exact many a2 a3 .tup (fun us => .tuple us.toArray) (fun _ _ => rfl) (fun N' l us h => by simp only [V]; exact ⟨us, rfl, h⟩)
    · cases h

/-- A function, its body run by the interpreter. -/
theorem body_ok (hm : P.follows .mixedOrders = true) {K : Cfg} {cs : Sem} (hsem : SemOK P cs) (fuel : Nat) (own : Bool) {f : FuncId} {fn : Func} {fu : Fun} (hf : P.funcs[f]? = some fn) (hname : fn.name ≠ "runtime.NumGoroutine") (hfu : toFun P K fn = some fu) :
    FnOK P f (evBody K cs fuel own fu) := by
  unfold toFun at hfu
  cases hbody : fn.body with
  | none => rw [hbody] at hfu; cases hfu
  | some c =>
  rw [hbody] at hfu
  simp only at hfu
  split at hfu
  · rename_i cc rl hc hrl
    split at hfu
    · rename_i hsz
      cases hfu
      intro ds r outs h
      refine ⟨⟨fn, hf, hname, by rw [hbody]; simp⟩, fun w S vs lent wf args lok => ?_⟩
      unfold evBody at h
      simp only at h
      split at h
      · cases h
      · rename_i hlen
        have hlen : ds.length = fn.params.size + fn.nfree := by
          rcases Nat.decEq ds.length (fn.params.size + fn.nfree) with q | q
          · exact absurd q hlen
          · exact q
        have hvl : vs.length = ds.length := ArgsR.length args
        refine calls_of_wp hf hbody ?_
        -- the frame
        let L0 : Len := ⟨fun b => b ∈ lent.map (·.1), S, fun _ => none⟩
        have htm : ∀ i v, vs[i]? = some v → (vs.toArray ++ Array.replicate (fn.ntmps - vs.toArray.size) undef).getD (0 + i) undef = v := by
          intro i v hi
          have hlt : i < vs.length := by
            rcases Nat.lt_or_ge i vs.length with q | q
            · exact q
            · rw [List.getElem?_eq_none q] at hi; cases hi
          rw [Nat.zero_add, Array.getD_eq_getD_getElem?, Array.getElem?_append_left (by simpa using hlt)]
          simp [hi]
        have f0 : Fr w.heap.size L0 S N0 ⟨.leaf, .leaf, []⟩ (vs.toArray ++ Array.replicate (fn.ntmps - vs.toArray.size) undef) w.heap := by
          refine ⟨fun i d h => ?_, fun h e ob ho => ?_, fun h e => ?_, fun h e p hp => (by cases hp), fun h e h' e' b sz sz' hp => (by cases hp), fun h e hz => ?_, wf.1, wf.2, fun b o h => .inl h, fun b h => .inl h, fun p b h => (by cases h)⟩
          · simp [Tr.get] at h
          · simp [lst, Tr.get, nth] at ho
          · simp [lst, Tr.get]
          · simp at hz
        obtain ⟨N1, f1, hz1, _, hLP⟩ := start_ok ds f0 rfl (fun h _ => by simp [lst, Tr.get]) args lok (fun h e b sz hN => by cases hN) (fun q hq => List.mem_map_of_mem hq) htm (by omega)
        let L1 : Len := ⟨fun b => b ∈ lent.map (·.1), S, fun p => match N1 p 0 with | some (some (b, _)) => some b | _ => none⟩
        have f2 : Fr w.heap.size L1 S N1 (startL 0 ds ⟨.leaf, .leaf, []⟩) (vs.toArray ++ Array.replicate (fn.ntmps - vs.toArray.size) undef) w.heap := by
          refine f1.relen fun p b h => ?_
          split at h
          · rename_i b' sz hN
            cases h
            exact ⟨_, hN, .inr ⟨sz, rfl⟩⟩
          · cases h
        have hnm : ∀ p b sz, N1 p 0 = some (some (b, sz)) → L1.nm p = some b := by
          intro p b sz hN
          show (match N1 p 0 with | some (some (b, _)) => some b | _ => none) = some b
          rw [hN]
        split at h
        · cases h
        · cases h
        · rename_i ex sf hex hev
          split at h
          · cases h
          · rename_i r' z q hres
            split at h
            · rename_i hq
              split at h
              · cases h
              · rename_i outs' hlo
                cases h
                refine code_ok (L := L1) hm hsz.1 hsem fuel c hc f2 (Nat.le_refl _) (by simp; omega) hev fun a' w' ho => ?_
                obtain ⟨S2, N2, o1, o2, o3, o4, o5, o6⟩ := ho
                -- the results
                obtain ⟨dl, hdl⟩ : ∃ dl, resRaws sf rl = some dl := by
                  unfold resOf at hres
                  cases hh : resRaws sf rl with
                  | none => rw [hh] at hres; cases hres
                  | some dl => exact ⟨dl, rfl⟩
                obtain ⟨us, hus, hrun⟩ := results_ok (P := P) o2 hrl hdl
                obtain ⟨S3, s1, f3, hgr⟩ := resOf_ok o2 hdl hus hres
                obtain ⟨l1, l2⟩ := lent_ok f3 hnm ds hlo hLP
                have hnb : ∀ h e b sz, fn.params.size + fn.nfree ≤ h → N2 h e = some (some (b, sz)) → b ∉ lent.map (·.1) := by
                  intro h e b sz hh hN hm
                  obtain ⟨p', sz', _, q2, q3⟩ := l2 b hm
                  obtain ⟨rfl, _⟩ := f3.inj _ _ _ _ _ _ _ hN q3
                  omega
                have hR : ResR w.heap.size w'.heap S3 r (retV us) := by
                  refine hgr w.heap.size hq.1 fun h e ob b hm ho hh hk hN => ?_
                  obtain ⟨b', n1, n2, n3⟩ := f3.obs _ _ _ ho
                  rw [hN] at n1; simp at n1; subst n1
                  refine ⟨n3.resolve_right (hnb _ _ _ _ hh hN), ?_⟩
                  have hd : areDeep ob.cs = true := by
                    rcases n2 with ⟨k1, _⟩ | ⟨k1, arr, E, vs, t, k2, k3, k4, k5, k6⟩
                    · omega
                    · exact k6 hk
                  exact n2.unnamed hd fun hz => hz.elim (hq.2 _ hm).2 (hq.2 _ hm).1
                have hdone : Done w S lent r outs (retV us) w' S3 := by
                  refine ⟨o1.trans s1, WF.of f3, o5.1, fun b hb hm => o5.2.1 b hb hm, o5.2.2, fun b o hc => ?_, fun b hc => ?_, hR, l1, o6⟩
                  · rcases f3.oldc b o hc with h | h | h
                    · exact .inl h
                    · exact .inr h
                    · -- a lent block is not published
                      exfalso
                      obtain ⟨p', sz', _, _, q3⟩ := l2 b h
                      have hmem := List.mem_map.1 h
                      obtain ⟨pp, hp1, hp2⟩ := hmem
                      have : (∀ o, ¬ S3.c b o) ∧ ¬ S3.m b := LentR.unpub (WF.of f3) l1 b h
                      exact this.1 o hc
                  · rcases f3.oldm b hc with h | h | h
                    · exact .inl h
                    · exact .inr h
                    · exfalso
                      have : (∀ o, ¬ S3.c b o) ∧ ¬ S3.m b := LentR.unpub (WF.of f3) l1 b h
                      exact this.2 hc
                cases ex with
                | exit id => exact absurd rfl (hex id)
                | nrm => exact ⟨o4, _, hrun, _, S3, rfl, hdone⟩
                | ret => exact ⟨o4, _, hrun, _, S3, rfl, hdone⟩
            · cases h
    · cases hfu
  · cases hfu
end
end Go.Ev

/- All functions of a program. -/
namespace Go.Ev

theorem evFn_ok {P : Program} (hm : P.follows .mixedOrders = true) {K : Cfg} {ov : Nat → Option (Sem → List DV → Option (DV × List (List DV)))}
    (hK : ∀ f fu, K.fn f = some fu → ∃ fn, P.funcs[f]? = some fn ∧ fn.name ≠ "runtime.NumGoroutine" ∧ toFun P K fn = some fu)
    (hov : ∀ f g, ov f = some g → ∀ cs, SemOK P cs → FnOK P f (g cs)) : ∀ k, SemOK P (evFn K ov k)
  | 0 => fun f ds r outs h => by simp [evFn] at h
  | k + 1 => by
    intro f
    have ih := evFn_ok hm hK hov k
    unfold evFn
    intro ds r outs h
    split at h
    · rename_i g hg
      exact hov f g hg _ ih ds r outs h
    · split at h
      · cases h
      · rename_i fu hfu
        obtain ⟨fn, h1, h2, h3⟩ := hK f fu hfu
        exact body_ok hm ih k _ h1 h2 h3 ds r outs h
end Go.Ev

/- From a run with half-known integers to the integers. -/
namespace Go.Ev

mutual
/-- The integers in the place of the polynomials. -/
def inst (r : Nat → Int) : DV → DV
  | .x k p => .i k (p.eval r)
  | .sl n cs => .sl n (instL r cs)
  | .rop cs => .rop (instL r cs)
  | .fn f cs => .fn f (instL r cs)
  | .msl es => .msl (instL r es)
  | .agg cs => .agg (instL r cs)
  | .tup cs => .tup (instL r cs)
  | .b v => .b v
  | .i k n => .i k n
  | .nilfn => .nilfn
  | .nil => .nil
  | .ref h e o n => .ref h e o n
  | .ptr h e o => .ptr h e o
  | .mref h e => .mref h e
  | .own k sz cs o n => .own k sz cs o n
  | .u k l h => .u k l h
  | .non => .non
  | .emp => .emp
def instL (r : Nat → Int) : List DV → List DV
  | [] => []
  | d :: t => inst r d :: instL r t
end

mutual
theorem inst_deep (r : Nat → Int) : ∀ d, isDeep (inst r d) = isDeep d
  | .x _ _ | .b _ | .i _ _ | .nilfn | .nil | .ref .. | .ptr .. | .mref .. | .own .. | .u .. | .non | .emp => by simp [inst, isDeep]
  | .sl _ cs | .rop cs | .fn _ cs | .msl cs | .agg cs | .tup cs => by simp only [inst, isDeep]; exact instL_deep r cs
theorem instL_deep (r : Nat → Int) : ∀ ds, areDeep (instL r ds) = areDeep ds
  | [] => rfl
  | d :: t => by simp only [instL, areDeep]; rw [inst_deep r d, instL_deep r t]
end

theorem instL_nil (r : Nat → Int) (cs : List DV) : instL r cs = [] ↔ cs = [] := by cases cs <;> simp [instL]

def Pub.at (S : Pub) (r : Nat → Int) (ok : Pl.Ok r) : Pub := ⟨S.c, S.m, r, ok⟩

section
variable {hp : Hp} {S : Pub} {N : Nm} {r : Nat → Int} {ok : Pl.Ok r}

mutual
theorem V_inst : ∀ (d : DV) (v : Value), V hp (S.at r ok) N d v ↔ V hp S N (inst r d) v
  | .x k p, v => by simp only [V, inst]; exact Iff.rfl
  | .b _, _ | .i _ _, _ | .nilfn, _ | .nil, _ | .ref .., _ | .ptr .., _ | .mref .., _ | .own .., _ | .u .., _ | .non, _ | .emp, _ => by simp only [V, inst]
  | .sl n cs, v => by
    simp only [V, inst]
    constructor
    · rintro ⟨a, cap, h1, h2, h3, h4, h5⟩
      exact ⟨a, cap, h1, h2, by rw [instL_deep]; exact h3, ⟨h4.1, fun h => (instL_nil r cs).2 (h4.2 h)⟩, fun ad e c => ⟨(h5 ad e c).1, (VC_inst cs _ _).1 (h5 ad e c).2⟩⟩
    · rintro ⟨a, cap, h1, h2, h3, h4, h5⟩
      exact ⟨a, cap, h1, h2, by rw [instL_deep] at h3; exact h3, ⟨h4.1, fun h => (instL_nil r cs).1 (h4.2 h)⟩, fun ad e c => ⟨(h5 ad e c).1, (VC_inst cs _ _).2 (h5 ad e c).2⟩⟩
  | .rop cs, v => by
    simp only [V, inst, instL_deep]
    constructor
    · rintro ⟨ad, h1, h2, h3, h4⟩; exact ⟨ad, h1, h2, h3, (VC_inst cs _ _).1 h4⟩
    · rintro ⟨ad, h1, h2, h3, h4⟩; exact ⟨ad, h1, h2, h3, (VC_inst cs _ _).2 h4⟩
  | .fn f cs, v => by
    simp only [V, inst]
    constructor
    · rintro ⟨vs, h1, h2⟩; exact ⟨vs, h1, (VL_inst cs _).1 h2⟩
    · rintro ⟨vs, h1, h2⟩; exact ⟨vs, h1, (VL_inst cs _).2 h2⟩
  | .msl es, v => by
    simp only [V, inst, instL_deep]
    constructor
    · rintro ⟨r', ms, clk, h1, h2, h3, h4, h5⟩; exact ⟨r', ms, clk, h1, h2, h3, h4, (VM_inst es _).1 h5⟩
    · rintro ⟨r', ms, clk, h1, h2, h3, h4, h5⟩; exact ⟨r', ms, clk, h1, h2, h3, h4, (VM_inst es _).2 h5⟩
  | .agg cs, v => by
    simp only [V, inst]
    constructor
    · rintro ⟨vs, h1, h2⟩; exact ⟨vs, h1, (VL_inst cs _).1 h2⟩
    · rintro ⟨vs, h1, h2⟩; exact ⟨vs, h1, (VL_inst cs _).2 h2⟩
  | .tup cs, v => by
    simp only [V, inst]
    constructor
    · rintro ⟨vs, h1, h2⟩; exact ⟨vs, h1, (VL_inst cs _).1 h2⟩
    · rintro ⟨vs, h1, h2⟩; exact ⟨vs, h1, (VL_inst cs _).2 h2⟩
theorem VC_inst : ∀ (cs : List DV) (b o : Nat), VC hp (S.at r ok) N cs b o ↔ VC hp S N (instL r cs) b o
  | [], _, _ => by simp only [VC, instL]
  | d :: t, b, o => by
    simp only [VC, instL]
    constructor
    · rintro ⟨h1, ⟨v, h2, h3⟩, h4⟩; exact ⟨h1, ⟨v, h2, (V_inst d v).1 h3⟩, (VC_inst t b (o + 1)).1 h4⟩
    · rintro ⟨h1, ⟨v, h2, h3⟩, h4⟩; exact ⟨h1, ⟨v, h2, (V_inst d v).2 h3⟩, (VC_inst t b (o + 1)).2 h4⟩
theorem VL_inst : ∀ (cs : List DV) (vs : List Value), VL hp (S.at r ok) N cs vs ↔ VL hp S N (instL r cs) vs
  | [], _ => by simp only [VL, instL]
  | d :: t, vs => by
    simp only [VL, instL]
    constructor
    · rintro ⟨v, u, h1, h2, h3⟩; exact ⟨v, u, h1, (V_inst d v).1 h2, (VL_inst t u).1 h3⟩
    · rintro ⟨v, u, h1, h2, h3⟩; exact ⟨v, u, h1, (V_inst d v).2 h2, (VL_inst t u).2 h3⟩
theorem VM_inst : ∀ (cs : List DV) (vs : List MapEntry), VM hp (S.at r ok) N cs vs ↔ VM hp S N (instL r cs) vs
  | [], _ => by simp only [VM, instL]
  | d :: t, vs => by
    simp only [VM, instL]
    constructor
    · rintro ⟨m, u, h1, h2, h3⟩; exact ⟨m, u, h1, (V_inst d _).1 h2, (VM_inst t u).1 h3⟩
    · rintro ⟨m, u, h1, h2, h3⟩; exact ⟨m, u, h1, (V_inst d _).2 h2, (VM_inst t u).2 h3⟩
end

theorem ArgsR_deep : ∀ {ds : List DV} {vs : List Value} {l : List (Nat × Ob)}, areDeep ds = true → ArgsR hp S ds vs l → l = [] ∧ VL hp S N0 ds vs
  | [], vs, l, _, h => by obtain ⟨rfl, rfl⟩ := h; exact ⟨rfl, by simp [VL]⟩
  | d :: t, vs, l, hd, h => by
    simp only [areDeep, Bool.and_eq_true] at hd
    obtain ⟨v, u, l1, l2, rfl, rfl, h3, h4⟩ := h
    obtain ⟨rfl, g⟩ := ArgsR_deep hd.2 h4
    rcases h3 with ⟨rfl, _, h5⟩ | ⟨k, sz, cs, off, n, b, rfl, _, _⟩
    · exact ⟨rfl, by simp only [VL]; exact ⟨v, u, rfl, h5, g⟩⟩
    · simp [isDeep] at hd

theorem ArgsR_of : ∀ {ds : List DV} {vs : List Value}, areDeep ds = true → VL hp S N0 ds vs → ArgsR hp S ds vs []
  | [], vs, _, h => by simp only [VL] at h; exact ⟨h, rfl⟩
  | d :: t, vs, hd, h => by
    simp only [areDeep, Bool.and_eq_true] at hd
    simp only [VL] at h
    obtain ⟨v, u, rfl, h1, h2⟩ := h
    exact ⟨v, u, [], [], rfl, rfl, .inl ⟨rfl, hd.1, h1⟩, ArgsR_of hd.2 h2⟩
end

/-- What is said of a function at some arguments. -/
def FnAt (P : Program) (f : FuncId) (ds : List DV) (d : DV) (outs : List (List DV)) : Prop :=
  Known P f ∧ ∀ w S vs lent, WF S w.heap → ArgsR w.heap S ds vs lent → LentOK w.heap S lent →
    Calls P f vs.toArray w fun e w' => ∃ v S', e = .returned v ∧ Done w S lent d outs v w' S'

theorem FnOK.at {P : Program} {f : FuncId} {g : List DV → Option (DV × List (List DV))} (h : FnOK P f g) {ds : List DV} {d : DV} {outs : List (List DV)} (hg : g ds = some (d, outs)) : FnAt P f ds d outs := h ds d outs hg

/-- A run with half-known integers, at integers. -/
theorem FnAt.inst {P : Program} {f : FuncId} {ds : List DV} {d : DV} (h : FnAt P f ds d []) (hds : areDeep ds = true) (hd : isDeep d = true) (r : Nat → Int) (ok : Pl.Ok r) : FnAt P f (instL r ds) (inst r d) [] := by
  refine ⟨h.1, fun w S vs lent wf args lok => ?_⟩
  obtain ⟨rfl, hv⟩ := ArgsR_deep (by rw [instL_deep]; exact hds) args
  have c := h.2 w (S.at r ok) vs [] wf (ArgsR_of hds ((VL_inst ds vs).2 hv)) ⟨by simp, by simp⟩
  refine Calls.mono c fun e w' he => ?_
  obtain ⟨v, S', rfl, dn⟩ := he
  refine ⟨v, S'.at S.r S.ok, rfl, ⟨⟨fun b o hc => dn.sub.1 b o hc, fun b hm => dn.sub.2.1 b hm, rfl⟩, dn.wf, dn.size, dn.old, dn.rows, dn.newc, dn.newm, ?_, rfl, dn.tw⟩⟩
  obtain ⟨news, n1, _, _, n4⟩ := dn.res
  have hS : S' = (S'.at S.r S.ok).at r ok := by
    have e := dn.sub.2.2
    obtain ⟨c, m, r', ok'⟩ := S'
    simp only [Pub.at] at e ⊢
    subst e
    rfl
  rw [adoptR_deep hd] at n1
  have hn : news = [] := by simpa using n1.symm
  subst hn
  refine ⟨[], by rw [adoptR_deep (by rw [inst_deep]; exact hd)]; rfl, by simp, by simp, fun h c N _ => ?_⟩
  rw [adoptR_deep (by rw [inst_deep]; exact hd)]
  have := n4 h c N (fun i p hi => by simp at hi)
  rw [adoptR_deep hd, hS] at this
  exact (V_inst d v).1 this
end Go.Ev

/- Whole numbers as rational numbers of one word: cases that cover all small ones. -/
namespace Go.Ev

/-- A whole number, as a rational number. -/
def whole (x : Int) : DV := .agg [.b (decide (x < 0)), (if x = 0 then .sl 0 [] else .sl 1 [.i .u32 (if x < 0 then -x else x)]), .b false, .sl 1 [.i .u32 1]]

def wholeX (p : Pl) : DV :=
  if 0 < p.lo then .agg [.b false, .sl 1 [mkX .u32 p], .b false, .sl 1 [.i .u32 1]]
  else if p.hi < 0 then .agg [.b true, .sl 1 [mkX .u32 (Pl.neg p)], .b false, .sl 1 [.i .u32 1]]
  else .agg [.b false, .sl 0 [], .b false, .sl 1 [.i .u32 1]]

/-- The sign is known. -/
def signed (p : Pl) : Bool := decide (0 < p.lo) || decide (p.hi < 0) || (decide (p.lo = 0) && decide (p.hi = 0))

theorem inst_mkX (r : Nat → Int) (k : IntKind) (p : Pl) : inst r (mkX k p) = .i k (p.eval r) := by
  unfold mkX
  split
  · simp [inst, Pl.eval]
  · simp [inst, Pl.eval, Pl.prod]
  · simp [inst]

theorem mkX_deep (k : IntKind) (p : Pl) : isDeep (mkX k p) = true := by
  unfold mkX
  split <;> rfl

theorem wholeX_deep (p : Pl) : isDeep (wholeX p) = true := by
  unfold wholeX
  split
  · simp [isDeep, areDeep, mkX_deep]
  · split <;> simp [isDeep, areDeep, mkX_deep]

theorem inst_wholeX {r : Nat → Int} (ok : Pl.Ok r) {p : Pl} (h : signed p = true) : inst r (wholeX p) = whole (p.eval r) := by
  obtain ⟨b1, b2⟩ := Pl.bounds ok p
  simp only [signed, Bool.or_eq_true, Bool.and_eq_true, decide_eq_true_eq] at h
  unfold wholeX whole
  split
  · have h1 : ¬ p.eval r < 0 := by omega
    have h2 : ¬ p.eval r = 0 := by omega
    simp [inst, instL, inst_mkX, h1, h2]
  · split
    · have h1 : p.eval r < 0 := by omega
      have h2 : ¬ p.eval r = 0 := by omega
      simp [inst, instL, inst_mkX, h1, h2, Pl.eval_neg]
    · have h2 : p.eval r = 0 := by omega
      simp [inst, instL, h2]

def val2 (a b : Int) : Nat → Int := fun i => if i = 0 then a else if i = 1 then b else 1

theorem val2_ok {a b : Int} (h : 1 ≤ a ∧ a ≤ 32768) (g : 1 ≤ b ∧ b ≤ 32768) : Pl.Ok (val2 a b) := by
  intro i
  unfold val2 Pl.top
  split
  · exact h
  · split
    · exact g
    · omega

/-- c + a u + b v. -/
def lin (c a b : Int) : Pl := (if c = 0 then [] else [([], c)]) ++ ((if a = 0 then [] else [([0], a)]) ++ (if b = 0 then [] else [([1], b)]))

theorem eval_append (r : Nat → Int) : ∀ p q : Pl, Pl.eval r (p ++ q) = Pl.eval r p + Pl.eval r q
  | [], q => by simp [Pl.eval]
  | (m, c) :: p, q => by simp only [List.cons_append, Pl.eval]; rw [eval_append r p q]; omega

theorem eval_lin (x y c a b : Int) : Pl.eval (val2 x y) (lin c a b) = c + a * x + b * y := by
  unfold lin
  rw [eval_append, eval_append]
  have e1 : Pl.eval (val2 x y) (if c = 0 then [] else [([], c)]) = c := by split <;> simp_all [Pl.eval, Pl.prod]
  have e2 : Pl.eval (val2 x y) (if a = 0 then [] else [([0], a)]) = a * x := by split <;> simp_all [Pl.eval, Pl.prod, val2]
  have e3 : Pl.eval (val2 x y) (if b = 0 then [] else [([1], b)]) = b * y := by split <;> simp_all [Pl.eval, Pl.prod, val2]
  rw [e1, e2, e3]; omega

abbrev Case := (Int × Int × Int) × (Int × Int × Int)

def pos (c : Case) : List Case := [c, ((-c.1.1, -c.1.2.1, -c.1.2.2), (-c.2.1, -c.2.2.1, -c.2.2.2))]

def casesAdd : List Case :=
  [((0, 0, 0), (0, 0, 0))] ++ (([((0, 0, 0), (1, 0, 0)), ((0, 0, 0), (1, 0, 1)),
    ((1, 0, 0), (0, 0, 0)), ((1, 0, 0), (1, 0, 0)), ((1, 0, 0), (-1, 0, 0)), ((1, 0, 0), (1, 0, 1)), ((1, 0, 0), (-2, 0, 0)), ((1, 0, 0), (-2, 0, -1)),
    ((1, 1, 0), (0, 0, 0)), ((1, 1, 0), (1, 0, 0)), ((1, 1, 0), (1, 0, 1)), ((2, 0, 0), (-1, 0, 0)), ((2, 1, 0), (-1, 0, 0)),
    ((1, 1, 0), (-1, -1, 0)), ((2, 0, 1), (-1, 0, -1)), ((2, 1, 1), (-1, 0, -1)), ((1, 1, 0), (-2, -1, 0)), ((1, 1, 0), (-2, -1, -1))] : List Case).flatMap pos)

def casesMul : List Case :=
  ([(0, 0, 0), (1, 0, 0), (-1, 0, 0), (1, 1, 0), (-1, -1, 0)] : List (Int × Int × Int)).flatMap fun a => ([(0, 0, 0), (1, 0, 0), (-1, 0, 0), (1, 0, 1), (-1, 0, -1)] : List (Int × Int × Int)).map fun b => (a, b)

def Covers (l : List Case) (x y : Int) : Prop := ∃ c ∈ l, ∃ u v : Int, (1 ≤ u ∧ u ≤ 32768) ∧ (1 ≤ v ∧ v ≤ 32768) ∧ x = c.1.1 + c.1.2.1 * u + c.1.2.2 * v ∧ y = c.2.1 + c.2.2.1 * u + c.2.2.2 * v

theorem casesMul_cover {x y : Int} (hx : -32000 ≤ x ∧ x ≤ 32000) (hy : -32000 ≤ y ∧ y ≤ 32000) : Covers casesMul x y := by
  have one : ∀ {x : Int}, -32000 ≤ x ∧ x ≤ 32000 → ∃ a ∈ ([(0, 0, 0), (1, 0, 0), (-1, 0, 0), (1, 1, 0), (-1, -1, 0)] : List (Int × Int × Int)), ∃ u : Int, (1 ≤ u ∧ u ≤ 32768) ∧ a.2.2 = 0 ∧ x = a.1 + a.2.1 * u := by
    intro x hx
    by_cases h0 : x = 0
    · exact ⟨(0, 0, 0), by simp, 1, by omega, rfl, by simpa using h0⟩
    · by_cases h1 : x = 1
      · exact ⟨(1, 0, 0), by simp, 1, by omega, rfl, by simpa using h1⟩
      · by_cases h2 : x = -1
        · exact ⟨(-1, 0, 0), by simp, 1, by omega, rfl, by simpa using h2⟩
        · by_cases h3 : 0 < x
          · exact ⟨(1, 1, 0), by simp, x - 1, by omega, rfl, by simp; omega⟩
          · exact ⟨(-1, -1, 0), by simp, -x - 1, by omega, rfl, by simp; omega⟩
  obtain ⟨a, ha, u, hu, a0, e1⟩ := one hx
  obtain ⟨b, hb, v, hv, b0, e2⟩ := one hy
  refine ⟨(a, (b.1, 0, b.2.1)), ?_, u, v, hu, hv, by simp [a0]; omega, by simp; omega⟩
  unfold casesMul
  refine List.mem_flatMap.2 ⟨a, ha, List.mem_map.2 ⟨(b.1, 0, b.2.1), ?_, rfl⟩⟩
  simp only [List.mem_cons, List.not_mem_nil, or_false] at hb ⊢
  rcases hb with rfl | rfl | rfl | rfl | rfl <;> simp

def negC (c : Case) : Case := ((-c.1.1, -c.1.2.1, -c.1.2.2), (-c.2.1, -c.2.2.1, -c.2.2.2))

/-- One of two numbers is positive, or both are 0. -/
theorem casesAdd_pos {x y : Int} (hx : -16000 ≤ x ∧ x ≤ 16000) (hy : -16000 ≤ y ∧ y ≤ 16000) (h : 0 < x ∨ (x = 0 ∧ 0 ≤ y)) :
    ∃ c : Case, (c ∈ casesAdd ∧ negC c ∈ casesAdd) ∧ ∃ u v : Int, (1 ≤ u ∧ u ≤ 32768) ∧ (1 ≤ v ∧ v ≤ 32768) ∧ x = c.1.1 + c.1.2.1 * u + c.1.2.2 * v ∧ y = c.2.1 + c.2.2.1 * u + c.2.2.2 * v := by
  have go : ∀ (c : Case) (u v : Int), (c ∈ casesAdd ∧ negC c ∈ casesAdd) → (1 ≤ u ∧ u ≤ 32768) → (1 ≤ v ∧ v ≤ 32768) → (x = c.1.1 + c.1.2.1 * u + c.1.2.2 * v ∧ y = c.2.1 + c.2.2.1 * u + c.2.2.2 * v) →
      ∃ c : Case, (c ∈ casesAdd ∧ negC c ∈ casesAdd) ∧ ∃ u v : Int, (1 ≤ u ∧ u ≤ 32768) ∧ (1 ≤ v ∧ v ≤ 32768) ∧ x = c.1.1 + c.1.2.1 * u + c.1.2.2 * v ∧ y = c.2.1 + c.2.2.1 * u + c.2.2.2 * v :=
    fun c u v h1 h2 h3 h4 => ⟨c, h1, u, v, h2, h3, h4⟩
  by_cases x0 : x = 0
  · by_cases y0 : y = 0
    · exact go ((0, 0, 0), (0, 0, 0)) 1 1 (by decide) (by omega) (by omega) (by simp; omega)
    · by_cases y1 : y = 1
      · exact go ((0, 0, 0), (1, 0, 0)) 1 1 (by decide) (by omega) (by omega) (by simp; omega)
      · exact go ((0, 0, 0), (1, 0, 1)) 1 (y - 1) (by decide) (by omega) (by omega) (by simp; omega)
  · by_cases x1 : x = 1
    · by_cases y0 : y = 0
      · exact go ((1, 0, 0), (0, 0, 0)) 1 1 (by decide) (by omega) (by omega) (by simp; omega)
      · by_cases y1 : y = 1
        · exact go ((1, 0, 0), (1, 0, 0)) 1 1 (by decide) (by omega) (by omega) (by simp; omega)
        · by_cases y2 : y = -1
          · exact go ((1, 0, 0), (-1, 0, 0)) 1 1 (by decide) (by omega) (by omega) (by simp; omega)
          · by_cases y3 : 0 < y
            · exact go ((1, 0, 0), (1, 0, 1)) 1 (y - 1) (by decide) (by omega) (by omega) (by simp; omega)
            · by_cases y4 : y = -2
              · exact go ((1, 0, 0), (-2, 0, 0)) 1 1 (by decide) (by omega) (by omega) (by simp; omega)
              · exact go ((1, 0, 0), (-2, 0, -1)) 1 (-y - 2) (by decide) (by omega) (by omega) (by simp; omega)
    · by_cases y0 : y = 0
      · exact go ((1, 1, 0), (0, 0, 0)) (x - 1) 1 (by decide) (by omega) (by omega) (by simp; omega)
      · by_cases y1 : y = 1
        · exact go ((1, 1, 0), (1, 0, 0)) (x - 1) 1 (by decide) (by omega) (by omega) (by simp; omega)
        · by_cases y2 : 0 < y
          · exact go ((1, 1, 0), (1, 0, 1)) (x - 1) (y - 1) (by decide) (by omega) (by omega) (by simp; omega)
          · by_cases y3 : y = -1
            · by_cases x2 : x = 2
              · exact go ((2, 0, 0), (-1, 0, 0)) 1 1 (by decide) (by omega) (by omega) (by simp; omega)
              · exact go ((2, 1, 0), (-1, 0, 0)) (x - 2) 1 (by decide) (by omega) (by omega) (by simp; omega)
            · by_cases e : x = -y
              · exact go ((1, 1, 0), (-1, -1, 0)) (x - 1) 1 (by decide) (by omega) (by omega) (by simp; omega)
              · by_cases e1 : x = -y + 1
                · exact go ((2, 0, 1), (-1, 0, -1)) 1 (-y - 1) (by decide) (by omega) (by omega) (by simp; omega)
                · by_cases e2 : -y < x
                  · exact go ((2, 1, 1), (-1, 0, -1)) (x + y - 1) (-y - 1) (by decide) (by omega) (by omega) (by simp; omega)
                  · by_cases e3 : x + 1 = -y
                    · exact go ((1, 1, 0), (-2, -1, 0)) (x - 1) 1 (by decide) (by omega) (by omega) (by simp; omega)
                    · exact go ((1, 1, 0), (-2, -1, -1)) (x - 1) (-y - x - 1) (by decide) (by omega) (by omega) (by simp; omega)

theorem casesAdd_cover {x y : Int} (hx : -16000 ≤ x ∧ x ≤ 16000) (hy : -16000 ≤ y ∧ y ≤ 16000) : Covers casesAdd x y := by
  by_cases h : 0 < x ∨ (x = 0 ∧ 0 ≤ y)
  · obtain ⟨c, h1, u, v, h2, h3, h4, h5⟩ := casesAdd_pos hx hy h
    exact ⟨c, h1.1, u, v, h2, h3, h4, h5⟩
  · obtain ⟨c, h1, u, v, h2, h3, h4, h5⟩ := casesAdd_pos (x := -x) (y := -y) (by omega) (by omega) (by omega)
    refine ⟨negC c, h1.2, u, v, h2, h3, ?_, ?_⟩
    · simp only [negC, Int.neg_mul]; omega
    · simp only [negC, Int.neg_mul]; omega

/-- What runs at the cases say at all small numbers. -/
theorem at_whole {P : Program} {f : FuncId} {g : List DV → Option (DV × List (List DV))} (hg : FnOK P f g) {l : List Case} (o : Int → Int → Int) (op : Pl → Pl → Pl) (ho : ∀ r p q, Pl.eval r (op p q) = o (p.eval r) (q.eval r))
    (hs : l.all (fun c => signed (lin c.1.1 c.1.2.1 c.1.2.2) && signed (lin c.2.1 c.2.2.1 c.2.2.2) && signed (op (lin c.1.1 c.1.2.1 c.1.2.2) (lin c.2.1 c.2.2.1 c.2.2.2))) = true)
    (hr : ∀ c ∈ l, g [wholeX (lin c.1.1 c.1.2.1 c.1.2.2), wholeX (lin c.2.1 c.2.2.1 c.2.2.2)] = some (wholeX (op (lin c.1.1 c.1.2.1 c.1.2.2) (lin c.2.1 c.2.2.1 c.2.2.2)), []))
    {x y : Int} (hc : Covers l x y) : FnAt P f [whole x, whole y] (whole (o x y)) [] := by
  obtain ⟨c, hm, u, v, hu, hv, rfl, rfl⟩ := hc
  have s := List.all_eq_true.1 hs c hm
  simp only [Bool.and_eq_true] at s
  have ok := val2_ok hu hv
  have h := (hg.at (hr c hm)).inst (by simp [areDeep, wholeX_deep]) (wholeX_deep _) (val2 u v) ok
  simp only [instL] at h
  rw [inst_wholeX ok s.1.1, inst_wholeX ok s.1.2, inst_wholeX ok s.2, ho, eval_lin, eval_lin] at h
  exact h
end Go.Ev

/- Rules for the code of the abstract interpreter: no fuel, loops by a measure. -/
namespace Go.Ev

/-- The code ends so, with any fuel above a bound. -/
def Ends (K : Cfg) (cs : Sem) (c : C) (s : St) (e : Ex) (s' : St) : Prop := ∃ k0, ∀ k, k0 ≤ k → evC K cs k c s = some (e, s')

def W (K : Cfg) (cs : Sem) (c : C) (s : St) (Q : Ex → St → Prop) : Prop := ∃ e s', Ends K cs c s e s' ∧ Q e s'

section
variable {K : Cfg} {cs : Sem} {s : St} {Q : Ex → St → Prop}

theorem W.mono {c : C} {Q' : Ex → St → Prop} (h : W K cs c s Q) (m : ∀ e s', Q e s' → Q' e s') : W K cs c s Q' := by
  obtain ⟨e, s', h1, h2⟩ := h
  exact ⟨e, s', h1, m _ _ h2⟩

theorem W.skip (h : Q .nrm s) : W K cs .skip s Q := ⟨_, _, ⟨0, fun k _ => by simp [evC]⟩, h⟩

theorem W.exit {i : Nat} (h : Q (.exit i) s) : W K cs (.exit i) s Q := ⟨_, _, ⟨0, fun k _ => by simp [evC]⟩, h⟩

theorem W.ret (h : Q .ret s) : W K cs .ret s Q := ⟨_, _, ⟨0, fun k _ => by simp [evC]⟩, h⟩

theorem W.scope {c : C} (h : W K cs c s Q) : W K cs (.scope c) s Q := by
  obtain ⟨e, s', ⟨k0, h1⟩, h2⟩ := h
  exact ⟨e, s', ⟨k0, fun k hk => by simp only [evC]; exact h1 k hk⟩, h2⟩

theorem W.reg {ops : List Ins} {s' : St} (h : evL K cs s ops = some s') (q : Q .nrm s') : W K cs (.reg ops) s Q :=
  ⟨_, _, ⟨0, fun k _ => by simp [evC, h]⟩, q⟩

theorem W.nop (h : Q .nrm s) : W K cs (.reg []) s Q := W.reg rfl h

theorem W.ins {x : Ins} {r : List Ins} {d : Dl} (h : evIns K cs s x = some d) (q : W K cs (.reg r) (app s d) Q) : W K cs (.reg (x :: r)) s Q := by
  obtain ⟨e, s', ⟨k0, h1⟩, h2⟩ := q
  refine ⟨e, s', ⟨k0, fun k hk => ?_⟩, h2⟩
  have := h1 k hk
  simp only [evC] at this ⊢
  simp only [evL, h]
  exact this

theorem W.seq {a b : C} (h : W K cs a s fun e s1 => match e with
    | .nrm => W K cs b s1 Q
    | e => Q e s1) : W K cs (.seq a b) s Q := by
  obtain ⟨e, s1, ⟨k0, h1⟩, h2⟩ := h
  cases e with
  | nrm =>
    obtain ⟨e2, s2, ⟨k1, h3⟩, h4⟩ := h2
    refine ⟨e2, s2, ⟨max k0 k1, fun k hk => ?_⟩, h4⟩
    simp only [evC, h1 k (by omega)]
    exact h3 k (by omega)
  | exit i => exact ⟨_, s1, ⟨k0, fun k hk => by simp only [evC, h1 k hk]⟩, h2⟩
  | ret => exact ⟨_, s1, ⟨k0, fun k hk => by simp only [evC, h1 k hk]⟩, h2⟩

theorem W.cond {c : Opd} {a b : C} {v : Bool} (h : opv s c = some (.b v)) (ht : v = true → W K cs a s Q) (hf : v = false → W K cs b s Q) : W K cs (.cond c a b) s Q := by
  cases v with
  | true =>
    obtain ⟨e, s', ⟨k0, h1⟩, h2⟩ := ht rfl
    exact ⟨e, s', ⟨k0, fun k hk => by simp only [evC, h]; exact h1 k hk⟩, h2⟩
  | false =>
    obtain ⟨e, s', ⟨k0, h1⟩, h2⟩ := hf rfl
    exact ⟨e, s', ⟨k0, fun k hk => by simp only [evC, h]; exact h1 k hk⟩, h2⟩

theorem W.condp {c : Opd} {a b : C} {p : Prop} [Decidable p] (h : opv s c = some (.b (decide p))) (ht : p → W K cs a s Q) (hf : ¬ p → W K cs b s Q) : W K cs (.cond c a b) s Q :=
  W.cond h (fun e => ht (of_decide_eq_true e)) (fun e => hf (of_decide_eq_false e))

theorem W.block {id : Nat} {c : C} (h : W K cs c s fun e s1 => match e with
    | .exit j => if j = id then Q .nrm s1 else Q (.exit j) s1
    | e => Q e s1) : W K cs (.block id c) s Q := by
  obtain ⟨e, s1, ⟨k0, h1⟩, h2⟩ := h
  cases e with
  | nrm => exact ⟨_, s1, ⟨k0, fun k hk => by simp only [evC, h1 k hk]⟩, h2⟩
  | exit j =>
    by_cases hj : j = id
    · simp only [hj, if_true] at h2
      exact ⟨_, s1, ⟨k0, fun k hk => by simp only [evC, h1 k hk, hj, if_true]⟩, h2⟩
    · simp only [hj, if_false] at h2
      exact ⟨_, s1, ⟨k0, fun k hk => by simp only [evC, h1 k hk, hj, if_false]⟩, h2⟩
  | ret => exact ⟨_, s1, ⟨k0, fun k hk => by simp only [evC, h1 k hk]⟩, h2⟩

theorem loopN_ends {c : C} {Q : Ex → St → Prop} (I : Nat → St → Prop)
    (step : ∀ n s, I n s → W K cs c s fun e s1 => match e with
      | .nrm => ∃ m, m < n ∧ I m s1
      | e => Q e s1) : ∀ n s, I n s → ∃ e s', Q e s' ∧ ∃ k0, ∀ k j, k0 ≤ k → k0 ≤ j → loopN (fun s => evC K cs k c s) j s = some (e, s') := by
  intro n
  induction n using Nat.strongRecOn with
  | ind n ih =>
    intro s hI
    obtain ⟨e, s1, ⟨k0, h1⟩, h2⟩ := step n s hI
    cases e with
    | nrm =>
      obtain ⟨m, hm, hI'⟩ := h2
      obtain ⟨e2, s2, hq, k1, h3⟩ := ih m hm s1 hI'
      refine ⟨e2, s2, hq, max k0 k1 + 1, fun k j hk hj => ?_⟩
      cases j with
      | zero => omega
      | succ j =>
        simp only [loopN, h1 k (by omega)]
        exact h3 k j (by omega) (by omega)
    | exit i =>
      refine ⟨_, s1, h2, k0 + 1, fun k j hk hj => ?_⟩
      cases j with
      | zero => omega
      | succ j => simp only [loopN, h1 k (by omega)]
    | ret =>
      refine ⟨_, s1, h2, k0 + 1, fun k j hk hj => ?_⟩
      cases j with
      | zero => omega
      | succ j => simp only [loopN, h1 k (by omega)]

theorem W.loop {c : C} (I : Nat → St → Prop) (n : Nat) (h0 : I n s)
    (step : ∀ n s, I n s → W K cs c s fun e s1 => match e with
      | .nrm => ∃ m, m < n ∧ I m s1
      | e => Q e s1) : W K cs (.loop c) s Q := by
  obtain ⟨e, s', hq, k0, h⟩ := loopN_ends I step n s h0
  exact ⟨e, s', ⟨k0, fun k hk => by simp only [evC]; exact h k k hk hk⟩, hq⟩
end

/-- What a body gives at its end. -/
def fin (own : Bool) (fu : Fun) (args : List DV) (s : St) : Option (DV × List (List DV)) :=
  match resOf s own fu.np fu.res with
  | none => none
  | some (r, z, q) =>
    if q.Nodup ∧ (∀ x ∈ q, x ∉ z ∧ x ∉ s.z) then
      match lentOuts s z 0 args with
      | none => none
      | some o => some (r, o)
    else none

def Rets (K : Cfg) (cs : Sem) (own : Bool) (fu : Fun) (args : List DV) (r : DV) (outs : List (List DV)) : Prop := ∃ k, evBody K cs k own fu args = some (r, outs)

def st0 : St := ⟨.leaf, .leaf, []⟩

theorem Rets.of {K : Cfg} {cs : Sem} {own : Bool} {fu : Fun} {args : List DV} {r : DV} {outs : List (List DV)} (hn : args.length = fu.np)
    (h : W K cs fu.body (startL 0 args st0) fun e s => (match e with
      | .exit _ => False
      | _ => True) ∧ fin own fu args s = some (r, outs)) : Rets K cs own fu args r outs := by
  obtain ⟨e, s, ⟨k0, h1⟩, h2, h3⟩ := h
  refine ⟨k0, ?_⟩
  unfold evBody
  rw [if_neg (by simpa using hn)]
  have := h1 k0 (Nat.le_refl _)
  unfold st0 at this
  rw [this]
  unfold fin at h3
  cases e with
  | exit i => exact absurd h2 (by simp)
  | nrm => exact h3
  | ret => exact h3
end Go.Ev

/- Polynomials as lists of terms: sums, products by a term, and what determines them. No program in sight. -/
namespace Go.Pm

structure Mono where
  e0 : Int
  e1 : Int
  e2 : Int
  e3 : Int
  e4 : Int
  e5 : Int
  e6 : Int
  e7 : Int
  deriving DecidableEq

namespace Mono
def l (m : Mono) : List Int := [m.e0, m.e1, m.e2, m.e3, m.e4, m.e5, m.e6, m.e7]
def add (a b : Mono) : Mono := ⟨a.e0 + b.e0, a.e1 + b.e1, a.e2 + b.e2, a.e3 + b.e3, a.e4 + b.e4, a.e5 + b.e5, a.e6 + b.e6, a.e7 + b.e7⟩
def sub (a b : Mono) : Mono := ⟨a.e0 - b.e0, a.e1 - b.e1, a.e2 - b.e2, a.e3 - b.e3, a.e4 - b.e4, a.e5 - b.e5, a.e6 - b.e6, a.e7 - b.e7⟩
def zero : Mono := ⟨0, 0, 0, 0, 0, 0, 0, 0⟩

theorem ext_l {a b : Mono} (h : a.l = b.l) : a = b := by
  cases a; cases b
  simp only [l, List.cons.injEq, and_true] at h
  simp only [Mono.mk.injEq]
  exact h

theorem ext_iff_e {a b : Mono} : a = b ↔ a.e0 = b.e0 ∧ a.e1 = b.e1 ∧ a.e2 = b.e2 ∧ a.e3 = b.e3 ∧ a.e4 = b.e4 ∧ a.e5 = b.e5 ∧ a.e6 = b.e6 ∧ a.e7 = b.e7 := by
  cases a; cases b; simp

theorem add_eq_iff {a b k : Mono} : a.add b = k ↔ b = k.sub a := by
  simp only [ext_iff_e, add, sub]; omega

theorem add_comm (a b : Mono) : a.add b = b.add a := by
  simp only [ext_iff_e, add]; omega

theorem add_assoc (a b c : Mono) : (a.add b).add c = a.add (b.add c) := by
  simp only [ext_iff_e, add]; omega

theorem sub_sub_comm (k a b : Mono) : (k.sub a).sub b = (k.sub b).sub a := by
  simp only [ext_iff_e, sub]; omega

theorem sub_add (k a b : Mono) : k.sub (a.add b) = (k.sub a).sub b := by
  simp only [ext_iff_e, sub, add]; omega

theorem sub_zero (k : Mono) : k.sub zero = k := by
  simp only [ext_iff_e, sub, zero]; omega

theorem zero_add (k : Mono) : zero.add k = k := by
  simp only [ext_iff_e, add, zero]; omega

theorem add_zero (k : Mono) : k.add zero = k := by
  simp only [ext_iff_e, add, zero]; omega
end Mono

/-- Lists compared lexicographically. -/
def lexc : List Int → List Int → Int
  | a :: x, b :: y => if a < b then -1 else if b < a then 1 else lexc x y
  | [], [] => 0
  | [], _ :: _ => -1
  | _ :: _, [] => 1

theorem lexc_zero : ∀ {x y : List Int}, lexc x y = 0 ↔ x = y
  | [], [] => by simp [lexc]
  | [], _ :: _ => by simp [lexc]
  | _ :: _, [] => by simp [lexc]
  | a :: x, b :: y => by
    unfold lexc
    have ih := lexc_zero (x := x) (y := y)
    split
    · simp; omega
    · split
      · simp; omega
      · have : a = b := by omega
        simp [ih, this]

theorem lexc_neg : ∀ (x y : List Int), lexc y x = - lexc x y
  | [], [] => by simp [lexc]
  | [], _ :: _ => by simp [lexc]
  | _ :: _, [] => by simp [lexc]
  | a :: x, b :: y => by
    unfold lexc
    have ih := lexc_neg x y
    split <;> split <;> first | omega | (split <;> omega) | skip
    all_goals first | omega | exact ih

theorem lexc_range : ∀ (x y : List Int), lexc x y = -1 ∨ lexc x y = 0 ∨ lexc x y = 1
  | [], [] => by simp [lexc]
  | [], _ :: _ => by simp [lexc]
  | _ :: _, [] => by simp [lexc]
  | a :: x, b :: y => by
    unfold lexc
    have ih := lexc_range x y
    split
    · simp
    · split
      · simp
      · exact ih

theorem lexc_trans : ∀ {x y z : List Int}, 0 < lexc x y → 0 < lexc y z → 0 < lexc x z
  | [], [], z, h, _ => by simp [lexc] at h
  | [], _ :: _, z, h, _ => by simp [lexc] at h
  | _ :: _, [], [], _, h => by simp [lexc] at h
  | _ :: _, [], _ :: _, _, h => by simp [lexc] at h
  | _ :: _, _ :: _, [], _, _ => by simp [lexc]
  | a :: x, b :: y, c :: z, h1, h2 => by
    unfold lexc at h1 h2 ⊢
    have ih := lexc_trans (x := x) (y := y) (z := z)
    split at h1
    · omega
    · split at h2
      · omega
      · split at h1
        · split at h2
          · rw [if_neg (by omega), if_pos (by omega)]; omega
          · rw [if_neg (by omega), if_pos (by omega)]; omega
        · split at h2
          · rw [if_neg (by omega), if_pos (by omega)]; omega
          · rw [if_neg (by omega), if_neg (by omega)]; exact ih h1 h2

namespace Mono
def cmp (a b : Mono) : Int := lexc a.l b.l
theorem cmp_zero {a b : Mono} : cmp a b = 0 ↔ a = b := by
  unfold cmp; rw [lexc_zero]
  exact ⟨ext_l, fun h => by rw [h]⟩
theorem cmp_neg (a b : Mono) : cmp b a = - cmp a b := lexc_neg _ _
theorem cmp_trans {a b c : Mono} (h1 : 0 < cmp a b) (h2 : 0 < cmp b c) : 0 < cmp a c := lexc_trans h1 h2
theorem cmp_range (a b : Mono) : cmp a b = -1 ∨ cmp a b = 0 ∨ cmp a b = 1 := lexc_range _ _
theorem cmp_self (a : Mono) : cmp a a = 0 := cmp_zero.2 rfl
theorem cmp_add (k a b : Mono) : cmp (k.add a) (k.add b) = cmp a b := by
  unfold cmp l add
  simp only [lexc, Int.add_lt_add_iff_left]
end Mono

structure Tm where
  c : Rat
  m : Mono
  deriving DecidableEq

abbrev Poly := List Tm

def coef : Poly → Mono → Rat
  | [], _ => 0
  | t :: p, k => (if t.m = k then t.c else 0) + coef p k

/-- All monomials are less. -/
def Below (k : Mono) (p : Poly) : Prop := ∀ t ∈ p, 0 < Mono.cmp k t.m

def Canon : Poly → Prop
  | [] => True
  | t :: p => t.c ≠ 0 ∧ Below t.m p ∧ Canon p

theorem Below.nil (k : Mono) : Below k [] := by simp [Below]
theorem Below.cons {k : Mono} {t : Tm} {p : Poly} : Below k (t :: p) ↔ 0 < Mono.cmp k t.m ∧ Below k p := by simp [Below]
theorem Below.trans {j k : Mono} {p : Poly} (h : 0 < Mono.cmp j k) (b : Below k p) : Below j p := fun t ht => Mono.cmp_trans h (b t ht)

theorem coef_below {k : Mono} : ∀ {p : Poly}, Below k p → coef p k = 0
  | [], _ => rfl
  | t :: p, h => by
    rw [Below.cons] at h
    simp only [coef]
    rw [coef_below h.2, if_neg]
    · grind
    · intro e; rw [e, Mono.cmp_self] at h; omega

theorem Canon.tail {t : Tm} {p : Poly} (h : Canon (t :: p)) : Canon p := h.2.2

theorem Canon.ext : ∀ {p q : Poly}, Canon p → Canon q → (∀ k, coef p k = coef q k) → p = q
  | [], [], _, _, _ => rfl
  | [], t :: q, _, hq, h => by
    have := h t.m
    simp only [coef, if_true] at this
    rw [coef_below hq.2.1] at this
    exact absurd (by grind) hq.1
  | t :: p, [], hp, _, h => by
    have := h t.m
    simp only [coef, if_true] at this
    rw [coef_below hp.2.1] at this
    exact absurd (by grind) hp.1
  | s :: p, t :: q, hp, hq, h => by
    have key : s.m = t.m := by
      rcases Mono.cmp_range s.m t.m with c | c | c
      · have h1 := h t.m
        have c' : 0 < Mono.cmp t.m s.m := by rw [Mono.cmp_neg]; omega
        simp only [coef, if_true] at h1
        rw [coef_below hq.2.1, coef_below (hp.2.1.trans c'), if_neg] at h1
        · exact absurd (by grind) hq.1
        · intro e; rw [e, Mono.cmp_self] at c; omega
      · exact Mono.cmp_zero.1 c
      · have h1 := h s.m
        have c' : 0 < Mono.cmp s.m t.m := by omega
        simp only [coef, if_true] at h1
        rw [coef_below hp.2.1, coef_below (hq.2.1.trans c'), if_neg] at h1
        · exact absurd (by grind) hp.1
        · intro e; rw [e, Mono.cmp_self] at c; omega
    have hc : s.c = t.c := by
      have h1 := h s.m
      simp only [coef, if_true] at h1
      rw [coef_below hp.2.1, ← key, if_pos rfl, coef_below (key ▸ hq.2.1)] at h1
      grind
    have hst : s = t := by cases s; cases t; simp_all
    subst hst
    congr 1
    refine Canon.ext hp.2.2 hq.2.2 fun k => ?_
    have h1 := h k
    simp only [coef] at h1
    grind

theorem Canon.eq_nil {p : Poly} (h : Canon p) : p = [] ↔ ∀ k, coef p k = 0 :=
  ⟨fun e => by subst e; simp [coef], fun e => Canon.ext h (q := []) trivial fun k => by rw [e k]; rfl⟩

/-! ### Sums -/

def padd : Poly → Poly → Poly
  | [], q => q
  | p, [] => p
  | s :: p, t :: q =>
    if 0 < Mono.cmp s.m t.m then s :: padd p (t :: q)
    else if Mono.cmp s.m t.m < 0 then t :: padd (s :: p) q
    else if s.c + t.c = 0 then padd p q else ⟨s.c + t.c, s.m⟩ :: padd p q
termination_by p q => p.length + q.length

theorem padd_gt {s t : Tm} {p q : Poly} (h : 0 < Mono.cmp s.m t.m) : padd (s :: p) (t :: q) = s :: padd p (t :: q) := by rw [padd, if_pos h]
theorem padd_lt {s t : Tm} {p q : Poly} (h : Mono.cmp s.m t.m < 0) : padd (s :: p) (t :: q) = t :: padd (s :: p) q := by rw [padd, if_neg (by omega), if_pos h]
theorem padd_eq {s t : Tm} {p q : Poly} (h : Mono.cmp s.m t.m = 0) : padd (s :: p) (t :: q) = if s.c + t.c = 0 then padd p q else ⟨s.c + t.c, s.m⟩ :: padd p q := by rw [padd, if_neg (by omega), if_neg (by omega)]
theorem padd_nil (q : Poly) : padd [] q = q := by rw [padd]

theorem padd_nil_right (p : Poly) : padd p [] = p := by cases p <;> simp [padd]

theorem coef_padd (k : Mono) : ∀ (p q : Poly), coef (padd p q) k = coef p k + coef q k
  | [], q => by simp only [padd, coef]; grind
  | s :: p, [] => by simp only [padd, coef]; grind
  | s :: p, t :: q => by
    unfold padd
    split
    · simp only [coef]; rw [coef_padd k p (t :: q)]; simp only [coef]; grind
    · split
      · simp only [coef]; rw [coef_padd k (s :: p) q]; simp only [coef]; grind
      · have e : s.m = t.m := Mono.cmp_zero.1 (by have := Mono.cmp_range s.m t.m; omega)
        split
        · rw [coef_padd k p q]; simp only [coef, e]; split <;> grind
        · simp only [coef, e]; rw [coef_padd k p q]; split <;> grind
termination_by p q => p.length + q.length

theorem mem_padd {t : Tm} : ∀ {p q : Poly}, t ∈ padd p q → (∃ u ∈ p, u.m = t.m) ∨ ∃ u ∈ q, u.m = t.m
  | [], q, h => by simp only [padd] at h; exact .inr ⟨t, h, rfl⟩
  | s :: p, [], h => by simp only [padd] at h; exact .inl ⟨t, h, rfl⟩
  | s :: p, u :: q, h => by
    unfold padd at h
    split at h
    · rcases List.mem_cons.1 h with h | h
      · exact .inl ⟨s, List.mem_cons_self .., by rw [h]⟩
      · rcases mem_padd h with ⟨v, hv, e⟩ | h
        · exact .inl ⟨v, List.mem_cons_of_mem _ hv, e⟩
        · exact .inr h
    · split at h
      · rcases List.mem_cons.1 h with h | h
        · exact .inr ⟨u, List.mem_cons_self .., by rw [h]⟩
        · rcases mem_padd h with h | ⟨v, hv, e⟩
          · exact .inl h
          · exact .inr ⟨v, List.mem_cons_of_mem _ hv, e⟩
      · split at h
        · rcases mem_padd h with ⟨v, hv, e⟩ | ⟨v, hv, e⟩
          · exact .inl ⟨v, List.mem_cons_of_mem _ hv, e⟩
          · exact .inr ⟨v, List.mem_cons_of_mem _ hv, e⟩
        · rcases List.mem_cons.1 h with h | h
          · exact .inl ⟨s, List.mem_cons_self .., by rw [h]⟩
          · rcases mem_padd h with ⟨v, hv, e⟩ | ⟨v, hv, e⟩
            · exact .inl ⟨v, List.mem_cons_of_mem _ hv, e⟩
            · exact .inr ⟨v, List.mem_cons_of_mem _ hv, e⟩
termination_by p q => p.length + q.length

theorem Below.padd {k : Mono} {p q : Poly} (hp : Below k p) (hq : Below k q) : Below k (padd p q) := by
  intro t ht
  rcases mem_padd ht with ⟨u, hu, e⟩ | ⟨u, hu, e⟩
  · rw [← e]; exact hp u hu
  · rw [← e]; exact hq u hu

theorem Canon.padd : ∀ {p q : Poly}, Canon p → Canon q → Canon (padd p q)
  | [], q, _, hq => by simpa only [Pm.padd] using hq
  | s :: p, [], hp, _ => by simpa only [Pm.padd] using hp
  | s :: p, t :: q, hp, hq => by
    unfold Pm.padd
    split
    · rename_i c
      exact ⟨hp.1, Below.padd hp.2.1 (Below.cons.2 ⟨c, hq.2.1.trans c⟩), Canon.padd hp.2.2 hq⟩
    · split
      · rename_i c
        have c' : 0 < Mono.cmp t.m s.m := by rw [Mono.cmp_neg]; omega
        exact ⟨hq.1, Below.padd (Below.cons.2 ⟨c', hp.2.1.trans c'⟩) hq.2.1, Canon.padd hp hq.2.2⟩
      · have e : s.m = t.m := Mono.cmp_zero.1 (by have := Mono.cmp_range s.m t.m; omega)
        split
        · exact Canon.padd hp.2.2 hq.2.2
        · rename_i c
          exact ⟨c, Below.padd hp.2.1 (e ▸ hq.2.1), Canon.padd hp.2.2 hq.2.2⟩
termination_by p q => p.length + q.length

/-! ### A term times a polynomial -/

def ptimes (c : Rat) (m : Mono) (p : Poly) : Poly := p.map fun t => ⟨c * t.c, m.add t.m⟩

theorem coef_ptimes (c : Rat) (m : Mono) (k : Mono) : ∀ p, coef (ptimes c m p) k = c * coef p (k.sub m)
  | [] => by simp only [ptimes, List.map_nil, coef]; grind
  | t :: p => by
    have ih := coef_ptimes c m k p
    unfold ptimes at ih ⊢
    simp only [List.map_cons, coef, ih, Mono.add_eq_iff]
    split <;> grind

theorem Below.ptimes {c : Rat} {m k : Mono} {p : Poly} (h : Below k p) : Below (m.add k) (ptimes c m p) := by
  intro t ht
  simp only [Pm.ptimes, List.mem_map] at ht
  obtain ⟨u, hu, rfl⟩ := ht
  rw [Mono.cmp_add]; exact h u hu

theorem Canon.ptimes {c : Rat} (hc : c ≠ 0) (m : Mono) : ∀ {p : Poly}, Canon p → Canon (ptimes c m p)
  | [], _ => trivial
  | t :: p, h => ⟨by intro e; have := h.1; exact (Rat.mul_eq_zero.1 e).elim hc this, Below.ptimes h.2.1, Canon.ptimes hc m h.2.2⟩

/-! ### Products -/

def pmul : Poly → Poly → Poly → Poly
  | out, [], _ => out
  | out, t :: p, q => pmul (padd out (ptimes t.c t.m q)) p q

/-- The product with a function of monomials. -/
def conv (p : Poly) (f : Mono → Rat) (k : Mono) : Rat :=
  match p with
  | [] => 0
  | t :: p => t.c * f (k.sub t.m) + conv p f k

theorem coef_pmul (q : Poly) (k : Mono) : ∀ (p out : Poly), coef (pmul out p q) k = coef out k + conv p (coef q) k
  | [], out => by simp only [pmul, conv]; grind
  | t :: p, out => by
    simp only [pmul, conv]
    rw [coef_pmul q k p, coef_padd, coef_ptimes]; grind

theorem Canon.pmul {q : Poly} (hq : Canon q) : ∀ {p out : Poly}, Canon p → Canon out → Canon (pmul out p q)
  | [], _, _, h => h
  | t :: p, out, hp, h => show Canon (Pm.pmul (Pm.padd out (Pm.ptimes t.c t.m q)) p q) from Canon.pmul hq hp.2.2 (Canon.padd h (Canon.ptimes hp.1 _ hq))

/-! ### The algebra of functions of monomials -/

abbrev Fn := Mono → Rat
def fadd (f g : Fn) : Fn := fun k => f k + g k
def fneg (f : Fn) : Fn := fun k => - f k

theorem conv_fadd (p : Poly) (f g : Fn) (k : Mono) : conv p (fadd f g) k = conv p f k + conv p g k := by
  induction p with
  | nil => simp only [conv]; grind
  | cons t p ih => simp only [conv, ih, fadd]; grind

theorem conv_fneg (p : Poly) (f : Fn) (k : Mono) : conv p (fneg f) k = - conv p f k := by
  induction p with
  | nil => simp only [conv]; grind
  | cons t p ih => simp only [conv, ih, fneg]; grind

theorem conv_congr (p : Poly) {f g : Fn} (h : ∀ k, f k = g k) (k : Mono) : conv p f k = conv p g k := by
  induction p with
  | nil => rfl
  | cons t p ih => simp only [conv, ih, h]

/-- The term in front of a function. -/
theorem conv_shift (p : Poly) (c : Rat) (m : Mono) (f : Fn) (k : Mono) : conv p (fun j => c * f (j.sub m)) k = c * conv p f (k.sub m) := by
  induction p with
  | nil => simp only [conv]; grind
  | cons t p ih => simp only [conv, ih]; rw [Mono.sub_sub_comm]; grind

theorem conv_zero (p : Poly) (k : Mono) : conv p (fun _ => 0) k = 0 := by
  induction p with
  | nil => rfl
  | cons t p ih => simp only [conv, ih]; grind

theorem conv_comm : ∀ (p q : Poly) (k : Mono), conv p (coef q) k = conv q (coef p) k
  | [], q, k => by
    have := conv_zero q k
    simp only [conv]
    rw [← this]
    exact conv_congr q (fun j => rfl) k
  | t :: p, q, k => by
    have e : ∀ j, coef (t :: p) j = fadd (fun j => (if t.m = j then t.c else 0)) (coef p) j := fun j => rfl
    rw [conv_congr q e k, conv_fadd]
    simp only [conv]
    rw [conv_comm p q k]
    congr 1
    clear e
    induction q with
    | nil => simp only [conv, coef]; grind
    | cons u q ih =>
      simp only [conv, coef]
      have : (t.m = k.sub u.m) ↔ (u.m = k.sub t.m) := by rw [← Mono.add_eq_iff, ← Mono.add_eq_iff, Mono.add_comm]
      rw [← ih]
      by_cases h : t.m = k.sub u.m
      · rw [if_pos h, if_pos (this.1 h)]; grind
      · rw [if_neg h, if_neg (fun g => h (this.2 g))]; grind

/-- Two products one after the other may be exchanged. -/
theorem conv_swap (p q : Poly) (f : Fn) (k : Mono) : conv p (conv q f) k = conv q (conv p f) k := by
  induction p with
  | nil => exact (conv_zero q k).symm
  | cons t p ih =>
    show t.c * conv q f (k.sub t.m) + conv p (conv q f) k = conv q (conv (t :: p) f) k
    rw [ih]
    have e : ∀ j, conv (t :: p) f j = fadd (fun j => t.c * f (j.sub t.m)) (conv p f) j := fun j => rfl
    rw [conv_congr q e k, conv_fadd, conv_shift]

/-- Only the coefficients matter. -/
theorem conv_ext {p q : Poly} (h : ∀ k, coef p k = coef q k) (r : Poly) (k : Mono) : conv p (coef r) k = conv q (coef r) k := by
  rw [conv_comm, conv_comm q]
  exact conv_congr r h k
end Go.Pm

/- Polynomials as deep values. -/
namespace Go.Ev
open Go.Pm

/-- The words of a number, the least significant one first. -/
def wd (n : Nat) : List Nat := if h : n = 0 then [] else n % 4294967296 :: wd (n / 4294967296)
termination_by n
decreasing_by omega

theorem wd_zero : wd 0 = [] := by unfold wd; simp
theorem wd_small {n : Nat} (h0 : n ≠ 0) (h : n < 4294967296) : wd n = [n] := by
  unfold wd
  rw [dif_neg h0, Nat.mod_eq_of_lt h, Nat.div_eq_of_lt h, wd_zero]

def dNat (n : Nat) : DV := .sl (wd n).length ((wd n).map fun w : Nat => DV.i .u32 (w : Int))
def rcells (q : Rat) : List DV := [.b (decide (q.num < 0)), dNat q.num.natAbs, .b false, dNat q.den]
abbrev dRat (q : Rat) : DV := .agg (rcells q)
def mcells (m : Mono) : List DV := m.l.map (DV.i .i64 ·)
abbrev dMono (m : Mono) : DV := .agg (mcells m)
def tcells (t : Tm) : List DV := rcells t.c ++ mcells t.m
abbrev dTm (t : Tm) : DV := .agg (tcells t)
def pcells (p : Poly) : List DV := p.flatMap tcells
abbrev dPoly (p : Poly) : DV := .sl p.length (pcells p)
abbrev dPolys (l : List Poly) : DV := .sl l.length (l.map dPoly)

theorem areDeep_ints (k : IntKind) : ∀ l : List Int, areDeep (l.map (DV.i k ·)) = true
  | [] => rfl
  | n :: l => by simp only [List.map_cons, areDeep, isDeep, Bool.true_and]; exact areDeep_ints k l

theorem areDeep_words : ∀ l : List Nat, areDeep (l.map fun w : Nat => DV.i .u32 (w : Int)) = true
  | [] => rfl
  | n :: l => by simp only [List.map_cons, areDeep, isDeep, Bool.true_and]; exact areDeep_words l

theorem dNat_deep (n : Nat) : isDeep (dNat n) = true := by simp only [dNat, isDeep]; exact areDeep_words _
theorem rcells_deep (q : Rat) : areDeep (rcells q) = true := by simp [rcells, areDeep, isDeep, dNat_deep]
theorem dRat_deep (q : Rat) : isDeep (dRat q) = true := by simp only [dRat, isDeep]; exact rcells_deep q
theorem mcells_deep (m : Mono) : areDeep (mcells m) = true := areDeep_ints _ _
theorem dMono_deep (m : Mono) : isDeep (dMono m) = true := by simp only [dMono, isDeep]; exact mcells_deep m
theorem tcells_deep (t : Tm) : areDeep (tcells t) = true := areDeep_append (rcells_deep _) (mcells_deep _)
theorem pcells_deep : ∀ p, areDeep (pcells p) = true
  | [] => rfl
  | t :: p => areDeep_append (tcells_deep t) (pcells_deep p)
theorem dPoly_deep (p : Poly) : isDeep (dPoly p) = true := by simp only [dPoly, isDeep]; exact pcells_deep p
theorem areDeep_polys : ∀ l : List Poly, areDeep (l.map dPoly) = true
  | [] => rfl
  | p :: l => by simp only [List.map_cons, areDeep, dPoly_deep, Bool.true_and]; exact areDeep_polys l
theorem dPolys_deep (l : List Poly) : isDeep (dPolys l) = true := by simp only [dPolys, isDeep]; exact areDeep_polys l

theorem rcells_length (q : Rat) : (rcells q).length = 4 := (rfl)
theorem mcells_length (m : Mono) : (mcells m).length = 8 := (rfl)
theorem tcells_length (t : Tm) : (tcells t).length = 12 := (rfl)
theorem pcells_nil : pcells [] = [] := (rfl)
theorem pcells_cons (t : Tm) (p : Poly) : pcells (t :: p) = tcells t ++ pcells p := (rfl)
theorem pcells_append (p q : Poly) : pcells (p ++ q) = pcells p ++ pcells q := List.flatMap_append
theorem pcells_length : ∀ p, (pcells p).length = p.length * 12
  | [] => rfl
  | t :: p => by rw [pcells_cons, List.length_append, tcells_length, pcells_length p, List.length_cons]; omega
theorem pcells_drop : ∀ (p : Poly) (i : Nat), (pcells p).drop (i * 12) = pcells (p.drop i)
  | p, 0 => by simp
  | [], i + 1 => by simp [pcells_nil]
  | t :: p, i + 1 => by
    rw [pcells_cons, List.drop_succ_cons, ← pcells_drop p i, show (i + 1) * 12 = 12 + i * 12 by omega, ← List.drop_drop]
    congr 1
theorem pcells_take : ∀ (p : Poly) (i : Nat), (pcells p).take (i * 12) = pcells (p.take i)
  | p, 0 => by simp [pcells_nil]
  | [], i + 1 => by simp [pcells_nil]
  | t :: p, i + 1 => by
    rw [pcells_cons, List.take_succ_cons, pcells_cons, ← pcells_take p i, show (i + 1) * 12 = 12 + i * 12 by omega, List.take_add]
    congr 1
theorem pcells_all_cell (p : Poly) : (pcells p).all isCell = true := by
  induction p with
  | nil => rfl
  | cons t p ih => rw [pcells_cons, List.all_append, ih]; rfl

/-! Parts of a row that begins with a term. -/

theorem part_tm (t : Tm) (r : List DV) : part (tcells t ++ r) 0 12 true = some (dTm t) := by
  simp [part, tcells, rcells, mcells, Mono.l, dTm]
theorem part_tm_c (t : Tm) (r : List DV) : part (tcells t ++ r) 0 4 true = some (dRat t.c) := by
  simp [part, tcells, rcells, dRat]
theorem part_tm_m (t : Tm) (r : List DV) : part ((tcells t ++ r).drop 4) 0 8 true = some (dMono t.m) := by
  simp [part, tcells, rcells, dMono, mcells, Mono.l]
end Go.Ev

/- Contracts as functions of deep values. -/
namespace Go.Ev
open Go.Pm

def ofWd : List Nat → Nat
  | [] => 0
  | w :: r => w + 4294967296 * ofWd r

theorem ofWd_wd (n : Nat) : ofWd (wd n) = n := by
  induction n using Nat.strongRecOn with
  | ind n ih =>
    unfold wd
    split
    · rename_i h; subst h; rfl
    · simp only [ofWd]
      rw [ih _ (by omega)]
      omega

theorem map_inj {α β : Type} {f : α → β} (hf : ∀ a b, f a = f b → a = b) : ∀ {x y : List α}, x.map f = y.map f → x = y
  | [], [], _ => rfl
  | [], _ :: _, h => by simp at h
  | _ :: _, [], h => by simp at h
  | a :: x, b :: y, h => by
    simp only [List.map_cons, List.cons.injEq] at h
    rw [hf _ _ h.1, map_inj hf h.2]

theorem dNat_inj {n m : Nat} (h : dNat n = dNat m) : n = m := by
  simp only [dNat, DV.sl.injEq] at h
  have := map_inj (f := fun w : Nat => DV.i .u32 (w : Int)) (fun a b e => by simp only [DV.i.injEq, true_and] at e; omega) h.2
  rw [← ofWd_wd n, this, ofWd_wd]

theorem rcells_inj {p q : Rat} (h : rcells p = rcells q) : p = q := by
  simp only [rcells, List.cons.injEq, DV.b.injEq, decide_eq_decide, and_true, true_and] at h
  obtain ⟨h1, h2, h3⟩ := h
  have h2 := dNat_inj h2
  have h3 := dNat_inj h3
  refine Rat.ext ?_ h3
  by_cases c : p.num < 0
  · have c' := h1.1 c; omega
  · have c' : ¬ q.num < 0 := fun x => c (h1.2 x); omega

theorem dRat_inj {p q : Rat} (h : dRat p = dRat q) : p = q := rcells_inj (by simpa only [dRat, DV.agg.injEq] using h)

theorem mcells_inj {a b : Mono} (h : mcells a = mcells b) : a = b :=
  Mono.ext_l (map_inj (f := (DV.i .i64 ·)) (fun x y e => by simpa only [DV.i.injEq, true_and] using e) h)

theorem dMono_inj {a b : Mono} (h : dMono a = dMono b) : a = b := mcells_inj (by simpa only [dMono, DV.agg.injEq] using h)

theorem tcells_inj {s t : Tm} (h : tcells s = tcells t) : s = t := by
  have := List.append_inj h rfl
  have h1 := rcells_inj this.1
  have h2 := mcells_inj this.2
  cases s; cases t; simp_all

theorem pcells_inj : ∀ {p q : Poly}, pcells p = pcells q → p = q
  | [], [], _ => rfl
  | [], t :: q, h => by rw [pcells_cons] at h; simp [pcells_nil, tcells, rcells] at h
  | t :: p, [], h => by rw [pcells_cons] at h; simp [pcells_nil, tcells, rcells] at h
  | s :: p, t :: q, h => by
    rw [pcells_cons, pcells_cons] at h
    have := List.append_inj h rfl
    rw [tcells_inj this.1, pcells_inj this.2]

theorem dPoly_inj {p q : Poly} (h : dPoly p = dPoly q) : p = q := pcells_inj (by simp only [dPoly, DV.sl.injEq] at h; exact h.2)

theorem dPolys_inj {l m : List Poly} (h : dPolys l = dPolys m) : l = m := map_inj (fun _ _ => dPoly_inj) (by simp only [dPolys, DV.sl.injEq] at h; exact h.2)

open Classical in
/-- What is known at the arguments of a family. -/
noncomputable def spec {α : Type} (enc : α → List DV) (cond : α → Prop) (out : α → DV × List (List DV)) (ds : List DV) : Option (DV × List (List DV)) :=
  if h : ∃ a, cond a ∧ enc a = ds then some (out h.choose) else none

theorem spec_eq {α : Type} {enc : α → List DV} {cond : α → Prop} {out : α → DV × List (List DV)} (inj : ∀ a b, enc a = enc b → a = b) {a : α} (h : cond a) : spec enc cond out (enc a) = some (out a) := by
  have hx : ∃ b, cond b ∧ enc b = enc a := ⟨a, h, rfl⟩
  unfold spec
  rw [dif_pos hx, inj _ _ hx.choose_spec.2]

theorem spec_ok {α : Type} {enc : α → List DV} {cond : α → Prop} {out : α → DV × List (List DV)} {P : Program} {f : FuncId} (h : ∀ a, cond a → FnAt P f (enc a) (out a).1 (out a).2) : FnOK P f (spec enc cond out) := by
  intro ds r outs e
  unfold spec at e
  split at e
  · rename_i hx
    have g := h _ hx.choose_spec.1
    rw [hx.choose_spec.2] at g
    simp only [Option.some.injEq] at e
    rw [e] at g
    exact g
  · cases e

/-- The functions that are known. -/
def sem : List (Nat × (List DV → Option (DV × List (List DV)))) → Sem
  | [] => fun _ _ => none
  | (n, g) :: r => fun f ds => if f = n then g ds else sem r f ds

theorem sem_ok {P : Program} : ∀ {l : List (Nat × (List DV → Option (DV × List (List DV))))}, (∀ x ∈ l, FnOK P x.1 x.2) → SemOK P (sem l)
  | [], _ => fun f ds r outs h => by cases h
  | (n, g) :: l, h => fun f ds r outs e => by
    simp only [sem] at e
    split at e
    · rename_i hf; subst hf; exact h (_, g) (List.mem_cons_self ..) ds r outs e
    · exact sem_ok (fun x hx => h x (List.mem_cons_of_mem _ hx)) f ds r outs e

/-- A function of the program whose body is known to give this. -/
theorem FnAt.of {P : Program} (hm : P.follows .mixedOrders = true) {K : Cfg} {cs : Sem} (hcs : SemOK P cs) {f : FuncId} {fn : Func} {fu : Fun} (h1 : P.funcs[f]? = some fn) (h2 : fn.name ≠ "runtime.NumGoroutine") (h3 : toFun P K fn = some fu)
    {ds : List DV} {r : DV} {outs : List (List DV)} (h : Rets K cs (K.fc f).own fu ds r outs) : FnAt P f ds r outs := by
  obtain ⟨k, hk⟩ := h
  exact body_ok hm hcs k _ h1 h2 h3 ds r outs hk
end Go.Ev

/- Rewriting rules that run the code of the abstract interpreter on values of which only the shape is known. -/
namespace Go.Ev

/-- The value of a slot. -/
def gt (s : St) (n : Nat) : Option DV := s.v.get n
def put (s : St) (d : Nat) (x : DV) : St := ⟨Tr.setF 24 s.v d x, s.o, s.z⟩
def obj (s : St) (h : Nat) (l : List Ob) : St := ⟨s.v, Tr.setF 24 s.o h l, s.z⟩
def frz (s : St) (z : List (Nat × Nat)) : St := ⟨s.v, s.o, z ++ s.z⟩

section
variable {s : St}

theorem gt_put {d n : Nat} {x : DV} (h : d < 16000000) : gt (put s d x) n = if n = d then some x else gt s n := by
  unfold gt put
  exact Tr.get_setF 24 s.v d x n (by omega)
theorem gt_obj {h n : Nat} {l : List Ob} : gt (obj s h l) n = gt s n := (rfl)
theorem gt_frz {n : Nat} {z : List (Nat × Nat)} : gt (frz s z) n = gt s n := (rfl)
theorem lst_put {d h : Nat} {x : DV} : lst (put s d x) h = lst s h := (rfl)
theorem lst_obj {h' h : Nat} {l : List Ob} (c : h < 16000000) : lst (obj s h l) h' = if h' = h then l else lst s h' := by
  unfold lst obj
  simp only
  rw [Tr.get_setF 24 s.o h l h' (by omega)]
  split <;> rfl
theorem lst_frz {h : Nat} {z : List (Nat × Nat)} : lst (frz s z) h = lst s h := (rfl)
theorem z_put {d : Nat} {x : DV} : (put s d x).z = s.z := (rfl)
theorem z_obj {h : Nat} {l : List Ob} : (obj s h l).z = s.z := (rfl)
theorem z_frz {z : List (Nat × Nat)} : (frz s z).z = z ++ s.z := (rfl)
theorem frz_nil : frz s [] = s := (rfl)

theorem opv_t {n : Nat} : opv s (.t n) = gt s n := (rfl)
theorem opv_c {d : DV} : opv s (.c d) = some d := (rfl)

def objs (s : St) : List (Nat × List Ob) → St
  | [] => s
  | (h, l) :: r => objs (obj s h l) r
theorem objs_nil : objs s [] = s := (rfl)
theorem objs_cons {h : Nat} {l : List Ob} {r : List (Nat × List Ob)} : objs s ((h, l) :: r) = objs (obj s h l) r := (rfl)

theorem setO_objs : ∀ (o : List (Nat × List Ob)) (s : St), (objs s o).o = setO s.o o ∧ (objs s o).v = s.v ∧ (objs s o).z = s.z
  | [], s => ⟨rfl, rfl, rfl⟩
  | (h, l) :: r, s => by
    have := setO_objs r (obj s h l)
    exact ⟨by simp only [objs, setO, this.1]; rfl, by simp only [objs, this.2.1]; rfl, by simp only [objs, this.2.2]; rfl⟩

theorem app_some {d : Nat} {x : DV} {o : List (Nat × List Ob)} {z : List (Nat × Nat)} : app s ⟨some (d, x), o, z⟩ = frz (objs (put s d x) o) z := by
  have h := setO_objs o (put s d x)
  unfold frz app
  rw [h.1, h.2.1, h.2.2]
  rfl
theorem app_none {o : List (Nat × List Ob)} {z : List (Nat × Nat)} : app s ⟨none, o, z⟩ = frz (objs s o) z := by
  have h := setO_objs o s
  unfold frz app
  rw [h.1, h.2.1, h.2.2]
theorem app_val {d : Nat} {x : DV} : app s (val d x) = put s d x := (rfl)

theorem nth_top {ob : Ob} {l : List Ob} : nth (ob :: l) l.length = if ob.k = 3 then none else some ob := by
  unfold nth
  simp
theorem setAt_top {ob ob' : Ob} {l : List Ob} : setAt (ob :: l) l.length ob' = ob' :: l := by
  unfold setAt
  simp
theorem look_lst {h e : Nat} : look s h e = nth (lst s h) e := (rfl)
theorem cnt_lst {h : Nat} : cnt s h = (lst s h).length := (rfl)
end

/-! ### Instructions -/

/-- The instructions lead to a state of which Q holds. -/
def WL (K : Cfg) (cs : Sem) (ops : List Ins) (s : St) (Q : St → Prop) : Prop :=
  match evL K cs s ops with
  | some s' => Q s'
  | none => False

/-- One change, and then the rest. -/
def WD (K : Cfg) (cs : Sem) (d : Option Dl) (r : List Ins) (s : St) (Q : St → Prop) : Prop :=
  match d with
  | some d => WL K cs r (app s d) Q
  | none => False

section
variable {K : Cfg} {cs : Sem} {s : St} {Q : St → Prop} {r : List Ins}

theorem WL_nil : WL K cs [] s Q = Q s := (rfl)
theorem WL_cons {x : Ins} : WL K cs (x :: r) s Q = WD K cs (evIns K cs s x) r s Q := by
  unfold WL WD
  simp only [evL]
  cases evIns K cs s x <;> rfl
theorem WL_u {i : I} : WL K cs (⟨none, i⟩ :: r) s Q = WD K cs (evI K cs s i) r s Q := WL_cons
theorem WL_g {t d : Nat} {w : Bool} {i : I} : WL K cs (⟨some (t, w, d), i⟩ :: r) s Q = WD K cs (match gt s t with
    | some (.b v) => if v = w then evI K cs s i else some (val d (.tup []))
    | some (.tup []) => some (val d (.tup []))
    | _ => none) r s Q := WL_cons

theorem WD_val {d : Nat} {x : DV} : WD K cs (some (val d x)) r s Q = WL K cs r (put s d x) Q := (rfl)
theorem WD_some {d : Nat} {x : DV} {o : List (Nat × List Ob)} {z : List (Nat × Nat)} : WD K cs (some ⟨some (d, x), o, z⟩) r s Q = WL K cs r (frz (objs (put s d x) o) z) Q := by
  unfold WD; simp only [app_some]
theorem WD_none {o : List (Nat × List Ob)} {z : List (Nat × Nat)} : WD K cs (some ⟨none, o, z⟩) r s Q = WL K cs r (frz (objs s o) z) Q := by
  unfold WD; simp only [app_none]
theorem WD_new {d : Nat} {ob : Ob} {z : List (Nat × Nat)} {x : DV} : WD K cs (some (newOb s d ob z x)) r s Q = WL K cs r (frz (obj (put s d x) d (ob :: lst s d)) z) Q := by
  unfold newOb; rw [WD_some]; rfl
end

/-! ### Code -/
section
variable {K : Cfg} {cs : Sem} {s : St} {Q : Ex → St → Prop}

theorem loopN_mono {f g : St → Option (Ex × St)} (hfg : ∀ s r, f s = some r → g s = some r) : ∀ (k k' : Nat) (s : St) (r : Ex × St), k ≤ k' → loopN f k s = some r → loopN g k' s = some r
  | 0, _, _, _, _, h => by simp [loopN] at h
  | k + 1, 0, _, _, hk, _ => by omega
  | k + 1, k' + 1, s, r, hk, h => by
    simp only [loopN] at h ⊢
    cases hf : f s with
    | none => rw [hf] at h; cases h
    | some x =>
      rw [hf] at h
      rw [hfg _ _ hf]
      obtain ⟨e, s1⟩ := x
      cases e with
      | nrm => exact loopN_mono hfg k k' s1 r (by omega) h
      | exit i => exact h
      | ret => exact h

theorem evC_mono : ∀ (c : C) (k k' : Nat) (s : St) (r : Ex × St), k ≤ k' → evC K cs k c s = some r → evC K cs k' c s = some r
  | .skip, _, _, _, _, _, h => h
  | .reg _, _, _, _, _, _, h => h
  | .exit _, _, _, _, _, _, h => h
  | .ret, _, _, _, _, _, h => h
  | .fail, _, _, _, _, _, h => h
  | .scope c, k, k', s, r, hk, h => by simp only [evC] at h ⊢; exact evC_mono c k k' s r hk h
  | .seq a b, k, k', s, r, hk, h => by
    simp only [evC] at h ⊢
    cases ha : evC K cs k a s with
    | none => rw [ha] at h; cases h
    | some x =>
      rw [ha] at h
      rw [evC_mono a k k' s x hk ha]
      obtain ⟨e, s1⟩ := x
      cases e with
      | nrm => exact evC_mono b k k' s1 r hk h
      | exit i => exact h
      | ret => exact h
  | .cond c a b, k, k', s, r, hk, h => by
    simp only [evC] at h ⊢
    split at h
    · exact evC_mono a k k' s r hk h
    · exact evC_mono b k k' s r hk h
    · cases h
  | .block id c, k, k', s, r, hk, h => by
    simp only [evC] at h ⊢
    cases ha : evC K cs k c s with
    | none => rw [ha] at h; cases h
    | some x =>
      rw [ha] at h
      rw [evC_mono c k k' s x hk ha]
      exact h
  | .loop c, k, k', s, r, hk, h => by
    simp only [evC] at h ⊢
    exact loopN_mono (fun s r => evC_mono c k k' s r hk) k k' s r hk h

theorem W_of {c : C} {k : Nat} {e : Ex} {s' : St} (h : evC K cs k c s = some (e, s')) (q : Q e s') : W K cs c s Q :=
  ⟨e, s', ⟨k, fun k' hk => evC_mono c k k' s _ hk h⟩, q⟩
theorem W_to {c : C} (h : W K cs c s Q) : ∃ k e s', evC K cs k c s = some (e, s') ∧ Q e s' := by
  obtain ⟨e, s', ⟨k, h1⟩, h2⟩ := h
  exact ⟨k, e, s', h1 k (Nat.le_refl _), h2⟩

theorem W_reg {ops : List Ins} : W K cs (.reg ops) s Q = WL K cs ops s fun s' => Q .nrm s' := by
  refine propext ⟨fun ⟨e, s', ⟨k0, h1⟩, h2⟩ => ?_, fun h => ?_⟩
  · have := h1 k0 (Nat.le_refl _)
    unfold WL
    simp only [evC, Option.map_eq_some_iff] at this
    obtain ⟨s1, h3, h4⟩ := this
    simp only [Prod.mk.injEq] at h4
    rw [h3, h4.2, h4.1]; exact h2
  · unfold WL at h
    split at h
    · rename_i s' hs
      exact W.reg hs h
    · exact h.elim

theorem W_skip : W K cs .skip s Q = Q .nrm s := by
  refine propext ⟨fun ⟨e, s', ⟨k0, h1⟩, h2⟩ => ?_, W.skip⟩
  have := h1 k0 (Nat.le_refl _)
  simp only [evC, Option.some.injEq, Prod.mk.injEq] at this
  rw [this.1, this.2]; exact h2
theorem W_exit {i : Nat} : W K cs (.exit i) s Q = Q (.exit i) s := by
  refine propext ⟨fun ⟨e, s', ⟨k0, h1⟩, h2⟩ => ?_, W.exit⟩
  have := h1 k0 (Nat.le_refl _)
  simp only [evC, Option.some.injEq, Prod.mk.injEq] at this
  rw [this.1, this.2]; exact h2
theorem W_ret : W K cs .ret s Q = Q .ret s := by
  refine propext ⟨fun ⟨e, s', ⟨k0, h1⟩, h2⟩ => ?_, W.ret⟩
  have := h1 k0 (Nat.le_refl _)
  simp only [evC, Option.some.injEq, Prod.mk.injEq] at this
  rw [this.1, this.2]; exact h2
theorem W_scope {c : C} : W K cs (.scope c) s Q = W K cs c s Q := by
  refine propext ⟨fun ⟨e, s', ⟨k0, h1⟩, h2⟩ => ⟨e, s', ⟨k0, fun k hk => ?_⟩, h2⟩, W.scope⟩
  have := h1 k hk
  simpa only [evC] using this

/-- What comes after the first part of a sequence. -/
def thenQ (K : Cfg) (cs : Sem) (b : C) (Q : Ex → St → Prop) : Ex → St → Prop
  | .nrm, s => W K cs b s Q
  | e, s => Q e s
theorem thenQ_nrm {b : C} : thenQ K cs b Q .nrm s = W K cs b s Q := (rfl)
theorem thenQ_exit {b : C} {i : Nat} : thenQ K cs b Q (.exit i) s = Q (.exit i) s := (rfl)
theorem thenQ_ret {b : C} : thenQ K cs b Q .ret s = Q .ret s := (rfl)

def blkQ (id : Nat) (Q : Ex → St → Prop) : Ex → St → Prop
  | .exit j, s => if j = id then Q .nrm s else Q (.exit j) s
  | e, s => Q e s
theorem blkQ_nrm {id : Nat} : blkQ id Q .nrm s = Q .nrm s := (rfl)
theorem blkQ_exit {id j : Nat} : blkQ id Q (.exit j) s = if j = id then Q .nrm s else Q (.exit j) s := (rfl)
theorem blkQ_ret {id : Nat} : blkQ id Q .ret s = Q .ret s := (rfl)

/-- A round of a loop. -/
def roundQ (I : Nat → St → Prop) (n : Nat) (Q : Ex → St → Prop) : Ex → St → Prop
  | .nrm, s => ∃ m, m < n ∧ I m s
  | e, s => Q e s
theorem roundQ_nrm {I : Nat → St → Prop} {n : Nat} : roundQ I n Q .nrm s = ∃ m, m < n ∧ I m s := (rfl)
theorem roundQ_exit {I : Nat → St → Prop} {n i : Nat} : roundQ I n Q (.exit i) s = Q (.exit i) s := (rfl)
theorem roundQ_ret {I : Nat → St → Prop} {n : Nat} : roundQ I n Q .ret s = Q .ret s := (rfl)

theorem W_seq {a b : C} : W K cs (.seq a b) s Q = W K cs a s (thenQ K cs b Q) := by
  refine propext ⟨fun h => ?_, fun h => ?_⟩
  · obtain ⟨k, e, s', h1, h2⟩ := W_to h
    simp only [evC] at h1
    cases ha : evC K cs k a s with
    | none => rw [ha] at h1; cases h1
    | some x =>
      rw [ha] at h1
      obtain ⟨e1, s1⟩ := x
      cases e1 with
      | nrm => exact W_of ha (W_of h1 h2)
      | exit i => cases h1; exact W_of ha h2
      | ret => cases h1; exact W_of ha h2
  · refine W.seq (W.mono h fun e s' hq => ?_)
    cases e <;> exact hq
theorem W_block {id : Nat} {c : C} : W K cs (.block id c) s Q = W K cs c s (blkQ id Q) := by
  refine propext ⟨fun h => ?_, fun h => ?_⟩
  · obtain ⟨k, e, s', h1, h2⟩ := W_to h
    simp only [evC] at h1
    cases ha : evC K cs k c s with
    | none => rw [ha] at h1; cases h1
    | some x =>
      rw [ha] at h1
      obtain ⟨e1, s1⟩ := x
      cases e1 with
      | nrm => cases h1; exact W_of ha h2
      | exit j =>
        refine W_of ha ?_
        simp only [blkQ]
        by_cases hj : j = id
        · simp only [hj, if_true] at h1 ⊢; cases h1; exact h2
        · simp only [hj, if_false] at h1 ⊢; cases h1; exact h2
      | ret => cases h1; exact W_of ha h2
  · refine W.block (W.mono h fun e s' hq => ?_)
    cases e <;> exact hq
theorem W_cond {c : Opd} {a b : C} : W K cs (.cond c a b) s Q = (match opv s c with
    | some (.b v) => if v = true then W K cs a s Q else W K cs b s Q
    | _ => False) := by
  refine propext ⟨fun h => ?_, fun h => ?_⟩
  · obtain ⟨k, e, s', h1, h2⟩ := W_to h
    simp only [evC] at h1
    split at h1
    · rename_i hv; simp only [hv, if_true]; exact W_of h1 h2
    · rename_i hv; simp only [hv]; exact W_of h1 h2
    · cases h1
  · split at h
    · rename_i v hv
      split at h
      · rename_i hb; subst hb; exact W.cond hv (fun _ => h) (fun x => by cases x)
      · rename_i hb
        have : v = false := by simpa using hb
        subst this; exact W.cond hv (fun x => by cases x) (fun _ => h)
    · exact h.elim
/-- One more round. -/
def moreQ (K : Cfg) (cs : Sem) (c : C) (Q : Ex → St → Prop) : Ex → St → Prop
  | .nrm, s => W K cs (.loop c) s Q
  | e, s => Q e s
theorem moreQ_nrm {c : C} : moreQ K cs c Q .nrm s = W K cs (.loop c) s Q := (rfl)
theorem moreQ_exit {c : C} {i : Nat} : moreQ K cs c Q (.exit i) s = Q (.exit i) s := (rfl)
theorem moreQ_ret {c : C} : moreQ K cs c Q .ret s = Q .ret s := (rfl)

theorem W_unroll {c : C} : W K cs (.loop c) s Q = W K cs c s (moreQ K cs c Q) := by
  have key : ∀ k e s', evC K cs k (.loop c) s = some (e, s') → ∃ e1 s1, evC K cs k c s = some (e1, s1) ∧ (match e1 with
      | .nrm => evC K cs k (.loop c) s1 = some (e, s')
      | e1 => e1 = e ∧ s1 = s') := by
    intro k e s' h
    simp only [evC] at h
    cases k with
    | zero => simp [loopN] at h
    | succ k =>
      simp only [loopN] at h
      cases hx : evC K cs (k + 1) c s with
      | none => rw [hx] at h; cases h
      | some x =>
        rw [hx] at h
        obtain ⟨e1, s1⟩ := x
        refine ⟨e1, s1, rfl, ?_⟩
        cases e1 with
        | nrm => simp only [evC]; exact loopN_mono (fun _ _ h => h) k (k + 1) s1 _ (by omega) h
        | exit i => simp only [Option.some.injEq, Prod.mk.injEq] at h; exact h
        | ret => simp only [Option.some.injEq, Prod.mk.injEq] at h; exact h
  refine propext ⟨fun h => ?_, fun h => ?_⟩
  · obtain ⟨k, e, s', h1, h2⟩ := W_to h
    obtain ⟨e1, s1, h3, h4⟩ := key k e s' h1
    refine W_of h3 ?_
    cases e1 with
    | nrm => exact W_of h4 h2
    | exit i => obtain ⟨rfl, rfl⟩ := h4; exact h2
    | ret => obtain ⟨rfl, rfl⟩ := h4; exact h2
  · obtain ⟨k, e, s', h1, h2⟩ := W_to h
    cases e with
    | nrm =>
      obtain ⟨k2, e2, s2, h3, h4⟩ := W_to h2
      refine W_of (k := max k k2 + 1) (e := e2) (s' := s2) ?_ h4
      have a1 := evC_mono c k (max k k2 + 1) s _ (by omega) h1
      have a2 := evC_mono (.loop c) k2 (max k k2) s' _ (by omega) h3
      simp only [evC, loopN] at a2 ⊢
      rw [a1]
      exact loopN_mono (fun s r h => evC_mono c _ _ s r (by omega) h) _ _ _ _ (Nat.le_refl _) a2
    | exit i =>
      refine W_of (k := k + 1) (e := .exit i) (s' := s') ?_ h2
      simp only [evC, loopN]
      rw [evC_mono c k (k + 1) s _ (by omega) h1]
    | ret =>
      refine W_of (k := k + 1) (e := .ret) (s' := s') ?_ h2
      simp only [evC, loopN]
      rw [evC_mono c k (k + 1) s _ (by omega) h1]

theorem W_loop {c : C} (I : Nat → St → Prop) (n : Nat) (h0 : I n s) (step : ∀ n s, I n s → W K cs c s (roundQ I n Q)) : W K cs (.loop c) s Q :=
  W.loop I n h0 fun n s hI => W.mono (step n s hI) fun e s' hq => by cases e <;> exact hq
end
end Go.Ev

/- What the rewriting of runs needs of values, rows and arguments. -/
namespace Go.Ev
open Go.Pm

theorem fill_one {Z : List DV} {n : Nat} {v : DV} (hz : Z.length = n) (hc : (cells v).length = n) (ha : (cells v).all isCell = true) : fillL (List.replicate 1 Z).flatten [(0, n, v)] = some (cells v) := by
  subst hz
  simp only [fillL, List.replicate_one, List.flatten_cons, List.flatten_nil, List.append_nil, hc, Nat.zero_add, Nat.le_refl, ha, and_self, if_true, List.take_zero, List.nil_append, List.drop_length]

theorem fill_all {Z : List DV} {n : Nat} {v : DV} (hz : Z.length = n) (hc : (cells v).length = n) (ha : (cells v).all isCell = true) : fillL Z [(0, n, v)] = some (cells v) := by
  subst hz
  simp only [fillL, List.append_nil, hc, Nat.zero_add, Nat.le_refl, ha, and_self, if_true, List.take_zero, List.nil_append, List.drop_length]

theorem fill_tm {a0 a1 a2 a3 a4 a5 a6 a7 a8 a9 a10 a11 : DV} {c : Rat} {m : Mono} : fillL [a0, a1, a2, a3, a4, a5, a6, a7, a8, a9, a10, a11] [(0, 4, dRat c), (4, 8, dMono m)] = some (tcells ⟨c, m⟩) := by
  simp [fillL, dRat, dMono, cells, rcells, mcells, Mono.l, tcells, isCell, dNat]

theorem fill_c {a0 a1 a2 a3 : DV} {v : List DV} {c : Rat} : fillL ([a0, a1, a2, a3] ++ v) [(0, 4, dRat c)] = some (rcells c ++ v) := by
  simp [fillL, dRat, cells, rcells, isCell, dNat]

theorem cells_dTm (t : Tm) : cells (dTm t) = tcells t := (rfl)
theorem cells_dRat (c : Rat) : cells (dRat c) = rcells c := (rfl)
theorem cells_dMono (m : Mono) : cells (dMono m) = mcells m := (rfl)
theorem cells_sl (n : Nat) (l : List DV) : cells (.sl n l) = [.sl n l] := (rfl)
theorem cells_i (k : IntKind) (n : Int) : cells (.i k n) = [.i k n] := (rfl)
theorem cells_b (v : Bool) : cells (.b v) = [.b v] := (rfl)
theorem cells_agg (l : List DV) : cells (.agg l) = l := (rfl)
theorem rcells_cell (c : Rat) : (rcells c).all isCell = true := (rfl)
theorem mcells_cell (m : Mono) : (mcells m).all isCell = true := (rfl)
theorem tcells_cell (t : Tm) : (tcells t).all isCell = true := (rfl)

theorem part_rcells (c : Rat) : part (rcells c) 0 4 true = some (dRat c) := (rfl)
theorem part_mcells (m : Mono) : part (mcells m) 0 8 true = some (dMono m) := (rfl)

theorem fld_tm_c (t : Tm) : part (tcells t) 0 4 true = some (dRat t.c) := (rfl)
theorem fld_tm_m (t : Tm) : part (tcells t) 4 8 true = some (dMono t.m) := (rfl)

mutual
theorem deepen_deep (s : St) : ∀ d, isDeep d = true → deepen s d = some (d, [])
  | .b _, _ | .i _ _, _ | .nilfn, _ | .x _ _, _ | .u .., _ | .non, _ | .emp, _ => by simp [deepen]
  | .sl _ _, _ | .rop _, _ | .msl _, _ => by simp [deepen]
  | .fn f cs, h => by simp only [isDeep] at h; simp only [deepen, deepenL_deep s cs h]
  | .agg cs, h => by simp only [isDeep] at h; simp only [deepen, deepenL_deep s cs h]
  | .tup cs, h => by simp only [isDeep] at h; simp only [deepen, deepenL_deep s cs h]
  | .nil, h | .ref .., h | .ptr .., h | .mref .., h | .own .., h => by simp [isDeep] at h
theorem deepenL_deep (s : St) : ∀ cs, areDeep cs = true → deepenL s cs = some (cs, [])
  | [], _ => by simp [deepenL]
  | d :: r, h => by
    simp only [areDeep, Bool.and_eq_true] at h
    simp only [deepenL, deepen_deep s d h.1, deepenL_deep s r h.2, List.append_nil]
end

theorem dTm_deep (t : Tm) : isDeep (dTm t) = true := by simp only [dTm, isDeep]; exact tcells_deep t

section
variable {s : St}
theorem deepen_dTm (t : Tm) : deepen s (dTm t) = some (dTm t, []) := deepen_deep s _ (dTm_deep t)
theorem deepen_dRat (c : Rat) : deepen s (dRat c) = some (dRat c, []) := deepen_deep s _ (dRat_deep c)
theorem deepen_dMono (m : Mono) : deepen s (dMono m) = some (dMono m, []) := deepen_deep s _ (dMono_deep m)
theorem deepen_sl (n : Nat) (l : List DV) : deepen s (.sl n l) = some (.sl n l, []) := by simp [deepen]
theorem deepen_i (k : IntKind) (n : Int) : deepen s (.i k n) = some (.i k n, []) := by simp [deepen]
theorem deepen_b (v : Bool) : deepen s (.b v) = some (.b v, []) := by simp [deepen]
theorem deepen_nil : deepen s .nil = some (.sl 0 [], []) := by simp [deepen]
theorem deepen_fn0 (f : Nat) : deepen s (.fn f []) = some (.fn f [], []) := by simp [deepen, deepenL]
theorem deepen_ref (h e off n : Nat) : deepen s (.ref h e off n) = (match nth (lst s h) e with
    | some ob => if ob.k = 0 then some (.sl n ((ob.cs.drop off).take (n * ob.sz)), [(h, e)]) else if ob.k = 2 ∧ n ≠ 0 ∧ areDeep ob.cs then some (.sl n (ob.cs.drop off), [(h, e)]) else none
    | none => none) := by simp only [deepen, look_lst]; rfl

theorem argsIn_nil (b : List Bool) : argsIn s b [] = some ([], [], none) := by unfold argsIn; rfl
theorem argsIn_cons (d : DV) (r : List DV) : argsIn s [] (d :: r) = (match argsIn s [] r with
    | none => none
    | some (l, z, q) => match deepen s d with
      | some (x, y) => some (x :: l, y ++ z, q)
      | none => none) := by
  rw [argsIn]
  simp only [List.tail_nil, List.headD_nil, Bool.false_eq_true, if_false]
  rfl
end

section
variable {h c : Nat}
theorem adoptR_b (v : Bool) : adoptR h c (.b v) = (.b v, []) := (rfl)
theorem adoptR_i (k : IntKind) (n : Int) : adoptR h c (.i k n) = (.i k n, []) := (rfl)
theorem adoptR_sl (n : Nat) (l : List DV) : adoptR h c (.sl n l) = (.sl n l, []) := (rfl)
theorem adoptR_dRat (q : Rat) : adoptR h c (dRat q) = (dRat q, []) := (rfl)
theorem adoptR_dMono (m : Mono) : adoptR h c (dMono m) = (dMono m, []) := (rfl)
theorem adoptR_dTm (t : Tm) : adoptR h c (dTm t) = (dTm t, []) := (rfl)
theorem adoptR_fn (f : Nat) (l : List DV) : adoptR h c (.fn f l) = (.fn f l, []) := (rfl)
theorem adoptR_tup {l : List DV} (hl : areDeep l = true) : adoptR h c (.tup l) = (.tup l, []) := by simp only [adoptR, adoptL_deep hl]
theorem adoptR_agg {l : List DV} (hl : areDeep l = true) : adoptR h c (.agg l) = (.agg l, []) := by simp only [adoptR, adoptL_deep hl]
theorem adoptR_own (k sz off n : Nat) (cs : List DV) : adoptR h c (.own k sz cs off n) = (if k = 0 then .ref h c off n else if k = 1 then .mref h c else .ptr h c off, [⟨k, sz, cs⟩]) := (rfl)
end

theorem take_tcells (t : Tm) : (tcells t).take 12 = tcells t := (rfl)
theorem take_rcells (c : Rat) : (rcells c).take 4 = rcells c := (rfl)
theorem take_mcells (m : Mono) : (mcells m).take 8 = mcells m := (rfl)
theorem take_pcells (p : Poly) : (pcells p).take (p.length * 12) = pcells p := by rw [pcells_take, List.take_length]
theorem isCell_b (v : Bool) : isCell (.b v) = true := (rfl)
theorem isCell_i (k : IntKind) (n : Int) : isCell (.i k n) = true := (rfl)
theorem isCell_sl (n : Nat) (l : List DV) : isCell (.sl n l) = true := (rfl)
theorem isCell_nil : isCell .nil = true := (rfl)
theorem isCell_ref (h e o n : Nat) : isCell (.ref h e o n) = true := (rfl)
theorem isCell_fn (n : Nat) (l : List DV) : isCell (.fn n l) = true := (rfl)

theorem giveOne_deep {s : St} {own : Bool} {np : Nat} {d : DV} (h : isDeep d = true) : giveOne s own np d = some (d, [], []) := by
  unfold giveOne
  split
  · simp [isDeep] at h
  · rw [deepen_deep s d h]
theorem giveL_deep {s : St} {own : Bool} {np : Nat} : ∀ {l : List DV}, areDeep l = true → giveL s own np l = some (l, [], [])
  | [], _ => by simp [giveL]
  | d :: r, h => by
    simp only [areDeep, Bool.and_eq_true] at h
    simp only [giveL, giveOne_deep h.1, giveL_deep h.2, List.append_nil]
theorem areDeep_nil : areDeep [] = true := by rw [areDeep]
theorem areDeep_cons (d : DV) (r : List DV) : areDeep (d :: r) = (isDeep d && areDeep r) := by rw [areDeep]
theorem isDeep_b (v : Bool) : isDeep (.b v) = true := by rw [isDeep]
theorem isDeep_i (k : IntKind) (n : Int) : isDeep (.i k n) = true := by rw [isDeep]
theorem isDeep_sl (n : Nat) (l : List DV) : isDeep (.sl n l) = areDeep l := by rw [isDeep]
theorem isDeep_agg (l : List DV) : isDeep (.agg l) = areDeep l := by rw [isDeep]
theorem isDeep_tup (l : List DV) : isDeep (.tup l) = areDeep l := by rw [isDeep]
theorem isDeep_fn (f : Nat) (l : List DV) : isDeep (.fn f l) = areDeep l := by rw [isDeep]
theorem deepen_agg {s : St} {l : List DV} (h : areDeep l = true) : deepen s (.agg l) = some (.agg l, []) := deepen_deep s _ (by rw [isDeep]; exact h)
theorem deepen_tup {s : St} {l : List DV} (h : areDeep l = true) : deepen s (.tup l) = some (.tup l, []) := deepen_deep s _ (by rw [isDeep]; exact h)
theorem nth_top1 {ob x : Ob} {l : List Ob} : nth (ob :: x :: l) (l.length + 1) = if ob.k = 3 then none else some ob := nth_top (l := x :: l)
theorem setAt_top1 {ob ob' x : Ob} {l : List Ob} : setAt (ob :: x :: l) (l.length + 1) ob' = ob' :: x :: l := setAt_top (l := x :: l)
theorem part_single (d : DV) : part [d] 0 1 true = some (.agg [d]) := (rfl)
theorem part_head (d : DV) (r : List DV) (n : Nat) : part (d :: r) 0 n false = some d := (rfl)
theorem v_get (s : St) (n : Nat) : s.v.get n = gt s n := (rfl)
theorem gt_st0 (n : Nat) : gt st0 n = none := (rfl)
theorem lst_st0 (n : Nat) : lst st0 n = [] := (rfl)
theorem z_st0 : st0.z = [] := (rfl)
theorem fill_none {Z : List DV} : fillL Z [] = some Z := (rfl)
theorem nth_at {ob : Ob} {l : List Ob} {e : Nat} (h : e = l.length) : nth (ob :: l) e = if ob.k = 3 then none else some ob := by subst h; exact nth_top
theorem setAt_at {ob ob' : Ob} {l : List Ob} {e : Nat} (h : e = l.length) : setAt (ob :: l) e ob' = ob' :: l := by subst h; exact setAt_top

theorem drop_cons {α : Type} {p : List α} {i : Nat} (h : i < p.length) : ∃ t p', p.drop i = t :: p' ∧ p.drop (i + 1) = p' :=
  ⟨p[i], p.drop (i + 1), List.drop_eq_getElem_cons h, rfl⟩

theorem wrap_i64 {n : Int} (h1 : -9223372036854775808 ≤ n) (h2 : n ≤ 9223372036854775807) : IntKind.i64.wrap n = n := by
  refine wrap_in .i64 n ⟨?_, ?_⟩
  · simpa [IntKind.min, IntKind.signed, IntKind.bits] using h1
  · have : IntKind.max .i64 = 9223372036854775807 := by decide
    omega

attribute [simp] nth_top1 setAt_top1 bnd part_single part_head giveL_deep moreQ_nrm moreQ_exit moreQ_ret v_get fin resOf resRaws resRaw giveV giveL giveOne lentOuts fill_all fill_one W_seq W_reg W_skip W_exit W_ret W_scope W_block W_cond thenQ_nrm thenQ_exit thenQ_ret blkQ_nrm blkQ_exit blkQ_ret roundQ_nrm roundQ_exit roundQ_ret
  WL_nil WL_u WL_g WD_val WD_some WD_none WD_new evI opv_t opv_c gt_put gt_obj gt_frz lst_put lst_obj lst_frz z_put z_obj z_frz objs_nil objs_cons frz_nil nth_top setAt_top look_lst cnt_lst
  lenOf bin bin0 ibin fill_tm fill_c cells_dTm cells_dRat cells_dMono cells_sl cells_i cells_b cells_agg rcells_cell mcells_cell tcells_cell part_rcells part_mcells part_tm part_tm_c part_tm_m
  deepen_dTm deepen_dRat deepen_dMono deepen_sl deepen_i deepen_b deepen_nil deepen_fn0 deepen_ref argsIn_nil argsIn_cons opvL partsOf deepParts slCells take_tcells take_rcells take_mcells take_pcells pcells_all_cell isCell_b isCell_i isCell_sl isCell_nil isCell_ref isCell_fn bound rcells_length mcells_length tcells_length pcells_length pcells_drop pcells_cons
  doCall startL gt_st0 lst_st0 z_st0 app_val fill_none pcells_nil adoptR_b adoptR_i adoptR_sl adoptR_dRat adoptR_dMono adoptR_dTm adoptR_fn adoptR_tup adoptR_agg adoptR_own areDeep_nil areDeep_cons isDeep_b isDeep_i isDeep_sl isDeep_agg isDeep_tup isDeep_fn deepen_agg deepen_tup dRat_deep dMono_deep dTm_deep dPoly_deep pcells_deep rcells_deep mcells_deep tcells_deep fld_tm_c fld_tm_m pcells_append
end Go.Ev

/- The numbers of the functions, and how each is called. Printed by a program of mine. -/
namespace Go.Ev
abbrev n_main_main : Nat := 0
abbrev n_gosem_cut : Nat := 1
abbrev n_gosem_cut_init : Nat := 2
abbrev n_law19_SyzygyIs : Nat := 3
abbrev n_law19_SyzygySchreyer : Nat := 4
abbrev n_law19_SyzygyErrors : Nat := 5
abbrev n_law19_SyzygyExpresses : Nat := 6
abbrev n_law13_GroebnerMatchesReference : Nat := 7
abbrev n_law13_GroebnerHolds : Nat := 8
abbrev n_law13_GroebnerMembers : Nat := 9
abbrev n_law13_GroebnerUnique : Nat := 10
abbrev n_law13_GroebnerReduces : Nat := 11
abbrev n_law13_GroebnerPoints : Nat := 12
abbrev n_law13_GroebnerLinear : Nat := 13
abbrev n_law13_GroebnerExtends : Nat := 14
abbrev n_law13_GroebnerOrders : Nat := 15
abbrev n_law19_SyzygyGenerates : Nat := 16
abbrev n_law19_SyzygyPairs : Nat := 17
abbrev n_law19_sanity : Nat := 18
abbrev n_ref13_Polys : Nat := 19
abbrev n_law19_poly : Nat := 20
abbrev n_ref06_Add : Nat := 21
abbrev n_ref06_By : Nat := 22
abbrev n_ref06_Sub : Nat := 23
abbrev n_syzygy_Is : Nat := 24
abbrev n_ref19_Is : Nat := 25
abbrev n_ref05_Some : Nat := 26
abbrev n_ref13_Of : Nat := 27
abbrev n_ref06_Scale : Nat := 28
abbrev n_ref02_Whole : Nat := 29
abbrev n_syzygy_Schreyer : Nat := 30
abbrev n_ref19_Schreyer : Nat := 31
abbrev n_ref06_SameList : Nat := 32
abbrev n_ref05_Valid : Nat := 33
abbrev n_ref06_Nonzero : Nat := 34
abbrev n_ref12_IsBasis : Nat := 35
abbrev n_syzygy_Express : Nat := 36
abbrev n_ref19_Shaped : Nat := 37
abbrev n_ref19_Plus : Nat := 38
abbrev n_ref06_ValidList : Nat := 39
abbrev n_ref19_Combined : Nat := 40
abbrev n_law13_sanity : Nat := 41
abbrev n_groebner_Basis : Nat := 42
abbrev n_law13_right : Nat := 43
abbrev n_groebner_Holds : Nat := 44
abbrev n_ref13_Basis : Nat := 45
abbrev n_ref06_Made : Nat := 46
abbrev n_law13_spoil : Nat := 47
abbrev n_ref13_Holds : Nat := 48
abbrev n_ref13_Expressed : Nat := 49
abbrev n_law13_sum : Nat := 50
abbrev n_ref12_Rest : Nat := 51
abbrev n_ref06_Same : Nat := 52
abbrev n_groebner_Reduced : Nat := 53
abbrev n_ref02_Made : Nat := 54
abbrev n_ref06_Constant : Nat := 55
abbrev n_ref06_Eval : Nat := 56
abbrev n_ref02_Sign : Nat := 57
abbrev n_ref13_Lines : Nat := 58
abbrev n_ref11_Echelon : Nat := 59
abbrev n_ref06_X : Nat := 60
abbrev n_ref06_Degree : Nat := 61
abbrev n_ref06_Int : Nat := 62
abbrev n_ref05_Lex : Nat := 63
abbrev n_groebner_Extend : Nat := 64
abbrev n_ref06_List : Nat := 65
abbrev n_syzygy_Of : Nat := 66
abbrev n_ref19_Small : Nat := 67
abbrev n_ref19_Module : Nat := 68
abbrev n_ref19_Of : Nat := 69
abbrev n_ref19_Inside : Nat := 70
abbrev n_ref08_Gcd : Nat := 71
abbrev n_ref08_Divide : Nat := 72
abbrev n_ref05_Reverse : Nat := 73
abbrev n_ref04_Cmp : Nat := 74
abbrev n_ref02_Add : Nat := 75
abbrev n_ref06_Mul : Nat := 76
abbrev n_division_Sum : Nat := 77
abbrev n_ref12_Is : Nat := 78
abbrev n_ref05_Graded : Nat := 79
abbrev n_ref05_Eliminating : Nat := 80
abbrev n_ref13_polys : Nat := 81
abbrev n_ref13_finished : Nat := 82
abbrev n_ref13_closed : Nat := 83
abbrev n_ref13_plain : Nat := 84
abbrev n_ref06_Times : Nat := 85
abbrev n_ref01_Of : Nat := 86
abbrev n_order_Valid : Nat := 87
abbrev n_slices_ContainsFunc_api_Poly_api_Poly : Nat := 88
abbrev n_syzygy_Schreyer_1 : Nat := 89
abbrev n_division_IsBasis : Nat := 90
abbrev n_syzygy_leads : Nat := 91
abbrev n_monomial_Lcm : Nat := 92
abbrev n_division_Spair : Nat := 93
abbrev n_division_Divide : Nat := 94
abbrev n_syzygy_vector_scaled : Nat := 95
abbrev n_syzygy_constant : Nat := 96
abbrev n_polynomial_Add : Nat := 97
abbrev n_syzygy_quotient : Nat := 98
abbrev n_polynomial_Sub : Nat := 99
abbrev n_ref19_wrong : Nat := 100
abbrev n_ref19_pair : Nat := 101
abbrev n_ref12_Spair : Nat := 102
abbrev n_polynomial_Lead : Nat := 103
abbrev n_monomial_Mul : Nat := 104
abbrev n_order_Cmp : Nat := 105
abbrev n_rational_Div : Nat := 106
abbrev n_monomial_Quo : Nat := 107
abbrev n_rational_Neg : Nat := 108
abbrev n_polynomial_Mul : Nat := 109
abbrev n_syzygy_vector_plus : Nat := 110
abbrev n_ref06_Valid : Nat := 111
abbrev n_polynomial_Constant : Nat := 112
abbrev n_rational_Whole : Nat := 113
abbrev n_groebner_builder_add : Nat := 114
abbrev n_groebner_ordering_element : Nat := 115
abbrev n_groebner_builder_complete : Nat := 116
abbrev n_slices_Clone_api_Order_8_int : Nat := 117
abbrev n_groebner_ordering_finish : Nat := 118
abbrev n_ref05_Same : Nat := 119
abbrev n_polynomial_Same : Nat := 120
abbrev n_slices_EqualFunc_api_Poly_api_Poly_api_Poly_api_Poly : Nat := 121
abbrev n_groebner_Holds_1 : Nat := 122
abbrev n_ref13_Elems : Nat := 123
abbrev n_ref06_abs : Nat := 124
abbrev n_ref12_Reduced : Nat := 125
abbrev n_ref12_Div : Nat := 126
abbrev n_ref06_SameTerm : Nat := 127
abbrev n_ref01_Add : Nat := 128
abbrev n_ref01_Mul : Nat := 129
abbrev n_ref02_lowest : Nat := 130
abbrev n_ref02_Mul : Nat := 131
abbrev n_ref06_power : Nat := 132
abbrev n_ref01_Sign : Nat := 133
abbrev n_ref11_combined : Nat := 134
abbrev n_ref02_Neg : Nat := 135
abbrev n_ref11_Lead : Nat := 136
abbrev n_ref02_Inv : Nat := 137
abbrev n_ref11_Zeros : Nat := 138
abbrev n_ref06_Var : Nat := 139
abbrev n_ref04_Degree : Nat := 140
abbrev n_slices_Clone_api_Poly_api_Poly : Nat := 141
abbrev n_order_Reverse : Nat := 142
abbrev n_syzygy_Of_1 : Nat := 143
abbrev n_ref06_Uses : Nat := 144
abbrev n_ref19_vector : Nat := 145
abbrev n_ref08_common : Nat := 146
abbrev n_ref08_fits : Nat := 147
abbrev n_ref02_Div : Nat := 148
abbrev n_ref08_mul : Nat := 149
abbrev n_ref05_unit : Nat := 150
abbrev n_ref12_Sum : Nat := 151
abbrev n_ref05_In : Nat := 152
abbrev n_ref13_needless : Nat := 153
abbrev n_ref13_others : Nat := 154
abbrev n_ref13_rest : Nat := 155
abbrev n_ref05_Cmp : Nat := 156
abbrev n_ref13_lead : Nat := 157
abbrev n_ref04_Gcd : Nat := 158
abbrev n_ref13_spair : Nat := 159
abbrev n_ref13_monic : Nat := 160
abbrev n_ref04_Mul : Nat := 161
abbrev n_ref01_made : Nat := 162
abbrev n_ref01_words : Nat := 163
abbrev n_slices_IndexFunc_api_Poly_api_Poly : Nat := 164
abbrev n_division_leadsOf : Nat := 165
abbrev n_division_pairs : Nat := 166
abbrev n_division_leadOf : Nat := 167
abbrev n_monomial_Degree : Nat := 168
abbrev n_monomial_Gcd : Nat := 169
abbrev n_division_divide : Nat := 170
abbrev n_monomial_each : Nat := 171
abbrev n_monomial_Lcm_1 : Nat := 172
abbrev n_division_lead_under : Nat := 173
abbrev n_polynomial_Times : Nat := 174
abbrev n_polynomial_merge : Nat := 175
abbrev n_rational_Add : Nat := 176
abbrev n_polynomial_Add_1 : Nat := 177
abbrev n_rational_Inv : Nat := 178
abbrev n_rational_Sub : Nat := 179
abbrev n_ref19_zero : Nat := 180
abbrev n_ref06_Lead : Nat := 181
abbrev n_ref04_Lcm : Nat := 182
abbrev n_ref19_over : Nat := 183
abbrev n_ref12_times : Nat := 184
abbrev n_ref12_over : Nat := 185
abbrev n_slices_MaxFunc_api_Poly_api_Term : Nat := 186
abbrev n_polynomial_Lead_1 : Nat := 187
abbrev n_monomial_Mul_1 : Nat := 188
abbrev n_monomial_Valid : Nat := 189
abbrev n_monomial_Cmp : Nat := 190
abbrev n_rational_New : Nat := 191
abbrev n_rational_product : Nat := 192
abbrev n_monomial_Divides : Nat := 193
abbrev n_monomial_Quo_1 : Nat := 194
abbrev n_integer_Neg : Nat := 195
abbrev n_polynomial_sum_add : Nat := 196
abbrev n_rational_Mul : Nat := 197
abbrev n_polynomial_sum_poly : Nat := 198
abbrev n_slices_Clone_syzygy_vector_api_Poly : Nat := 199
abbrev n_ref02_Valid : Nat := 200
abbrev n_ref04_Valid : Nat := 201
abbrev n_rational_Sign : Nat := 202
abbrev n_rational_of : Nat := 203
abbrev n_integer_Of : Nat := 204
abbrev n_slices_MinFunc_groebner_pair_groebner_pair : Nat := 205
abbrev n_groebner_builder_before : Nat := 206
abbrev n_slices_DeleteFunc_groebner_pair_groebner_pair : Nat := 207
abbrev n_groebner_builder_complete_1 : Nat := 208
abbrev n_groebner_builder_needless : Nat := 209
abbrev n_groebner_combine : Nat := 210
abbrev n_groebner_ordering_reduce : Nat := 211
abbrev n_slices_Clone_groebner_element_groebner_element : Nat := 212
abbrev n_slices_SortStableFunc_groebner_element_groebner_element : Nat := 213
abbrev n_groebner_ordering_finish_1 : Nat := 214
abbrev n_groebner_ordering_compare : Nat := 215
abbrev n_slices_ContainsFunc_groebner_element_groebner_element : Nat := 216
abbrev n_groebner_ordering_finish_2 : Nat := 217
abbrev n_slices_Delete_groebner_element_groebner_element : Nat := 218
abbrev n_polynomial_Cmp : Nat := 219
abbrev n_ref02_Same : Nat := 220
abbrev n_ref04_Divides : Nat := 221
abbrev n_ref12_first : Nat := 222
abbrev n_ref01_added : Nat := 223
abbrev n_ref01_compared : Nat := 224
abbrev n_ref01_taken : Nat := 225
abbrev n_ref01_times : Nat := 226
abbrev n_ref01_Gcd : Nat := 227
abbrev n_ref01_Neg : Nat := 228
abbrev n_ref02_exact : Nat := 229
abbrev n_ref02_New : Nat := 230
abbrev n_order_Graded : Nat := 231
abbrev n_order_unit : Nat := 232
abbrev n_ref04_Support : Nat := 233
abbrev n_ref08_Normal : Nat := 234
abbrev n_ref08_first : Nat := 235
abbrev n_ref08_one : Nat := 236
abbrev n_ref08_content : Nat := 237
abbrev n_ref08_over : Nat := 238
abbrev n_ref08_Degree : Nat := 239
abbrev n_ref08_remainder : Nat := 240
abbrev n_ref13_minus : Nat := 241
abbrev n_ref05_weight : Nat := 242
abbrev n_ref04_Quo : Nat := 243
abbrev n_ref13_scale : Nat := 244
abbrev n_ref01_trim : Nat := 245
abbrev n_division_pairs_1 : Nat := 246
abbrev n_monomial_Gcd_1 : Nat := 247
abbrev n_rational_lowest : Nat := 248
abbrev n_integer_Add : Nat := 249
abbrev n_integer_Sub : Nat := 250
abbrev n_slices_Compare_int_int : Nat := 251
abbrev n_integer_Sign : Nat := 252
abbrev n_integer_Mul : Nat := 253
abbrev n_integer_nat_signed : Nat := 254
abbrev n_slices_SortFunc_api_Poly_api_Term : Nat := 255
abbrev n_polynomial_sum_poly_1 : Nat := 256
abbrev n_ref01_Valid : Nat := 257
abbrev n_ref01_Cmp : Nat := 258
abbrev n_integer_natural : Nat := 259
abbrev n_cmp_Or_int : Nat := 260
abbrev n_cmp_Compare_int : Nat := 261
abbrev n_slices_IndexFunc_groebner_pair_groebner_pair : Nat := 262
abbrev n_groebner_builder_open : Nat := 263
abbrev n_groebner_combine_1 : Nat := 264
abbrev n_slices_stableCmpFunc_groebner_element : Nat := 265
abbrev n_slices_IndexFunc_groebner_element_groebner_element : Nat := 266
abbrev n_slices_CompareFunc_api_Poly_api_Poly_api_Term_api_Term : Nat := 267
abbrev n_polynomial_Cmp_1 : Nat := 268
abbrev n_rational_Cmp : Nat := 269
abbrev n_ref02_same : Nat := 270
abbrev n_ref01_word : Nat := 271
abbrev n_ref01_common : Nat := 272
abbrev n_ref01_DivMod : Nat := 273
abbrev n_order_ones : Nat := 274
abbrev n_ref04_Bit : Nat := 275
abbrev n_ref08_Coeffs : Nat := 276
abbrev n_ref08_Shift : Nat := 277
abbrev n_integer_Gcd : Nat := 278
abbrev n_integer_DivMod : Nat := 279
abbrev n_integer_nat_add : Nat := 280
abbrev n_integer_nat_cmp : Nat := 281
abbrev n_integer_nat_sub : Nat := 282
abbrev n_integer_nat_mul : Nat := 283
abbrev n_integer_nat_norm : Nat := 284
abbrev n_slices_Clone_integer_nat_uint32 : Nat := 285
abbrev n_slices_pdqsortCmpFunc_api_Term : Nat := 286
abbrev n_math_bits_Len : Nat := 287
abbrev n_cmp_isNaN_int : Nat := 288
abbrev n_slices_ContainsFunc_groebner_pair_groebner_pair : Nat := 289
abbrev n_groebner_builder_open_1 : Nat := 290
abbrev n_slices_insertionSortCmpFunc_groebner_element : Nat := 291
abbrev n_slices_symMergeCmpFunc_groebner_element : Nat := 292
abbrev n_integer_Cmp : Nat := 293
abbrev n_ref01_euclid : Nat := 294
abbrev n_ref01_number : Nat := 295
abbrev n_ref01_divided : Nat := 296
abbrev n_integer_nat_div : Nat := 297
abbrev n_math_bits_Add32 : Nat := 298
abbrev n_integer_nat_at : Nat := 299
abbrev n_cmp_Compare_uint32 : Nat := 300
abbrev n_math_bits_Sub32 : Nat := 301
abbrev n_slices_insertionSortCmpFunc_api_Term : Nat := 302
abbrev n_slices_heapSortCmpFunc_api_Term : Nat := 303
abbrev n_slices_breakPatternsCmpFunc_api_Term : Nat := 304
abbrev n_slices_choosePivotCmpFunc_api_Term : Nat := 305
abbrev n_slices_reverseRangeCmpFunc_api_Term : Nat := 306
abbrev n_slices_partialInsertionSortCmpFunc_api_Term : Nat := 307
abbrev n_slices_partitionEqualCmpFunc_api_Term : Nat := 308
abbrev n_slices_partitionCmpFunc_api_Term : Nat := 309
abbrev n_math_bits_Len32 : Nat := 310
abbrev n_math_bits_Len64 : Nat := 311
abbrev n_slices_rotateCmpFunc_groebner_element : Nat := 312
abbrev n_ref01_shortly : Nat := 313
abbrev n_ref01_guess : Nat := 314
abbrev n_ref01_lessen : Nat := 315
abbrev n_ref01_restore : Nat := 316
abbrev n_integer_nat_word : Nat := 317
abbrev n_math_bits_LeadingZeros32 : Nat := 318
abbrev n_integer_nat_shl : Nat := 319
abbrev n_integer_nat_reduce : Nat := 320
abbrev n_integer_nat_shr : Nat := 321
abbrev n_cmp_isNaN_uint32 : Nat := 322
abbrev n_slices_siftDownCmpFunc_api_Term : Nat := 323
abbrev n_slices_nextPowerOfTwo : Nat := 324
abbrev n_slices_xorshift_Next : Nat := 325
abbrev n_slices_medianAdjacentCmpFunc_api_Term : Nat := 326
abbrev n_slices_medianCmpFunc_api_Term : Nat := 327
abbrev n_slices_swapRangeCmpFunc_groebner_element : Nat := 328
abbrev n_math_bits_Div32 : Nat := 329
abbrev n_slices_order2CmpFunc_api_Term : Nat := 330
abbrev n_runtime_boundsError_Error : Nat := 331
abbrev n_runtime_boundsError_RuntimeError : Nat := 332
abbrev n_runtime_errorString_Error : Nat := 333
abbrev n_runtime_errorString_RuntimeError : Nat := 334
abbrev n_runtime_plainError_Error : Nat := 335
abbrev n_runtime_plainError_RuntimeError : Nat := 336
abbrev n_runtime_errorAddressString_Error : Nat := 337
abbrev n_runtime_errorAddressString_RuntimeError : Nat := 338
abbrev n_runtime_TypeAssertionError_Error : Nat := 339
abbrev n_runtime_TypeAssertionError_RuntimeError : Nat := 340
abbrev n_runtime_PanicNilError_Error : Nat := 341
abbrev n_runtime_PanicNilError_RuntimeError : Nat := 342
abbrev n_internal_abi_Type_Align : Nat := 343
abbrev n_internal_runtime_maps_unhashableTypeError_Error : Nat := 344
abbrev n_internal_runtime_maps_unhashableTypeError_RuntimeError : Nat := 345
abbrev n_api_Errno_Error : Nat := 346
abbrev n_errors_errorString_Error : Nat := 347
abbrev n_internal_abi_Kind_String : Nat := 348
def fcOf : Nat → FC
  | 27 => ⟨[], true⟩
  | 40 => ⟨[], true⟩
  | 73 => ⟨[], true⟩
  | 79 => ⟨[], true⟩
  | 82 => ⟨[], true⟩
  | 83 => ⟨[true, false], false⟩
  | 84 => ⟨[], true⟩
  | 95 => ⟨[], true⟩
  | 101 => ⟨[], true⟩
  | 110 => ⟨[], true⟩
  | 126 => ⟨[], true⟩
  | 142 => ⟨[], true⟩
  | 196 => ⟨[true, false, false], false⟩
  | 199 => ⟨[], true⟩
  | 226 => ⟨[], true⟩
  | 231 => ⟨[], true⟩
  | 245 => ⟨[], true⟩
  | 315 => ⟨[true, false, false], false⟩
  | 316 => ⟨[true, false], false⟩
  | 319 => ⟨[], true⟩
  | 320 => ⟨[true, false], false⟩
  | 325 => ⟨[true], false⟩
  | _ => ⟨[], false⟩
def KK : Cfg := ⟨fcOf, fun _ => none⟩
@[simp] theorem fc_main_main : KK.fc n_main_main = ⟨[], false⟩ := rfl
@[simp] theorem fc_gosem_cut : KK.fc n_gosem_cut = ⟨[], false⟩ := rfl
@[simp] theorem fc_gosem_cut_init : KK.fc n_gosem_cut_init = ⟨[], false⟩ := rfl
@[simp] theorem fc_law19_SyzygyIs : KK.fc n_law19_SyzygyIs = ⟨[], false⟩ := rfl
@[simp] theorem fc_law19_SyzygySchreyer : KK.fc n_law19_SyzygySchreyer = ⟨[], false⟩ := rfl
@[simp] theorem fc_law19_SyzygyErrors : KK.fc n_law19_SyzygyErrors = ⟨[], false⟩ := rfl
@[simp] theorem fc_law19_SyzygyExpresses : KK.fc n_law19_SyzygyExpresses = ⟨[], false⟩ := rfl
@[simp] theorem fc_law13_GroebnerMatchesReference : KK.fc n_law13_GroebnerMatchesReference = ⟨[], false⟩ := rfl
@[simp] theorem fc_law13_GroebnerHolds : KK.fc n_law13_GroebnerHolds = ⟨[], false⟩ := rfl
@[simp] theorem fc_law13_GroebnerMembers : KK.fc n_law13_GroebnerMembers = ⟨[], false⟩ := rfl
@[simp] theorem fc_law13_GroebnerUnique : KK.fc n_law13_GroebnerUnique = ⟨[], false⟩ := rfl
@[simp] theorem fc_law13_GroebnerReduces : KK.fc n_law13_GroebnerReduces = ⟨[], false⟩ := rfl
@[simp] theorem fc_law13_GroebnerPoints : KK.fc n_law13_GroebnerPoints = ⟨[], false⟩ := rfl
@[simp] theorem fc_law13_GroebnerLinear : KK.fc n_law13_GroebnerLinear = ⟨[], false⟩ := rfl
@[simp] theorem fc_law13_GroebnerExtends : KK.fc n_law13_GroebnerExtends = ⟨[], false⟩ := rfl
@[simp] theorem fc_law13_GroebnerOrders : KK.fc n_law13_GroebnerOrders = ⟨[], false⟩ := rfl
@[simp] theorem fc_law19_SyzygyGenerates : KK.fc n_law19_SyzygyGenerates = ⟨[], false⟩ := rfl
@[simp] theorem fc_law19_SyzygyPairs : KK.fc n_law19_SyzygyPairs = ⟨[], false⟩ := rfl
@[simp] theorem fc_law19_sanity : KK.fc n_law19_sanity = ⟨[], false⟩ := rfl
@[simp] theorem fc_ref13_Polys : KK.fc n_ref13_Polys = ⟨[], false⟩ := rfl
@[simp] theorem fc_law19_poly : KK.fc n_law19_poly = ⟨[], false⟩ := rfl
@[simp] theorem fc_ref06_Add : KK.fc n_ref06_Add = ⟨[], false⟩ := rfl
@[simp] theorem fc_ref06_By : KK.fc n_ref06_By = ⟨[], false⟩ := rfl
@[simp] theorem fc_ref06_Sub : KK.fc n_ref06_Sub = ⟨[], false⟩ := rfl
@[simp] theorem fc_syzygy_Is : KK.fc n_syzygy_Is = ⟨[], false⟩ := rfl
@[simp] theorem fc_ref19_Is : KK.fc n_ref19_Is = ⟨[], false⟩ := rfl
@[simp] theorem fc_ref05_Some : KK.fc n_ref05_Some = ⟨[], false⟩ := rfl
@[simp] theorem fc_ref13_Of : KK.fc n_ref13_Of = ⟨[], true⟩ := rfl
@[simp] theorem fc_ref06_Scale : KK.fc n_ref06_Scale = ⟨[], false⟩ := rfl
@[simp] theorem fc_ref02_Whole : KK.fc n_ref02_Whole = ⟨[], false⟩ := rfl
@[simp] theorem fc_syzygy_Schreyer : KK.fc n_syzygy_Schreyer = ⟨[], false⟩ := rfl
@[simp] theorem fc_ref19_Schreyer : KK.fc n_ref19_Schreyer = ⟨[], false⟩ := rfl
@[simp] theorem fc_ref06_SameList : KK.fc n_ref06_SameList = ⟨[], false⟩ := rfl
@[simp] theorem fc_ref05_Valid : KK.fc n_ref05_Valid = ⟨[], false⟩ := rfl
@[simp] theorem fc_ref06_Nonzero : KK.fc n_ref06_Nonzero = ⟨[], false⟩ := rfl
@[simp] theorem fc_ref12_IsBasis : KK.fc n_ref12_IsBasis = ⟨[], false⟩ := rfl
@[simp] theorem fc_syzygy_Express : KK.fc n_syzygy_Express = ⟨[], false⟩ := rfl
@[simp] theorem fc_ref19_Shaped : KK.fc n_ref19_Shaped = ⟨[], false⟩ := rfl
@[simp] theorem fc_ref19_Plus : KK.fc n_ref19_Plus = ⟨[], false⟩ := rfl
@[simp] theorem fc_ref06_ValidList : KK.fc n_ref06_ValidList = ⟨[], false⟩ := rfl
@[simp] theorem fc_ref19_Combined : KK.fc n_ref19_Combined = ⟨[], true⟩ := rfl
@[simp] theorem fc_law13_sanity : KK.fc n_law13_sanity = ⟨[], false⟩ := rfl
@[simp] theorem fc_groebner_Basis : KK.fc n_groebner_Basis = ⟨[], false⟩ := rfl
@[simp] theorem fc_law13_right : KK.fc n_law13_right = ⟨[], false⟩ := rfl
@[simp] theorem fc_groebner_Holds : KK.fc n_groebner_Holds = ⟨[], false⟩ := rfl
@[simp] theorem fc_ref13_Basis : KK.fc n_ref13_Basis = ⟨[], false⟩ := rfl
@[simp] theorem fc_ref06_Made : KK.fc n_ref06_Made = ⟨[], false⟩ := rfl
@[simp] theorem fc_law13_spoil : KK.fc n_law13_spoil = ⟨[], false⟩ := rfl
@[simp] theorem fc_ref13_Holds : KK.fc n_ref13_Holds = ⟨[], false⟩ := rfl
@[simp] theorem fc_ref13_Expressed : KK.fc n_ref13_Expressed = ⟨[], false⟩ := rfl
@[simp] theorem fc_law13_sum : KK.fc n_law13_sum = ⟨[], false⟩ := rfl
@[simp] theorem fc_ref12_Rest : KK.fc n_ref12_Rest = ⟨[], false⟩ := rfl
@[simp] theorem fc_ref06_Same : KK.fc n_ref06_Same = ⟨[], false⟩ := rfl
@[simp] theorem fc_groebner_Reduced : KK.fc n_groebner_Reduced = ⟨[], false⟩ := rfl
@[simp] theorem fc_ref02_Made : KK.fc n_ref02_Made = ⟨[], false⟩ := rfl
@[simp] theorem fc_ref06_Constant : KK.fc n_ref06_Constant = ⟨[], false⟩ := rfl
@[simp] theorem fc_ref06_Eval : KK.fc n_ref06_Eval = ⟨[], false⟩ := rfl
@[simp] theorem fc_ref02_Sign : KK.fc n_ref02_Sign = ⟨[], false⟩ := rfl
@[simp] theorem fc_ref13_Lines : KK.fc n_ref13_Lines = ⟨[], false⟩ := rfl
@[simp] theorem fc_ref11_Echelon : KK.fc n_ref11_Echelon = ⟨[], false⟩ := rfl
@[simp] theorem fc_ref06_X : KK.fc n_ref06_X = ⟨[], false⟩ := rfl
@[simp] theorem fc_ref06_Degree : KK.fc n_ref06_Degree = ⟨[], false⟩ := rfl
@[simp] theorem fc_ref06_Int : KK.fc n_ref06_Int = ⟨[], false⟩ := rfl
@[simp] theorem fc_ref05_Lex : KK.fc n_ref05_Lex = ⟨[], false⟩ := rfl
@[simp] theorem fc_groebner_Extend : KK.fc n_groebner_Extend = ⟨[], false⟩ := rfl
@[simp] theorem fc_ref06_List : KK.fc n_ref06_List = ⟨[], false⟩ := rfl
@[simp] theorem fc_syzygy_Of : KK.fc n_syzygy_Of = ⟨[], false⟩ := rfl
@[simp] theorem fc_ref19_Small : KK.fc n_ref19_Small = ⟨[], false⟩ := rfl
@[simp] theorem fc_ref19_Module : KK.fc n_ref19_Module = ⟨[], false⟩ := rfl
@[simp] theorem fc_ref19_Of : KK.fc n_ref19_Of = ⟨[], false⟩ := rfl
@[simp] theorem fc_ref19_Inside : KK.fc n_ref19_Inside = ⟨[], false⟩ := rfl
@[simp] theorem fc_ref08_Gcd : KK.fc n_ref08_Gcd = ⟨[], false⟩ := rfl
@[simp] theorem fc_ref08_Divide : KK.fc n_ref08_Divide = ⟨[], false⟩ := rfl
@[simp] theorem fc_ref05_Reverse : KK.fc n_ref05_Reverse = ⟨[], true⟩ := rfl
@[simp] theorem fc_ref04_Cmp : KK.fc n_ref04_Cmp = ⟨[], false⟩ := rfl
@[simp] theorem fc_ref02_Add : KK.fc n_ref02_Add = ⟨[], false⟩ := rfl
@[simp] theorem fc_ref06_Mul : KK.fc n_ref06_Mul = ⟨[], false⟩ := rfl
@[simp] theorem fc_division_Sum : KK.fc n_division_Sum = ⟨[], false⟩ := rfl
@[simp] theorem fc_ref12_Is : KK.fc n_ref12_Is = ⟨[], false⟩ := rfl
@[simp] theorem fc_ref05_Graded : KK.fc n_ref05_Graded = ⟨[], true⟩ := rfl
@[simp] theorem fc_ref05_Eliminating : KK.fc n_ref05_Eliminating = ⟨[], false⟩ := rfl
@[simp] theorem fc_ref13_polys : KK.fc n_ref13_polys = ⟨[], false⟩ := rfl
@[simp] theorem fc_ref13_finished : KK.fc n_ref13_finished = ⟨[], true⟩ := rfl
@[simp] theorem fc_ref13_closed : KK.fc n_ref13_closed = ⟨[true, false], false⟩ := rfl
@[simp] theorem fc_ref13_plain : KK.fc n_ref13_plain = ⟨[], true⟩ := rfl
@[simp] theorem fc_ref06_Times : KK.fc n_ref06_Times = ⟨[], false⟩ := rfl
@[simp] theorem fc_ref01_Of : KK.fc n_ref01_Of = ⟨[], false⟩ := rfl
@[simp] theorem fc_order_Valid : KK.fc n_order_Valid = ⟨[], false⟩ := rfl
@[simp] theorem fc_slices_ContainsFunc_api_Poly_api_Poly : KK.fc n_slices_ContainsFunc_api_Poly_api_Poly = ⟨[], false⟩ := rfl
@[simp] theorem fc_syzygy_Schreyer_1 : KK.fc n_syzygy_Schreyer_1 = ⟨[], false⟩ := rfl
@[simp] theorem fc_division_IsBasis : KK.fc n_division_IsBasis = ⟨[], false⟩ := rfl
@[simp] theorem fc_syzygy_leads : KK.fc n_syzygy_leads = ⟨[], false⟩ := rfl
@[simp] theorem fc_monomial_Lcm : KK.fc n_monomial_Lcm = ⟨[], false⟩ := rfl
@[simp] theorem fc_division_Spair : KK.fc n_division_Spair = ⟨[], false⟩ := rfl
@[simp] theorem fc_division_Divide : KK.fc n_division_Divide = ⟨[], false⟩ := rfl
@[simp] theorem fc_syzygy_vector_scaled : KK.fc n_syzygy_vector_scaled = ⟨[], true⟩ := rfl
@[simp] theorem fc_syzygy_constant : KK.fc n_syzygy_constant = ⟨[], false⟩ := rfl
@[simp] theorem fc_polynomial_Add : KK.fc n_polynomial_Add = ⟨[], false⟩ := rfl
@[simp] theorem fc_syzygy_quotient : KK.fc n_syzygy_quotient = ⟨[], false⟩ := rfl
@[simp] theorem fc_polynomial_Sub : KK.fc n_polynomial_Sub = ⟨[], false⟩ := rfl
@[simp] theorem fc_ref19_wrong : KK.fc n_ref19_wrong = ⟨[], false⟩ := rfl
@[simp] theorem fc_ref19_pair : KK.fc n_ref19_pair = ⟨[], true⟩ := rfl
@[simp] theorem fc_ref12_Spair : KK.fc n_ref12_Spair = ⟨[], false⟩ := rfl
@[simp] theorem fc_polynomial_Lead : KK.fc n_polynomial_Lead = ⟨[], false⟩ := rfl
@[simp] theorem fc_monomial_Mul : KK.fc n_monomial_Mul = ⟨[], false⟩ := rfl
@[simp] theorem fc_order_Cmp : KK.fc n_order_Cmp = ⟨[], false⟩ := rfl
@[simp] theorem fc_rational_Div : KK.fc n_rational_Div = ⟨[], false⟩ := rfl
@[simp] theorem fc_monomial_Quo : KK.fc n_monomial_Quo = ⟨[], false⟩ := rfl
@[simp] theorem fc_rational_Neg : KK.fc n_rational_Neg = ⟨[], false⟩ := rfl
@[simp] theorem fc_polynomial_Mul : KK.fc n_polynomial_Mul = ⟨[], false⟩ := rfl
@[simp] theorem fc_syzygy_vector_plus : KK.fc n_syzygy_vector_plus = ⟨[], true⟩ := rfl
@[simp] theorem fc_ref06_Valid : KK.fc n_ref06_Valid = ⟨[], false⟩ := rfl
@[simp] theorem fc_polynomial_Constant : KK.fc n_polynomial_Constant = ⟨[], false⟩ := rfl
@[simp] theorem fc_rational_Whole : KK.fc n_rational_Whole = ⟨[], false⟩ := rfl
@[simp] theorem fc_groebner_builder_add : KK.fc n_groebner_builder_add = ⟨[], false⟩ := rfl
@[simp] theorem fc_groebner_ordering_element : KK.fc n_groebner_ordering_element = ⟨[], false⟩ := rfl
@[simp] theorem fc_groebner_builder_complete : KK.fc n_groebner_builder_complete = ⟨[], false⟩ := rfl
@[simp] theorem fc_slices_Clone_api_Order_8_int : KK.fc n_slices_Clone_api_Order_8_int = ⟨[], false⟩ := rfl
@[simp] theorem fc_groebner_ordering_finish : KK.fc n_groebner_ordering_finish = ⟨[], false⟩ := rfl
@[simp] theorem fc_ref05_Same : KK.fc n_ref05_Same = ⟨[], false⟩ := rfl
@[simp] theorem fc_polynomial_Same : KK.fc n_polynomial_Same = ⟨[], false⟩ := rfl
@[simp] theorem fc_slices_EqualFunc_api_Poly_api_Poly_api_Poly_api_Poly : KK.fc n_slices_EqualFunc_api_Poly_api_Poly_api_Poly_api_Poly = ⟨[], false⟩ := rfl
@[simp] theorem fc_groebner_Holds_1 : KK.fc n_groebner_Holds_1 = ⟨[], false⟩ := rfl
@[simp] theorem fc_ref13_Elems : KK.fc n_ref13_Elems = ⟨[], false⟩ := rfl
@[simp] theorem fc_ref06_abs : KK.fc n_ref06_abs = ⟨[], false⟩ := rfl
@[simp] theorem fc_ref12_Reduced : KK.fc n_ref12_Reduced = ⟨[], false⟩ := rfl
@[simp] theorem fc_ref12_Div : KK.fc n_ref12_Div = ⟨[], true⟩ := rfl
@[simp] theorem fc_ref06_SameTerm : KK.fc n_ref06_SameTerm = ⟨[], false⟩ := rfl
@[simp] theorem fc_ref01_Add : KK.fc n_ref01_Add = ⟨[], false⟩ := rfl
@[simp] theorem fc_ref01_Mul : KK.fc n_ref01_Mul = ⟨[], false⟩ := rfl
@[simp] theorem fc_ref02_lowest : KK.fc n_ref02_lowest = ⟨[], false⟩ := rfl
@[simp] theorem fc_ref02_Mul : KK.fc n_ref02_Mul = ⟨[], false⟩ := rfl
@[simp] theorem fc_ref06_power : KK.fc n_ref06_power = ⟨[], false⟩ := rfl
@[simp] theorem fc_ref01_Sign : KK.fc n_ref01_Sign = ⟨[], false⟩ := rfl
@[simp] theorem fc_ref11_combined : KK.fc n_ref11_combined = ⟨[], false⟩ := rfl
@[simp] theorem fc_ref02_Neg : KK.fc n_ref02_Neg = ⟨[], false⟩ := rfl
@[simp] theorem fc_ref11_Lead : KK.fc n_ref11_Lead = ⟨[], false⟩ := rfl
@[simp] theorem fc_ref02_Inv : KK.fc n_ref02_Inv = ⟨[], false⟩ := rfl
@[simp] theorem fc_ref11_Zeros : KK.fc n_ref11_Zeros = ⟨[], false⟩ := rfl
@[simp] theorem fc_ref06_Var : KK.fc n_ref06_Var = ⟨[], false⟩ := rfl
@[simp] theorem fc_ref04_Degree : KK.fc n_ref04_Degree = ⟨[], false⟩ := rfl
@[simp] theorem fc_slices_Clone_api_Poly_api_Poly : KK.fc n_slices_Clone_api_Poly_api_Poly = ⟨[], false⟩ := rfl
@[simp] theorem fc_order_Reverse : KK.fc n_order_Reverse = ⟨[], true⟩ := rfl
@[simp] theorem fc_syzygy_Of_1 : KK.fc n_syzygy_Of_1 = ⟨[], false⟩ := rfl
@[simp] theorem fc_ref06_Uses : KK.fc n_ref06_Uses = ⟨[], false⟩ := rfl
@[simp] theorem fc_ref19_vector : KK.fc n_ref19_vector = ⟨[], false⟩ := rfl
@[simp] theorem fc_ref08_common : KK.fc n_ref08_common = ⟨[], false⟩ := rfl
@[simp] theorem fc_ref08_fits : KK.fc n_ref08_fits = ⟨[], false⟩ := rfl
@[simp] theorem fc_ref02_Div : KK.fc n_ref02_Div = ⟨[], false⟩ := rfl
@[simp] theorem fc_ref08_mul : KK.fc n_ref08_mul = ⟨[], false⟩ := rfl
@[simp] theorem fc_ref05_unit : KK.fc n_ref05_unit = ⟨[], false⟩ := rfl
@[simp] theorem fc_ref12_Sum : KK.fc n_ref12_Sum = ⟨[], false⟩ := rfl
@[simp] theorem fc_ref05_In : KK.fc n_ref05_In = ⟨[], false⟩ := rfl
@[simp] theorem fc_ref13_needless : KK.fc n_ref13_needless = ⟨[], false⟩ := rfl
@[simp] theorem fc_ref13_others : KK.fc n_ref13_others = ⟨[], false⟩ := rfl
@[simp] theorem fc_ref13_rest : KK.fc n_ref13_rest = ⟨[], false⟩ := rfl
@[simp] theorem fc_ref05_Cmp : KK.fc n_ref05_Cmp = ⟨[], false⟩ := rfl
@[simp] theorem fc_ref13_lead : KK.fc n_ref13_lead = ⟨[], false⟩ := rfl
@[simp] theorem fc_ref04_Gcd : KK.fc n_ref04_Gcd = ⟨[], false⟩ := rfl
@[simp] theorem fc_ref13_spair : KK.fc n_ref13_spair = ⟨[], false⟩ := rfl
@[simp] theorem fc_ref13_monic : KK.fc n_ref13_monic = ⟨[], false⟩ := rfl
@[simp] theorem fc_ref04_Mul : KK.fc n_ref04_Mul = ⟨[], false⟩ := rfl
@[simp] theorem fc_ref01_made : KK.fc n_ref01_made = ⟨[], false⟩ := rfl
@[simp] theorem fc_ref01_words : KK.fc n_ref01_words = ⟨[], false⟩ := rfl
@[simp] theorem fc_slices_IndexFunc_api_Poly_api_Poly : KK.fc n_slices_IndexFunc_api_Poly_api_Poly = ⟨[], false⟩ := rfl
@[simp] theorem fc_division_leadsOf : KK.fc n_division_leadsOf = ⟨[], false⟩ := rfl
@[simp] theorem fc_division_pairs : KK.fc n_division_pairs = ⟨[], false⟩ := rfl
@[simp] theorem fc_division_leadOf : KK.fc n_division_leadOf = ⟨[], false⟩ := rfl
@[simp] theorem fc_monomial_Degree : KK.fc n_monomial_Degree = ⟨[], false⟩ := rfl
@[simp] theorem fc_monomial_Gcd : KK.fc n_monomial_Gcd = ⟨[], false⟩ := rfl
@[simp] theorem fc_division_divide : KK.fc n_division_divide = ⟨[], false⟩ := rfl
@[simp] theorem fc_monomial_each : KK.fc n_monomial_each = ⟨[], false⟩ := rfl
@[simp] theorem fc_monomial_Lcm_1 : KK.fc n_monomial_Lcm_1 = ⟨[], false⟩ := rfl
@[simp] theorem fc_division_lead_under : KK.fc n_division_lead_under = ⟨[], false⟩ := rfl
@[simp] theorem fc_polynomial_Times : KK.fc n_polynomial_Times = ⟨[], false⟩ := rfl
@[simp] theorem fc_polynomial_merge : KK.fc n_polynomial_merge = ⟨[], false⟩ := rfl
@[simp] theorem fc_rational_Add : KK.fc n_rational_Add = ⟨[], false⟩ := rfl
@[simp] theorem fc_polynomial_Add_1 : KK.fc n_polynomial_Add_1 = ⟨[], false⟩ := rfl
@[simp] theorem fc_rational_Inv : KK.fc n_rational_Inv = ⟨[], false⟩ := rfl
@[simp] theorem fc_rational_Sub : KK.fc n_rational_Sub = ⟨[], false⟩ := rfl
@[simp] theorem fc_ref19_zero : KK.fc n_ref19_zero = ⟨[], false⟩ := rfl
@[simp] theorem fc_ref06_Lead : KK.fc n_ref06_Lead = ⟨[], false⟩ := rfl
@[simp] theorem fc_ref04_Lcm : KK.fc n_ref04_Lcm = ⟨[], false⟩ := rfl
@[simp] theorem fc_ref19_over : KK.fc n_ref19_over = ⟨[], false⟩ := rfl
@[simp] theorem fc_ref12_times : KK.fc n_ref12_times = ⟨[], false⟩ := rfl
@[simp] theorem fc_ref12_over : KK.fc n_ref12_over = ⟨[], false⟩ := rfl
@[simp] theorem fc_slices_MaxFunc_api_Poly_api_Term : KK.fc n_slices_MaxFunc_api_Poly_api_Term = ⟨[], false⟩ := rfl
@[simp] theorem fc_polynomial_Lead_1 : KK.fc n_polynomial_Lead_1 = ⟨[], false⟩ := rfl
@[simp] theorem fc_monomial_Mul_1 : KK.fc n_monomial_Mul_1 = ⟨[], false⟩ := rfl
@[simp] theorem fc_monomial_Valid : KK.fc n_monomial_Valid = ⟨[], false⟩ := rfl
@[simp] theorem fc_monomial_Cmp : KK.fc n_monomial_Cmp = ⟨[], false⟩ := rfl
@[simp] theorem fc_rational_New : KK.fc n_rational_New = ⟨[], false⟩ := rfl
@[simp] theorem fc_rational_product : KK.fc n_rational_product = ⟨[], false⟩ := rfl
@[simp] theorem fc_monomial_Divides : KK.fc n_monomial_Divides = ⟨[], false⟩ := rfl
@[simp] theorem fc_monomial_Quo_1 : KK.fc n_monomial_Quo_1 = ⟨[], false⟩ := rfl
@[simp] theorem fc_integer_Neg : KK.fc n_integer_Neg = ⟨[], false⟩ := rfl
@[simp] theorem fc_polynomial_sum_add : KK.fc n_polynomial_sum_add = ⟨[true, false, false], false⟩ := rfl
@[simp] theorem fc_rational_Mul : KK.fc n_rational_Mul = ⟨[], false⟩ := rfl
@[simp] theorem fc_polynomial_sum_poly : KK.fc n_polynomial_sum_poly = ⟨[], false⟩ := rfl
@[simp] theorem fc_slices_Clone_syzygy_vector_api_Poly : KK.fc n_slices_Clone_syzygy_vector_api_Poly = ⟨[], true⟩ := rfl
@[simp] theorem fc_ref02_Valid : KK.fc n_ref02_Valid = ⟨[], false⟩ := rfl
@[simp] theorem fc_ref04_Valid : KK.fc n_ref04_Valid = ⟨[], false⟩ := rfl
@[simp] theorem fc_rational_Sign : KK.fc n_rational_Sign = ⟨[], false⟩ := rfl
@[simp] theorem fc_rational_of : KK.fc n_rational_of = ⟨[], false⟩ := rfl
@[simp] theorem fc_integer_Of : KK.fc n_integer_Of = ⟨[], false⟩ := rfl
@[simp] theorem fc_slices_MinFunc_groebner_pair_groebner_pair : KK.fc n_slices_MinFunc_groebner_pair_groebner_pair = ⟨[], false⟩ := rfl
@[simp] theorem fc_groebner_builder_before : KK.fc n_groebner_builder_before = ⟨[], false⟩ := rfl
@[simp] theorem fc_slices_DeleteFunc_groebner_pair_groebner_pair : KK.fc n_slices_DeleteFunc_groebner_pair_groebner_pair = ⟨[], false⟩ := rfl
@[simp] theorem fc_groebner_builder_complete_1 : KK.fc n_groebner_builder_complete_1 = ⟨[], false⟩ := rfl
@[simp] theorem fc_groebner_builder_needless : KK.fc n_groebner_builder_needless = ⟨[], false⟩ := rfl
@[simp] theorem fc_groebner_combine : KK.fc n_groebner_combine = ⟨[], false⟩ := rfl
@[simp] theorem fc_groebner_ordering_reduce : KK.fc n_groebner_ordering_reduce = ⟨[], false⟩ := rfl
@[simp] theorem fc_slices_Clone_groebner_element_groebner_element : KK.fc n_slices_Clone_groebner_element_groebner_element = ⟨[], false⟩ := rfl
@[simp] theorem fc_slices_SortStableFunc_groebner_element_groebner_element : KK.fc n_slices_SortStableFunc_groebner_element_groebner_element = ⟨[], false⟩ := rfl
@[simp] theorem fc_groebner_ordering_finish_1 : KK.fc n_groebner_ordering_finish_1 = ⟨[], false⟩ := rfl
@[simp] theorem fc_groebner_ordering_compare : KK.fc n_groebner_ordering_compare = ⟨[], false⟩ := rfl
@[simp] theorem fc_slices_ContainsFunc_groebner_element_groebner_element : KK.fc n_slices_ContainsFunc_groebner_element_groebner_element = ⟨[], false⟩ := rfl
@[simp] theorem fc_groebner_ordering_finish_2 : KK.fc n_groebner_ordering_finish_2 = ⟨[], false⟩ := rfl
@[simp] theorem fc_slices_Delete_groebner_element_groebner_element : KK.fc n_slices_Delete_groebner_element_groebner_element = ⟨[], false⟩ := rfl
@[simp] theorem fc_polynomial_Cmp : KK.fc n_polynomial_Cmp = ⟨[], false⟩ := rfl
@[simp] theorem fc_ref02_Same : KK.fc n_ref02_Same = ⟨[], false⟩ := rfl
@[simp] theorem fc_ref04_Divides : KK.fc n_ref04_Divides = ⟨[], false⟩ := rfl
@[simp] theorem fc_ref12_first : KK.fc n_ref12_first = ⟨[], false⟩ := rfl
@[simp] theorem fc_ref01_added : KK.fc n_ref01_added = ⟨[], false⟩ := rfl
@[simp] theorem fc_ref01_compared : KK.fc n_ref01_compared = ⟨[], false⟩ := rfl
@[simp] theorem fc_ref01_taken : KK.fc n_ref01_taken = ⟨[], false⟩ := rfl
@[simp] theorem fc_ref01_times : KK.fc n_ref01_times = ⟨[], true⟩ := rfl
@[simp] theorem fc_ref01_Gcd : KK.fc n_ref01_Gcd = ⟨[], false⟩ := rfl
@[simp] theorem fc_ref01_Neg : KK.fc n_ref01_Neg = ⟨[], false⟩ := rfl
@[simp] theorem fc_ref02_exact : KK.fc n_ref02_exact = ⟨[], false⟩ := rfl
@[simp] theorem fc_ref02_New : KK.fc n_ref02_New = ⟨[], false⟩ := rfl
@[simp] theorem fc_order_Graded : KK.fc n_order_Graded = ⟨[], true⟩ := rfl
@[simp] theorem fc_order_unit : KK.fc n_order_unit = ⟨[], false⟩ := rfl
@[simp] theorem fc_ref04_Support : KK.fc n_ref04_Support = ⟨[], false⟩ := rfl
@[simp] theorem fc_ref08_Normal : KK.fc n_ref08_Normal = ⟨[], false⟩ := rfl
@[simp] theorem fc_ref08_first : KK.fc n_ref08_first = ⟨[], false⟩ := rfl
@[simp] theorem fc_ref08_one : KK.fc n_ref08_one = ⟨[], false⟩ := rfl
@[simp] theorem fc_ref08_content : KK.fc n_ref08_content = ⟨[], false⟩ := rfl
@[simp] theorem fc_ref08_over : KK.fc n_ref08_over = ⟨[], false⟩ := rfl
@[simp] theorem fc_ref08_Degree : KK.fc n_ref08_Degree = ⟨[], false⟩ := rfl
@[simp] theorem fc_ref08_remainder : KK.fc n_ref08_remainder = ⟨[], false⟩ := rfl
@[simp] theorem fc_ref13_minus : KK.fc n_ref13_minus = ⟨[], false⟩ := rfl
@[simp] theorem fc_ref05_weight : KK.fc n_ref05_weight = ⟨[], false⟩ := rfl
@[simp] theorem fc_ref04_Quo : KK.fc n_ref04_Quo = ⟨[], false⟩ := rfl
@[simp] theorem fc_ref13_scale : KK.fc n_ref13_scale = ⟨[], false⟩ := rfl
@[simp] theorem fc_ref01_trim : KK.fc n_ref01_trim = ⟨[], true⟩ := rfl
@[simp] theorem fc_division_pairs_1 : KK.fc n_division_pairs_1 = ⟨[], false⟩ := rfl
@[simp] theorem fc_monomial_Gcd_1 : KK.fc n_monomial_Gcd_1 = ⟨[], false⟩ := rfl
@[simp] theorem fc_rational_lowest : KK.fc n_rational_lowest = ⟨[], false⟩ := rfl
@[simp] theorem fc_integer_Add : KK.fc n_integer_Add = ⟨[], false⟩ := rfl
@[simp] theorem fc_integer_Sub : KK.fc n_integer_Sub = ⟨[], false⟩ := rfl
@[simp] theorem fc_slices_Compare_int_int : KK.fc n_slices_Compare_int_int = ⟨[], false⟩ := rfl
@[simp] theorem fc_integer_Sign : KK.fc n_integer_Sign = ⟨[], false⟩ := rfl
@[simp] theorem fc_integer_Mul : KK.fc n_integer_Mul = ⟨[], false⟩ := rfl
@[simp] theorem fc_integer_nat_signed : KK.fc n_integer_nat_signed = ⟨[], false⟩ := rfl
@[simp] theorem fc_slices_SortFunc_api_Poly_api_Term : KK.fc n_slices_SortFunc_api_Poly_api_Term = ⟨[], false⟩ := rfl
@[simp] theorem fc_polynomial_sum_poly_1 : KK.fc n_polynomial_sum_poly_1 = ⟨[], false⟩ := rfl
@[simp] theorem fc_ref01_Valid : KK.fc n_ref01_Valid = ⟨[], false⟩ := rfl
@[simp] theorem fc_ref01_Cmp : KK.fc n_ref01_Cmp = ⟨[], false⟩ := rfl
@[simp] theorem fc_integer_natural : KK.fc n_integer_natural = ⟨[], false⟩ := rfl
@[simp] theorem fc_cmp_Or_int : KK.fc n_cmp_Or_int = ⟨[], false⟩ := rfl
@[simp] theorem fc_cmp_Compare_int : KK.fc n_cmp_Compare_int = ⟨[], false⟩ := rfl
@[simp] theorem fc_slices_IndexFunc_groebner_pair_groebner_pair : KK.fc n_slices_IndexFunc_groebner_pair_groebner_pair = ⟨[], false⟩ := rfl
@[simp] theorem fc_groebner_builder_open : KK.fc n_groebner_builder_open = ⟨[], false⟩ := rfl
@[simp] theorem fc_groebner_combine_1 : KK.fc n_groebner_combine_1 = ⟨[], false⟩ := rfl
@[simp] theorem fc_slices_stableCmpFunc_groebner_element : KK.fc n_slices_stableCmpFunc_groebner_element = ⟨[], false⟩ := rfl
@[simp] theorem fc_slices_IndexFunc_groebner_element_groebner_element : KK.fc n_slices_IndexFunc_groebner_element_groebner_element = ⟨[], false⟩ := rfl
@[simp] theorem fc_slices_CompareFunc_api_Poly_api_Poly_api_Term_api_Term : KK.fc n_slices_CompareFunc_api_Poly_api_Poly_api_Term_api_Term = ⟨[], false⟩ := rfl
@[simp] theorem fc_polynomial_Cmp_1 : KK.fc n_polynomial_Cmp_1 = ⟨[], false⟩ := rfl
@[simp] theorem fc_rational_Cmp : KK.fc n_rational_Cmp = ⟨[], false⟩ := rfl
@[simp] theorem fc_ref02_same : KK.fc n_ref02_same = ⟨[], false⟩ := rfl
@[simp] theorem fc_ref01_word : KK.fc n_ref01_word = ⟨[], false⟩ := rfl
@[simp] theorem fc_ref01_common : KK.fc n_ref01_common = ⟨[], false⟩ := rfl
@[simp] theorem fc_ref01_DivMod : KK.fc n_ref01_DivMod = ⟨[], false⟩ := rfl
@[simp] theorem fc_order_ones : KK.fc n_order_ones = ⟨[], false⟩ := rfl
@[simp] theorem fc_ref04_Bit : KK.fc n_ref04_Bit = ⟨[], false⟩ := rfl
@[simp] theorem fc_ref08_Coeffs : KK.fc n_ref08_Coeffs = ⟨[], false⟩ := rfl
@[simp] theorem fc_ref08_Shift : KK.fc n_ref08_Shift = ⟨[], false⟩ := rfl
@[simp] theorem fc_integer_Gcd : KK.fc n_integer_Gcd = ⟨[], false⟩ := rfl
@[simp] theorem fc_integer_DivMod : KK.fc n_integer_DivMod = ⟨[], false⟩ := rfl
@[simp] theorem fc_integer_nat_add : KK.fc n_integer_nat_add = ⟨[], false⟩ := rfl
@[simp] theorem fc_integer_nat_cmp : KK.fc n_integer_nat_cmp = ⟨[], false⟩ := rfl
@[simp] theorem fc_integer_nat_sub : KK.fc n_integer_nat_sub = ⟨[], false⟩ := rfl
@[simp] theorem fc_integer_nat_mul : KK.fc n_integer_nat_mul = ⟨[], false⟩ := rfl
@[simp] theorem fc_integer_nat_norm : KK.fc n_integer_nat_norm = ⟨[], false⟩ := rfl
@[simp] theorem fc_slices_Clone_integer_nat_uint32 : KK.fc n_slices_Clone_integer_nat_uint32 = ⟨[], false⟩ := rfl
@[simp] theorem fc_slices_pdqsortCmpFunc_api_Term : KK.fc n_slices_pdqsortCmpFunc_api_Term = ⟨[], false⟩ := rfl
@[simp] theorem fc_math_bits_Len : KK.fc n_math_bits_Len = ⟨[], false⟩ := rfl
@[simp] theorem fc_cmp_isNaN_int : KK.fc n_cmp_isNaN_int = ⟨[], false⟩ := rfl
@[simp] theorem fc_slices_ContainsFunc_groebner_pair_groebner_pair : KK.fc n_slices_ContainsFunc_groebner_pair_groebner_pair = ⟨[], false⟩ := rfl
@[simp] theorem fc_groebner_builder_open_1 : KK.fc n_groebner_builder_open_1 = ⟨[], false⟩ := rfl
@[simp] theorem fc_slices_insertionSortCmpFunc_groebner_element : KK.fc n_slices_insertionSortCmpFunc_groebner_element = ⟨[], false⟩ := rfl
@[simp] theorem fc_slices_symMergeCmpFunc_groebner_element : KK.fc n_slices_symMergeCmpFunc_groebner_element = ⟨[], false⟩ := rfl
@[simp] theorem fc_integer_Cmp : KK.fc n_integer_Cmp = ⟨[], false⟩ := rfl
@[simp] theorem fc_ref01_euclid : KK.fc n_ref01_euclid = ⟨[], false⟩ := rfl
@[simp] theorem fc_ref01_number : KK.fc n_ref01_number = ⟨[], false⟩ := rfl
@[simp] theorem fc_ref01_divided : KK.fc n_ref01_divided = ⟨[], false⟩ := rfl
@[simp] theorem fc_integer_nat_div : KK.fc n_integer_nat_div = ⟨[], false⟩ := rfl
@[simp] theorem fc_math_bits_Add32 : KK.fc n_math_bits_Add32 = ⟨[], false⟩ := rfl
@[simp] theorem fc_integer_nat_at : KK.fc n_integer_nat_at = ⟨[], false⟩ := rfl
@[simp] theorem fc_cmp_Compare_uint32 : KK.fc n_cmp_Compare_uint32 = ⟨[], false⟩ := rfl
@[simp] theorem fc_math_bits_Sub32 : KK.fc n_math_bits_Sub32 = ⟨[], false⟩ := rfl
@[simp] theorem fc_slices_insertionSortCmpFunc_api_Term : KK.fc n_slices_insertionSortCmpFunc_api_Term = ⟨[], false⟩ := rfl
@[simp] theorem fc_slices_heapSortCmpFunc_api_Term : KK.fc n_slices_heapSortCmpFunc_api_Term = ⟨[], false⟩ := rfl
@[simp] theorem fc_slices_breakPatternsCmpFunc_api_Term : KK.fc n_slices_breakPatternsCmpFunc_api_Term = ⟨[], false⟩ := rfl
@[simp] theorem fc_slices_choosePivotCmpFunc_api_Term : KK.fc n_slices_choosePivotCmpFunc_api_Term = ⟨[], false⟩ := rfl
@[simp] theorem fc_slices_reverseRangeCmpFunc_api_Term : KK.fc n_slices_reverseRangeCmpFunc_api_Term = ⟨[], false⟩ := rfl
@[simp] theorem fc_slices_partialInsertionSortCmpFunc_api_Term : KK.fc n_slices_partialInsertionSortCmpFunc_api_Term = ⟨[], false⟩ := rfl
@[simp] theorem fc_slices_partitionEqualCmpFunc_api_Term : KK.fc n_slices_partitionEqualCmpFunc_api_Term = ⟨[], false⟩ := rfl
@[simp] theorem fc_slices_partitionCmpFunc_api_Term : KK.fc n_slices_partitionCmpFunc_api_Term = ⟨[], false⟩ := rfl
@[simp] theorem fc_math_bits_Len32 : KK.fc n_math_bits_Len32 = ⟨[], false⟩ := rfl
@[simp] theorem fc_math_bits_Len64 : KK.fc n_math_bits_Len64 = ⟨[], false⟩ := rfl
@[simp] theorem fc_slices_rotateCmpFunc_groebner_element : KK.fc n_slices_rotateCmpFunc_groebner_element = ⟨[], false⟩ := rfl
@[simp] theorem fc_ref01_shortly : KK.fc n_ref01_shortly = ⟨[], false⟩ := rfl
@[simp] theorem fc_ref01_guess : KK.fc n_ref01_guess = ⟨[], false⟩ := rfl
@[simp] theorem fc_ref01_lessen : KK.fc n_ref01_lessen = ⟨[true, false, false], false⟩ := rfl
@[simp] theorem fc_ref01_restore : KK.fc n_ref01_restore = ⟨[true, false], false⟩ := rfl
@[simp] theorem fc_integer_nat_word : KK.fc n_integer_nat_word = ⟨[], false⟩ := rfl
@[simp] theorem fc_math_bits_LeadingZeros32 : KK.fc n_math_bits_LeadingZeros32 = ⟨[], false⟩ := rfl
@[simp] theorem fc_integer_nat_shl : KK.fc n_integer_nat_shl = ⟨[], true⟩ := rfl
@[simp] theorem fc_integer_nat_reduce : KK.fc n_integer_nat_reduce = ⟨[true, false], false⟩ := rfl
@[simp] theorem fc_integer_nat_shr : KK.fc n_integer_nat_shr = ⟨[], false⟩ := rfl
@[simp] theorem fc_cmp_isNaN_uint32 : KK.fc n_cmp_isNaN_uint32 = ⟨[], false⟩ := rfl
@[simp] theorem fc_slices_siftDownCmpFunc_api_Term : KK.fc n_slices_siftDownCmpFunc_api_Term = ⟨[], false⟩ := rfl
@[simp] theorem fc_slices_nextPowerOfTwo : KK.fc n_slices_nextPowerOfTwo = ⟨[], false⟩ := rfl
@[simp] theorem fc_slices_xorshift_Next : KK.fc n_slices_xorshift_Next = ⟨[true], false⟩ := rfl
@[simp] theorem fc_slices_medianAdjacentCmpFunc_api_Term : KK.fc n_slices_medianAdjacentCmpFunc_api_Term = ⟨[], false⟩ := rfl
@[simp] theorem fc_slices_medianCmpFunc_api_Term : KK.fc n_slices_medianCmpFunc_api_Term = ⟨[], false⟩ := rfl
@[simp] theorem fc_slices_swapRangeCmpFunc_groebner_element : KK.fc n_slices_swapRangeCmpFunc_groebner_element = ⟨[], false⟩ := rfl
@[simp] theorem fc_math_bits_Div32 : KK.fc n_math_bits_Div32 = ⟨[], false⟩ := rfl
@[simp] theorem fc_slices_order2CmpFunc_api_Term : KK.fc n_slices_order2CmpFunc_api_Term = ⟨[], false⟩ := rfl
@[simp] theorem fc_runtime_boundsError_Error : KK.fc n_runtime_boundsError_Error = ⟨[], false⟩ := rfl
@[simp] theorem fc_runtime_boundsError_RuntimeError : KK.fc n_runtime_boundsError_RuntimeError = ⟨[], false⟩ := rfl
@[simp] theorem fc_runtime_errorString_Error : KK.fc n_runtime_errorString_Error = ⟨[], false⟩ := rfl
@[simp] theorem fc_runtime_errorString_RuntimeError : KK.fc n_runtime_errorString_RuntimeError = ⟨[], false⟩ := rfl
@[simp] theorem fc_runtime_plainError_Error : KK.fc n_runtime_plainError_Error = ⟨[], false⟩ := rfl
@[simp] theorem fc_runtime_plainError_RuntimeError : KK.fc n_runtime_plainError_RuntimeError = ⟨[], false⟩ := rfl
@[simp] theorem fc_runtime_errorAddressString_Error : KK.fc n_runtime_errorAddressString_Error = ⟨[], false⟩ := rfl
@[simp] theorem fc_runtime_errorAddressString_RuntimeError : KK.fc n_runtime_errorAddressString_RuntimeError = ⟨[], false⟩ := rfl
@[simp] theorem fc_runtime_TypeAssertionError_Error : KK.fc n_runtime_TypeAssertionError_Error = ⟨[], false⟩ := rfl
@[simp] theorem fc_runtime_TypeAssertionError_RuntimeError : KK.fc n_runtime_TypeAssertionError_RuntimeError = ⟨[], false⟩ := rfl
@[simp] theorem fc_runtime_PanicNilError_Error : KK.fc n_runtime_PanicNilError_Error = ⟨[], false⟩ := rfl
@[simp] theorem fc_runtime_PanicNilError_RuntimeError : KK.fc n_runtime_PanicNilError_RuntimeError = ⟨[], false⟩ := rfl
@[simp] theorem fc_internal_abi_Type_Align : KK.fc n_internal_abi_Type_Align = ⟨[], false⟩ := rfl
@[simp] theorem fc_internal_runtime_maps_unhashableTypeError_Error : KK.fc n_internal_runtime_maps_unhashableTypeError_Error = ⟨[], false⟩ := rfl
@[simp] theorem fc_internal_runtime_maps_unhashableTypeError_RuntimeError : KK.fc n_internal_runtime_maps_unhashableTypeError_RuntimeError = ⟨[], false⟩ := rfl
@[simp] theorem fc_api_Errno_Error : KK.fc n_api_Errno_Error = ⟨[], false⟩ := rfl
@[simp] theorem fc_errors_errorString_Error : KK.fc n_errors_errorString_Error = ⟨[], false⟩ := rfl
@[simp] theorem fc_internal_abi_Kind_String : KK.fc n_internal_abi_Kind_String = ⟨[], false⟩ := rfl
end Go.Ev
