/- Parts of the proof of the statement: EvPoly, EvDefs, EvTr, EvRel, EvFrame, EvDeep, EvSym, EvPure, EvOps, EvNew, EvRow, EvStore, EvAppend, EvMap, EvEqS, EvOne. -/
import GoSem.Core.Code
import GoSem.Core.View
import GoSem.Core.Layout
import GoSem.Op.Equal
import GoSem.Core.World
import GoSem.Machine.Frame
import Derived.Laws.Bits64
import Derived.Laws.BitsAllLaws
import Derived.Calls
import Derived.Laws.Cells
import Derived.Laws.Small
import Derived.ChangeKeysEq
import Derived.Laws.Append
import Derived.Laws.Tables
import Derived.Laws.CopyRow
import Derived.Laws.StructEq
set_option linter.unusedVariables false
set_option linter.unusedSimpArgs false
/- Polynomials in variables from 1 to 32768: integers of which only this is known. -/
namespace Go.Ev

abbrev Pl := List (List Nat × Int)

namespace Pl

def top : Int := 32768

def prod (r : Nat → Int) : List Nat → Int
  | [] => 1
  | i :: m => r i * prod r m

def eval (r : Nat → Int) : Pl → Int
  | [] => 0
  | (m, c) :: p => c * prod r m + eval r p

def less : List Nat → List Nat → Bool
  | [], [] => false
  | [], _ :: _ => true
  | _ :: _, [] => false
  | a :: x, b :: y => if a < b then true else if b < a then false else less x y

def ins (m : List Nat) (c : Int) : Pl → Pl
  | [] => if c = 0 then [] else [(m, c)]
  | (n, d) :: p => if m = n then (if c + d = 0 then p else (n, c + d) :: p) else if less m n then (if c = 0 then (n, d) :: p else (m, c) :: (n, d) :: p) else (n, d) :: ins m c p

def add (p : Pl) : Pl → Pl
  | [] => p
  | (m, c) :: q => ins m c (add p q)

def neg : Pl → Pl
  | [] => []
  | (m, c) :: p => (m, -c) :: neg p

def sub (p q : Pl) : Pl := add p (neg q)

def put (i : Nat) : List Nat → List Nat
  | [] => [i]
  | j :: m => if i ≤ j then i :: j :: m else j :: put i m

def join : List Nat → List Nat → List Nat
  | [], m => m
  | i :: n, m => put i (join n m)

def mul1 (n : List Nat) (k : Int) : Pl → Pl
  | [] => []
  | (m, c) :: p => ins (join n m) (k * c) (mul1 n k p)

def mul (p : Pl) : Pl → Pl
  | [] => []
  | (n, k) :: q => add (mul1 n k p) (mul p q)

def con (c : Int) : Pl := if c = 0 then [] else [([], c)]

def lo : Pl → Int
  | [] => 0
  | (m, c) :: p => (if 0 ≤ c then c else c * top ^ m.length) + lo p

def hi : Pl → Int
  | [] => 0
  | (m, c) :: p => (if 0 ≤ c then c * top ^ m.length else c) + hi p

/-- The values of the variables. -/
def Ok (r : Nat → Int) : Prop := ∀ i, 1 ≤ r i ∧ r i ≤ top

section
variable {r : Nat → Int}

theorem eval_ins (m : List Nat) (c : Int) : ∀ p, eval r (ins m c p) = c * prod r m + eval r p
  | [] => by
    unfold ins
    split
    · rename_i h; subst h; simp [eval]
    · simp [eval]
  | (n, d) :: p => by
    unfold ins
    split
    · rename_i h; subst h
      split
      · rename_i h0
        have e : c * prod r m + (d * prod r m + eval r p) = (c + d) * prod r m + eval r p := by rw [Int.add_mul]; omega
        simp only [eval]; rw [e, h0]; simp
      · simp only [eval, Int.add_mul]; omega
    · split
      · split
        · rename_i h0; subst h0; simp [eval]
        · simp [eval]
      · simp only [eval]; rw [eval_ins m c p]; omega

theorem eval_add (p : Pl) : ∀ q, eval r (add p q) = eval r p + eval r q
  | [] => by simp [add, eval]
  | (m, c) :: q => by simp only [add, eval]; rw [eval_ins, eval_add p q]; omega

theorem eval_neg : ∀ p, eval r (neg p) = - eval r p
  | [] => by simp [neg, eval]
  | (m, c) :: p => by simp only [neg, eval]; rw [eval_neg p, Int.neg_mul]; omega

theorem eval_sub (p q : Pl) : eval r (sub p q) = eval r p - eval r q := by unfold sub; rw [eval_add, eval_neg]; omega

theorem prod_put (i : Nat) : ∀ m, prod r (put i m) = r i * prod r m
  | [] => by simp [put, prod]
  | j :: m => by
    unfold put
    split
    · simp [prod]
    · simp only [prod]; rw [prod_put i m, ← Int.mul_assoc, ← Int.mul_assoc, Int.mul_comm (r j)]

theorem prod_join : ∀ n m, prod r (join n m) = prod r n * prod r m
  | [], m => by simp [join, prod]
  | i :: n, m => by simp only [join, prod]; rw [prod_put, prod_join n m, Int.mul_assoc]

theorem eval_mul1 (n : List Nat) (k : Int) : ∀ p, eval r (mul1 n k p) = k * prod r n * eval r p
  | [] => by simp [mul1, eval]
  | (m, c) :: p => by
    simp only [mul1, eval]
    rw [eval_ins, eval_mul1 n k p, prod_join, Int.mul_add]
    congr 1
    rw [Int.mul_assoc, Int.mul_assoc, Int.mul_left_comm c]

theorem eval_mul (p : Pl) : ∀ q, eval r (mul p q) = eval r p * eval r q
  | [] => by simp [mul, eval]
  | (n, k) :: q => by
    simp only [mul, eval]
    rw [eval_add, eval_mul1, eval_mul p q, Int.mul_add, Int.mul_comm (k * prod r n)]

theorem eval_con (c : Int) : eval r (con c) = c := by
  unfold con
  split
  · rename_i h; subst h; rfl
  · simp [eval, prod]

theorem prod_ok (h : Ok r) : ∀ m, 1 ≤ prod r m ∧ prod r m ≤ top ^ m.length
  | [] => by simp [prod]
  | i :: m => by
    obtain ⟨h1, h2⟩ := prod_ok h m
    obtain ⟨h3, h4⟩ := h i
    simp only [prod, List.length_cons]
    rw [Int.pow_succ, Int.mul_comm (top ^ m.length)]
    constructor
    · calc (1 : Int) = 1 * 1 := by simp
        _ ≤ r i * prod r m := Int.mul_le_mul h3 h1 (by decide) (Int.le_trans (by decide) h3)
    · exact Int.mul_le_mul h4 h2 (Int.le_trans (by decide) h1) (by decide)

theorem bounds (h : Ok r) : ∀ p, lo p ≤ eval r p ∧ eval r p ≤ hi p
  | [] => by simp [lo, hi, eval]
  | (m, c) :: p => by
    obtain ⟨h1, h2⟩ := bounds h p
    obtain ⟨h3, h4⟩ := prod_ok h m
    simp only [lo, hi, eval]
    by_cases hc : 0 ≤ c
    · simp only [hc, if_true]
      have e1 : c * 1 ≤ c * prod r m := Int.mul_le_mul_of_nonneg_left h3 hc
      have e2 : c * prod r m ≤ c * top ^ m.length := Int.mul_le_mul_of_nonneg_left h4 hc
      omega
    · simp only [hc, if_false]
      have hc' : c ≤ 0 := by omega
      have e1 : c * prod r m ≤ c * 1 := Int.mul_le_mul_of_nonpos_left hc' h3
      have e2 : c * top ^ m.length ≤ c * prod r m := Int.mul_le_mul_of_nonpos_left hc' h4
      omega
end
end Pl
end Go.Ev

/- The definitions of an abstract interpreter for the model's code: values are immutable trees, only what a running function makes has an identity. Nothing is proved here. -/
namespace Go.Ev

/-- A tree keyed by numbers. -/
inductive Tr (α : Type) where
  | leaf
  | node (l : Tr α) (x : Option α) (r : Tr α)
  deriving Inhabited

def Tr.get {α : Type} : Tr α → Nat → Option α
  | .leaf, _ => none
  | .node l x r, n => if n = 0 then x else if n % 2 = 1 then l.get (n / 2) else r.get (n / 2 - 1)

def Tr.setF {α : Type} : Nat → Tr α → Nat → α → Tr α
  | 0, t, _, _ => t
  | f + 1, .leaf, n, a =>
    if n = 0 then .node .leaf (some a) .leaf
    else if n % 2 = 1 then .node (Tr.setF f .leaf (n / 2) a) none .leaf else .node .leaf none (Tr.setF f .leaf (n / 2 - 1) a)
  | f + 1, .node l x r, n, a =>
    if n = 0 then .node l (some a) r
    else if n % 2 = 1 then .node (Tr.setF f l (n / 2) a) x r else .node l x (Tr.setF f r (n / 2 - 1) a)

/-- Deep values. -/
inductive DV where
  | b (v : Bool)
  | i (k : IntKind) (n : Int)
  | nilfn
  | nil
  | sl (n : Nat) (cs : List DV)
  | ref (h e off n : Nat)
  | ptr (h e off : Nat)
  | rop (cs : List DV)
  | fn (f : Nat) (caps : List DV)
  | mref (h e : Nat)
  | msl (es : List DV)
  | agg (cs : List DV)
  | tup (vs : List DV)
  | own (k sz : Nat) (cs : List DV) (off n : Nat)
  | x (k : IntKind) (p : Pl)
  | u (k : IntKind) (l h : Int)
  | non
  | emp
  | refc (h e off n c : Nat)
  | bf (f : Nat) (first : List DV)
  deriving Inhabited

/-- An object: kind 0 a row of elements, 1 a map, 2 a variable; 3: given up. -/
structure Ob where
  k : Nat
  sz : Nat
  cs : List DV
  deriving Inhabited

structure St where
  v : Tr DV
  o : Tr (List Ob)
  z : List (Nat × Nat)
  deriving Inhabited

inductive Opd where
  | t (n : Nat)
  | c (d : DV)
  deriving Inhabited

inductive I where
  | mv (d : Nat) (x : Opd)
  | pick (d : Nat) (c a b : Opd)
  | bin (d : Nat) (op : BinOp) (x y : Opd)
  | un (d : Nat) (op : UnOp) (x : Opd)
  | conv (d : Nat) (k : IntKind) (x : Opd)
  | len (d : Nat) (x : Opd)
  | mnx (d : Nat) (mx : Bool) (x y : Opd)
  | ext (d : Nat) (ix : Nat) (x : Opd)
  | fld (d : Nat) (off n : Nat) (agg : Bool) (x : Opd)
  | idx (d : Nat) (cnt sz : Nat) (agg : Bool) (x i : Opd)
  | build (d : Nat) (zero : List DV) (parts : List (Nat × Nat × Opd))
  | faddr (d : Nat) (off : Nat) (x : Opd)
  | iaddrA (d : Nat) (cnt sz : Nat) (x i : Opd)
  | iaddrS (d : Nat) (sz : Nat) (x i : Opd)
  | load (d : Nat) (n : Nat) (agg : Bool) (x : Opd)
  | store (n : Nat) (x y : Opd)
  | alloc (d : Nat) (zero : List DV)
  | box (d : Nat) (n : Nat) (x : Opd)
  | bslice (d : Nat) (cnt sz : Nat) (zero : List DV) (parts : List (Nat × Nat × Opd))
  | mkslice (d : Nat) (sz : Nat) (zero : List DV) (l c : Opd)
  | append (d : Nat) (sz bytes : Nat) (x y : Opd)
  | slice (d : Nat) (sz : Nat) (x : Opd) (lo hi mx : Option Opd)
  | sliceA (d : Nat) (n : Nat) (x : Opd)
  | mkmap (d : Nat)
  | lookup (d : Nat) (ksz : Nat) (zero : DV) (x k : Opd) (ok : Bool)
  | mupd (ksz : Nat) (x k v : Opd)
  | mkfn (d : Nat) (f : Nat) (caps : List Opd)
  | call (d : Option Nat) (f : Nat) (args : List Opd)
  | callv (d : Option Nat) (g : Opd) (args : List Opd)
  | idxc (d : Nat) (tbl : List Nat) (i : Opd)
  | beq (d : Nat) (ne : Bool) (x y : Opd)
  | eqa (d : Nat) (n : Nat) (ne : Bool) (x y : Opd)
  | isnil (d : Nat) (ne : Bool) (x : Opd)
  | mkbf (d : Nat) (f : Nat) (first : List Opd)
  | clear (sz : Nat) (zero : List DV) (x : Opd)
  | cut (d : Nat) (sz : Nat) (x hi : Opd)
  | appendC (d : Nat) (sz bytes : Nat) (x y : Opd)
  | fail (d : Option Nat)
  deriving Inhabited

/-- An instruction, with its guard: the slot that is asked, the answer that is wanted, the slot that is cleared otherwise. -/
structure Ins where
  g : Option (Nat × Bool × Nat)
  i : I
  deriving Inhabited

inductive C where
  | skip
  | reg (ops : List Ins)
  | regD (b : List Nat) (ops : List Ins)
  | seq (a b : C)
  | cond (c : Opd) (a b : C)
  | block (id : Nat) (c : C)
  | loop (c : C)
  | exit (id : Nat)
  | ret
  | scope (c : C)
  | fail
  deriving Inhabited

/-- How a function is called: which parameters are handed on with their identity, whether the result keeps its identity. -/
structure FC where
  byref : List Bool
  own : Bool
  deriving Inhabited

inductive RV where
  | t (n : Nat)
  | c (a n : Nat) (agg : Bool)
  deriving Inhabited

structure Fun where
  np : Nat
  res : List RV
  body : C
  deriving Inhabited

/-- What a function does that is called with its caller's objects: the value, the objects, the frozen names. -/
abbrev ShSem := Tr (List Ob) → List (Nat × Nat) → List DV → Option (DV × Tr (List Ob) × List (Nat × Nat))

structure Cfg where
  fc : Nat → FC
  fn : Nat → Option Fun
  sh : Nat → Option ShSem := fun _ => none
  sv : Bool := false

/-- The operands of an instruction. -/
def I.opds : I → List Opd
  | .mv _ x | .un _ _ x | .conv _ _ x | .len _ x | .ext _ _ x | .fld _ _ _ _ x | .faddr _ _ x | .load _ _ _ x | .box _ _ x | .sliceA _ _ x | .idxc _ _ x | .isnil _ _ x | .clear _ _ x => [x]
  | .pick _ a b c | .mupd _ a b c => [a, b, c]
  | .bin _ _ x y | .mnx _ _ x y | .idx _ _ _ _ x y | .iaddrA _ _ _ x y | .iaddrS _ _ x y | .store _ x y | .mkslice _ _ _ x y | .append _ _ _ x y | .appendC _ _ _ x y | .cut _ _ x y | .lookup _ _ _ x y _ | .beq _ _ x y | .eqa _ _ _ x y => [x, y]
  | .build _ _ ps | .bslice _ _ _ _ ps => ps.map (·.2.2)
  | .slice _ _ x lo hi mx => x :: (lo.toList ++ (hi.toList ++ mx.toList))
  | .mkfn _ _ xs | .mkbf _ _ xs | .call _ _ xs => xs
  | .callv _ g xs => g :: xs
  | .alloc .. | .mkmap _ | .fail _ => []

def I.dst : I → Option Nat
  | .mv d .. | .un d .. | .conv d .. | .len d .. | .ext d .. | .fld d .. | .faddr d .. | .load d .. | .box d .. | .sliceA d .. | .idxc d .. | .isnil d .. => some d
  | .pick d .. | .bin d .. | .mnx d .. | .idx d .. | .iaddrA d .. | .iaddrS d .. | .mkslice d .. | .append d .. | .lookup d .. | .beq d .. | .eqa d .. | .cut d .. | .appendC d .. | .mkbf d .. => some d
  | .build d .. | .bslice d .. | .slice d .. | .mkfn d .. | .alloc d .. | .mkmap d => some d
  | .call d .. | .callv d .. | .fail d => d
  | .mupd .. | .store .. | .clear .. => none

/-- Does an instruction change what an object holds? -/
def I.mut (K : Cfg) : I → Bool
  | .store .. | .mupd .. | .append .. | .appendC .. | .clear .. => true
  | .call _ f _ => (K.fc f).byref.any id
  | _ => false

/-- Does an instruction look at objects, or make them? -/
def I.touch : I → Bool
  | .store .. | .mupd .. | .append .. | .appendC .. | .clear .. | .call .. | .callv .. | .load .. | .alloc .. | .box .. | .bslice .. | .mkslice .. | .mkmap .. | .lookup .. | .sliceA .. => true
  | _ => false

/-- May an instruction be a call that works on the caller's objects? -/
def I.shared (K : Cfg) : I → Bool
  | .call _ f _ => (K.sh f).isSome
  | .callv .. => K.sv
  | _ => false

def opdSlot : Opd → Option Nat
  | .t n => some n
  | .c _ => none

mutual
/-- Does a value show no name? -/
def noNames : DV → Bool
  | .ref .. | .ptr .. | .mref .. | .refc .. => false
  | .fn _ cs | .agg cs | .tup cs | .bf _ cs => noNamesL cs
  | _ => true
def noNamesL : List DV → Bool
  | [] => true
  | d :: r => noNames d && noNamesL r
end

def okOpd : Opd → Bool
  | .t _ => true
  | .c d => noNames d

/-- The slots that an instruction looks at. -/
def Ins.looks (x : Ins) : List Nat :=
  match x.g with
  | some (t, _, _) => t :: x.i.opds.filterMap opdSlot
  | none => x.i.opds.filterMap opdSlot

/-- May two instructions be exchanged? -/
def apartI (K : Cfg) (x y : Ins) : Bool :=
  (match x.i.dst with
   | some d => !(y.looks).contains d && y.i.dst != some d
   | none => true) &&
  (match y.i.dst with
   | some d => !(x.looks).contains d
   | none => true) && !(x.i.mut K && y.i.touch) && !(y.i.mut K && x.i.touch) && !(x.i.shared K && y.i.touch) && !(y.i.shared K && x.i.touch)

def opv (s : St) : Opd → Option DV
  | .t n => s.v.get n
  | .c d => some d

/-- The objects of a home, the youngest first. -/
def lst (s : St) (h : Nat) : List Ob := (s.o.get h).getD []

def cnt (s : St) (h : Nat) : Nat := (lst s h).length

def nth (l : List Ob) (e : Nat) : Option Ob :=
  if e < l.length then
    match l[l.length - 1 - e]? with
    | some ob => if ob.k = 3 then none else some ob
    | none => none
  else none

def look (s : St) (h e : Nat) : Option Ob := nth (lst s h) e

/-- What one instruction does: the slot it writes, the homes whose objects change, the names that are frozen. -/
structure Dl where
  v : Option (Nat × DV)
  o : List (Nat × List Ob)
  z : List (Nat × Nat)
  deriving Inhabited

def setO (o : Tr (List Ob)) : List (Nat × List Ob) → Tr (List Ob)
  | [] => o
  | (h, l) :: r => setO (Tr.setF 24 o h l) r

def app (s : St) (x : Dl) : St :=
  { v := match x.v with
      | some (d, y) => Tr.setF 24 s.v d y
      | none => s.v
    o := setO s.o x.o
    z := x.z ++ s.z }

def val (d : Nat) (x : DV) : Dl := ⟨some (d, x), [], []⟩

def newOb (s : St) (d : Nat) (ob : Ob) (z : List (Nat × Nat)) (x : DV) : Dl := ⟨some (d, x), [(d, ob :: lst s d)], z⟩

def setAt (l : List Ob) (e : Nat) (ob : Ob) : List Ob := l.set (l.length - 1 - e) ob

mutual
def isDeep : DV → Bool
  | .b _ | .i _ _ | .nilfn | .x _ _ | .u .. | .non | .emp => true
  | .sl _ cs | .rop cs | .fn _ cs | .msl cs | .agg cs | .tup cs => areDeep cs
  | .nil | .ref .. | .ptr .. | .mref .. | .own .. | .refc .. | .bf .. => false
def areDeep : List DV → Bool
  | [] => true
  | d :: r => isDeep d && areDeep r
end

def nrm : DV → DV
  | .nil => .sl 0 []
  | d => d

mutual
/-- A value without identities: what it refers to is frozen. -/
def deepen (s : St) : DV → Option (DV × List (Nat × Nat))
  | .b v => some (.b v, [])
  | .i k n => some (.i k n, [])
  | .x k p => some (.x k p, [])
  | .u k l h => some (.u k l h, [])
  | .non => some (.non, [])
  | .emp => some (.emp, [])
  | .nilfn => some (.nilfn, [])
  | .nil => some (.sl 0 [], [])
  | .sl n cs => some (.sl n cs, [])
  | .rop cs => some (.rop cs, [])
  | .msl es => some (.msl es, [])
  | .ref h e off n =>
    match look s h e with
    | some ob => if ob.k = 0 then some (.sl n ((ob.cs.drop off).take (n * ob.sz)), [(h, e)]) else if ob.k = 2 ∧ n ≠ 0 ∧ areDeep ob.cs then some (.sl n (ob.cs.drop off), [(h, e)]) else none
    | none => none
  | .ptr h e off =>
    match look s h e with
    | some ob => if ob.k = 2 ∧ areDeep (ob.cs.map nrm) then some (.rop ((ob.cs.map nrm).drop off), [(h, e)]) else none
    | none => none
  | .mref h e =>
    match look s h e with
    | some ob => if ob.k = 1 then some (.msl ob.cs, [(h, e)]) else none
    | none => none
  | .fn f cs => match deepenL s cs with
    | some (ds, z) => some (.fn f ds, z)
    | none => none
  | .agg cs => match deepenL s cs with
    | some (ds, z) => some (.agg ds, z)
    | none => none
  | .tup cs => match deepenL s cs with
    | some (ds, z) => some (.tup ds, z)
    | none => none
  | .own .. => none
  | .refc .. => none
  | .bf .. => none
def deepenL (s : St) : List DV → Option (List DV × List (Nat × Nat))
  | [] => some ([], [])
  | d :: r =>
    match deepen s d, deepenL s r with
    | some (x, z), some (xs, y) => some (x :: xs, z ++ y)
    | _, _ => none
end

def part (cs : List DV) (off n : Nat) (agg : Bool) : Option DV :=
  if agg then (if off + n ≤ cs.length then some (.agg ((cs.drop off).take n)) else none) else cs[off]?

def cells : DV → List DV
  | .agg cs => cs
  | d => [d]

def ibin (op : BinOp) (k : IntKind) (a b : Int) : Option DV :=
  match op with
  | .add => some (.i k (k.wrap (a + b)))
  | .sub => some (.i k (k.wrap (a - b)))
  | .mul => some (.i k (k.wrap (a * b)))
  | .quo => if b = 0 then none else some (.i k (k.wrap (a.tdiv b)))
  | .rem => if b = 0 then none else some (.i k (a.tmod b))
  | .and => some (.i k (k.wrap (BitVec.ofInt k.bits a &&& BitVec.ofInt k.bits b).toNat))
  | .or => some (.i k (k.wrap (BitVec.ofInt k.bits a ||| BitVec.ofInt k.bits b).toNat))
  | .xor => some (.i k (k.wrap (BitVec.ofInt k.bits a ^^^ BitVec.ofInt k.bits b).toNat))
  | .eql => some (.b (a == b))
  | .neq => some (.b (a != b))
  | .lss => some (.b (a < b))
  | .leq => some (.b (a ≤ b))
  | .gtr => some (.b (a > b))
  | .geq => some (.b (a ≥ b))
  | _ => none

/-- Equality of cells that are integers of one kind. -/
def eqCells : List DV → List DV → Option Bool
  | [], [] => some true
  | .i k x :: r, .i k' y :: t => if k = k' then (match eqCells r t with
      | some q => some (x == y && q)
      | none => none) else none
  | _, _ => none

def bin0 (op : BinOp) (x y : DV) : Option DV :=
  match op, x, y with
  | .shl, .i k a, .i _ n => if n < 0 then none else some (.i k (k.wrap (a * 2 ^ min n.toNat k.bits)))
  | .shr, .i k a, .i _ n => if n < 0 then none else some (.i k (a.fdiv (2 ^ min n.toNat k.bits)))
  | _, .i k a, .i k' b => if k = k' then ibin op k a b else none
  | _, _, _ => none

def un0 (op : UnOp) (x : DV) : Option DV :=
  match op, x with
  | .neg, .i k n => some (.i k (k.wrap (0 - n)))
  | .xor, .i k n => some (.i k (k.wrap (BitVec.ofInt k.bits (if k.signed then -1 else k.max) ^^^ BitVec.ofInt k.bits n).toNat))
  | .not, .b v => some (.b (!v))
  | _, _ => none

/-! Integers of which not all is known. -/

def asX : DV → Option (IntKind × Pl)
  | .i k n => some (k, .con n)
  | .x k p => some (k, p)
  | _ => none

def asU : DV → Option (IntKind × Int × Int)
  | .i k n => some (k, n, n)
  | .x k p => some (k, p.lo, p.hi)
  | .u k l h => some (k, l, h)
  | _ => none

def mkX (k : IntKind) (p : Pl) : DV :=
  match p with
  | [] => .i k 0
  | [([], c)] => .i k c
  | p => .x k p

/-- A number that is wrapped: it fits, or fits when it is moved once. -/
def fitX (k : IntKind) (p : Pl) : Option DV :=
  if k.min ≤ p.lo ∧ p.hi ≤ k.max then some (mkX k p)
  else if k.min ≤ p.lo + 2 ^ k.bits ∧ p.hi + 2 ^ k.bits ≤ k.max then some (mkX k (.add p (.con (2 ^ k.bits))))
  else if k.min ≤ p.lo - 2 ^ k.bits ∧ p.hi - 2 ^ k.bits ≤ k.max then some (mkX k (.add p (.con (-(2 ^ k.bits)))))
  else none

def conOf : Pl → Option Int
  | [] => some 0
  | [([], c)] => some c
  | _ => none

/-- Bits: a bound alone. -/
def bitsU (k : IntKind) (h h' : Int) : Option DV :=
  if h ≤ 2147483647 ∧ h' ≤ 2147483647 ∧ 2147483647 ≤ k.max then some (.u k 0 2147483647)
  else if h ≤ 4294967295 ∧ h' ≤ 4294967295 ∧ 4294967295 ≤ k.max then some (.u k 0 4294967295)
  else none

def binU (op : BinOp) (k : IntKind) (l h l' h' : Int) : Option DV :=
  if l < 0 ∨ l' < 0 then none else
  match op with
  | .and => if h ≤ 2147483647 ∨ h' ≤ 2147483647 then (if 2147483647 ≤ k.max then some (.u k 0 2147483647) else none) else bitsU k h h'
  | .or | .xor => bitsU k h h'
  | _ => none

def binX (op : BinOp) (k : IntKind) (p q : Pl) : Option DV :=
  match op with
  | .add => fitX k (.add p q)
  | .sub => fitX k (.sub p q)
  | .mul => fitX k (.mul p q)
  | .quo =>
    if p.lo < 0 ∨ q.lo ≤ 0 ∨ k.max < p.hi then none
    else if (Pl.sub p q).hi < 0 then some (.i k 0)
    else match conOf q with
      | some m => if m = 1 then some (mkX k p) else if p.lo / m = p.hi / m then some (.i k (p.lo / m)) else none
      | none => none
  | .rem =>
    if p.lo < 0 ∨ q.lo ≤ 0 then none
    else if (Pl.sub p q).hi < 0 then some (mkX k p)
    else match conOf q with
      | some m => if m = 1 then some (.i k 0) else if p.lo / m = p.hi / m then some (mkX k (.add p (.con (-(p.lo / m * m))))) else none
      | none => none
  | .eql => let d := Pl.sub p q; if 0 < d.lo ∨ d.hi < 0 then some (.b false) else if d.lo = 0 ∧ d.hi = 0 then some (.b true) else none
  | .neq => let d := Pl.sub p q; if 0 < d.lo ∨ d.hi < 0 then some (.b true) else if d.lo = 0 ∧ d.hi = 0 then some (.b false) else none
  | .lss => let d := Pl.sub p q; if d.hi < 0 then some (.b true) else if 0 ≤ d.lo then some (.b false) else none
  | .leq => let d := Pl.sub p q; if d.hi ≤ 0 then some (.b true) else if 0 < d.lo then some (.b false) else none
  | .gtr => let d := Pl.sub p q; if 0 < d.lo then some (.b true) else if d.hi ≤ 0 then some (.b false) else none
  | .geq => let d := Pl.sub p q; if 0 ≤ d.lo then some (.b true) else if d.hi < 0 then some (.b false) else none
  | .and => binU .and k p.lo p.hi q.lo q.hi
  | .or =>
    if conOf p = some 0 ∧ 0 ≤ q.lo ∧ q.hi ≤ k.max then some (mkX k q)
    else if conOf q = some 0 ∧ 0 ≤ p.lo ∧ p.hi ≤ k.max then some (mkX k p)
    else binU .or k p.lo p.hi q.lo q.hi
  | .xor => binU .xor k p.lo p.hi q.lo q.hi
  | _ => none

def shS (op : BinOp) (x : DV) (n : Int) : Option DV :=
  match op with
  | .shl => match asX x with
    | some (k, p) => if n < 0 then none else fitX k (.mul p (.con (2 ^ min n.toNat k.bits)))
    | none => none
  | .shr => match asU x with
    | some (k, l, h) => if n < 0 then none else if l.fdiv (2 ^ min n.toNat k.bits) = h.fdiv (2 ^ min n.toNat k.bits) then some (.i k (l.fdiv (2 ^ min n.toNat k.bits))) else none
    | none => none
  | _ => none

def binS (op : BinOp) (x y : DV) : Option DV :=
  if op = .shl ∨ op = .shr then
    match y with
    | .i _ n => shS op x n
    | _ => none
  else
    match asX x, asX y with
    | some (k, p), some (k', q) => if k = k' then binX op k p q else none
    | _, _ =>
      match asU x, asU y with
      | some (k, l, h), some (k', l', h') => if k = k' then binU op k l h l' h' else none
      | _, _ => none

def bin (op : BinOp) (x y : DV) : Option DV :=
  match x, y with
  | .i _ _, .i _ _ => bin0 op x y
  | _, _ => binS op x y

def un (op : UnOp) (x : DV) : Option DV :=
  match op, x with
  | .neg, .x k p => fitX k (.neg p)
  | .xor, .x k p => if k.signed then none else if 0 ≤ p.lo ∧ p.hi ≤ k.max then some (mkX k (.sub (.con k.max) p)) else none
  | .xor, .u k l h => if k.signed then none else if 0 ≤ l ∧ h ≤ k.max then some (.u k (k.max - h) (k.max - l)) else none
  | op, x => un0 op x

def conv (k : IntKind) (x : DV) : Option DV :=
  match x with
  | .i _ n => some (.i k (k.wrap n))
  | .x _ p => fitX k p
  | .u _ l h => if k.min ≤ l ∧ h ≤ k.max then some (.u k l h) else none
  | _ => none

def lenOf : DV → Option Nat
  | .sl n _ => some n
  | .ref _ _ _ n => some n
  | .refc _ _ _ n _ => some n
  | .nil => some 0
  | .non => some 0
  | .emp => some 0
  | _ => none

/-- Is a slice nil? -/
def isNil : DV → Option Bool
  | .nil => some true
  | .non => some true
  | .emp => some false
  | .sl (_ + 1) _ => some false
  | .ref .. => some false
  | _ => none

/-- The cells of a slice. -/
def slCells (s : St) : DV → Option (List DV)
  | .sl _ cs => some cs
  | .ref h e off _ => (look s h e).bind fun ob => if ob.k = 0 then some (ob.cs.drop off) else none
  | .nil => some []
  | .non => some []
  | .emp => some []
  | _ => none

/-- May a value lie in one cell? -/
def isCell : DV → Bool
  | .agg _ | .tup _ | .own .. => false
  | _ => true

def fillL (cs : List DV) : List (Nat × Nat × DV) → Option (List DV)
  | [] => some cs
  | (off, n, v) :: r =>
    let p := cells v
    if p.length = n ∧ off + n ≤ cs.length ∧ p.all isCell = true then fillL (cs.take off ++ p ++ cs.drop (off + n)) r else none

def partsOf (s : St) : List (Nat × Nat × Opd) → Option (List (Nat × Nat × DV))
  | [] => some []
  | (o, n, x) :: r =>
    match opv s x, partsOf s r with
    | some d, some l => some ((o, n, d) :: l)
    | _, _ => none

def deepParts (s : St) : List (Nat × Nat × DV) → Option (List (Nat × Nat × DV) × List (Nat × Nat))
  | [] => some ([], [])
  | (o, n, x) :: r =>
    match deepen s x, deepParts s r with
    | some (d, z), some (l, y) => some ((o, n, d) :: l, z ++ y)
    | _, _ => none

def opvL (s : St) : List Opd → Option (List DV)
  | [] => some []
  | x :: r =>
    match opv s x, opvL s r with
    | some d, some l => some (d :: l)
    | _, _ => none

/-- What is handed to a function: identities moved in where the parameter takes them (one at most), else frozen. Gives the arguments, the frozen names and the name lent. -/
def argsIn (s : St) : List Bool → List DV → Option (List DV × List (Nat × Nat) × Option (Nat × Nat))
  | _, [] => some ([], [], none)
  | br, d :: r =>
    match argsIn s br.tail r with
    | none => none
    | some (l, z, q) =>
      if br.headD false then
        match d, q with
        | .ref h e off n, none => match look s h e with
          | some ob => if ob.k = 0 then some (.own 0 ob.sz ob.cs off n :: l, z, some (h, e)) else none
          | none => none
        | .ptr h e off, none => match look s h e with
          | some ob => if ob.k = 2 ∧ areDeep ob.cs then some (.own 2 ob.sz ob.cs off 0 :: l, z, some (h, e)) else none
          | none => none
        | .mref h e, none => match look s h e with
          | some ob => if ob.k = 1 then some (.own 1 ob.sz ob.cs 0 0 :: l, z, some (h, e)) else none
          | none => none
        | _, _ => none
      else
        match deepen s d with
        | some (x, y) => some (x :: l, y ++ z, q)
        | none => none

/-- A result with its identities taken over at a home that has so many objects: the value, the new objects (the youngest first). -/
def adopt (h c : Nat) : DV → DV × List Ob
  | .own k sz cs off n => (if k = 0 then .ref h c off n else if k = 1 then .mref h c else .ptr h c off, [⟨k, sz, cs⟩])
  | d => (d, [])

def adoptL (h c : Nat) : List DV → List DV × List Ob
  | [] => ([], [])
  | d :: r =>
    let x := adopt h c d
    let y := adoptL h (c + x.2.length) r
    (x.1 :: y.1, y.2 ++ x.2)

def adoptR (h c : Nat) : DV → DV × List Ob
  | .tup vs => let y := adoptL h c vs; (.tup y.1, y.2)
  | .agg vs => let y := adoptL h c vs; (.agg y.1, y.2)
  | d => adopt h c d

abbrev Sem := Nat → List DV → Option (DV × List (List DV))

def doCall (K : Cfg) (cs : Sem) (s : St) (d : Option Nat) (f : Nat) (args : List DV) : Option Dl :=
  match d, argsIn s (K.fc f).byref args with
  | some d, some (l, z, q) =>
    match cs f l with
    | none => none
    | some (r, outs) =>
      let y := adoptR d (cnt s d) r
      let o := if y.2.isEmpty then [] else [(d, y.2 ++ lst s d)]
      match q, outs with
      | none, [] => some ⟨some (d, y.1), o, z⟩
      | some (h, e), [c] =>
        match look s h e with
        | some ob => if h ≠ d ∧ (h, e) ∉ z ∧ (h, e) ∉ s.z ∧ h < 1000000 then some ⟨some (d, y.1), (h, setAt (lst s h) e { ob with cs := c }) :: o, z⟩ else none
        | none => none
      | _, _ => none
  | _, _ => none

def mapFind (k : List DV) : List DV → Nat → Option (Option (Nat × DV))
  | [], _ => some none
  | .tup [.agg k', v] :: r, i =>
    match eqCells k k' with
    | some true => some (some (i, v))
    | some false => mapFind k r (i + 1)
    | none => none
  | _, _ => none

def bnd (s : St) : Option Opd → Option (Option Int)
  | none => some none
  | some o => match opv s o with
    | some (.i _ n) => some (some n)
    | _ => none

def bound (n : Nat) (bytes : Nat) : Bool := n ≤ 274877906944 && bytes ≤ 256

def evI (K : Cfg) (cs : Sem) (s : St) (i : I) : Option Dl :=
  match i with
  | .mv d x => (opv s x).map fun v => val d v
  | .pick d c a b =>
    match opv s c, opv s a, opv s b with
    | some (.b true), some x, _ => some (val d x)
    | some (.b false), _, some y => some (val d y)
    | _, _, _ => none
  | .bin d op x y =>
    match opv s x, opv s y with
    | some a, some b => (bin op a b).map fun r => val d r
    | _, _ => none
  | .un d op x => ((opv s x).bind (un op)).map fun r => val d r
  | .conv d k x => ((opv s x).bind (conv k)).map fun r => val d r
  | .len d x => ((opv s x).bind lenOf).map fun (n : Nat) => val d (.i .i64 (n : Int))
  | .mnx d mx x y =>
    match opv s x, opv s y with
    | some (.i k a), some (.i _ b) => some (val d (.i k (if mx then (if b > a then b else a) else (if b < a then b else a))))
    | _, _ => none
  | .ext d ix x =>
    match opv s x with
    | some (.tup vs) => (vs[ix]?).map fun v => val d v
    | _ => none
  | .fld d off n agg x =>
    match opv s x with
    | some (.agg l) => (part l off n agg).map fun v => val d v
    | _ => none
  | .idx d c sz agg x i =>
    match opv s x, opv s i with
    | some (.agg l), some (.i _ n) => if 0 ≤ n ∧ n < c then (part l (n.toNat * sz) sz agg).map fun v => val d v else none
    | _, _ => none
  | .build d zero parts => ((partsOf s parts).bind (fillL zero)).map fun l => val d (.agg l)
  | .faddr d off x =>
    match opv s x with
    | some (.ptr h e o) => some (val d (.ptr h e (o + off)))
    | some (.rop l) => some (val d (.rop (l.drop off)))
    | _ => none
  | .iaddrA d c sz x i =>
    match opv s x, opv s i with
    | some (.ptr h e o), some (.i _ n) => if 0 ≤ n ∧ n < c then some (val d (.ptr h e (o + n.toNat * sz))) else none
    | some (.rop l), some (.i _ n) => if 0 ≤ n ∧ n < c then some (val d (.rop (l.drop (n.toNat * sz)))) else none
    | _, _ => none
  | .iaddrS d sz x i =>
    match opv s x, opv s i with
    | some (.sl c l), some (.i _ n) => if 0 ≤ n ∧ n < c then some (val d (.rop (l.drop (n.toNat * sz)))) else none
    | some (.ref h e o c), some (.i _ n) => if 0 ≤ n ∧ n < c then some (val d (.ptr h e (o + n.toNat * sz))) else none
    | _, _ => none
  | .load d n agg x =>
    match opv s x with
    | some (.ptr h e o) => (look s h e).bind fun ob => if ob.k = 1 then none else (part ob.cs o n agg).map fun v => val d v
    | some (.rop l) => (part l 0 n agg).map fun v => val d v
    | _ => none
  | .store n x y =>
    match opv s x, opv s y with
    | some (.ptr h e o), some v =>
      match look s h e with
      | none => none
      | some ob =>
        if (h, e) ∈ s.z ∨ ob.k = 1 ∨ 1000000 ≤ h then none else
        if ob.k = 2 then (fillL ob.cs [(o, n, v)]).map fun l => ⟨none, [(h, setAt (lst s h) e { ob with cs := l })], []⟩
        else
          match deepen s v with
          | some (v', z) => if (h, e) ∈ z then none else (fillL ob.cs [(o, n, v')]).map fun l => ⟨none, [(h, setAt (lst s h) e { ob with cs := l })], z⟩
          | none => none
    | _, _ => none
  | .alloc d zero => some (newOb s d ⟨2, 0, zero⟩ [] (.ptr d (cnt s d) 0))
  | .box d n x => (opv s x).bind fun v => if (cells v).length = n then some (newOb s d ⟨2, 0, cells v⟩ [] (.ptr d (cnt s d) 0)) else none
  | .bslice d c sz zero parts =>
    match (partsOf s parts).bind (deepParts s) with
    | some (l, z) => (fillL ((List.replicate c zero).flatten) l).map fun cs => newOb s d ⟨0, sz, cs⟩ z (.ref d (cnt s d) 0 c)
    | none => none
  | .mkslice d sz zero l c =>
    match opv s l, opv s c with
    | some (.i _ n), some (.i _ m) => if 0 ≤ n ∧ n ≤ m ∧ bound m.toNat 1 then some (newOb s d ⟨0, sz, (List.replicate n.toNat zero).flatten⟩ [] (.ref d (cnt s d) 0 n.toNat)) else none
    | _, _ => none
  | .append d sz bytes x y =>
    match opv s x, opv s y with
    | some a, some b =>
      match lenOf a, lenOf b, slCells s b with
      | some la, some lb, some news =>
        if news.length < lb * sz ∨ ¬ bound (la + lb) bytes then none else
        let news := news.take (lb * sz)
        if ¬ news.all isCell then none else
        match a with
        | .nil => if lb = 0 then some (val d .nil) else some (newOb s d ⟨0, sz, news⟩ [] (.ref d (cnt s d) 0 lb))
        | .ref h e off _ =>
          match look s h e with
          | some ob =>
            if lb = 0 then some (val d a) else
            if ob.k = 0 ∧ ob.sz = sz ∧ off = 0 ∧ ob.cs.length = la * sz ∧ h < 1000000 then
              some ⟨some (d, .ref h (cnt s h) 0 (la + lb)), [(h, { ob with cs := ob.cs ++ news } :: setAt (lst s h) e { ob with k := 3 })], if (h, e) ∈ s.z then [(h, cnt s h)] else []⟩
            else none
          | none => none
        | _ => none
      | _, _, _ => none
    | _, _ => none
  | .slice d sz x lo hi mx =>
    match opv s x with
    | some (.refc xh e off _ c) =>
      match bnd s lo, bnd s hi, bnd s mx with
      | some (some l), some (some h), some none => if 0 ≤ l ∧ l ≤ h ∧ h ≤ c then some (val d (.ref xh e (off + l.toNat * sz) (h - l).toNat)) else none
      | _, _, _ => none
    | _ =>
    match opv s x, bnd s lo, bnd s hi, bnd s mx with
    | some v, some lo, some hi, some mx =>
      match lenOf v with
      | none => none
      | some n =>
        let l := lo.getD 0
        let h := hi.getD n
        -- the third bound, where it is given, is the second one
        if 0 ≤ l ∧ l ≤ h ∧ h ≤ n ∧ h ≤ mx.getD h ∧ mx.getD h ≤ n then
          match v with
          | .sl _ cs => some (val d (.sl (h - l).toNat ((cs.drop (l.toNat * sz)).take ((h - l).toNat * sz))))
          | .nil => some (val d .nil)
          | .ref x e off _ => some (val d (.ref x e (off + l.toNat * sz) (h - l).toNat))
          | _ => none
        else none
    | _, _, _, _ => none
  | .sliceA d n x =>
    match opv s x with
    | some (.ptr h e o) =>
      match look s h e with
      | some ob => if ob.k = 2 ∧ ob.sz = 0 ∧ o = 0 then some (val d (.ref h e o n)) else none
      | none => none
    | _ => none
  | .mkmap d => some (newOb s d ⟨1, 0, []⟩ [] (.mref d (cnt s d)))
  | .lookup d ksz zero x k ok =>
    match opv s x, opv s k with
    | some (.mref h e), some (.agg kc) =>
      match look s h e with
      | some ob =>
        if ob.k = 1 ∧ kc.length = ksz ∧ (eqCells kc kc).isSome then
          match mapFind kc ob.cs 0 with
          | some (some (_, v)) => some (val d (if ok then .tup [v, .b true] else v))
          | some none => some (val d (if ok then .tup [zero, .b false] else zero))
          | none => none
        else none
      | none => none
    | _, _ => none
  | .mupd ksz x k v =>
    match opv s x, opv s k, opv s v with
    | some (.mref h e), some (.agg kc), some v =>
      match look s h e, deepen s v with
      | some ob, some (v', z) =>
        if ob.k = 1 ∧ kc.length = ksz ∧ (eqCells kc kc).isSome ∧ (h, e) ∉ s.z ∧ (h, e) ∉ z ∧ h < 1000000 then
          match mapFind kc ob.cs 0 with
          | some (some (i, _)) => some ⟨none, [(h, setAt (lst s h) e { ob with cs := ob.cs.set i (.tup [.agg kc, v']) })], z⟩
          | some none => some ⟨none, [(h, setAt (lst s h) e { ob with cs := ob.cs ++ [.tup [.agg kc, v']] })], z⟩
          | none => none
        else none
      | _, _ => none
    | _, _, _ => none
  | .mkfn d f caps => (opvL s caps).map fun l => val d (.fn f l)
  | .call d f args => (opvL s args).bind fun l => doCall K cs s d f l
  | .callv d g args =>
    match opv s g, opvL s args with
    | some (.fn f caps), some l => if (K.fc f).byref.any id then none else doCall K cs s d f (l ++ caps)
    | some (.bf f first), some l => if (K.fc f).byref.any id then none else doCall K cs s d f (first ++ l)
    | _, _ => none
  | .idxc d tbl i =>
    match opv s i with
    | some (.i _ n) =>
      if 0 ≤ n then
        match tbl[n.toNat]? with
        | some b => some (val d (.i .u8 (Int.ofNat b)))
        | none => none
      else none
    | _ => none
  | .beq d ne x y =>
    match opv s x, opv s y with
    | some (.b a), some (.b b) => some (val d (.b (if ne then !(a == b) else a == b)))
    | _, _ => none
  | .eqa d n ne x y =>
    match opv s x, opv s y with
    | some (.agg xs), some (.agg ys) =>
      if xs.length = n then
        match eqCells xs ys with
        | some q => some (val d (.b (if ne then !q else q)))
        | none => none
      else none
    | _, _ => none
  | .isnil d ne x => ((opv s x).bind isNil).map fun b => val d (.b (if ne then !b else b))
  | .mkbf d f first => (opvL s first).map fun l => val d (.bf f l)
  | .cut d _ x hi =>
    match opv s x, opv s hi with
    | some (.ref h e off n), some (.i _ k) => if off = 0 ∧ 0 ≤ k ∧ k ≤ n then some (val d (.refc h e 0 k.toNat n)) else none
    | _, _ => none
  | .appendC d sz _ x y =>
    match opv s x, opv s y with
    | some (.refc h e off la c), some b =>
      match lenOf b, slCells s b, look s h e with
      | some lb, some news, some ob =>
        if off = 0 ∧ ob.k = 0 ∧ ob.sz = sz ∧ (h, e) ∉ s.z ∧ h < 1000000 ∧ lb * sz ≤ news.length ∧ la * sz + lb * sz ≤ ob.cs.length ∧ la + lb ≤ c ∧ c ≠ 0 ∧ (news.take (lb * sz)).all isCell = true then
          some ⟨some (d, .refc h e 0 (la + lb) c), [(h, setAt (lst s h) e { ob with cs := ob.cs.take (la * sz) ++ news.take (lb * sz) ++ ob.cs.drop (la * sz + lb * sz) })], []⟩
        else none
      | _, _, _ => none
    | _, _ => none
  | .clear sz zero x =>
    match opv s x with
    | some (.ref h e off n) =>
      match look s h e with
      | some ob => if ob.k = 0 ∧ ob.sz = sz ∧ (h, e) ∉ s.z ∧ h < 1000000 ∧ off + n * sz ≤ ob.cs.length then some ⟨none, [(h, setAt (lst s h) e { ob with cs := ob.cs.take off })], []⟩ else none
      | none => none
    | _ => none
  | .fail _ => none

def evIns (K : Cfg) (cs : Sem) (s : St) (x : Ins) : Option Dl :=
  match x.g with
  | none => evI K cs s x.i
  | some (t, w, d) =>
    match s.v.get t with
    | some (.b v) => if v = w then evI K cs s x.i else some (val d (.tup []))
    | some (.tup []) => some (val d (.tup []))
    | _ => none

/-- A call with the caller's objects. -/
def shCall (g : ShSem) (s : St) (d : Nat) (l : List DV) : Option St :=
  match g s.o s.z l with
  | some (r, o, z) => some ⟨Tr.setF 24 s.v d r, o, z⟩
  | none => none

def shI (K : Cfg) (cs : Sem) (s : St) : I → Option St
  | .call (some d) f args =>
    match K.sh f, opvL s args with
    | some g, some l => shCall g s d l
    | _, _ => none
  | .callv (some d) g args =>
    match opv s g, opvL s args with
    | some (.fn f caps), some l =>
      match K.sh f with
      | some g => shCall g s d (l ++ caps)
      | none => if (K.fc f).byref.any id then none else (doCall K cs s (some d) f (l ++ caps)).map (app s)
    | some (.bf f first), some l =>
      match K.sh f with
      | some g => shCall g s d (first ++ l)
      | none => if (K.fc f).byref.any id then none else (doCall K cs s (some d) f (first ++ l)).map (app s)
    | _, _ => none
  | _ => none

def evStep (K : Cfg) (cs : Sem) (s : St) (x : Ins) : Option St :=
  if x.i.shared K then
    match x.g with
    | none => shI K cs s x.i
    | some (t, w, d) =>
      match s.v.get t with
      | some (.b v) => if v = w then shI K cs s x.i else some (app s (val d (.tup [])))
      | some (.tup []) => some (app s (val d (.tup [])))
      | _ => none
  else (evIns K cs s x).map (app s)

def evL (K : Cfg) (cs : Sem) : St → List Ins → Option St
  | s, [] => some s
  | s, x :: r =>
    match evStep K cs s x with
    | some s => evL K cs s r
    | none => none

/-- The object that a load or a store goes to. -/
inductive Ft where
  | none
  | at (h e : Nat)
  | bad
  deriving Inhabited

def foot (s : St) : I → Ft
  | .load _ _ _ x =>
    match opv s x with
    | some (.ptr h e _) => .at h e
    | some (.rop _) => .none
    | _ => .bad
  | .store _ x _ =>
    match opv s x with
    | some (.ptr h e _) =>
      match look s h e with
      | some ob => if ob.k = 2 then .at h e else .bad
      | none => .bad
    | _ => .bad
  | _ => .bad

def Ft.apart : Ft → Ft → Bool
  | .none, .none => true
  | .none, .at .. => true
  | .at .., .none => true
  | .at h e, .at h' e' => !(h == h' && e == e')
  | _, _ => false

/-- A load and a store. -/
def I.ls : I → I → Bool
  | .load .., .store .. => true
  | .store .., .load .. => true
  | _, _ => false

def slotsApart (x y : Ins) : Bool :=
  (match x.i.dst with
   | some d => !(y.looks).contains d && y.i.dst != some d
   | none => true) &&
  (match y.i.dst with
   | some d => !(x.looks).contains d
   | none => true)

/-- May two instructions be exchanged if they go to different objects? -/
def weakI (x y : Ins) : Bool := slotsApart x y && x.g.isNone && y.g.isNone && x.i.ls y.i

def feet (K : Cfg) (cs : Sem) : St → List Ins → List Ft
  | _, [] => []
  | s, x :: r => foot s x.i :: (match evStep K cs s x with
    | some s => feet K cs s r
    | none => [])

def ordered (b : List Nat) (i j : Nat) : Bool := ((b[j]?).getD 0).testBit i || ((b[i]?).getD 0).testBit j

def dynOf (K : Cfg) (b : List Nat) (i : Nat) (x : Ins) (f : Ft) : Nat → List (Ins × Ft) → Bool
  | _, [] => true
  | j, (y, g) :: r => (ordered b i j || apartI K x y || (weakI x y && f.apart g)) && dynOf K b i x f (j + 1) r

/-- No two instructions that are not ordered meet, in this run. -/
def dynAll (K : Cfg) (b : List Nat) : Nat → List (Ins × Ft) → Bool
  | _, [] => true
  | i, (x, f) :: r => dynOf K b i x f (i + 1) r && dynAll K b (i + 1) r

inductive Ex where
  | nrm
  | exit (id : Nat)
  | ret
  deriving Inhabited, DecidableEq

def loopN (f : St → Option (Ex × St)) : Nat → St → Option (Ex × St)
  | 0, _ => none
  | k + 1, s =>
    match f s with
    | some (.nrm, s1) => loopN f k s1
    | r => r

def evC (K : Cfg) (cs : Sem) (fuel : Nat) : C → St → Option (Ex × St)
  | .skip, s => some (.nrm, s)
  | .reg ops, s => (evL K cs s ops).map fun s => (.nrm, s)
  | .regD b ops, s => if dynAll K b 0 (ops.zip (feet K cs s ops)) then (evL K cs s ops).map fun s => (.nrm, s) else none
  | .seq a b, s =>
    match evC K cs fuel a s with
    | some (.nrm, s1) => evC K cs fuel b s1
    | r => r
  | .cond c a b, s =>
    match opv s c with
    | some (.b true) => evC K cs fuel a s
    | some (.b false) => evC K cs fuel b s
    | _ => none
  | .block id c, s =>
    match evC K cs fuel c s with
    | some (.exit j, s1) => if j = id then some (.nrm, s1) else some (.exit j, s1)
    | r => r
  | .loop c, s => loopN (fun s => evC K cs fuel c s) fuel s
  | .exit id, s => some (.exit id, s)
  | .ret, s => some (.ret, s)
  | .scope c, s => evC K cs fuel c s
  | .fail, _ => none

/-- The frame a function starts in. -/
def startL : Nat → List DV → St → St
  | _, [], s => s
  | p, d :: r, s =>
    match d with
    | .own k sz cs off n => startL (p + 1) r (app s (newOb s p ⟨k, sz, cs⟩ [] (if k = 0 then .ref p 0 off n else if k = 1 then .mref p 0 else .ptr p 0 off)))
    | d => startL (p + 1) r (app s (val p d))

def lentOuts (s : St) (z : List (Nat × Nat)) : Nat → List DV → Option (List (List DV))
  | _, [] => some []
  | p, d :: r =>
    match d with
    | .own k sz .. =>
      match look s p 0, lentOuts s z (p + 1) r with
      | some ob, some l => if ob.k = k ∧ ob.sz = sz ∧ (1 < ob.k → areDeep ob.cs = true) ∧ (p, 0) ∉ s.z ∧ (p, 0) ∉ z then some (ob.cs :: l) else none
      | _, _ => none
    | _ => lentOuts s z (p + 1) r

/-- What becomes of a result: it keeps its identity ('own'), or it is frozen. Gives the value, the frozen names, the names that keep their identity. -/
def giveOne (s : St) (own : Bool) (np : Nat) (d : DV) : Option (DV × List (Nat × Nat) × List (Nat × Nat)) :=
  match own, d with
  | true, .ref h e off n =>
    match look s h e with
    | some ob => if np ≤ h ∧ ob.k = 0 ∧ (h, e) ∉ s.z ∧ off = 0 ∧ ob.cs.length = n * ob.sz then some (.own 0 ob.sz ob.cs 0 n, [], [(h, e)]) else none
    | none => none
  | _, d => match deepen s d with
    | some (x, z) => some (x, z, [])
    | none => none

def giveL (s : St) (own : Bool) (np : Nat) : List DV → Option (List DV × List (Nat × Nat) × List (Nat × Nat))
  | [] => some ([], [], [])
  | d :: r =>
    match giveOne s own np d, giveL s own np r with
    | some (x, z, q), some (l, y, p) => some (x :: l, z ++ y, q ++ p)
    | _, _ => none

def giveV (s : St) (own : Bool) (np : Nat) : DV → Option (DV × List (Nat × Nat) × List (Nat × Nat))
  | .agg l => match giveL s own np l with
    | some (x, z, q) => some (.agg x, z, q)
    | none => none
  | d => giveOne s own np d

def resRaw (s : St) : RV → Option DV
  | .t n => s.v.get n
  | .c a n agg =>
    match s.v.get a with
    | some (.ptr h e o) => match look s h e with
      | some ob => if ob.k = 1 then none else part ob.cs o n agg
      | none => none
    | _ => none

def resRaws (s : St) : List RV → Option (List DV)
  | [] => some []
  | x :: r =>
    match resRaw s x, resRaws s r with
    | some d, some l => some (d :: l)
    | _, _ => none

def resOf (s : St) (own : Bool) (np : Nat) (rs : List RV) : Option (DV × List (Nat × Nat) × List (Nat × Nat)) :=
  match resRaws s rs with
  | none => none
  | some [d] => giveV s own np d
  | some ds => match giveL s own np ds with
    | some (x, z, q) => some (.tup x, z, q)
    | none => none

def evBody (K : Cfg) (cs : Sem) (fuel : Nat) (own : Bool) (fu : Fun) (args : List DV) : Option (DV × List (List DV)) :=
  if args.length ≠ fu.np then none else
  match evC K cs fuel fu.body (startL 0 args ⟨.leaf, .leaf, []⟩) with
  | none => none
  | some (.exit _, _) => none
  | some (_, s) =>
    match resOf s own fu.np fu.res with
    | none => none
    | some (r, z, q) =>
      if q.Nodup ∧ (∀ x ∈ q, x ∉ z ∧ x ∉ s.z) then
        match lentOuts s z 0 args with
        | none => none
        | some o => some (r, o)
      else none

/-- No function works on its caller's objects. -/
class NoSh (K : Cfg) : Prop where
  f : ∀ f, K.sh f = none
  v : K.sv = false

instance {fc : Nat → FC} {fn : Nat → Option Fun} : NoSh { fc := fc, fn := fn } := ⟨fun _ => rfl, rfl⟩

theorem evStep_nosh {K : Cfg} [NoSh K] {cs : Sem} {s : St} {x : Ins} : evStep K cs s x = (evIns K cs s x).map (app s) := by
  have : x.i.shared K = false := by
    cases h : x.i <;> simp [I.shared, NoSh.f, NoSh.v]
  unfold evStep; rw [this]; rfl

/-- The slots of a function that is called with its caller's objects. -/
def startS : Nat → List DV → Tr DV → Tr DV
  | _, [], t => t
  | p, d :: r, t => startS (p + 1) r (Tr.setF 24 t p d)

/-- A slice whose capacity is forgotten. -/
def unc : DV → DV
  | .refc h e off n _ => .ref h e off n
  | d => d

def tupOf : List DV → DV
  | [d] => d
  | ds => .tup ds

/-- A body, run on the caller's objects. -/
def shBody (K : Cfg) (cs : Sem) (fuel : Nat) (fu : Fun) : ShSem := fun o z args =>
  if args.length ≠ fu.np then none else
  match evC K cs fuel fu.body ⟨startS 0 args .leaf, o, z⟩ with
  | none => none
  | some (.exit _, _) => none
  | some (_, s) =>
    match resRaws s fu.res with
    | some ds => some (tupOf (ds.map unc), s.o, s.z)
    | none => none

def evFn (K : Cfg) (ov : Nat → Option (Sem → List DV → Option (DV × List (List DV)))) : Nat → Sem
  | 0 => fun _ _ => none
  | k + 1 => fun f args =>
    match ov f with
    | some g => g (evFn K ov k) args
    | none =>
      match K.fn f with
      | none => none
      | some fu => evBody K (evFn K ov k) k (K.fc f).own fu args

end Go.Ev

/- The translation of the model's code to the code of the abstract interpreter, types resolved; a region that draws its order is taken only where its order does not matter. Nothing is proved here. -/
namespace Go.Ev

mutual
def ofVal : Value → Option DV
  | .bool v => some (.b v)
  | .int k n => some (.i k n)
  | .nilFunc => some .nilfn
  | .slice none 0 0 => some .nil
  | .agg cs => (ofVals cs.toList).map .agg
  | _ => none
def ofVals : List Value → Option (List DV)
  | [] => some []
  | v :: r => match ofVal v, ofVals r with
    | some d, some l => some (d :: l)
    | _, _ => none
end

def toOpd : Operand → Option Opd
  | .tmp n => some (.t n)
  | .const v => (ofVal v).map .c
  | .func f => some (.c (.fn f []))
  | .global _ => none

def toOpds : List Operand → Option (List Opd)
  | [] => some []
  | x :: r => match toOpd x, toOpds r with
    | some a, some l => some (a :: l)
    | _, _ => none

section
variable (P : Program) (K : Cfg)

def aggT (t : TypeId) : Option Bool :=
  match P.underlying t with
  | some (.struct _) | some (.array _ _) => some true
  | some _ => some false
  | none => none

def sizeT (t : TypeId) : Option Nat := (P.info? t).map (·.size)

def zeroT (t : TypeId) : Option (List DV) :=
  match P.info? t with
  | some i => match i.zero with
    | some v => (ofVal v).map cells
    | none => none
  | none => none

/-- A struct whose cells are integers: how many there are. -/
def flatF : Nat → List Field → Option Nat
  | off, [] => some off
  | off, f :: r =>
    if f.name != "_" && f.offset == off then
      match P.underlying f.type, P.info? f.type with
      | some (.int _), some i => if i.size = 1 then flatF (off + 1) r else none
      | some (.array c e), some i =>
        match P.underlying e, P.info? e with
        | some (.int _), some ie => if ie.size = 1 ∧ i.size = c then flatF (off + c) r else none
        | _, _ => none
      | _, _ => none
    else none

/-- The parts of an aggregate: where each lies, its size. -/
def places (place : Nat → Option (Nat × Nat)) : List (Nat × Operand) → Option (List (Nat × Nat × Opd))
  | [] => some []
  | (i, x) :: r => match place i, toOpd x, places place r with
    | some (o, n), some a, some l => some ((o, n, a) :: l)
    | _, _, _ => none

def optOpd : Option Operand → Option (Option Opd)
  | none => some none
  | some x => (toOpd x).map some

def toI? (dst : Option Nat) (op : Op) : Option I :=
  match dst, op with
  | some d, .move x | some d, .assign x => (toOpd x).map fun a => .mv d a
  | some d, .pick c a b => match toOpd c, toOpd a, toOpd b with
    | some c, some a, some b => some (.pick d c a b)
    | _, _, _ => none
  | some d, .alloc t => (zeroT P t).map fun z => .alloc d z
  | some d, .box t x => match sizeT P t, toOpd x with
    | some n, some a => some (.box d n a)
    | _, _ => none
  | some d, .build t ps => match P.info? t with
    | some it => match it.zero with
      | some z => match ofVal z, P.underlying t with
        | some zd, some (.struct fs) => match fs.toList.mapM (fun f => (P.info? f.type).map fun i => (f.offset, i.size)) with
          | some pl => (places (fun i => pl.toArray[i]?) ps.toList).map fun l => .build d (cells zd) l
          | none => none
        | some zd, some (.array _ e) => match P.info? e with
          | some ie => (places (fun i => some (i * ie.size, ie.size)) ps.toList).map fun l => .build d (cells zd) l
          | none => none
        | _, _ => none
      | none => none
    | none => none
  | some d, .buildSlice t len ps => match P.underlying t with
    | some (.slice e) => match sizeT P e, zeroT P e with
      | some n, some z => if (len * n ≤ 16777216 ∧ n ≠ 0 ∧ z.length = n) ∧ areDeep (z.map nrm) = true then (places (fun i => some (i * n, n)) ps.toList).map fun l => .bslice d len n (z.map nrm) l else none
      | _, _ => none
    | _ => none
  | some d, .load t x => match sizeT P t, aggT P t, toOpd x with
    | some n, some g, some a => some (.load d n g a)
    | _, _, _ => none
  | none, .store t x y => match sizeT P t, toOpd x, toOpd y with
    | some n, some a, some b => some (.store n a b)
    | _, _, _ => none
  | some d, .binOp o t x y _ => match toOpd x, toOpd y with
    | some a, some b =>
      if o = .eql ∨ o = .neq then
        match P.underlying t with
        | some (.int _) => some (.bin d o a b)
        | some .bool => some (.beq d (o = .neq) a b)
        | some (.array n e) => match P.underlying e, P.info? e with
          | some (.int _), some i => if i.size = 1 then some (.eqa d n (o = .neq) a b) else none
          | _, _ => none
        | some (.slice _) => match b with
          | .c .nil => some (.isnil d (o = .neq) a)
          | _ => none
        | some (.struct fs) => match flatF P 0 fs.toList with
          | some n => if P.stoodInHeld t = false ∧ P.eqGuardType P.depth t = false then some (.eqa d n (o = .neq) a b) else none
          | none => none
        | _ => none
      else some (.bin d o a b)
    | _, _ => none
  | some d, .unOp o _ x => (toOpd x).map fun a => .un d o a
  | some d, .convert s t x => match P.underlying s, P.underlying t, toOpd x with
    | some (.int _), some (.int k), some a => some (.conv d k a)
    | _, _, _ => none
  | some d, .makeFunc (.func f) first caps => if first.isEmpty then (toOpds caps.toList).map fun l => .mkfn d f l else if caps.isEmpty then (toOpds first.toList).map fun l => .mkbf d f l else none
  | some d, .makeMap _ none => some (.mkmap d)
  | some d, .makeSlice t l c => match P.underlying t with
    | some (.slice e) => match sizeT P e, zeroT P e, (P.info? e).map (·.bytes), toOpd l, toOpd c with
      | some n, some z, some by_, some a, some b => if (n ≠ 0 ∧ z.length = n ∧ by_ ≤ 256) ∧ areDeep (z.map nrm) = true then some (.mkslice d n (z.map nrm) a b) else none
      | _, _, _, _, _ => none
    | _ => none
  | some d, .slice t x lo hi mx => match toOpd x, P.underlying t with
    | some a, some (.slice e) => match optOpd lo, optOpd hi, optOpd mx, P.info? e with
      | some l, some h, some m, some i => if i.size ≠ 0 ∧ (m.isSome → h.isSome) then some (.slice d i.size a l h m) else none
      | _, _, _, _ => none
    | some a, some (.array c e) => match lo, hi, mx, P.info? e with
      | none, none, none, some _ => some (.sliceA d c a)
      | _, _, _, _ => none
    | _, _ => none
  | some d, .fieldAddr t x f => match P.underlying t, toOpd x with
    | some (.struct fs), some a => (fs[f]?).bind fun fl => match sizeT P fl.type with
      | some (_ + 1) => some (.faddr d fl.offset a)
      | _ => none
    | _, _ => none
  | some d, .field t x f => match P.underlying t, toOpd x with
    | some (.struct fs), some a => (fs[f]?).bind fun fl => match sizeT P fl.type, aggT P fl.type with
      | some n, some g => some (.fld d fl.offset n g a)
      | _, _ => none
    | _, _ => none
  | some d, .indexAddr t x ix => match P.underlying t, toOpd x, toOpd ix with
    | some (.array c e), some a, some b => (sizeT P e).map fun n => .iaddrA d c n a b
    | some (.slice e), some a, some b => (sizeT P e).map fun n => .iaddrS d n a b
    | _, _, _ => none
  | some d, .index t x ix => match P.underlying t, toOpd ix with
    | some (.array c e), some b => match toOpd x, sizeT P e, aggT P e with
      | some a, some n, some g => some (.idx d c n g a b)
      | _, _, _ => none
    | some .string, some b => match x with
      | .const (.string str) => some (.idxc d (str.data.toList.map UInt8.toNat) b)
      | _ => none
    | _, _ => none
  | some d, .lookup t x k ok => match P.underlying t, toOpd x, toOpd k with
    | some (.map kt et), some a, some b => match P.underlying kt, P.info? et with
      | some (.array c e), some ie => match P.underlying e, P.info? e, ie.zero.bind ofVal with
        | some (.int _), some i, some z => if i.size = 1 then some (.lookup d c z a b ok) else none
        | _, _, _ => none
      | _, _ => none
    | _, _, _ => none
  | none, .mapUpdate t m k v => match P.underlying t, toOpd m, toOpd k, toOpd v with
    | some (.map kt _), some a, some b, some x => match P.underlying kt with
      | some (.array c e) => match P.underlying e, P.info? e with
        | some (.int _), some i => if i.size = 1 then some (.mupd c a b x) else none
        | _, _ => none
      | _ => none
    | _, _, _, _ => none
  | some d, .extract x ix => (toOpd x).map fun a => .ext d ix a
  | some d, .nilCheck x => (toOpd x).map fun a => .faddr d 0 a
  | d, .call c => match toOpds c.args.toList with
    | none => none
    | some l =>
      match c.callee, d with
      | .value (.func f), d => some (.call d f l)
      | .value g, d => (toOpd g).map fun g => .callv d g l
      | .builtin .clear, none => match l, c.argTypes.toList with
        | [a], [t] => match P.underlying t with
          | some (.slice e) => match P.info? e, zeroT P e with
            | some i, some z => if i.size ≠ 0 ∧ z.length = i.size ∧ areDeep (z.map nrm) = true ∧ (z.map nrm).all isCell = true then some (.clear i.size (z.map nrm) a) else none
            | _, _ => none
          | _ => none
        | _, _ => none
      | .builtin .len, some d => match l, c.argTypes.toList with
        | [a], [t] => match P.underlying t with
          | some (.slice _) => some (.len d a)
          | _ => none
        | _, _ => none
      | .builtin .max, some d => match l with
        | [a, b] => some (.mnx d true a b)
        | _ => none
      | .builtin .min, some d => match l with
        | [a, b] => some (.mnx d false a b)
        | _ => none
      | .builtin .append, some d => match l, c.argTypes.toList with
        | [a, b], [t, u] => match P.underlying t, P.underlying u with
          | some (.slice e), some (.slice _) => match P.info? e, zeroT P e with
            | some i, some z => if i.size ≠ 0 ∧ z.length = i.size then some (.append d i.size i.bytes a b) else none
            | _, _ => none
          | _, _ => none
        | _, _ => none
      | _, _ => none
  | _, _ => none

def toI (dst : Option Nat) (op : Op) : I := (toI? P dst op).getD (.fail dst)

/-- For each operation the set of those before it, as bits; none where an edge points forward. -/
def before (ops : List Oper) : List Nat → Option (List Nat)
  | acc => match ops with
    | [] => some acc
    | o :: r =>
      let m := o.after.toList.foldl (fun (x : Option Nat) e => match x with
        | none => none
        | some x => if (match e.ground with | .textOnly _ | .gcOnly _ => false | _ => true) then
            (if h : e.on < acc.length then some (x ||| 2 ^ e.on ||| acc[e.on]) else none) else some x) (some 0)
      match m with
      | none => none
      | some m => before r (acc ++ [m])

/-- An instruction against those after it. -/
def freeOf (b : List Nat) (i : Nat) (x : Ins) : Nat → List Ins → Bool
  | _, [] => true
  | j, y :: r => (ordered b i j || apartI K x y) && freeOf b i x (j + 1) r

/-- No two instructions that are not ordered meet. -/
def freeAll (b : List Nat) : Nat → List Ins → Bool
  | _, [] => true
  | i, x :: r => freeOf K b i x (i + 1) r && freeAll b (i + 1) r

def freeOrder (ops : Array Oper) (l : List Ins) : Bool :=
  match before ops.toList [] with
  | none => false
  | some b => freeAll K b 0 l

def dstIn (n : Nat) : Option Nat → Bool
  | some d => d < n
  | none => true

/-- Is an operand defined in this region as the first part of a slice? -/
def cutDef (ops : Array Oper) : Operand → Bool
  | .tmp n => ops.any fun o => o.dst == some n && (match o.op with
    | .slice _ _ none (some _) none => true
    | _ => false)
  | _ => false

def sliceDef (ops : Array Oper) : Operand → Bool
  | .tmp n => ops.any fun o => o.dst == some n && (match o.op with
    | .slice .. => true
    | _ => false)
  | _ => false

/-- The first part of a slice with a part of a slice behind it: 'append(s[:i], t[j:]...)'. -/
def cutAppend (ops : Array Oper) : Op → Bool
  | .call c => (match c.callee with
    | .builtin .append => true
    | _ => false) && (match c.args.toList with
    | [x, y] => cutDef ops x && sliceDef ops y
    | _ => false)
  | _ => false

def cutUse (ops : Array Oper) (d : Nat) : Bool := ops.any fun o => cutAppend ops o.op && (match o.op with
  | .call c => (match c.args.toList with
    | .tmp n :: _ => n == d
    | _ => false)
  | _ => false)

/-- Such slices keep what is known of their capacity. -/
def tight (ops : Array Oper) (op : Op) (i : I) : I :=
  match i with
  | .append d sz by_ a b => if cutAppend ops op then .appendC d sz by_ a b else i
  | .slice d sz x none (some hi) none => if cutUse ops d then .cut d sz x hi else i
  | i => i

def toIns (n : Nat) (ops : Array Oper) (o : Oper) : Option Ins :=
  let i := tight ops o.op (toI P o.dst o.op)
  if dstIn n o.dst = true ∧ i.dst = o.dst ∧ i.opds.all okOpd = true then
    match o.guard with
    | none => some ⟨none, i⟩
    | some (g, w) => match (ops[g]?).bind (·.dst), o.dst with
      | some t, some d => some ⟨some (t, w, d), i⟩
      | _, _ => none
  else none

def toInsL (n : Nat) (ops : Array Oper) : List Oper → Option (List Ins)
  | [] => some []
  | o :: r => match toIns P n ops o, toInsL n ops r with
    | some x, some l => some (x :: l)
    | _, _ => none

def toC (n : Nat) : Code → Option C
  | .skip => some .skip
  | .label _ => some .skip
  | .region _ ops draw => match toInsL P n ops ops.toList with
    | some l => if draw && !freeOrder K ops l then (before ops.toList []).map fun b => .regD b l else some (.reg l)
    | none => none
  | .seq a b => match toC n a, toC n b with
    | some x, some y => some (.seq x y)
    | _, _ => none
  | .cond c a b => match toOpd c, toC n a, toC n b with
    | some c, some x, some y => some (.cond c x y)
    | _, _, _ => none
  | .block id c => (toC n c).map (.block id)
  | .loop c => (toC n c).map .loop
  | .exit id => some (.exit id)
  | .ret => some .ret
  | .scope c => (toC n c).map .scope
  | _ => some .fail

def toRes : ResultVar → Option RV
  | .tmp t => some (.t t)
  | .cell a t => match sizeT P t, aggT P t with
    | some n, some g => some (.c a n g)
    | _, _ => none

def toResL : List ResultVar → Option (List RV)
  | [] => some []
  | x :: r => match toRes P x, toResL r with
    | some a, some l => some (a :: l)
    | _, _ => none

def toFun (f : Func) : Option Fun :=
  match f.body with
  | none => none
  | some c => match toC P K f.ntmps c, toResL P f.results.toList with
    | some b, some r => if f.ntmps ≤ 1000000 ∧ f.params.size + f.nfree ≤ f.ntmps then some ⟨f.params.size + f.nfree, r, b⟩ else none
    | _, _ => none
end

end Go.Ev

/- What a deep value says of a value in memory, and what of it stays true when memory grows. -/
namespace Go.Ev

/-! ### The tree -/

theorem Tr.get_setF {α : Type} : ∀ (f : Nat) (t : Tr α) (n : Nat) (a : α) (j : Nat), n + 1 < 2 ^ f →
    (Tr.setF f t n a).get j = if j = n then some a else t.get j := by
  intro f
  induction f with
  | zero => intro t n a j h; simp at h
  | succ f ih =>
    intro t n a j h
    have hp : (2 : Nat) ^ (f + 1) = 2 * 2 ^ f := by rw [Nat.pow_succ]; omega
    cases t with
    | leaf =>
      simp only [Tr.setF]
      split
      · rename_i h0; subst h0
        simp only [Tr.get]
        by_cases hj : j = 0
        · simp [hj]
        · simp only [hj, if_false]; split <;> simp [Tr.get]
      · rename_i h0
        split
        · rename_i h1
          simp only [Tr.get]
          by_cases hj : j = 0
          · simp [hj]; omega
          · simp only [hj, if_false]
            by_cases hj1 : j % 2 = 1
            · simp only [hj1, if_true]
              rw [ih _ _ _ _ (by omega)]
              by_cases e : j = n
              · subst e; simp
              · have : ¬ j / 2 = n / 2 := by omega
                simp [this, e, Tr.get]
            · simp only [hj1, if_false, Tr.get]
              have : ¬ j = n := by intro e; subst e; omega
              simp [this]
        · rename_i h1
          simp only [Tr.get]
          by_cases hj : j = 0
          · simp [hj]; omega
          · simp only [hj, if_false]
            by_cases hj1 : j % 2 = 1
            · simp only [hj1, if_true, Tr.get]
              have : ¬ j = n := by intro e; subst e; omega
              simp [this]
            · simp only [hj1, if_false]
              rw [ih _ _ _ _ (by omega)]
              by_cases e : j = n
              · subst e; simp
              · have : ¬ j / 2 - 1 = n / 2 - 1 := by omega
                simp [this, e, Tr.get]
    | node l x r =>
      simp only [Tr.setF]
      split
      · rename_i h0; subst h0
        simp only [Tr.get]
        by_cases hj : j = 0 <;> simp [hj]
      · rename_i h0
        split
        · rename_i h1
          simp only [Tr.get]
          by_cases hj : j = 0
          · simp [hj]; omega
          · simp only [hj, if_false]
            by_cases hj1 : j % 2 = 1
            · simp only [hj1, if_true]
              rw [ih _ _ _ _ (by omega)]
              by_cases e : j = n
              · subst e; simp
              · have : ¬ j / 2 = n / 2 := by omega
                simp [this, e]
            · simp only [hj1, if_false]
              have : ¬ j = n := by intro e; subst e; omega
              simp [this]
        · rename_i h1
          simp only [Tr.get]
          by_cases hj : j = 0
          · simp [hj]; omega
          · simp only [hj, if_false]
            by_cases hj1 : j % 2 = 1
            · simp only [hj1, if_true]
              have : ¬ j = n := by intro e; subst e; omega
              simp [this]
            · simp only [hj1, if_false]
              rw [ih _ _ _ _ (by omega)]
              by_cases e : j = n
              · subst e; simp
              · have : ¬ j / 2 - 1 = n / 2 - 1 := by omega
                simp [this, e]

/-! ### Memory -/

abbrev Hp := Array Obj

def cellAt (hp : Hp) (b o : Nat) : Option Value :=
  match hp[b]? with
  | some (.cells c _ _) => c[o]?
  | _ => none

def rowSize (hp : Hp) (b : Nat) : Nat :=
  match hp[b]? with
  | some (.cells c _ _) => c.size
  | _ => 0

/-- What is published: cells, and maps; and the values of the variables. -/
structure Pub where
  c : Nat → Nat → Prop
  m : Nat → Prop
  r : Nat → Int
  ok : Pl.Ok r

/-- The names of objects: not known; given up; a block and the size of an element. -/
abbrev Nm := Nat → Nat → Option (Option (Nat × Nat))

/-- The entries of a map: each was born before the next, all before the clock. -/
def MapOK (ms : Array MapEntry) (clk : Nat) : Prop := ms.toList.Pairwise (fun a b => a.born < b.born) ∧ ∀ m ∈ ms.toList, m.born < clk

mutual
def V (hp : Hp) (S : Pub) (N : Nm) : DV → Value → Prop
  | .b v, x => x = .bool v
  | .i k n, x => x = .int k n
  | .nilfn, x => x = .nilFunc
  | .nil, x => x = .slice none 0 0
  | .sl n cs, x => ∃ a cap, x = .slice a n cap ∧ n ≤ cap ∧ areDeep cs = true ∧ ((a = none → cap = 0) ∧ (cap = 0 → cs = [])) ∧ (∀ ad, a = some ad → cap ≠ 0 → ad.spot = none ∧ VC hp S N cs ad.block ad.off)
  | .ref h e off n, x => ∃ a cap r, x = .slice (some a) n cap ∧ n ≤ cap ∧ a.spot = none ∧ N h e = some r ∧ ∀ b sz, r = some (b, sz) → cap ≠ 0 → a.block = b ∧ a.off = off ∧ (off = 0 → cap * sz ≤ rowSize hp b)
  | .ptr h e off, x => ∃ ad r, x = .pointer (some ad) ∧ ad.spot = none ∧ N h e = some r ∧ ∀ b sz, r = some (b, sz) → ad.block = b ∧ ad.off = off
  | .rop cs, x => ∃ ad, x = .pointer (some ad) ∧ ad.spot = none ∧ areDeep cs = true ∧ VC hp S N cs ad.block ad.off
  | .fn f cs, x => ∃ vs, x = .func (.func f) #[] vs.toArray ∧ VL hp S N cs vs
  | .mref h e, x => ∃ q r, x = .map (some q) ∧ N h e = some r ∧ ∀ b sz, r = some (b, sz) → q = b
  | .msl es, x => ∃ r ms clk, x = .map (some r) ∧ S.m r ∧ hp[r]? = some (.map ms clk) ∧ (areDeep es = true ∧ MapOK ms clk) ∧ VM hp S N es ms.toList
  | .agg cs, x => ∃ vs, x = .agg vs.toArray ∧ VL hp S N cs vs
  | .tup cs, x => ∃ vs, x = .tuple vs.toArray ∧ VL hp S N cs vs
  | .own .., _ => False
  | .x k p, v => v = .int k (p.eval S.r)
  | .u k l h, v => ∃ n, v = .int k n ∧ l ≤ n ∧ n ≤ h
  | .non, v => v = .slice none 0 0
  | .emp, v => ∃ a cap, v = .slice (some a) 0 cap ∧ (cap ≠ 0 → a.spot = none)
  | .refc h e off n c, x => ∃ a cap r, x = .slice (some a) n cap ∧ (n ≤ c ∧ c ≤ cap) ∧ a.spot = none ∧ N h e = some r ∧ ∀ b sz, r = some (b, sz) → cap ≠ 0 → a.block = b ∧ a.off = off ∧ (off = 0 → cap * sz ≤ rowSize hp b)
  | .bf f cs, x => ∃ vs, x = .func (.func f) vs.toArray #[] ∧ VL hp S N cs vs
def VC (hp : Hp) (S : Pub) (N : Nm) : List DV → Nat → Nat → Prop
  | [], _, _ => True
  | d :: r, b, o => S.c b o ∧ (∃ v, cellAt hp b o = some v ∧ V hp S N d v) ∧ VC hp S N r b (o + 1)
def VL (hp : Hp) (S : Pub) (N : Nm) : List DV → List Value → Prop
  | [], vs => vs = []
  | d :: r, vs => ∃ v t, vs = v :: t ∧ V hp S N d v ∧ VL hp S N r t
def VM (hp : Hp) (S : Pub) (N : Nm) : List DV → List MapEntry → Prop
  | [], ms => ms = []
  | d :: r, ms => ∃ m t, ms = m :: t ∧ V hp S N d (.tuple #[m.key, m.val]) ∧ VM hp S N r t
end

/-- What is published stays. -/
def Keeps (S : Pub) (hp hp' : Hp) : Prop :=
  (∀ b o, S.c b o → cellAt hp' b o = cellAt hp b o) ∧ (∀ r, S.m r → hp'[r]? = hp[r]?)

def Sub (S S' : Pub) : Prop := (∀ b o, S.c b o → S'.c b o) ∧ (∀ r, S.m r → S'.m r) ∧ S'.r = S.r

/-- The names that are known stay known; one may be given up; a block that is not given up stays as large. -/
def Later (N N' : Nm) (hp hp' : Hp) : Prop :=
  ∀ h e r, N h e = some r → ∃ r', N' h e = some r' ∧ (r' = none ∨ r' = r) ∧ ∀ b sz, r' = some (b, sz) → rowSize hp b ≤ rowSize hp' b

theorem Keeps.refl (S : Pub) (hp : Hp) : Keeps S hp hp := ⟨fun _ _ _ => rfl, fun _ _ => rfl⟩
theorem Sub.refl (S : Pub) : Sub S S := ⟨fun _ _ h => h, fun _ h => h, rfl⟩
theorem Sub.trans {S S' S'' : Pub} (a : Sub S S') (b : Sub S' S'') : Sub S S'' := ⟨fun x y h => b.1 x y (a.1 x y h), fun x h => b.2.1 x (a.2.1 x h), b.2.2.trans a.2.2⟩
theorem Later.refl (N : Nm) (hp : Hp) : Later N N hp hp := fun _ _ r h => ⟨r, h, .inr rfl, fun _ _ _ => Nat.le_refl _⟩
theorem Keeps.trans {S S' : Pub} {h1 h2 h3 : Hp} (s : Sub S S') (a : Keeps S h1 h2) (b : Keeps S' h2 h3) : Keeps S h1 h3 :=
  ⟨fun x y h => (b.1 x y (s.1 x y h)).trans (a.1 x y h), fun x h => (b.2 x (s.2.1 x h)).trans (a.2 x h)⟩

section mono
variable {hp hp' : Hp} {S S' : Pub} {N N' : Nm}

mutual
theorem V.mono (k : Keeps S hp hp') (s : Sub S S') (l : Later N N' hp hp') : ∀ (d : DV) (x : Value), V hp S N d x → V hp' S' N' d x
  | .b _, _, h => h
  | .i _ _, _, h => h
  | .nilfn, _, h => h
  | .nil, _, h => h
  | .sl n cs, x, h => by
    simp only [V] at h ⊢
    obtain ⟨a, cap, h1, h2, h3, h4, h5⟩ := h
    exact ⟨a, cap, h1, h2, h3, h4, fun ad e c => ⟨(h5 ad e c).1, VC.mono k s l cs _ _ (h5 ad e c).2⟩⟩
  | .ref h e off n, x, hv => by
    simp only [V] at hv ⊢
    obtain ⟨a, cap, r, g1, g2, g3, h1, h2⟩ := hv
    obtain ⟨r', h3, h4, h5⟩ := l _ _ _ h1
    refine ⟨a, cap, r', g1, g2, g3, h3, fun b sz hb hc => ?_⟩
    rcases h4 with h4 | h4
    · rw [h4] at hb; cases hb
    · have g4 := h2 b sz (h4 ▸ hb) hc
      exact ⟨g4.1, g4.2.1, fun h0 => Nat.le_trans (g4.2.2 h0) (h5 b sz hb)⟩
  | .ptr h e off, x, hv => by
    simp only [V] at hv ⊢
    obtain ⟨ad, r, g1, g2, h1, h2⟩ := hv
    obtain ⟨r', h3, h4, h5⟩ := l _ _ _ h1
    refine ⟨ad, r', g1, g2, h3, fun b sz hb => ?_⟩
    rcases h4 with h4 | h4
    · rw [h4] at hb; cases hb
    · exact h2 b sz (h4 ▸ hb)
  | .rop cs, x, h => by
    simp only [V] at h ⊢
    obtain ⟨ad, h1, h2, h3, h4⟩ := h
    exact ⟨ad, h1, h2, h3, VC.mono k s l cs _ _ h4⟩
  | .fn f cs, x, h => by
    simp only [V] at h ⊢
    obtain ⟨vs, h1, h2⟩ := h
    exact ⟨vs, h1, VL.mono k s l cs _ h2⟩
  | .mref h e, x, hv => by
    simp only [V] at hv ⊢
    obtain ⟨q, r, g1, h1, h2⟩ := hv
    obtain ⟨r', h3, h4, h5⟩ := l _ _ _ h1
    refine ⟨q, r', g1, h3, fun b sz hb => ?_⟩
    rcases h4 with h4 | h4
    · rw [h4] at hb; cases hb
    · exact h2 b sz (h4 ▸ hb)
  | .msl es, x, h => by
    simp only [V] at h ⊢
    obtain ⟨r, ms, clk, h1, h2, h3, h4, h5⟩ := h
    exact ⟨r, ms, clk, h1, s.2.1 _ h2, (k.2 _ h2).trans h3, h4, VM.mono k s l es _ h5⟩
  | .agg cs, x, h => by
    simp only [V] at h ⊢
    obtain ⟨vs, h1, h2⟩ := h
    exact ⟨vs, h1, VL.mono k s l cs _ h2⟩
  | .tup cs, x, h => by
    simp only [V] at h ⊢
    obtain ⟨vs, h1, h2⟩ := h
    exact ⟨vs, h1, VL.mono k s l cs _ h2⟩
  | .own .., _, h => by simp only [V] at h
  | .x k p, v, h => by simp only [V] at h ⊢; rw [s.2.2]; exact h
  | .u k l h, v, hv => by simp only [V] at hv ⊢; exact hv
  | .non, _, h => h
  | .emp, _, h => h
  | .refc h e off n c, x, hv => by
    simp only [V] at hv ⊢
    obtain ⟨a, cap, r, g1, g2, g3, h1, h2⟩ := hv
    obtain ⟨r', h3, h4, h5⟩ := l _ _ _ h1
    refine ⟨a, cap, r', g1, g2, g3, h3, fun b sz hb hc => ?_⟩
    rcases h4 with h4 | h4
    · rw [h4] at hb; cases hb
    · have g4 := h2 b sz (h4 ▸ hb) hc
      exact ⟨g4.1, g4.2.1, fun h0 => Nat.le_trans (g4.2.2 h0) (h5 b sz hb)⟩
  | .bf f cs, x, h => by
    simp only [V] at h ⊢
    obtain ⟨vs, h1, h2⟩ := h
    exact ⟨vs, h1, VL.mono k s l cs _ h2⟩
theorem VC.mono (k : Keeps S hp hp') (s : Sub S S') (l : Later N N' hp hp') : ∀ (cs : List DV) (b o : Nat), VC hp S N cs b o → VC hp' S' N' cs b o
  | [], _, _, _ => by simp only [VC]
  | d :: r, b, o, h => by
    simp only [VC] at h ⊢
    obtain ⟨h1, ⟨v, h2, h3⟩, h4⟩ := h
    exact ⟨s.1 _ _ h1, ⟨v, (k.1 _ _ h1).trans h2, V.mono k s l d v h3⟩, VC.mono k s l r b (o + 1) h4⟩
theorem VL.mono (k : Keeps S hp hp') (s : Sub S S') (l : Later N N' hp hp') : ∀ (cs : List DV) (vs : List Value), VL hp S N cs vs → VL hp' S' N' cs vs
  | [], _, h => by simp only [VL] at h ⊢; exact h
  | d :: r, vs, h => by
    simp only [VL] at h ⊢
    obtain ⟨v, t, h1, h2, h3⟩ := h
    exact ⟨v, t, h1, V.mono k s l d v h2, VL.mono k s l r t h3⟩
theorem VM.mono (k : Keeps S hp hp') (s : Sub S S') (l : Later N N' hp hp') : ∀ (cs : List DV) (vs : List MapEntry), VM hp S N cs vs → VM hp' S' N' cs vs
  | [], _, h => by simp only [VM] at h ⊢; exact h
  | d :: r, vs, h => by
    simp only [VM] at h ⊢
    obtain ⟨v, t, h1, h2, h3⟩ := h
    exact ⟨v, t, h1, V.mono k s l d _ h2, VM.mono k s l r t h3⟩
end

mutual
/-- A deep value does not speak of names. -/
theorem V.deep : ∀ (d : DV) (x : Value), isDeep d = true → V hp S N d x → V hp S N' d x
  | .b _, _, _, h => h
  | .i _ _, _, _, h => h
  | .nilfn, _, _, h => h
  | .nil, _, e, _ => by simp [isDeep] at e
  | .sl n cs, x, e, h => by
    simp only [V] at h ⊢
    simp only [isDeep] at e
    obtain ⟨a, cap, h1, h2, h3, h4, h5⟩ := h
    exact ⟨a, cap, h1, h2, h3, h4, fun ad q c => ⟨(h5 ad q c).1, VC.deep cs _ _ e (h5 ad q c).2⟩⟩
  | .ref .., _, e, _ => by simp [isDeep] at e
  | .ptr .., _, e, _ => by simp [isDeep] at e
  | .rop cs, x, e, h => by
    simp only [V] at h ⊢
    simp only [isDeep] at e
    obtain ⟨ad, h1, h2, h3, h4⟩ := h
    exact ⟨ad, h1, h2, h3, VC.deep cs _ _ e h4⟩
  | .fn f cs, x, e, h => by
    simp only [V] at h ⊢
    simp only [isDeep] at e
    obtain ⟨vs, h1, h2⟩ := h
    exact ⟨vs, h1, VL.deep cs _ e h2⟩
  | .mref .., _, e, _ => by simp [isDeep] at e
  | .msl es, x, e, h => by
    simp only [V] at h ⊢
    simp only [isDeep] at e
    obtain ⟨r, ms, clk, h1, h2, h3, h4, h5⟩ := h
    exact ⟨r, ms, clk, h1, h2, h3, h4, VM.deep es _ e h5⟩
  | .agg cs, x, e, h => by
    simp only [V] at h ⊢
    simp only [isDeep] at e
    obtain ⟨vs, h1, h2⟩ := h
    exact ⟨vs, h1, VL.deep cs _ e h2⟩
  | .tup cs, x, e, h => by
    simp only [V] at h ⊢
    simp only [isDeep] at e
    obtain ⟨vs, h1, h2⟩ := h
    exact ⟨vs, h1, VL.deep cs _ e h2⟩
  | .own .., _, _, h => by simp only [V] at h
  | .x _ _, _, _, h => h
  | .u .., _, _, h => h
  | .non, _, _, h => h
  | .emp, _, _, h => h
  | .refc .., _, e, _ => by simp [isDeep] at e
  | .bf .., _, e, _ => by simp [isDeep] at e
theorem VC.deep : ∀ (cs : List DV) (b o : Nat), areDeep cs = true → VC hp S N cs b o → VC hp S N' cs b o
  | [], _, _, _, _ => by simp only [VC]
  | d :: r, b, o, e, h => by
    simp only [VC] at h ⊢
    simp only [areDeep, Bool.and_eq_true] at e
    obtain ⟨h1, ⟨v, h2, h3⟩, h4⟩ := h
    exact ⟨h1, ⟨v, h2, V.deep d v e.1 h3⟩, VC.deep r b (o + 1) e.2 h4⟩
theorem VL.deep : ∀ (cs : List DV) (vs : List Value), areDeep cs = true → VL hp S N cs vs → VL hp S N' cs vs
  | [], _, _, h => by simp only [VL] at h ⊢; exact h
  | d :: r, vs, e, h => by
    simp only [VL] at h ⊢
    simp only [areDeep, Bool.and_eq_true] at e
    obtain ⟨v, t, h1, h2, h3⟩ := h
    exact ⟨v, t, h1, V.deep d v e.1 h2, VL.deep r t e.2 h3⟩
theorem VM.deep : ∀ (cs : List DV) (vs : List MapEntry), areDeep cs = true → VM hp S N cs vs → VM hp S N' cs vs
  | [], _, _, h => by simp only [VM] at h ⊢; exact h
  | d :: r, vs, e, h => by
    simp only [VM] at h ⊢
    simp only [areDeep, Bool.and_eq_true] at e
    obtain ⟨v, t, h1, h2, h3⟩ := h
    exact ⟨v, t, h1, V.deep d _ e.1 h2, VM.deep r t e.2 h3⟩
end
end mono

end Go.Ev

/- The relation between a frame of the abstract interpreter and a frame of the machine, and how it goes on when either changes. -/
namespace Go.Ev

section lists
variable {hp : Hp} {S : Pub} {N : Nm}

theorem VL.length : ∀ {cs : List DV} {vs : List Value}, VL hp S N cs vs → vs.length = cs.length
  | [], vs, h => by simp only [VL] at h; simp [h]
  | d :: r, vs, h => by
    simp only [VL] at h
    obtain ⟨v, t, rfl, _, h3⟩ := h
    simp [VL.length h3]

theorem VL.get : ∀ {cs : List DV} {vs : List Value} {i : Nat} {d : DV}, VL hp S N cs vs → cs[i]? = some d → ∃ v, vs[i]? = some v ∧ V hp S N d v
  | [], vs, i, d, h, e => by simp at e
  | c :: r, vs, i, d, h, e => by
    simp only [VL] at h
    obtain ⟨v, t, rfl, h2, h3⟩ := h
    cases i with
    | zero => simp at e; subst e; exact ⟨v, by simp, h2⟩
    | succ i => simp at e; simpa using VL.get h3 e

theorem VL.append : ∀ {cs : List DV} {vs : List Value} {ds : List DV} {us : List Value}, VL hp S N cs vs → VL hp S N ds us → VL hp S N (cs ++ ds) (vs ++ us)
  | [], vs, ds, us, h, g => by simp only [VL] at h; subst h; simpa using g
  | d :: r, vs, ds, us, h, g => by
    simp only [VL] at h
    obtain ⟨v, t, rfl, h2, h3⟩ := h
    simp only [List.cons_append, VL]
    exact ⟨v, t ++ us, rfl, h2, VL.append h3 g⟩

theorem VL.drop : ∀ {cs : List DV} {vs : List Value} (k : Nat), VL hp S N cs vs → VL hp S N (cs.drop k) (vs.drop k)
  | [], vs, k, h => by simp only [VL] at h; subst h; simp [VL]
  | d :: r, vs, k, h => by
    cases k with
    | zero => simpa using h
    | succ k =>
      simp only [VL] at h
      obtain ⟨v, t, rfl, h2, h3⟩ := h
      simpa using VL.drop k h3

theorem VL.take : ∀ {cs : List DV} {vs : List Value} (k : Nat), VL hp S N cs vs → VL hp S N (cs.take k) (vs.take k)
  | [], vs, k, h => by simp only [VL] at h; subst h; simp [VL]
  | d :: r, vs, k, h => by
    cases k with
    | zero => simp [VL]
    | succ k =>
      simp only [VL] at h
      obtain ⟨v, t, rfl, h2, h3⟩ := h
      simp only [List.take_succ_cons, VL]
      exact ⟨v, t.take k, rfl, h2, VL.take k h3⟩

theorem VL.single {d : DV} {v : Value} (h : V hp S N d v) : VL hp S N [d] [v] := by
  simp only [VL]; exact ⟨v, [], rfl, h, rfl⟩

theorem VL.replicate : ∀ (n : Nat) {cs : List DV} {vs : List Value}, VL hp S N cs vs → VL hp S N (List.replicate n cs).flatten (List.replicate n vs).flatten
  | 0, _, _, _ => by simp [VL]
  | n + 1, cs, vs, h => by simp only [List.replicate_succ, List.flatten_cons]; exact VL.append h (VL.replicate n h)

theorem VC.get : ∀ {cs : List DV} {b o i : Nat} {d : DV}, VC hp S N cs b o → cs[i]? = some d → S.c b (o + i) ∧ ∃ v, cellAt hp b (o + i) = some v ∧ V hp S N d v
  | [], _, _, _, _, _, e => by simp at e
  | c :: r, b, o, i, d, h, e => by
    simp only [VC] at h
    obtain ⟨h1, h2, h3⟩ := h
    cases i with
    | zero => simp at e; subst e; exact ⟨h1, h2⟩
    | succ i =>
      simp at e
      have := VC.get h3 e
      rw [show o + (i + 1) = o + 1 + i by omega]; exact this

theorem VC.mk : ∀ {cs : List DV} {b o : Nat}, (∀ i d, cs[i]? = some d → S.c b (o + i) ∧ ∃ v, cellAt hp b (o + i) = some v ∧ V hp S N d v) → VC hp S N cs b o
  | [], _, _, _ => by simp only [VC]
  | c :: r, b, o, h => by
    simp only [VC]
    refine ⟨(h 0 c (by simp)).1, (h 0 c (by simp)).2, VC.mk fun i d e => ?_⟩
    have := h (i + 1) d (by simpa using e)
    rw [show o + (i + 1) = o + 1 + i by omega] at this; exact this

theorem VC.drop {cs : List DV} {b o : Nat} (k : Nat) (h : VC hp S N cs b o) : VC hp S N (cs.drop k) b (o + k) :=
  VC.mk fun i d e => by
    have := VC.get h (i := k + i) (d := d) (by simpa using e)
    rw [show o + k + i = o + (k + i) by omega]; exact this

theorem VC.take {cs : List DV} {b o : Nat} (k : Nat) (h : VC hp S N cs b o) : VC hp S N (cs.take k) b o :=
  VC.mk fun i d e => by
    rw [List.getElem?_take] at e
    split at e
    · exact VC.get h e
    · cases e

theorem areDeep_iff : ∀ {cs : List DV}, areDeep cs = true ↔ ∀ d ∈ cs, isDeep d = true
  | [] => by simp [areDeep]
  | d :: r => by simp [areDeep, areDeep_iff (cs := r)]

theorem areDeep_drop {cs : List DV} (k : Nat) (h : areDeep cs = true) : areDeep (cs.drop k) = true :=
  areDeep_iff.2 fun d m => areDeep_iff.1 h d (List.mem_of_mem_drop m)
theorem areDeep_take {cs : List DV} (k : Nat) (h : areDeep cs = true) : areDeep (cs.take k) = true :=
  areDeep_iff.2 fun d m => areDeep_iff.1 h d (List.mem_of_mem_take m)
theorem areDeep_append {cs ds : List DV} (h : areDeep cs = true) (g : areDeep ds = true) : areDeep (cs ++ ds) = true :=
  areDeep_iff.2 fun d m => (List.mem_append.1 m).elim (areDeep_iff.1 h d) (areDeep_iff.1 g d)
theorem areDeep_set {cs : List DV} {i : Nat} {x : DV} (h : areDeep cs = true) (g : isDeep x = true) : areDeep (cs.set i x) = true :=
  areDeep_iff.2 fun d m => (List.mem_or_eq_of_mem_set m).elim (areDeep_iff.1 h d) fun e => e ▸ g
end lists

/-! ### Objects -/

/-- An object lies in a block; what is not frozen is not published. -/
def OB (hp : Hp) (S : Pub) (N : Nm) (fz : Prop) (ob : Ob) (b : Nat) : Prop :=
  (ob.k = 1 ∧ ∃ ms clk, hp[b]? = some (.map ms clk) ∧ areDeep ob.cs = true ∧ VM hp S N ob.cs ms.toList ∧ MapOK ms clk ∧ (S.m b → fz)) ∨
  (ob.k ≠ 1 ∧ ∃ arr E vs t, hp[b]? = some (.cells arr E (0, 0)) ∧ arr.toList = vs ++ t ∧ VL hp S N ob.cs vs ∧ (∀ o, S.c b o → fz ∧ o < ob.cs.length) ∧ (ob.k = 0 → areDeep ob.cs = true))

/-- The blocks that were lent, what was published before, and the blocks of the first objects of some homes. -/
structure Len where
  f : Nat → Prop
  s : Pub
  nm : Nat → Option Nat
  g : List ((Nat → Option DV) × Array Value)

instance : CoeFun Len (fun _ => Nat → Prop) := ⟨Len.f⟩

structure FR (base : Nat) (L : Len) (S : Pub) (N : Nm) (vals : Nat → Option DV) (ol : Nat → List Ob) (Z : Nat × Nat → Prop) (a : Array Value) (hp : Hp) : Prop where
  slots : ∀ i d, vals i = some d → V hp S N d (a.getD i undef)
  obs : ∀ h e ob, nth (ol h) e = some ob → ∃ b, N h e = some (some (b, ob.sz)) ∧ OB hp S N (Z (h, e)) ob b ∧ (base ≤ b ∨ L b)
  known : ∀ h e, (∃ r, N h e = some r) ↔ e < (ol h).length
  alive : ∀ h e p, N h e = some (some p) → ∃ ob, nth (ol h) e = some ob
  inj : ∀ h e h' e' b sz sz', N h e = some (some (b, sz)) → N h' e' = some (some (b, sz')) → h = h' ∧ e = e'
  zk : ∀ h e, Z (h, e) → e < (ol h).length
  pub : ∀ b o, S.c b o → ∃ v, cellAt hp b o = some v
  pubm : ∀ r, S.m r → ∃ es clk, hp[r]? = some (.map es clk)
  oldc : ∀ b o, S.c b o → L.s.c b o ∨ base ≤ b ∨ L b
  oldm : ∀ r, S.m r → L.s.m r ∨ base ≤ r ∨ L r
  lentn : ∀ p b, L.nm p = some b → ∃ r, N p 0 = some r ∧ (r = none ∨ ∃ sz, r = some (b, sz))
  ghost : ∀ q ∈ L.g, ∀ i d, q.1 i = some d → V hp S N d (q.2.getD i undef)

theorem nth_lt {l : List Ob} {e : Nat} {ob : Ob} (h : nth l e = some ob) : e < l.length := by
  unfold nth at h; split at h
  · assumption
  · cases h

theorem nth_k {l : List Ob} {e : Nat} {ob : Ob} (h : nth l e = some ob) : ob.k ≠ 3 := by
  unfold nth at h; split at h
  · split at h
    · split at h
      · cases h
      · cases h; assumption
    · cases h
  · cases h

theorem nth_cons {l : List Ob} {ob : Ob} {e : Nat} : nth (ob :: l) e = if e = l.length then (if ob.k = 3 then none else some ob) else nth l e := by
  unfold nth
  by_cases h : e = l.length
  · subst h; simp
  · by_cases h2 : e < l.length
    · have h3 : e < (ob :: l).length := by simp; omega
      rw [if_pos h3, if_pos h2, if_neg h]
      have : (ob :: l).length - 1 - e = (l.length - 1 - e) + 1 := by simp; omega
      rw [this, List.getElem?_cons_succ]
    · have h3 : ¬ e < (ob :: l).length := by simp; omega
      rw [if_neg h3, if_neg h2, if_neg h]

theorem setAt_length {l : List Ob} {e : Nat} {ob : Ob} : (setAt l e ob).length = l.length := by simp [setAt]

theorem nth_setAt {l : List Ob} {e : Nat} {ob : Ob} {j : Nat} (he : e < l.length) : nth (setAt l e ob) j = if j = e then (if ob.k = 3 then none else some ob) else nth l j := by
  unfold nth
  rw [setAt_length]
  by_cases hj : j < l.length
  · rw [if_pos hj, if_pos hj]
    by_cases h : j = e
    · subst h
      simp only [setAt, if_true]
      rw [List.getElem?_set_self (by omega)]
    · rw [if_neg h]
      simp only [setAt]
      rw [List.getElem?_set_ne (by omega)]
  · have : ¬ j = e := by omega
    rw [if_neg hj, if_neg hj, if_neg this]

/-! ### A heap that grows -/

def Grows (hp hp' : Hp) : Prop := hp.size ≤ hp'.size ∧ ∀ b, b < hp.size → hp'[b]? = hp[b]?

theorem Grows.refl (hp : Hp) : Grows hp hp := ⟨Nat.le_refl _, fun _ _ => rfl⟩
theorem Grows.push (hp : Hp) (o : Obj) : Grows hp (hp.push o) := ⟨by simp, fun b h => by rw [Array.getElem?_push]; simp [Nat.ne_of_lt h]⟩

theorem cellAt_of_eq {hp hp' : Hp} {b o : Nat} (h : hp'[b]? = hp[b]?) : cellAt hp' b o = cellAt hp b o := by simp [cellAt, h]
theorem rowSize_of_eq {hp hp' : Hp} {b : Nat} (h : hp'[b]? = hp[b]?) : rowSize hp b ≤ rowSize hp' b := by simp [rowSize, h]
theorem lt_of_get {hp : Hp} {b : Nat} {o : Obj} (h : hp[b]? = some o) : b < hp.size := by
  rcases Nat.lt_or_ge b hp.size with g | g
  · exact g
  · simp [Array.getElem?_eq_none g] at h
theorem lt_of_cell {hp : Hp} {b o : Nat} {v : Value} (h : cellAt hp b o = some v) : b < hp.size := by
  unfold cellAt at h; split at h
  · exact lt_of_get ‹_›
  · cases h

theorem OB.block {hp : Hp} {S : Pub} {N : Nm} {fz : Prop} {ob : Ob} {b : Nat} (h : OB hp S N fz ob b) : b < hp.size := by
  rcases h with ⟨_, ms, clk, h, _⟩ | ⟨_, arr, E, vs, t, h, _⟩ <;> exact lt_of_get h

section
variable {base : Nat} {L : Len} {S : Pub} {N : Nm} {vals : Nat → Option DV} {ol : Nat → List Ob} {Z : Nat × Nat → Prop} {a : Array Value} {hp : Hp}

/-- The block of a living name. -/
theorem FR.block (f : FR base L S N vals ol Z a hp) {h e : Nat} {b sz : Nat} (hn : N h e = some (some (b, sz))) : b < hp.size := by
  obtain ⟨ob, ho⟩ := f.alive _ _ _ hn
  obtain ⟨b', h1, h2, _⟩ := f.obs _ _ _ ho
  rw [hn] at h1; simp at h1; rw [h1.1]; exact h2.block

/-- Whatever leaves the published cells and the blocks of the living names as they are leaves the relation. -/
theorem FR.heap (f : FR base L S N vals ol Z a hp) {hp' : Hp} (k : Keeps S hp hp')
    (hb : ∀ h e b sz, N h e = some (some (b, sz)) → hp'[b]? = hp[b]?) : FR base L S N vals ol Z a hp' := by
  have l : Later N N hp hp' := fun h e r hr => ⟨r, hr, .inr rfl, fun b sz he => rowSize_of_eq (hb h e b sz (he ▸ hr))⟩
  refine ⟨fun i d hd => V.mono k (Sub.refl _) l d _ (f.slots i d hd), fun h e ob ho => ?_, f.known, f.alive, f.inj, f.zk, fun b o h => ?_, fun r h => ?_, f.oldc, f.oldm, f.lentn, fun q hq i d hd => V.mono k (Sub.refl _) l d _ (f.ghost q hq i d hd)⟩
  · obtain ⟨b, h1, h2, h3⟩ := f.obs h e ob ho
    refine ⟨b, h1, ?_, h3⟩
    rcases h2 with ⟨g1, ms, clk, g2, g3, g4, g5⟩ | ⟨g1, arr, E, vs, t, g2, g3, g4, g5⟩
    · exact .inl ⟨g1, ms, clk, (hb _ _ _ _ h1).trans g2, g3, VM.mono k (Sub.refl _) l _ _ g4, g5⟩
    · exact .inr ⟨g1, arr, E, vs, t, (hb _ _ _ _ h1).trans g2, g3, VL.mono k (Sub.refl _) l _ _ g4, g5⟩
  · rw [k.1 _ _ h]; exact f.pub b o h
  · rw [k.2 _ h]; exact f.pubm r h

theorem FR.keeps (f : FR base L S N vals ol Z a hp) {hp' : Hp} (g : Grows hp hp') : Keeps S hp hp' := by
  constructor
  · intro b o h
    obtain ⟨v, hv⟩ := f.pub b o h
    exact cellAt_of_eq (g.2 b (lt_of_cell hv))
  · intro r h
    obtain ⟨es, clk, hv⟩ := f.pubm r h
    exact g.2 r (lt_of_get hv)

theorem FR.grows (f : FR base L S N vals ol Z a hp) {hp' : Hp} (g : Grows hp hp') : FR base L S N vals ol Z a hp' :=
  f.heap (f.keeps g) fun h e b sz hn => g.2 b (f.block hn)

theorem getD_set {a : Array Value} {d i : Nat} {v : Value} (hd : d < a.size) : (a.setIfInBounds d v).getD i undef = if i = d then v else a.getD i undef := by
  simp only [Array.getD_eq_getD_getElem?]
  by_cases h : i = d
  · subst h; simp [hd]
  · rw [Array.getElem?_setIfInBounds_ne (Ne.symm h)]; simp [h]

def upd {α : Type} (f : Nat → α) (d : Nat) (x : α) : Nat → α := fun i => if i = d then x else f i

theorem FR.val (f : FR base L S N vals ol Z a hp) {d : Nat} {x : DV} {v : Value} (hd : d < a.size) (hv : V hp S N x v) :
    FR base L S N (upd vals d (some x)) ol Z (a.setIfInBounds d v) hp := by
  refine ⟨fun i y hy => ?_, f.obs, f.known, f.alive, f.inj, f.zk, f.pub, f.pubm, f.oldc, f.oldm, f.lentn, f.ghost⟩
  rw [getD_set hd]
  unfold upd at hy
  split at hy
  · rename_i h; subst h; simp at hy; subst hy; simpa using hv
  · rename_i h; rw [if_neg h]; exact f.slots i y hy

/-- The names with one more. -/
def more (N : Nm) (d c : Nat) (p : Nat × Nat) : Nm := fun h e => if h = d ∧ e = c then some (some p) else N h e

theorem Later.more {N : Nm} {hp hp' : Hp} {d c : Nat} {p : Nat × Nat} (hn : N d c = none) (g : ∀ h e b sz, N h e = some (some (b, sz)) → rowSize hp b ≤ rowSize hp' b) :
    Later N (more N d c p) hp hp' := by
  intro h e r hr
  refine ⟨r, ?_, .inr rfl, fun b sz he => g h e b sz (he ▸ hr)⟩
  unfold Ev.more
  split
  · rename_i hh; obtain ⟨rfl, rfl⟩ := hh; rw [hn] at hr; cases hr
  · exact hr

theorem FR.fresh (f : FR base L S N vals ol Z a hp) (d : Nat) : N d (ol d).length = none := by
  rcases h : N d (ol d).length with _ | r
  · rfl
  · exact absurd ((f.known d _).1 ⟨r, h⟩) (Nat.lt_irrefl _)

theorem FR.lentn_more (f : FR base L S N vals ol Z a hp) {d c : Nat} {q : Nat × Nat} (hn : N d c = none) : ∀ p b, L.nm p = some b → ∃ r, more N d c q p 0 = some r ∧ (r = none ∨ ∃ sz, r = some (b, sz)) := by
  intro p b h
  obtain ⟨r, h1, h2⟩ := f.lentn p b h
  refine ⟨r, ?_, h2⟩
  unfold Ev.more
  rw [if_neg]
  · exact h1
  · rintro ⟨rfl, e⟩
    rw [← e] at hn
    rw [hn] at h1; cases h1

/-- A new object in a new block. -/
theorem FR.new (f : FR base L S N vals ol Z a hp) {hp' : Hp} (g : Grows hp hp') {d : Nat} {ob : Ob} {b : Nat} (hk : ob.k ≠ 3) (hb : hp.size ≤ b) (hbase : base ≤ b)
    (ho : OB hp' S (more N d (ol d).length (b, ob.sz)) False ob b) :
    FR base L S (more N d (ol d).length (b, ob.sz)) vals (upd ol d (ob :: ol d)) Z a hp' := by
  have f1 := f.grows g
  have hfr := f.fresh d
  have l : Later N (more N d (ol d).length (b, ob.sz)) hp' hp' := Later.more hfr fun _ _ _ _ _ => Nat.le_refl _
  have kk := Keeps.refl S hp'
  refine ⟨fun i x hx => V.mono kk (Sub.refl _) l _ _ (f1.slots i x hx), ?_, ?_, ?_, ?_, ?_, f1.pub, f1.pubm, f.oldc, f.oldm, f.lentn_more (f.fresh d), fun q hq i x hx => V.mono kk (Sub.refl _) l _ _ (f1.ghost q hq i x hx)⟩
  · intro h e o hl
    unfold upd at hl
    by_cases hh : h = d
    · subst hh
      rw [if_pos rfl, nth_cons, if_neg hk] at hl
      by_cases he : e = (ol h).length
      · subst he
        rw [if_pos rfl] at hl; cases hl
        refine ⟨b, by simp [Ev.more], ?_, .inl hbase⟩
        have hz : ¬ Z (h, (ol h).length) := fun hz => absurd (f.zk _ _ hz) (Nat.lt_irrefl _)
        rcases ho with ⟨g1, ms, clk, g2, g3, g4, g5, g6⟩ | ⟨g1, arr, E, vs, t, g2, g3, g4, g5, g6⟩
        · exact .inl ⟨g1, ms, clk, g2, g3, g4, g5, fun x => (g6 x).elim⟩
        · exact .inr ⟨g1, arr, E, vs, t, g2, g3, g4, fun o x => ((g5 o x).1).elim, g6⟩
      · rw [if_neg he] at hl
        obtain ⟨b', h1, h2, h3⟩ := f1.obs h e o hl
        refine ⟨b', by unfold Ev.more; rw [if_neg (by intro x; exact he x.2)]; exact h1, ?_, h3⟩
        rcases h2 with ⟨g1, ms, clk, g2, g3, g4, g5⟩ | ⟨g1, arr, E, vs, t, g2, g3, g4, g5⟩
        · exact .inl ⟨g1, ms, clk, g2, g3, VM.mono kk (Sub.refl _) l _ _ g4, g5⟩
        · exact .inr ⟨g1, arr, E, vs, t, g2, g3, VL.mono kk (Sub.refl _) l _ _ g4, g5⟩
    · rw [if_neg hh] at hl
      obtain ⟨b', h1, h2, h3⟩ := f1.obs h e o hl
      refine ⟨b', by unfold Ev.more; rw [if_neg (by intro x; exact hh x.1)]; exact h1, ?_, h3⟩
      rcases h2 with ⟨g1, ms, clk, g2, g3, g4, g5⟩ | ⟨g1, arr, E, vs, t, g2, g3, g4, g5⟩
      · exact .inl ⟨g1, ms, clk, g2, g3, VM.mono kk (Sub.refl _) l _ _ g4, g5⟩
      · exact .inr ⟨g1, arr, E, vs, t, g2, g3, VL.mono kk (Sub.refl _) l _ _ g4, g5⟩
  · intro h e
    unfold Ev.more upd
    by_cases hh : h = d
    · subst hh
      by_cases he : e = (ol h).length
      · subst he; simp
      · simp only [he, and_false, if_false, if_true, List.length_cons]
        rw [f.known]; omega
    · simp only [hh, false_and, if_false]; exact f.known h e
  · intro h e p hn
    unfold Ev.more at hn
    unfold upd
    split at hn
    · rename_i hh; obtain ⟨rfl, rfl⟩ := hh
      exact ⟨ob, by rw [if_pos rfl, nth_cons, if_pos rfl, if_neg hk]⟩
    · rename_i hh
      obtain ⟨o, ho'⟩ := f.alive h e p hn
      refine ⟨o, ?_⟩
      by_cases h2 : h = d
      · subst h2; rw [if_pos rfl, nth_cons, if_neg (by intro x; exact hh ⟨rfl, x⟩)]; exact ho'
      · rw [if_neg h2]; exact ho'
  · intro h e h' e' b' sz sz' h1 h2
    unfold Ev.more at h1 h2
    split at h1
    · rename_i hh; split at h2
      · rename_i hh'; exact ⟨hh.1.trans hh'.1.symm, hh.2.trans hh'.2.symm⟩
      · simp at h1; have := f.block h2; omega
    · split at h2
      · simp at h2; have := f.block h1; omega
      · exact f.inj _ _ _ _ _ _ _ h1 h2
  · intro h e hz
    unfold upd
    have := f.zk h e hz
    split
    · rename_i hh; subst hh; simp; omega
    · exact this

theorem OB.mono {hp hp' : Hp} {S : Pub} {N N' : Nm} {fz fz' : Prop} {ob : Ob} {b : Nat} (k : Keeps S hp hp') (l : Later N N' hp hp') (hb : hp'[b]? = hp[b]?) (hz : fz → fz') (h : OB hp S N fz ob b) : OB hp' S N' fz' ob b := by
  rcases h with ⟨g1, ms, clk, g2, g3, g4, g5, g6⟩ | ⟨g1, arr, E, vs, t, g2, g3, g4, g5, g6⟩
  · exact .inl ⟨g1, ms, clk, hb.trans g2, g3, VM.mono k (Sub.refl _) l _ _ g4, g5, fun x => hz (g6 x)⟩
  · exact .inr ⟨g1, arr, E, vs, t, hb.trans g2, g3, VL.mono k (Sub.refl _) l _ _ g4, fun o x => ⟨hz (g5 o x).1, (g5 o x).2⟩, g6⟩

/-- What an object holds is changed. -/
theorem FR.mut (f : FR base L S N vals ol Z a hp) {h e : Nat} {ob : Ob} {b : Nat} (ho : nth (ol h) e = some ob) (hN : N h e = some (some (b, ob.sz))) {hp' : Hp}
    (hx : ∀ b', b' ≠ b → hp'[b']? = hp[b']?) (hr : rowSize hp b ≤ rowSize hp' b) (hs : (∀ o, S.c b o → cellAt hp' b o = cellAt hp b o) ∧ (S.m b → hp'[b]? = hp[b]?))
    {ob' : Ob} (hk : ob'.k ≠ 3) (hsz : ob'.sz = ob.sz) (hob : OB hp' S N (Z (h, e)) ob' b) :
    FR base L S N vals (upd ol h (setAt (ol h) e ob')) Z a hp' := by
  have he := nth_lt ho
  have k : Keeps S hp hp' := by
    constructor
    · intro b1 o hc
      by_cases hb : b1 = b
      · subst hb; exact hs.1 o hc
      · exact cellAt_of_eq (hx b1 hb)
    · intro r hm
      by_cases hb : r = b
      · subst hb; exact hs.2 hm
      · exact hx r hb
  have l : Later N N hp hp' := by
    intro h1 e1 r hr1
    refine ⟨r, hr1, .inr rfl, fun b1 sz1 hb1 => ?_⟩
    by_cases hb : b1 = b
    · subst hb; exact hr
    · exact rowSize_of_eq (hx b1 hb)
  refine ⟨fun i d hd => V.mono k (Sub.refl _) l d _ (f.slots i d hd), ?_, ?_, ?_, f.inj, ?_, ?_, ?_, f.oldc, f.oldm, f.lentn, fun q hq i d hd => V.mono k (Sub.refl _) l d _ (f.ghost q hq i d hd)⟩
  · intro h1 e1 o hl
    unfold upd at hl
    by_cases h2 : h1 = h ∧ e1 = e
    · obtain ⟨rfl, rfl⟩ := h2
      rw [if_pos rfl, nth_setAt he, if_pos rfl, if_neg hk] at hl
      cases hl
      obtain ⟨b1, g1, _, g3⟩ := f.obs _ _ _ ho
      rw [hN] at g1; simp at g1; subst g1
      exact ⟨b, by rw [hsz]; exact hN, hob, g3⟩
    · have hl' : nth (ol h1) e1 = some o := by
        split at hl
        · rename_i hh; subst hh
          rw [nth_setAt he, if_neg (by intro x; exact h2 ⟨rfl, x⟩)] at hl; exact hl
        · exact hl
      obtain ⟨b1, g1, g2, g3⟩ := f.obs _ _ _ hl'
      have hne : b1 ≠ b := by
        intro hb; subst hb
        exact h2 (f.inj _ _ _ _ _ _ _ g1 hN)
      exact ⟨b1, g1, g2.mono k l (hx b1 hne) id, g3⟩
  · intro h1 e1
    rw [f.known]; unfold upd
    split
    · rename_i hh; subst hh; rw [setAt_length]
    · rfl
  · intro h1 e1 p hp1
    obtain ⟨o, ho1⟩ := f.alive _ _ _ hp1
    unfold upd
    by_cases hh : h1 = h
    · subst hh
      rw [if_pos rfl, nth_setAt he]
      by_cases h2 : e1 = e
      · exact ⟨ob', by rw [if_pos h2, if_neg hk]⟩
      · exact ⟨o, by rw [if_neg h2]; exact ho1⟩
    · exact ⟨o, by rw [if_neg hh]; exact ho1⟩
  · intro h1 e1 hz
    have := f.zk h1 e1 hz
    unfold upd
    split
    · rename_i hh; subst hh; rw [setAt_length]; exact this
    · exact this
  · intro b1 o hc
    rw [k.1 _ _ hc]; exact f.pub _ _ hc
  · intro r hm
    rw [k.2 _ hm]; exact f.pubm _ hm

/-- The names behind an object that goes on under a new one. -/
def renew (N : Nm) (h e c : Nat) (p : Nat × Nat) : Nm := fun h1 e1 => if h1 = h ∧ e1 = e then some none else if h1 = h ∧ e1 = c then some (some p) else N h1 e1

/-- An object goes on under a new name, in its own block or in another one. -/
theorem FR.renew (f : FR base L S N vals ol Z a hp) {h e : Nat} {ob : Ob} (ho : nth (ol h) e = some ob) {hp' : Hp} (k : Keeps S hp hp') {b' : Nat}
    (hb : ∀ h1 e1 b1 sz1, N h1 e1 = some (some (b1, sz1)) → ¬ (h1 = h ∧ e1 = e) → hp'[b1]? = hp[b1]? ∧ b1 ≠ b') (hbase : base ≤ b' ∨ L b')
    {ob' : Ob} (hk : ob'.k ≠ 3) (hob : OB hp' S (Ev.renew N h e (ol h).length (b', ob'.sz)) (Z (h, e)) ob' b') :
    FR base L S (Ev.renew N h e (ol h).length (b', ob'.sz)) vals (upd ol h (ob' :: setAt (ol h) e { ob with k := 3 })) (fun p => Z p ∨ (Z (h, e) ∧ p = (h, (ol h).length))) a hp' := by
  have he := nth_lt ho
  have hne : ¬ e = (ol h).length := by omega
  have hfr := f.fresh h
  have l : Later N (Ev.renew N h e (ol h).length (b', ob'.sz)) hp hp' := by
    intro h1 e1 r hr
    unfold Ev.renew
    by_cases h2 : h1 = h ∧ e1 = e
    · rw [if_pos h2]; exact ⟨none, rfl, .inl rfl, fun _ _ x => by cases x⟩
    · rw [if_neg h2]
      by_cases h3 : h1 = h ∧ e1 = (ol h).length
      · obtain ⟨rfl, rfl⟩ := h3; rw [hfr] at hr; cases hr
      · rw [if_neg h3]
        exact ⟨r, hr, .inr rfl, fun b1 sz1 hr1 => rowSize_of_eq (hb h1 e1 b1 sz1 (hr1 ▸ hr) h2).1⟩
  refine ⟨fun i d hd => V.mono k (Sub.refl _) l d _ (f.slots i d hd), ?_, ?_, ?_, ?_, ?_, ?_, ?_, f.oldc, f.oldm, ?_, fun q hq i d hd => V.mono k (Sub.refl _) l d _ (f.ghost q hq i d hd)⟩
  · intro h1 e1 o hl
    unfold upd at hl
    by_cases h3 : h1 = h ∧ e1 = (ol h).length
    · obtain ⟨rfl, rfl⟩ := h3
      rw [if_pos rfl, nth_cons, setAt_length, if_pos rfl, if_neg hk] at hl
      cases hl
      refine ⟨b', by unfold Ev.renew; rw [if_neg (by intro x; exact hne x.2.symm), if_pos ⟨rfl, rfl⟩], ?_, hbase⟩
      rcases hob with ⟨g1, ms, clk, g2, g3, g4, g5, g6⟩ | ⟨g1, arr, E, vs, t, g2, g3, g4, g5, g6⟩
      · exact .inl ⟨g1, ms, clk, g2, g3, g4, g5, fun x => .inr ⟨g6 x, rfl⟩⟩
      · exact .inr ⟨g1, arr, E, vs, t, g2, g3, g4, fun o x => ⟨.inr ⟨(g5 o x).1, rfl⟩, (g5 o x).2⟩, g6⟩
    · have hl' : nth (ol h1) e1 = some o ∧ ¬ (h1 = h ∧ e1 = e) := by
        split at hl
        · rename_i hh; subst hh
          rw [nth_cons, setAt_length, if_neg (by intro x; exact h3 ⟨rfl, x⟩), nth_setAt he] at hl
          by_cases h4 : e1 = e
          · rw [if_pos h4] at hl; simp at hl
          · rw [if_neg h4] at hl; exact ⟨hl, fun x => h4 x.2⟩
        · rename_i hh; exact ⟨hl, fun x => hh x.1⟩
      obtain ⟨b1, g1, g2, g3⟩ := f.obs _ _ _ hl'.1
      refine ⟨b1, by unfold Ev.renew; rw [if_neg hl'.2, if_neg h3]; exact g1, g2.mono k l (hb _ _ _ _ g1 hl'.2).1 .inl, g3⟩
  · intro h1 e1
    unfold Ev.renew upd
    by_cases h2 : h1 = h ∧ e1 = e
    · obtain ⟨rfl, rfl⟩ := h2; simp [setAt_length]; omega
    · rw [if_neg h2]
      by_cases h3 : h1 = h ∧ e1 = (ol h).length
      · obtain ⟨rfl, rfl⟩ := h3; simp [setAt_length]
      · rw [if_neg h3, f.known]
        by_cases hh : h1 = h
        · subst hh
          have : e1 ≠ (ol h1).length := fun x => h3 ⟨rfl, x⟩
          simp [setAt_length]; omega
        · rw [if_neg hh]
  · intro h1 e1 p hp1
    unfold Ev.renew at hp1
    unfold upd
    by_cases h2 : h1 = h ∧ e1 = e
    · rw [if_pos h2] at hp1; cases hp1
    · rw [if_neg h2] at hp1
      by_cases h3 : h1 = h ∧ e1 = (ol h).length
      · obtain ⟨rfl, rfl⟩ := h3
        exact ⟨ob', by rw [if_pos rfl, nth_cons, setAt_length, if_pos rfl, if_neg hk]⟩
      · rw [if_neg h3] at hp1
        obtain ⟨o, ho1⟩ := f.alive _ _ _ hp1
        refine ⟨o, ?_⟩
        by_cases hh : h1 = h
        · subst hh
          rw [if_pos rfl, nth_cons, setAt_length, if_neg (by intro x; exact h3 ⟨rfl, x⟩), nth_setAt he, if_neg (by intro x; exact h2 ⟨rfl, x⟩)]; exact ho1
        · rw [if_neg hh]; exact ho1
  · intro h1 e1 h2 e2 b1 sz1 sz2 g1 g2
    unfold Ev.renew at g1 g2
    by_cases a1 : h1 = h ∧ e1 = e
    · rw [if_pos a1] at g1; cases g1
    · by_cases a2 : h2 = h ∧ e2 = e
      · rw [if_pos a2] at g2; cases g2
      · rw [if_neg a1] at g1; rw [if_neg a2] at g2
        by_cases c1 : h1 = h ∧ e1 = (ol h).length
        · rw [if_pos c1] at g1
          by_cases c2 : h2 = h ∧ e2 = (ol h).length
          · exact ⟨c1.1.trans c2.1.symm, c1.2.trans c2.2.symm⟩
          · rw [if_neg c2] at g2
            simp at g1
            exact absurd g1.1.symm (hb _ _ _ _ g2 a2).2
        · rw [if_neg c1] at g1
          by_cases c2 : h2 = h ∧ e2 = (ol h).length
          · rw [if_pos c2] at g2
            simp at g2
            exact absurd g2.1.symm (hb _ _ _ _ g1 a1).2
          · rw [if_neg c2] at g2; exact f.inj _ _ _ _ _ _ _ g1 g2
  · intro h1 e1 hz
    unfold upd
    rcases hz with hz | ⟨_, hz⟩
    · have := f.zk h1 e1 hz
      split
      · rename_i hh; subst hh; simp [setAt_length]; omega
      · exact this
    · simp at hz; obtain ⟨rfl, rfl⟩ := hz; simp [setAt_length]
  · intro b1 o hc
    rw [k.1 _ _ hc]; exact f.pub _ _ hc
  · intro r hm
    rw [k.2 _ hm]; exact f.pubm _ hm
  · intro p b hp
    obtain ⟨r, h1, h2⟩ := f.lentn p b hp
    unfold Ev.renew
    by_cases h3 : p = h ∧ 0 = e
    · rw [if_pos h3]; exact ⟨none, rfl, .inl rfl⟩
    · rw [if_neg h3]
      have h4 : ¬ (p = h ∧ 0 = (ol h).length) := by
        rintro ⟨rfl, e4⟩
        rw [e4] at h1; rw [hfr] at h1; cases h1
      rw [if_neg h4]; exact ⟨r, h1, h2⟩

/-- What is published, with the cells of one object. -/
def Pub.plus (S : Pub) (ob : Ob) (b : Nat) : Pub :=
  if ob.k = 1 then ⟨S.c, fun r => S.m r ∨ r = b, S.r, S.ok⟩ else ⟨fun b1 o => S.c b1 o ∨ (b1 = b ∧ o < ob.cs.length), S.m, S.r, S.ok⟩

theorem Pub.plus_sub (S : Pub) (ob : Ob) (b : Nat) : Sub S (S.plus ob b) := by
  unfold Pub.plus; split
  · exact ⟨fun _ _ h => h, fun _ h => .inl h, rfl⟩
  · exact ⟨fun _ _ h => .inl h, fun _ h => h, rfl⟩

/-- An object is frozen: its cells are published. -/
theorem FR.freeze (f : FR base L S N vals ol Z a hp) {h e : Nat} {ob : Ob} {b : Nat} (ho : nth (ol h) e = some ob) (hN : N h e = some (some (b, ob.sz))) :
    FR base L (S.plus ob b) N vals ol (fun p => Z p ∨ p = (h, e)) a hp := by
  have sb := Pub.plus_sub S ob b
  have kk := Keeps.refl S hp
  have l := Later.refl N hp
  obtain ⟨b0, q1, q2, q3⟩ := f.obs _ _ _ ho
  rw [hN] at q1; simp at q1; subst q1
  refine ⟨fun i d hd => V.mono kk sb l d _ (f.slots i d hd), ?_, f.known, f.alive, f.inj, ?_, ?_, ?_, ?_, ?_, f.lentn, fun q hq i d hd => V.mono kk sb l d _ (f.ghost q hq i d hd)⟩
  · intro h1 e1 o hl
    obtain ⟨b1, g1, g2, g3⟩ := f.obs _ _ _ hl
    refine ⟨b1, g1, ?_, g3⟩
    by_cases hh : b1 = b
    · subst hh
      obtain ⟨rfl, rfl⟩ := f.inj _ _ _ _ _ _ _ g1 hN
      rw [ho] at hl; cases hl
      rcases g2 with ⟨c1, ms, clk, c2, c3, c4, c5, c6⟩ | ⟨c1, arr, E, vs, t, c2, c3, c4, c5, c6⟩
      · exact .inl ⟨c1, ms, clk, c2, c3, VM.mono kk sb l _ _ c4, c5, fun _ => .inr rfl⟩
      · refine .inr ⟨c1, arr, E, vs, t, c2, c3, VL.mono kk sb l _ _ c4, fun o x => ⟨.inr rfl, ?_⟩, c6⟩
        unfold Pub.plus at x; rw [if_neg c1] at x
        rcases x with x | x
        · exact (c5 o x).2
        · exact x.2
    · rcases g2 with ⟨c1, ms, clk, c2, c3, c4, c5, c6⟩ | ⟨c1, arr, E, vs, t, c2, c3, c4, c5, c6⟩
      · refine .inl ⟨c1, ms, clk, c2, c3, VM.mono kk sb l _ _ c4, c5, fun x => .inl (c6 ?_)⟩
        unfold Pub.plus at x
        split at x
        · exact x.resolve_right hh
        · exact x
      · refine .inr ⟨c1, arr, E, vs, t, c2, c3, VL.mono kk sb l _ _ c4, fun o x => ?_, c6⟩
        have hx : S.c b1 o := by
          unfold Pub.plus at x
          split at x
          · exact x
          · exact x.resolve_right fun y => hh y.1
        exact ⟨.inl (c5 o hx).1, (c5 o hx).2⟩
  · intro h1 e1 hz
    rcases hz with hz | hz
    · exact f.zk _ _ hz
    · simp at hz; obtain ⟨rfl, rfl⟩ := hz; exact nth_lt ho
  · intro b1 o hc
    unfold Pub.plus at hc
    split at hc
    · exact f.pub _ _ hc
    · rename_i hk
      rcases hc with hc | ⟨rfl, hc⟩
      · exact f.pub _ _ hc
      · rcases q2 with ⟨c1, _⟩ | ⟨c1, arr, E, vs, t, c2, c3, c4, _⟩
        · exact absurd c1 hk
        · obtain ⟨d, hd⟩ : ∃ d, ob.cs[o]? = some d := ⟨_, List.getElem?_eq_getElem hc⟩
          obtain ⟨v, hv, _⟩ := VL.get c4 hd
          refine ⟨v, ?_⟩
          simp only [cellAt, c2]
          rw [← Array.getElem?_toList, c3, List.getElem?_append_left (by have := VL.length c4; omega)]; exact hv
  · intro r hm
    unfold Pub.plus at hm
    split at hm
    · rename_i hk
      rcases hm with hm | rfl
      · exact f.pubm _ hm
      · rcases q2 with ⟨c1, ms, clk, c2, _⟩ | ⟨c1, _⟩
        · exact ⟨ms, clk, c2⟩
        · exact absurd hk c1
    · exact f.pubm _ hm
  · intro b1 o hc
    unfold Pub.plus at hc
    split at hc
    · exact f.oldc _ _ hc
    · rcases hc with hc | ⟨rfl, _⟩
      · exact f.oldc _ _ hc
      · exact .inr q3
  · intro r hm
    unfold Pub.plus at hm
    split at hm
    · rcases hm with hm | rfl
      · exact f.oldm _ hm
      · exact .inr q3
    · exact f.oldm _ hm
end
end Go.Ev

/- Freezing a value: what it becomes says the same of the same memory. -/
namespace Go.Ev

section
variable {base : Nat} {L : Len} {N : Nm} {vals : Nat → Option DV} {a : Array Value} {hp : Hp}

theorem nrm_deep {S : Pub} {d : DV} {x : Value} (h : V hp S N d x) : V hp S N (nrm d) x := by
  cases d <;> try exact h
  simp only [V] at h
  subst h
  simp only [nrm, V]
  exact ⟨none, 0, rfl, Nat.le_refl _, rfl, by simp, fun ad e => by cases e⟩

theorem VL.nrm {S : Pub} : ∀ {cs : List DV} {vs : List Value}, VL hp S N cs vs → VL hp S N (cs.map nrm) vs
  | [], vs, h => by simpa [VL] using h
  | d :: r, vs, h => by
    simp only [VL] at h
    obtain ⟨v, t, rfl, h2, h3⟩ := h
    simp only [List.map_cons, VL]
    exact ⟨v, t, rfl, nrm_deep h2, VL.nrm h3⟩

/-- The cells of an object as they lie in its block, where all of them are published. -/
theorem VC.of_row {S : Pub} {cs : List DV} {vs t : List Value} {arr : Array Value} {E : Nat} {z : Nat × Nat} {b : Nat} (hb : hp[b]? = some (.cells arr E z)) (ha : arr.toList = vs ++ t)
    (hv : VL hp S N cs vs) (hc : ∀ o, o < cs.length → S.c b o) (k : Nat) : VC hp S N (cs.drop k) b k := by
  refine VC.mk fun i d e => ?_
  rw [List.getElem?_drop] at e
  have hi : k + i < cs.length := by
    rcases Nat.lt_or_ge (k + i) cs.length with h | h
    · exact h
    · rw [List.getElem?_eq_none h] at e; cases e
  obtain ⟨v, h1, h2⟩ := VL.get hv e
  refine ⟨hc _ hi, v, ?_, h2⟩
  simp only [cellAt, hb]
  rw [← Array.getElem?_toList, ha, List.getElem?_append_left (by have := VL.length hv; omega)]; exact h1

mutual
theorem deepen_ok (s : St) : ∀ (d : DV) (d' : DV) (z : List (Nat × Nat)) (x : Value) (S : Pub) (Z : Nat × Nat → Prop),
    FR base L S N vals (lst s) Z a hp → V hp S N d x → deepen s d = some (d', z) →
    ∃ S', Sub S S' ∧ FR base L S' N vals (lst s) (fun p => Z p ∨ p ∈ z) a hp ∧ isDeep d' = true ∧ V hp S' N d' x
  | .b v, d', z, x, S, Z, f, hv, hd => by
    simp [deepen] at hd; obtain ⟨rfl, rfl⟩ := hd
    exact ⟨S, Sub.refl _, by simpa using f, rfl, hv⟩
  | .i k n, d', z, x, S, Z, f, hv, hd => by
    simp [deepen] at hd; obtain ⟨rfl, rfl⟩ := hd
    exact ⟨S, Sub.refl _, by simpa using f, rfl, hv⟩
  | .nilfn, d', z, x, S, Z, f, hv, hd => by
    simp [deepen] at hd; obtain ⟨rfl, rfl⟩ := hd
    exact ⟨S, Sub.refl _, by simpa using f, rfl, hv⟩
  | .nil, d', z, x, S, Z, f, hv, hd => by
    simp [deepen] at hd; obtain ⟨rfl, rfl⟩ := hd
    exact ⟨S, Sub.refl _, by simpa using f, rfl, nrm_deep hv⟩
  | .sl n cs, d', z, x, S, Z, f, hv, hd => by
    simp [deepen] at hd; obtain ⟨rfl, rfl⟩ := hd
    refine ⟨S, Sub.refl _, by simpa using f, ?_, hv⟩
    simp only [V] at hv
    obtain ⟨_, _, _, _, h, _⟩ := hv
    simpa [isDeep] using h
  | .rop cs, d', z, x, S, Z, f, hv, hd => by
    simp [deepen] at hd; obtain ⟨rfl, rfl⟩ := hd
    refine ⟨S, Sub.refl _, by simpa using f, ?_, hv⟩
    simp only [V] at hv
    obtain ⟨_, _, _, h, _⟩ := hv
    simpa [isDeep] using h
  | .msl cs, d', z, x, S, Z, f, hv, hd => by
    simp [deepen] at hd; obtain ⟨rfl, rfl⟩ := hd
    refine ⟨S, Sub.refl _, by simpa using f, ?_, hv⟩
    simp only [V] at hv
    obtain ⟨_, _, _, _, _, _, h, _⟩ := hv
    simpa [isDeep] using h.1
  | .ref h e off n, d', z, x, S, Z, f, hv, hd => by
    simp only [deepen] at hd
    cases ho : look s h e with
    | none => rw [ho] at hd; cases hd
    | some ob =>
      rw [ho] at hd
      simp only at hd
      obtain ⟨b, q1, q2, q3⟩ := f.obs h e ob ho
      have f' := f.freeze ho q1
      obtain ⟨b', q1', q2', _⟩ := f'.obs h e ob ho
      rw [q1] at q1'; simp at q1'; subst q1'
      simp only [V] at hv
      obtain ⟨ad, cap, r, g3, g4, g5, g1, g2⟩ := hv
      rw [q1] at g1; cases g1
      have g6 := g2 b ob.sz rfl
      have key : ∀ cs' : List DV, (∀ (i : Nat) (dd : DV), cs'[i]? = some dd → (ob.cs.drop off)[i]? = some dd) → ob.k ≠ 1 → areDeep cs' = true → (cap = 0 → cs' = []) → V hp (S.plus ob b) N (.sl n cs') x := by
        intro cs' hsub hk1 hdeep hcap
        simp only [V]
        refine ⟨some ad, cap, g3, g4, hdeep, ⟨(fun x => by cases x), hcap⟩, ?_⟩
        intro ad' he _; cases he
        refine ⟨g5, ?_⟩
        by_cases hc : cap = 0
        · rw [hcap hc]; simp only [VC]
        · obtain ⟨e1, e2, _⟩ := g6 hc
          rcases q2' with ⟨c1, _⟩ | ⟨c1, arr, E, vs, t, c2, c3, c4, c5, c6⟩
          · exact absurd c1 hk1
          · have hvc := VC.of_row c2 c3 c4 (fun o ho => by unfold Pub.plus; rw [if_neg c1]; exact .inr ⟨rfl, ho⟩) off
            rw [e1, e2]
            exact VC.mk fun i dd hi => VC.get hvc (hsub i dd hi)
      have hdp : ob.k = 0 → areDeep ob.cs = true := by
        rcases q2 with ⟨c1, _⟩ | ⟨c1, arr, E, vs, t, c2, c3, c4, c5, c6⟩
        · intro h0; omega
        · exact c6
      split at hd
      · rename_i hk0
        simp at hd; obtain ⟨rfl, rfl⟩ := hd
        refine ⟨_, Pub.plus_sub S ob b, by simpa using f', ?_, ?_⟩
        · simp only [isDeep]; exact areDeep_take _ (areDeep_drop _ (hdp hk0))
        · refine key _ (fun i dd hi => ?_) (by omega) (areDeep_take _ (areDeep_drop _ (hdp hk0))) (fun hc => ?_)
          · rw [List.getElem?_take] at hi; split at hi
            · exact hi
            · cases hi
          · have : n = 0 := by omega
            subst this; simp
      · split at hd
        · rename_i hk2
          simp at hd; obtain ⟨rfl, rfl⟩ := hd
          refine ⟨_, Pub.plus_sub S ob b, by simpa using f', ?_, ?_⟩
          · simp only [isDeep]; exact areDeep_drop _ hk2.2.2
          · exact key _ (fun i dd hi => hi) (by omega) (areDeep_drop _ hk2.2.2) (fun hc => by omega)
        · cases hd
  | .ptr h e off, d', z, x, S, Z, f, hv, hd => by
    simp only [deepen] at hd
    cases ho : look s h e with
    | none => rw [ho] at hd; cases hd
    | some ob =>
      rw [ho] at hd
      simp only at hd
      split at hd
      · rename_i hk
        simp only [Option.some.injEq, Prod.mk.injEq] at hd; obtain ⟨rfl, rfl⟩ := hd
        obtain ⟨b, q1, q2, q3⟩ := f.obs h e ob ho
        have f' := f.freeze ho q1
        obtain ⟨b', q1', q2', _⟩ := f'.obs h e ob ho
        rw [q1] at q1'; simp at q1'; subst q1'
        simp only [V] at hv
        obtain ⟨ad, r, g3, g4, g1, g2⟩ := hv
        rw [q1] at g1; cases g1
        obtain ⟨g5, g6⟩ := g2 b ob.sz rfl
        refine ⟨_, Pub.plus_sub S ob b, by simpa using f', ?_, ?_⟩
        · simp only [isDeep]; exact areDeep_drop _ hk.2
        · simp only [V]
          refine ⟨ad, g3, g4, areDeep_drop _ hk.2, ?_⟩
          rw [g5, g6]
          rcases q2' with ⟨c1, _⟩ | ⟨c1, arr, E, vs, t, c2, c3, c4, c5, c6⟩
          · omega
          · exact VC.of_row c2 c3 (VL.nrm c4) (fun o ho => by unfold Pub.plus; rw [if_neg c1]; exact .inr ⟨rfl, by simpa using ho⟩) off
      · cases hd
  | .mref h e, d', z, x, S, Z, f, hv, hd => by
    simp only [deepen] at hd
    cases ho : look s h e with
    | none => rw [ho] at hd; cases hd
    | some ob =>
      rw [ho] at hd
      simp only at hd
      split at hd
      · rename_i hk
        simp only [Option.some.injEq, Prod.mk.injEq] at hd; obtain ⟨rfl, rfl⟩ := hd
        obtain ⟨b, q1, q2, q3⟩ := f.obs h e ob ho
        have f' := f.freeze ho q1
        obtain ⟨b', q1', q2', _⟩ := f'.obs h e ob ho
        rw [q1] at q1'; simp at q1'; subst q1'
        simp only [V] at hv
        obtain ⟨q, r, g3, g1, g2⟩ := hv
        rw [q1] at g1; cases g1
        obtain rfl := g2 b ob.sz rfl
        rcases q2' with ⟨c1, ms, clk, c2, c3, c4, c5, c6⟩ | ⟨c1, _⟩
        · refine ⟨_, Pub.plus_sub S ob _, by simpa using f', by simpa [isDeep] using c3, ?_⟩
          simp only [V]
          exact ⟨_, ms, clk, g3, by unfold Pub.plus; rw [if_pos hk]; exact .inr rfl, c2, ⟨c3, c5⟩, c4⟩
        · omega
      · cases hd
  | .fn g cs, d', z, x, S, Z, f, hv, hd => by
    simp only [deepen] at hd
    cases hl : deepenL s cs with
    | none => rw [hl] at hd; cases hd
    | some p =>
      rw [hl] at hd; simp only [Option.some.injEq, Prod.mk.injEq] at hd; obtain ⟨rfl, rfl⟩ := hd
      simp only [V] at hv
      obtain ⟨vs, rfl, hvs⟩ := hv
      obtain ⟨S', a1, a2, a3, a4⟩ := deepenL_ok s cs p.1 p.2 vs S Z f hvs hl
      exact ⟨S', a1, a2, by simpa [isDeep] using a3, by simp only [V]; exact ⟨vs, rfl, a4⟩⟩
  | .agg cs, d', z, x, S, Z, f, hv, hd => by
    simp only [deepen] at hd
    cases hl : deepenL s cs with
    | none => rw [hl] at hd; cases hd
    | some p =>
      rw [hl] at hd; simp only [Option.some.injEq, Prod.mk.injEq] at hd; obtain ⟨rfl, rfl⟩ := hd
      simp only [V] at hv
      obtain ⟨vs, rfl, hvs⟩ := hv
      obtain ⟨S', a1, a2, a3, a4⟩ := deepenL_ok s cs p.1 p.2 vs S Z f hvs hl
      exact ⟨S', a1, a2, by simpa [isDeep] using a3, by simp only [V]; exact ⟨vs, rfl, a4⟩⟩
  | .tup cs, d', z, x, S, Z, f, hv, hd => by
    simp only [deepen] at hd
    cases hl : deepenL s cs with
    | none => rw [hl] at hd; cases hd
    | some p =>
      rw [hl] at hd; simp only [Option.some.injEq, Prod.mk.injEq] at hd; obtain ⟨rfl, rfl⟩ := hd
      simp only [V] at hv
      obtain ⟨vs, rfl, hvs⟩ := hv
      obtain ⟨S', a1, a2, a3, a4⟩ := deepenL_ok s cs p.1 p.2 vs S Z f hvs hl
      exact ⟨S', a1, a2, by simpa [isDeep] using a3, by simp only [V]; exact ⟨vs, rfl, a4⟩⟩
  | .own .., d', z, x, S, Z, f, hv, hd => by simp [deepen] at hd
  | .x k p, d', z, x, S, Z, f, hv, hd => by
    simp [deepen] at hd; obtain ⟨rfl, rfl⟩ := hd
    exact ⟨S, Sub.refl _, by simpa using f, rfl, hv⟩
  | .u k l h, d', z, x, S, Z, f, hv, hd => by
    simp [deepen] at hd; obtain ⟨rfl, rfl⟩ := hd
    exact ⟨S, Sub.refl _, by simpa using f, rfl, hv⟩
  | .non, d', z, x, S, Z, f, hv, hd => by
    simp [deepen] at hd; obtain ⟨rfl, rfl⟩ := hd
    exact ⟨S, Sub.refl _, by simpa using f, rfl, hv⟩
  | .refc .., d', z, x, S, Z, f, hv, hd => by simp [deepen] at hd
  | .bf .., d', z, x, S, Z, f, hv, hd => by simp [deepen] at hd
  | .emp, d', z, x, S, Z, f, hv, hd => by
    simp [deepen] at hd; obtain ⟨rfl, rfl⟩ := hd
    exact ⟨S, Sub.refl _, by simpa using f, rfl, hv⟩
theorem deepenL_ok (s : St) : ∀ (cs : List DV) (cs' : List DV) (z : List (Nat × Nat)) (vs : List Value) (S : Pub) (Z : Nat × Nat → Prop),
    FR base L S N vals (lst s) Z a hp → VL hp S N cs vs → deepenL s cs = some (cs', z) →
    ∃ S', Sub S S' ∧ FR base L S' N vals (lst s) (fun p => Z p ∨ p ∈ z) a hp ∧ areDeep cs' = true ∧ VL hp S' N cs' vs
  | [], cs', z, vs, S, Z, f, hv, hd => by
    simp [deepenL] at hd; obtain ⟨rfl, rfl⟩ := hd
    exact ⟨S, Sub.refl _, by simpa using f, rfl, hv⟩
  | d :: r, cs', z, vs, S, Z, f, hv, hd => by
    simp only [deepenL] at hd
    cases h1 : deepen s d with
    | none => rw [h1] at hd; cases hd
    | some p =>
      cases h2 : deepenL s r with
      | none => rw [h1, h2] at hd; cases hd
      | some q =>
        rw [h1, h2] at hd; simp only [Option.some.injEq, Prod.mk.injEq] at hd; obtain ⟨rfl, rfl⟩ := hd
        simp only [VL] at hv
        obtain ⟨v, t, rfl, g1, g2⟩ := hv
        obtain ⟨S1, a1, a2, a3, a4⟩ := deepen_ok s d p.1 p.2 v S Z f g1 h1
        obtain ⟨S2, b1, b2, b3, b4⟩ := deepenL_ok s r q.1 q.2 t S1 _ a2 (VL.mono (Keeps.refl _ _) a1 (Later.refl _ _) _ _ g2) h2
        refine ⟨S2, a1.trans b1, ?_, by simp [areDeep, a3, b3], ?_⟩
        · refine cast ?_ b2
          congr 1
          funext x
          simp [List.mem_append, or_assoc]
        · simp only [VL]
          exact ⟨v, t, rfl, V.mono (Keeps.refl _ _) b1 (Later.refl _ _) _ _ a4, b4⟩
end
end
end Go.Ev

/- What the operations on half-known integers say is true of the integers. -/
namespace Go.Ev

theorem wrap_in (k : IntKind) (n : Int) (h : k.min ≤ n ∧ n ≤ k.max) : k.wrap n = n := by
  cases k <;> simp [IntKind.min, IntKind.max, IntKind.signed, IntKind.bits] at h <;> simp [IntKind.wrap, IntKind.bits, IntKind.signed] <;> omega

theorem wrap_up (k : IntKind) (n : Int) : k.wrap (n + 2 ^ k.bits) = k.wrap n := by
  cases k <;> simp [IntKind.wrap, IntKind.bits, IntKind.signed]

theorem wrap_down (k : IntKind) (n : Int) : k.wrap (n - 2 ^ k.bits) = k.wrap n := by
  rw [← wrap_up k (n - 2 ^ k.bits)]; congr 1; omega

def Cov (r : Nat → Int) : DV → DV → Prop
  | .x k p, y => y = .i k (p.eval r)
  | .u k l h, y => ∃ n, y = .i k n ∧ l ≤ n ∧ n ≤ h
  | x, y => x = y

section
variable {r : Nat → Int} {hp : Hp} {S : Pub} {N : Nm}

theorem Cov.refl (k : IntKind) (n : Int) : Cov r (.i k n) (.i k n) := rfl

theorem Cov.V {x y : DV} {v : Value} (h : Cov S.r x y) (hv : V hp S N y v) : V hp S N x v := by
  cases x <;> simp only [Cov] at h
  case x k p => subst h; simpa only [Ev.V] using hv
  case u k l h' =>
    obtain ⟨n, rfl, h1, h2⟩ := h
    simp only [Ev.V] at hv ⊢
    exact ⟨n, hv, h1, h2⟩
  all_goals (subst h; exact hv)

theorem mkX_cov (k : IntKind) (p : Pl) : Cov r (mkX k p) (.i k (p.eval r)) := by
  unfold mkX
  split
  · simp [Cov, Pl.eval]
  · simp [Cov, Pl.eval, Pl.prod]
  · rfl

theorem fitX_cov (ok : Pl.Ok r) {k : IntKind} {p : Pl} {x : DV} (h : fitX k p = some x) : Cov r x (.i k (k.wrap (p.eval r))) := by
  obtain ⟨b1, b2⟩ := Pl.bounds ok p
  unfold fitX at h
  split at h
  · rename_i hc; cases h
    rw [wrap_in k _ ⟨by omega, by omega⟩]; exact mkX_cov _ _
  · split at h
    · rename_i hc; cases h
      have := mkX_cov (r := r) k (Pl.add p (Pl.con (2 ^ k.bits)))
      rw [Pl.eval_add, Pl.eval_con] at this
      rw [← wrap_up, wrap_in k _ ⟨by omega, by omega⟩]; exact this
    · split at h
      · rename_i hc; cases h
        have := mkX_cov (r := r) k (Pl.add p (Pl.con (-(2 ^ k.bits))))
        rw [Pl.eval_add, Pl.eval_con] at this
        rw [← wrap_down, wrap_in k _ ⟨by omega, by omega⟩]
        exact this
      · cases h

theorem conOf_eval {p : Pl} {c : Int} (h : conOf p = some c) : p.eval r = c := by
  unfold conOf at h
  split at h
  · cases h; rfl
  · cases h; simp [Pl.eval, Pl.prod]
  · cases h

theorem ofInt_toNat (w : Nat) (n : Int) (h : 0 ≤ n) : ((BitVec.ofInt w n).toNat : Int) ≤ n := by
  rw [BitVec.toNat_ofInt]
  have : n % ((2 ^ w : Nat) : Int) ≤ n := by
    have e := Int.emod_def n ((2 ^ w : Nat) : Int)
    have h3 : 0 ≤ ((2 ^ w : Nat) : Int) * (n / ((2 ^ w : Nat) : Int)) := Int.mul_nonneg (Int.natCast_nonneg _) (Int.ediv_nonneg h (Int.natCast_nonneg _))
    omega
  have h2 : 0 ≤ n % ((2 ^ w : Nat) : Int) := Int.emod_nonneg _ (by have := Nat.two_pow_pos w; omega)
  omega

theorem bits_cov {k : IntKind} {h h' a b : Int} {x : DV} {m : Nat} (h1 : a ≤ h) (h2 : b ≤ h') (ha : 0 ≤ a) (hb : 0 ≤ b) (hx : bitsU k h h' = some x)
    (hm : ∀ j : Nat, (BitVec.ofInt k.bits a).toNat < 2 ^ j → (BitVec.ofInt k.bits b).toNat < 2 ^ j → m < 2 ^ j) : Cov r x (.i k (k.wrap m)) := by
  have e1 := ofInt_toNat k.bits a ha
  have e2 := ofInt_toNat k.bits b hb
  have hmin : k.min ≤ 0 := by cases k <;> decide
  unfold bitsU at hx
  split at hx
  · rename_i hc; cases hx
    have := hm 31 (by omega) (by omega)
    rw [wrap_in k _ ⟨by omega, by omega⟩]
    exact ⟨_, rfl, by omega, by omega⟩
  · split at hx
    · rename_i hc; cases hx
      have := hm 32 (by omega) (by omega)
      rw [wrap_in k _ ⟨by omega, by omega⟩]
      exact ⟨_, rfl, by omega, by omega⟩
    · cases hx

theorem binU_cov {op : BinOp} {k : IntKind} {l h l' h' a b : Int} {x : DV} (h1 : l ≤ a ∧ a ≤ h) (h2 : l' ≤ b ∧ b ≤ h') (hx : binU op k l h l' h' = some x) : ∃ y, ibin op k a b = some y ∧ Cov r x y := by
  have hmin : k.min ≤ 0 := by cases k <;> decide
  unfold binU at hx
  split at hx
  · cases hx
  · rename_i hn
    have ha : 0 ≤ a := by omega
    have hb : 0 ≤ b := by omega
    cases op <;> simp only at hx <;> (try (cases hx; done))
    · refine ⟨_, rfl, ?_⟩
      have e1 := ofInt_toNat k.bits a ha
      have e2 := ofInt_toNat k.bits b hb
      have g1 : (BitVec.ofInt k.bits a &&& BitVec.ofInt k.bits b).toNat ≤ (BitVec.ofInt k.bits a).toNat := by rw [BitVec.toNat_and]; exact Nat.and_le_left
      have g2 : (BitVec.ofInt k.bits a &&& BitVec.ofInt k.bits b).toNat ≤ (BitVec.ofInt k.bits b).toNat := by rw [BitVec.toNat_and]; exact Nat.and_le_right
      split at hx
      · rename_i hc
        split at hx
        · rename_i hm
          cases hx
          rw [wrap_in k _ ⟨by omega, by omega⟩]
          exact ⟨_, rfl, by omega, by omega⟩
        · cases hx
      · exact bits_cov h1.2 h2.2 ha hb hx fun j q1 q2 => by omega
    · refine ⟨_, rfl, bits_cov h1.2 h2.2 ha hb hx fun j q1 q2 => ?_⟩
      rw [BitVec.toNat_or]; exact Nat.or_lt_two_pow q1 q2
    · refine ⟨_, rfl, bits_cov h1.2 h2.2 ha hb hx fun j q1 q2 => ?_⟩
      rw [BitVec.toNat_xor]; exact Nat.xor_lt_two_pow q1 q2

theorem ediv_between {l a h m : Int} (hm : 0 < m) (h1 : l ≤ a) (h2 : a ≤ h) (he : l / m = h / m) : a / m = l / m := by
  have e1 := Int.ediv_le_ediv hm h1
  have e2 := Int.ediv_le_ediv hm h2
  omega

theorem ofInt_same (k : IntKind) {n : Int} (h0 : 0 ≤ n) (h1 : n ≤ k.max) : ((BitVec.ofInt k.bits n).toNat : Int) = n := by
  rw [BitVec.toNat_ofInt]
  have h2 : n < ((2 ^ k.bits : Nat) : Int) := by
    cases k <;> simp [IntKind.max, IntKind.signed, IntKind.bits] at h1 ⊢ <;> omega
  rw [Int.emod_eq_of_lt h0 h2]
  omega

theorem or_zero_left (k : IntKind) {n : Int} (h0 : 0 ≤ n) (h1 : n ≤ k.max) : k.wrap (BitVec.ofInt k.bits 0 ||| BitVec.ofInt k.bits n).toNat = n := by
  have e : BitVec.ofInt k.bits 0 = 0#k.bits := by simp
  rw [e, BitVec.zero_or, ofInt_same k h0 h1]
  exact wrap_in k n ⟨by have : k.min ≤ 0 := by cases k <;> decide
                        omega, h1⟩

theorem or_zero_right (k : IntKind) {n : Int} (h0 : 0 ≤ n) (h1 : n ≤ k.max) : k.wrap (BitVec.ofInt k.bits n ||| BitVec.ofInt k.bits 0).toNat = n := by
  rw [BitVec.or_comm]; exact or_zero_left k h0 h1

theorem binX_cov (ok : Pl.Ok r) {op : BinOp} {k : IntKind} {p q : Pl} {x : DV} (hx : binX op k p q = some x) : ∃ y, ibin op k (p.eval r) (q.eval r) = some y ∧ Cov r x y := by
  obtain ⟨p1, p2⟩ := Pl.bounds ok p
  obtain ⟨q1, q2⟩ := Pl.bounds ok q
  obtain ⟨d1, d2⟩ := Pl.bounds ok (Pl.sub p q)
  rw [Pl.eval_sub] at d1 d2
  have hmin : k.min ≤ 0 := by cases k <;> decide
  cases op <;> simp only [binX] at hx <;> (try (cases hx; done))
  · refine ⟨_, rfl, ?_⟩; rw [← Pl.eval_add]; exact fitX_cov ok hx
  · refine ⟨_, rfl, ?_⟩; rw [← Pl.eval_sub]; exact fitX_cov ok hx
  · refine ⟨_, rfl, ?_⟩; rw [← Pl.eval_mul]; exact fitX_cov ok hx
  · split at hx
    · cases hx
    · rename_i hc
      have hq0 : q.eval r ≠ 0 := by omega
      simp only [ibin, hq0, if_false]
      refine ⟨_, rfl, ?_⟩
      rw [Int.tdiv_eq_ediv_of_nonneg (by omega)]
      have hle : p.eval r / q.eval r ≤ p.eval r := Int.ediv_le_self _ (by omega)
      have hge : 0 ≤ p.eval r / q.eval r := Int.ediv_nonneg (by omega) (by omega)
      rw [wrap_in k _ ⟨by omega, by omega⟩]
      split at hx
      · cases hx
        rw [Int.ediv_eq_zero_of_lt (by omega) (by omega)]; rfl
      · split at hx
        · rename_i m hm
          have em := conOf_eval (r := r) hm
          split at hx
          · rename_i h1; subst h1; cases hx
            rw [em, Int.ediv_one]; exact mkX_cov _ _
          · split at hx
            · rename_i h2
              cases hx
              rw [em, ediv_between (by omega) p1 p2 h2]; rfl
            · cases hx
        · cases hx
  · split at hx
    · cases hx
    · rename_i hc
      have hq0 : q.eval r ≠ 0 := by omega
      simp only [ibin, hq0, if_false]
      refine ⟨_, rfl, ?_⟩
      rw [Int.tmod_eq_emod_of_nonneg (by omega)]
      split at hx
      · cases hx
        rw [Int.emod_eq_of_lt (by omega) (by omega)]; exact mkX_cov _ _
      · split at hx
        · rename_i m hm
          have em := conOf_eval (r := r) hm
          split at hx
          · rename_i h1; subst h1; cases hx
            rw [em, Int.emod_one]; rfl
          · split at hx
            · rename_i h2
              cases hx
              have e := ediv_between (by omega) p1 p2 h2
              have := mkX_cov (r := r) k (Pl.add p (Pl.con (-(p.lo / m * m))))
              rw [Pl.eval_add, Pl.eval_con] at this
              have e3 : p.eval r % q.eval r = p.eval r + -(p.lo / m * m) := by
                rw [em, Int.emod_def, e, Int.mul_comm]; omega
              rw [e3]; exact this
            · cases hx
        · cases hx
  · exact binU_cov ⟨p1, p2⟩ ⟨q1, q2⟩ hx
  · split at hx
    · rename_i hc
      cases hx
      refine ⟨_, rfl, ?_⟩
      rw [conOf_eval (r := r) hc.1, or_zero_left k (by omega) (by omega)]
      exact mkX_cov _ _
    · split at hx
      · rename_i hc
        cases hx
        refine ⟨_, rfl, ?_⟩
        rw [conOf_eval (r := r) hc.1, or_zero_right k (by omega) (by omega)]
        exact mkX_cov _ _
      · exact binU_cov ⟨p1, p2⟩ ⟨q1, q2⟩ hx
  · exact binU_cov ⟨p1, p2⟩ ⟨q1, q2⟩ hx
  all_goals
    refine ⟨_, rfl, ?_⟩
    split at hx
    · cases hx; simp [Cov]; omega
    · split at hx
      · cases hx; simp [Cov]; omega
      · cases hx

theorem asX_ok {x : DV} {k : IntKind} {p : Pl} {v : Value} (h : asX x = some (k, p)) (hv : V hp S N x v) : v = .int k (p.eval S.r) := by
  cases x <;> simp [asX] at h
  · obtain ⟨rfl, rfl⟩ := h; simp only [V] at hv; rw [Pl.eval_con]; exact hv
  · obtain ⟨rfl, rfl⟩ := h; simpa only [V] using hv

theorem asU_ok {x : DV} {k : IntKind} {l h : Int} {v : Value} (hx : asU x = some (k, l, h)) (hv : V hp S N x v) : ∃ n, v = .int k n ∧ l ≤ n ∧ n ≤ h := by
  cases x <;> simp [asU] at hx
  · obtain ⟨rfl, rfl, rfl⟩ := hx; simp only [V] at hv; exact ⟨_, hv, Int.le_refl _, Int.le_refl _⟩
  · obtain ⟨rfl, rfl, rfl⟩ := hx; simp only [V] at hv; exact ⟨_, hv, Pl.bounds S.ok _⟩
  · obtain ⟨rfl, rfl, rfl⟩ := hx; simpa only [V] using hv

theorem fdiv_between {l a h m : Int} (hm : 0 < m) (h1 : l ≤ a) (h2 : a ≤ h) (he : l.fdiv m = h.fdiv m) : a.fdiv m = l.fdiv m := by
  rw [Int.fdiv_eq_ediv_of_nonneg _ (by omega), Int.fdiv_eq_ediv_of_nonneg _ (by omega)] at *
  exact ediv_between hm h1 h2 he

/-- Values with literal integers in the place of half-known ones. -/
theorem bin_lit {op : BinOp} {x y z : DV} {u v : Value} (hx : V hp S N x u) (hy : V hp S N y v) (h : bin op x y = some z) : ∃ x0 y0 z0, V hp S N x0 u ∧ V hp S N y0 v ∧ bin0 op x0 y0 = some z0 ∧ Cov S.r z z0 := by
  have lit : ∀ {k : IntKind} {n : Int} {v : Value}, v = .int k n → V hp S N (.i k n) v := fun h => by simp only [V]; exact h
  have same : ∀ {z : DV}, (∀ k p, z ≠ .x k p) → (∀ k l h, z ≠ .u k l h) → Cov S.r z z := by
    intro z h1 h2
    cases z <;> simp only [Cov]
    · exact absurd rfl (h1 _ _)
    · exact absurd rfl (h2 _ _ _)
  unfold bin at h
  split at h
  · rename_i k a k' b
    refine ⟨_, _, _, hx, hy, h, same ?_ ?_⟩
    · intro k2 p e; subst e
      unfold bin0 at h
      split at h <;> first
        | (split at h <;> cases h; done)
        | (split at h
           · unfold ibin at h; split at h <;> first | cases h; done | (split at h <;> cases h; done)
           · cases h)
        | cases h
    · intro k2 l2 h2 e; subst e
      unfold bin0 at h
      split at h <;> first
        | (split at h <;> cases h; done)
        | (split at h
           · unfold ibin at h; split at h <;> first | cases h; done | (split at h <;> cases h; done)
           · cases h)
        | cases h
  · unfold binS at h
    split at h
    · rename_i hop
      split at h
      · rename_i k2 n _
        simp only [V] at hy
        rcases hop with rfl | rfl
        · simp only [shS] at h
          split at h
          · rename_i k p ha
            split at h
            · cases h
            · rename_i hn
              have hu := asX_ok ha hx
              have := fitX_cov S.ok h
              rw [Pl.eval_mul, Pl.eval_con] at this
              exact ⟨.i k (p.eval S.r), .i k2 n, _, lit hu, lit hy, by simp only [bin0]; rw [if_neg hn], this⟩
          · cases h
        · simp only [shS] at h
          split at h
          · rename_i k l hh ha
            split at h
            · cases h
            · rename_i hn
              split at h
              · rename_i he
                cases h
                obtain ⟨m, hu, m1, m2⟩ := asU_ok ha hx
                refine ⟨.i k m, .i k2 n, _, lit hu, lit hy, by simp only [bin0]; rw [if_neg hn], ?_⟩
                rw [fdiv_between (Int.pow_pos (by decide)) m1 m2 he]; rfl
              · cases h
          · cases h
      · cases h
    · rename_i hop
      have b0 : ∀ k a b, bin0 op (.i k a) (.i k b) = ibin op k a b := by
        intro k a b
        cases op <;> simp [bin0] at hop ⊢
      split at h
      · rename_i k p k' q ha hb
        split at h
        · rename_i hk; subst hk
          obtain ⟨y0, g1, g2⟩ := binX_cov S.ok h
          exact ⟨.i k (p.eval S.r), .i k (q.eval S.r), y0, lit (asX_ok ha hx), lit (asX_ok hb hy), by rw [b0]; exact g1, g2⟩
        · cases h
      · split at h
        · rename_i k l hh k' l' hh' ha hb
          split at h
          · rename_i hk; subst hk
            obtain ⟨a, a1, a2⟩ := asU_ok ha hx
            obtain ⟨b, c1, c2⟩ := asU_ok hb hy
            obtain ⟨y0, g1, g2⟩ := binU_cov (r := S.r) a2 c2 h
            exact ⟨.i k a, .i k b, y0, lit a1, lit c1, by rw [b0]; exact g1, g2⟩
          · cases h
        · cases h
end
end Go.Ev

/- The operations that only compute: what the machine computes is what the abstract interpreter computes. -/
namespace Go.Ev

theorem cell?_eq (w : World) (a : Addr) (h : a.spot = none) : w.cell? a = cellAt w.heap a.block a.off := by
  simp only [World.cell?, cellAt, h]
  cases w.heap[a.block]? with
  | none => rfl
  | some o => cases o <;> simp

theorem add_block (a : Addr) (n : Nat) : (a.add n).block = a.block := by unfold Addr.add; split <;> rfl
theorem add_off (a : Addr) (n : Nat) : (a.add n).off = a.off + n := by
  unfold Addr.add; split
  · rename_i h; simp [h]
  · rfl
theorem add_spot (a : Addr) (n : Nat) (h : a.spot = none) : (a.add n).spot = none := by
  unfold Addr.add
  split
  · exact h
  · rfl
theorem add_mk (b o n : Nat) : Addr.add ⟨b, o, none⟩ n = ⟨b, o + n, none⟩ := by
  unfold Addr.add; split
  · rename_i h; simp [h]
  · rfl

/-! ### Operands -/

section
variable {hp : Hp} {S : Pub} {N : Nm}

mutual
theorem ofVal_ok : ∀ (v : Value) (d : DV), ofVal v = some d → V hp S N d v
  | .bool b, d, h => by simp [ofVal] at h; subst h; simp [V]
  | .int k n, d, h => by simp [ofVal] at h; subst h; simp [V]
  | .nilFunc, d, h => by simp [ofVal] at h; subst h; simp [V]
  | .slice a n c, d, h => by
    cases a <;> cases n <;> cases c <;> simp [ofVal] at h
    subst h; simp [V]
  | .agg cs, d, h => by
    simp only [ofVal, Option.map_eq_some_iff] at h
    obtain ⟨ds, h1, rfl⟩ := h
    simp only [V]
    exact ⟨cs.toList, by simp, ofVals_ok cs.toList ds h1⟩
  | .float .., _, h => by simp [ofVal] at h
  | .complex .., _, h => by simp [ofVal] at h
  | .string .., _, h => by simp [ofVal] at h
  | .pointer .., _, h => by simp [ofVal] at h
  | .map .., _, h => by simp [ofVal] at h
  | .chan .., _, h => by simp [ofVal] at h
  | .func .., _, h => by simp [ofVal] at h
  | .iface .., _, h => by simp [ofVal] at h
  | .nilIface, _, h => by simp [ofVal] at h
  | .tuple .., _, h => by simp [ofVal] at h
theorem ofVals_ok : ∀ (vs : List Value) (ds : List DV), ofVals vs = some ds → VL hp S N ds vs
  | [], ds, h => by simp [ofVals] at h; subst h; simp [VL]
  | v :: r, ds, h => by
    simp only [ofVals] at h
    split at h
    · rename_i d l h1 h2
      cases h
      simp only [VL]
      exact ⟨v, r, rfl, ofVal_ok v d h1, ofVals_ok r l h2⟩
    · cases h
end
end

section
variable {base : Nat} {L : Len} {S : Pub} {N : Nm} {s : St} {ol : Nat → List Ob} {Z : Nat × Nat → Prop} {a : Act} {hp : Hp}

theorem opv_ok (f : FR base L S N s.v.get ol Z a.tmps hp) {x : Operand} {y : Opd} {d : DV} (h : toOpd x = some y) (hv : opv s y = some d) : V hp S N d (a.eval x) := by
  cases x with
  | tmp n => simp [toOpd] at h; subst h; exact f.slots n d hv
  | const v =>
    simp only [toOpd, Option.map_eq_some_iff] at h
    obtain ⟨c, h1, rfl⟩ := h
    simp [opv] at hv; subst hv
    exact ofVal_ok v c h1
  | global g => simp [toOpd] at h
  | func g => simp [toOpd] at h; subst h; simp [opv] at hv; subst hv; simp [V, VL, Act.eval]

theorem opvL_ok (f : FR base L S N s.v.get ol Z a.tmps hp) : ∀ {xs : List Operand} {ys : List Opd} {ds : List DV}, toOpds xs = some ys → opvL s ys = some ds → VL hp S N ds (xs.map a.eval)
  | [], ys, ds, h, hv => by simp [toOpds] at h; subst h; simp [opvL] at hv; subst hv; simp [VL]
  | x :: r, ys, ds, h, hv => by
    simp only [toOpds] at h
    split at h
    · rename_i y l h1 h2
      cases h
      simp only [opvL] at hv
      split at hv
      · rename_i d e h3 h4
        cases hv
        simp only [List.map_cons, VL]
        exact ⟨_, _, rfl, opv_ok f h1 h3, opvL_ok f h2 h4⟩
      · cases hv
    · cases h
end

/-! ### Numbers -/

section
variable {hp : Hp} {S : Pub} {N : Nm} {P : Program} (w : World)

theorem bin0_ok {op : BinOp} {t : TypeId} {X Y : Operand} {x y r : DV} {u v : Value} (hx : V hp S N x u) (hy : V hp S N y v) (h : bin0 op x y = some r) :
    ∃ z, ((do eqGuard op t X Y u v; binOp op t u v : Go.Sem Value)).run P w = .ok z w ∧ V hp S N r z := by
  unfold bin0 at h
  split at h
  · simp only [V] at hx hy; subst hx; subst hy
    split at h
    · cases h
    · rename_i hn; cases h
      simp only [eqGuard_at_int, binOp_shl, Sem.run_bind, Sem.run_pure, Result.andThen_ok, Op.shift]
      rw [if_neg hn]
      exact ⟨_, rfl, by simp [V]⟩
  · simp only [V] at hx hy; subst hx; subst hy
    split at h
    · cases h
    · rename_i hn; cases h
      simp only [eqGuard_at_int, binOp_shr, Sem.run_bind, Sem.run_pure, Result.andThen_ok, Op.shift]
      rw [if_neg hn]
      exact ⟨_, rfl, by simp [V]⟩
  · simp only [V] at hx hy; subst hx; subst hy
    split at h
    · rename_i hk; subst hk
      cases op <;> simp only [ibin] at h
      all_goals first
        | (cases h; exact ⟨_, by simp [eqGuard_at_int, binOp_add, binOp_sub, binOp_mul, Op.intArith, binOp_and, binOp_or, binOp_xor, Op.intBits, binOp_eql, binOp_neq, binOp_lss, binOp_leq, binOp_gtr, binOp_geq]; rfl, by simp [V]⟩)
        | (split at h
           · cases h
           · rename_i hb; cases h
             exact ⟨_, by simp [eqGuard_at_int, binOp_quo, binOp_rem, Op.intDiv, hb]; rfl, by simp [V]⟩)
        | cases h
    · cases h
  · cases h

theorem bin_ok {op : BinOp} {t : TypeId} {X Y : Operand} {x y r : DV} {u v : Value} (hx : V hp S N x u) (hy : V hp S N y v) (h : bin op x y = some r) :
    ∃ z, ((do eqGuard op t X Y u v; binOp op t u v : Go.Sem Value)).run P w = .ok z w ∧ V hp S N r z := by
  obtain ⟨x0, y0, z0, h1, h2, h3, h4⟩ := bin_lit hx hy h
  obtain ⟨z, g1, g2⟩ := bin0_ok (P := P) w (t := t) (X := X) (Y := Y) h1 h2 h3
  exact ⟨z, g1, h4.V g2⟩

theorem beq_ok {op : BinOp} {t : TypeId} {X Y : Operand} (a b : Bool) (ho : op = .eql ∨ op = .neq) (ht : P.underlying t = some .bool) :
    ((do eqGuard op t X Y (.bool a) (.bool b); binOp op t (.bool a) (.bool b) : Go.Sem Value)).run P w = .ok (.bool (if op = .neq then !(a == b) else a == b)) w := by
  rcases ho with rfl | rfl
  · simp only [eqGuard_at_bool, Sem.run_bind, Sem.run_pure, Result.andThen_ok, run_eql_bool w t a b ht]; simp
  · simp only [eqGuard_at_bool, Sem.run_bind, Sem.run_pure, Result.andThen_ok, run_neq_bool w t a b ht]; simp

theorem un0_ok {op : UnOp} {x r : DV} {u : Value} (hx : V hp S N x u) (h : un0 op x = some r) : ∃ z, (Op.unary op u).run P w = .ok z w ∧ V hp S N r z := by
  unfold un0 at h
  split at h <;> first
    | (simp only [V] at hx; subst hx; cases h; exact ⟨_, by simp [Op.unary, Op.intArith, Op.intBits]; rfl, by simp [V]⟩)
    | cases h

theorem not_bits (k : IntKind) (n : Int) (hs : k.signed = false) (h : 0 ≤ n ∧ n ≤ k.max) : k.wrap (BitVec.ofInt k.bits k.max ^^^ BitVec.ofInt k.bits n).toNat = k.max - n := by
  have key : ∀ w : Nat, 0 ≤ n → n ≤ 2 ^ w - 1 → ((BitVec.ofInt w (2 ^ w - 1) ^^^ BitVec.ofInt w n).toNat : Int) = 2 ^ w - 1 - n := by
    intro w h0 h1
    have e1 : BitVec.ofInt w (2 ^ w - 1) = BitVec.allOnes w := by
      apply BitVec.eq_of_toNat_eq
      rw [BitVec.toNat_ofInt, BitVec.toNat_allOnes]
      have : (0 : Int) < 2 ^ w := Int.pow_pos (by decide)
      have e : ((2 ^ w : Nat) : Int) = 2 ^ w := by norm_cast
      rw [e, Int.emod_eq_of_lt (by omega) (by omega)]
      have : (2 : Int) ^ w - 1 = ((2 ^ w - 1 : Nat) : Int) := by rw [Int.natCast_sub (Nat.one_le_two_pow)]; norm_cast
      rw [this]; rfl
    rw [e1, BitVec.allOnes_xor, BitVec.toNat_not, BitVec.toNat_ofInt]
    have e : ((2 ^ w : Nat) : Int) = 2 ^ w := by norm_cast
    rw [e, Int.emod_eq_of_lt h0 (by omega)]
    have hlt : n.toNat < 2 ^ w := by
      have : (n.toNat : Int) < ((2 ^ w : Nat) : Int) := by rw [e]; omega
      exact_mod_cast this
    omega
  have hm : k.max = 2 ^ k.bits - 1 := by simp [IntKind.max, hs]
  rw [hm, key k.bits h.1 (by rw [← hm]; exact h.2), ← hm]
  exact wrap_in k _ ⟨by have : k.min = 0 := by simp [IntKind.min, hs]
                        omega, by omega⟩

theorem un_ok {op : UnOp} {x r : DV} {u : Value} (hx : V hp S N x u) (h : un op x = some r) : ∃ z, (Op.unary op u).run P w = .ok z w ∧ V hp S N r z := by
  have lit : ∀ {k : IntKind} {n : Int} {v : Value}, v = .int k n → V hp S N (.i k n) v := fun h => by simp only [V]; exact h
  unfold un at h
  split at h
  · rename_i k p
    simp only [V] at hx
    have := fitX_cov S.ok h
    rw [Pl.eval_neg] at this
    obtain ⟨z, g1, g2⟩ := un0_ok (P := P) w (op := .neg) (lit hx) rfl
    refine ⟨z, g1, Cov.V this ?_⟩
    rw [show -(p.eval S.r) = 0 - p.eval S.r by omega]; exact g2
  · rename_i k p
    split at h
    · cases h
    · rename_i hs
      split at h
      · rename_i hc
        cases h
        simp only [V] at hx
        obtain ⟨b1, b2⟩ := Pl.bounds S.ok p
        obtain ⟨z, g1, g2⟩ := un0_ok (P := P) w (op := .xor) (lit hx) rfl
        have hs : k.signed = false := by simpa using hs
        rw [if_neg (by simp [hs]), not_bits k _ hs ⟨by omega, by omega⟩] at g2
        refine ⟨z, g1, Cov.V (mkX_cov _ _) ?_⟩
        rw [Pl.eval_sub, Pl.eval_con]; exact g2
      · cases h
  · rename_i k l hh
    split at h
    · cases h
    · rename_i hs
      split at h
      · rename_i hc
        cases h
        simp only [V] at hx
        obtain ⟨n, hx, n1, n2⟩ := hx
        obtain ⟨z, g1, g2⟩ := un0_ok (P := P) w (op := .xor) (lit hx) rfl
        have hs : k.signed = false := by simpa using hs
        rw [if_neg (by simp [hs]), not_bits k _ hs ⟨by omega, by omega⟩] at g2
        exact ⟨z, g1, Cov.V ⟨_, rfl, by omega, by omega⟩ g2⟩
      · cases h
  · exact un0_ok w hx h

/-- A conversion between integers. -/
theorem conv_ok {k : IntKind} {x r : DV} {u : Value} (hx : V hp S N x u) (h : conv k x = some r) : ∃ k' n, u = .int k' n ∧ V hp S N r (.int k (k.wrap n)) := by
  unfold conv at h
  split at h
  · cases h; simp only [V] at hx; exact ⟨_, _, hx, by simp only [V]⟩
  · simp only [V] at hx
    exact ⟨_, _, hx, Cov.V (fitX_cov S.ok h) (by simp only [V])⟩
  · split at h
    · rename_i hc
      cases h
      simp only [V] at hx
      obtain ⟨n, hx, n1, n2⟩ := hx
      refine ⟨_, _, hx, ?_⟩
      rw [wrap_in k n ⟨by omega, by omega⟩]
      simp only [V]
      exact ⟨n, rfl, n1, n2⟩
    · cases h
  · cases h

theorem lenOf_ok {x : DV} {n : Nat} {u : Value} (hx : V hp S N x u) (h : lenOf x = some n) : ∃ b c, u = .slice b n c ∧ n ≤ c := by
  cases x <;> simp [lenOf] at h
  · subst h; simp only [V] at hx; subst hx; exact ⟨_, _, rfl, Nat.le_refl _⟩
  · subst h; simp only [V] at hx; obtain ⟨a, c, h1, h2, _⟩ := hx; exact ⟨a, c, h1, h2⟩
  · subst h; simp only [V] at hx; obtain ⟨a, c, r, h1, h2, _⟩ := hx; exact ⟨_, c, h1, h2⟩
  · subst h; simp only [V] at hx; subst hx; exact ⟨_, _, rfl, Nat.le_refl _⟩
  · subst h; simp only [V] at hx; obtain ⟨a, c, h1, _⟩ := hx; exact ⟨_, c, h1, Nat.zero_le _⟩
  · subst h; simp only [V] at hx; obtain ⟨a, c, r, h1, h2, _⟩ := hx; exact ⟨_, c, h1, by omega⟩

theorem isNil_ok {x : DV} {q : Bool} {u : Value} (hx : V hp S N x u) (h : isNil x = some q) : ∃ b n c, u = .slice b n c ∧ b.isNone = q := by
  unfold isNil at h
  split at h
  · cases h; simp only [V] at hx; exact ⟨_, _, _, hx, rfl⟩
  · cases h; simp only [V] at hx; exact ⟨_, _, _, hx, rfl⟩
  · cases h; simp only [V] at hx; obtain ⟨a, c, h1, _⟩ := hx; exact ⟨_, _, _, h1, rfl⟩
  · cases h
    simp only [V] at hx
    obtain ⟨a, cap, h1, h2, h3, h4, h5⟩ := hx
    cases a with
    | none => have := h4.1 rfl; omega
    | some a => exact ⟨_, _, _, h1, rfl⟩
  · cases h; simp only [V] at hx; obtain ⟨a, c, r, h1, _⟩ := hx; exact ⟨_, _, _, h1, rfl⟩
  · cases h

theorem eqlNil_ok {op : BinOp} {t e : TypeId} {X Y : Operand} (b : Option Addr) (n c : Nat) (ho : op = .eql ∨ op = .neq) (ht : P.underlying t = some (.slice e)) :
    ((do eqGuard op t X Y (.slice b n c) (.slice none 0 0); binOp op t (.slice b n c) (.slice none 0 0) : Go.Sem Value)).run P w = .ok (.bool (if op = .neq then !b.isNone else b.isNone)) w := by
  have key0 : ∀ d, (Op.equalIn (d + 1) t (.slice b n c) (.slice none 0 0)).run P w = .ok b.isNone w := by
    intro d
    cases b <;> simp [Op.equalIn, run_underlying ht]
  have key : (Op.equalIn Op.maxDepth t (.slice b n c) (.slice none 0 0)).run P w = .ok b.isNone w := key0 9999
  rcases ho with rfl | rfl
  · simp only [eqGuard_at_slice, Sem.run_bind, Sem.run_pure, Result.andThen_ok, binOp]
    simp [Op.equal, key]
  · simp only [eqGuard_at_slice, Sem.run_bind, Sem.run_pure, Result.andThen_ok, binOp]
    simp [Op.equal, key]

theorem len_ok {x : DV} {n : Nat} {t ty e : TypeId} {u : Value} (hx : V hp S N x u) (h : lenOf x = some n) (ht : P.underlying t = some (.slice e)) :
    (Builtin.len_ #[t] ty #[u]).run P w = .ok (.int .i64 n) w := by
  obtain ⟨b, c, rfl, _⟩ := lenOf_ok hx h
  simp [Builtin.len_, run_underlying ht, goInt]

/-! ### Parts of aggregates -/

theorem part_ok {cs : List DV} {vs : List Value} {off n : Nat} {agg : Bool} {d : DV} {t : TypeId} (hv : VL hp S N cs vs) (h : Ev.part cs off n agg = some d)
    (ha : aggT P t = some agg) (hn : sizeT P t = some n) : ∃ z, (Go.part t vs.toArray off).run P w = .ok z w ∧ V hp S N d z := by
  unfold Ev.part at h
  unfold aggT at ha
  unfold sizeT at hn
  simp only [Option.map_eq_some_iff] at hn
  obtain ⟨i, hi, rfl⟩ := hn
  have hs : (sizeOf t).run P w = .ok i.size w := by simp [sizeOf, typeInfo, hi]
  cases hu : P.underlying t with
  | none => rw [hu] at ha; cases ha
  | some td =>
    have hagg : (isAgg t).run P w = .ok agg w := by
      rw [hu] at ha
      cases td <;> simp at ha <;> subst ha <;> simp [isAgg, run_underlying hu]
    cases agg with
    | true =>
      simp only [if_true] at h
      split at h
      · rename_i hl; cases h
        refine ⟨_, by simp [Go.part, hagg, hs]; rfl, ?_⟩
        simp only [V]
        refine ⟨(vs.drop off).take i.size, ?_, VL.take _ (VL.drop _ hv)⟩
        congr 1
      · cases h
    | false =>
      simp only [Bool.false_eq_true, if_false] at h
      obtain ⟨v, h1, h2⟩ := VL.get hv h
      exact ⟨v, by simp [Go.part, hagg, h1], h2⟩

/-! ### Equality of arrays of integers -/

theorem eqItems_ok (d : Nat) {e : TypeId} {k0 : IntKind} {i : TypeInfo} (he : P.underlying e = some (.int k0)) (hi : P.info? e = some i) (h1 : i.size = 1) :
    ∀ (xs ys : List DV) (us vs pu pv : List Value) (q : Bool), VL hp S N xs us → VL hp S N ys vs → eqCells xs ys = some q → pu.length = pv.length →
    (Op.eqItems (d + 1) e (P.cellsOf e) (pu ++ us).toArray (pv ++ vs).toArray ((List.range' pu.length xs.length))).run P w = .ok q w
  | [], ys, us, vs, pu, pv, q, hx, hy, h, hl => by
    cases ys with
    | nil => simp [eqCells] at h; subst h; simp [Op.eqItems]
    | cons y r => simp [eqCells] at h
  | x :: r, ys, us, vs, pu, pv, q, hx, hy, h, hl => by
    cases ys with
    | nil => cases x <;> simp [eqCells] at h
    | cons y t =>
      cases x <;> cases y <;> simp [eqCells] at h
      rename_i k a k' b
      obtain ⟨hk, h⟩ := h
      subst hk
      split at h
      · rename_i q' hq
        cases h
        simp only [VL] at hx hy
        obtain ⟨u, us', rfl, hu, hx'⟩ := hx
        obtain ⟨v, vs', rfl, hv, hy'⟩ := hy
        simp only [V] at hu hv
        subst hu; subst hv
        have hc : P.cellsOf e = 1 := by simp [Program.cellsOf, hi, h1]
        have hagg : ∀ w, (isAgg e).run P w = .ok false w := fun w => by simp [isAgg, run_underlying he]
        have p1 : ∀ w, (Go.part e (pu ++ .int k a :: us').toArray (pu.length * 1)).run P w = .ok (.int k a) w := fun w => by simp [Go.part, hagg]
        have p2 : ∀ w, (Go.part e (pv ++ .int k b :: vs').toArray (pu.length * 1)).run P w = .ok (.int k b) w := fun w => by simp [Go.part, hagg, hl]
        have p3 : ∀ w, (Op.equalIn (d + 1) e (.int k a) (.int k b)).run P w = .ok (a == b) w := fun w => by simp [Op.equalIn, run_underlying he]
        have ih := eqItems_ok d he hi h1 r t us' vs' (pu ++ [.int k a]) (pv ++ [.int k b]) q' hx' hy' hq (by simp [hl])
        simp only [List.append_assoc, List.singleton_append, List.length_append, List.length_singleton] at ih
        simp only [List.length_cons, List.range'_succ, Op.eqItems, Sem.run_bind, hc, p1, p2, p3, Result.andThen_ok]
        rw [hc] at ih
        cases hab : (a == b)
        · simp
        · simpa using ih
      · cases h

theorem eqCells_length : ∀ {xs ys : List DV} {q : Bool}, eqCells xs ys = some q → xs.length = ys.length
  | [], ys, q, h => by cases ys <;> simp [eqCells] at h; rfl
  | x :: r, ys, q, h => by
    cases ys with
    | nil => cases x <;> simp [eqCells] at h
    | cons y t =>
      cases x <;> cases y <;> simp [eqCells] at h
      obtain ⟨_, h⟩ := h
      split at h
      · rename_i q' hq; simp [eqCells_length hq]
      · cases h

theorem equal_ok {t e : TypeId} {n : Nat} {k0 : IntKind} {i : TypeInfo} (ht : P.underlying t = some (.array n e)) (he : P.underlying e = some (.int k0)) (hi : P.info? e = some i) (h1 : i.size = 1)
    {xs ys : List DV} {us vs : List Value} {q : Bool} (hx : VL hp S N xs us) (hy : VL hp S N ys vs) (hn : xs.length = n) (h : eqCells xs ys = some q) :
    (Op.equal t (.agg us.toArray) (.agg vs.toArray)).run P w = .ok q w := by
  have := eqItems_ok w 9998 he hi h1 xs ys us vs [] [] q hx hy h rfl
  simp only [List.nil_append, List.length_nil, hn] at this
  show (Op.equalIn (9999 + 1) t (.agg us.toArray) (.agg vs.toArray)).run P w = _
  rw [run_equalIn_array w 9999 us.toArray vs.toArray ht hi]
  rw [List.range_eq_range']; exact this

theorem depth_pos (P : Program) : ∃ d, P.depth = d + 2 := ⟨2 * (P.types.size + Made.depth), rfl⟩

theorem eqGuardType_ok {t e : TypeId} {n : Nat} {k0 : IntKind} (ht : P.underlying t = some (.array n e)) (he : P.underlying e = some (.int k0)) : P.eqGuardType P.depth t = false := by
  obtain ⟨d, hd⟩ := depth_pos P
  rw [hd]
  simp [Program.eqGuardType, ht, he]

theorem eqa_ok {op : BinOp} {t e : TypeId} {X Y : Operand} {n : Nat} {k0 : IntKind} {i : TypeInfo} (ho : op = .eql ∨ op = .neq) (ht : P.underlying t = some (.array n e)) (he : P.underlying e = some (.int k0))
    (hi : P.info? e = some i) (h1 : i.size = 1) {xs ys : List DV} {us vs : List Value} {q : Bool} (hx : VL hp S N xs us) (hy : VL hp S N ys vs) (hn : xs.length = n) (h : eqCells xs ys = some q) :
    ((do eqGuard op t X Y (.agg us.toArray) (.agg vs.toArray); binOp op t (.agg us.toArray) (.agg vs.toArray) : Go.Sem Value)).run P w = .ok (.bool (if op = .neq then !q else q)) w := by
  have hq := equal_ok w ht he hi h1 hx hy hn h
  have hg : (eqGuard op t X Y (.agg us.toArray) (.agg vs.toArray)).run P w = .ok () w := by
    rcases ho with rfl | rfl <;> simp [eqGuard, eqGuardType_ok ht he]
  rcases ho with rfl | rfl <;> simp only [Sem.run_bind, hg, Result.andThen_ok] <;> simp [binOp, hq]
end
end Go.Ev

/- One operation of the machine against one instruction of the abstract interpreter: the operations that make no memory and change none. -/
namespace Go.Ev

/-- The old memory of a frame is kept: what lies below its base and was not lent is as it was; no row shrinks. -/
def Keep (base : Nat) (L : Len) (hp hp' : Hp) : Prop :=
  hp.size ≤ hp'.size ∧ (∀ b, b < base → ¬ L b → hp'[b]? = hp[b]?) ∧ ∀ b, rowSize hp b ≤ rowSize hp' b

theorem Keep.refl (base : Nat) (L : Len) (hp : Hp) : Keep base L hp hp := ⟨Nat.le_refl _, fun _ _ _ => rfl, fun _ => Nat.le_refl _⟩
theorem Keep.trans {base : Nat} {L : Len} {h1 h2 h3 : Hp} (a : Keep base L h1 h2) (b : Keep base L h2 h3) : Keep base L h1 h3 :=
  ⟨Nat.le_trans a.1 b.1, fun x hx hl => (b.2.1 x hx hl).trans (a.2.1 x hx hl), fun x => Nat.le_trans (a.2.2 x) (b.2.2 x)⟩
theorem Keep.grows {base : Nat} {L : Len} {hp hp' : Hp} (hb : base ≤ hp.size) (g : Grows hp hp') : Keep base L hp hp' := by
  refine ⟨g.1, fun b h _ => g.2 b (by omega), fun b => ?_⟩
  rcases Nat.lt_or_ge b hp.size with h | h
  · exact rowSize_of_eq (g.2 b h)
  · simp [rowSize, Array.getElem?_eq_none h]

abbrev Fr (base : Nat) (L : Len) (S : Pub) (N : Nm) (s : St) (a : Array Value) (hp : Hp) : Prop :=
  FR base L S N s.v.get (lst s) (fun p => p ∈ s.z) a hp

/-- All but the memory stays; questions may have been asked. -/
structure Tw (w w' : World) : Prop where
  os : w'.os = w.os
  tape : w'.tape = w.tape
  output : w'.output = w.output
  drawn : w.drawn ≤ w'.drawn

theorem Tw.refl (w : World) : Tw w w := ⟨rfl, rfl, rfl, Nat.le_refl _⟩
theorem Tw.trans {a b c : World} (h : Tw a b) (k : Tw b c) : Tw a c := ⟨k.os.trans h.os, k.tape.trans h.tape, k.output.trans h.output, Nat.le_trans h.drawn k.drawn⟩

/-- How a frame goes on. -/
def Out (base : Nat) (L : Len) (S : Pub) (s' : St) (a : Act) (w : World) (a' : Act) (w' : World) : Prop :=
  ∃ S' N', Sub S S' ∧ Fr base L S' N' s' a'.tmps w'.heap ∧ a'.tmps.size = a.tmps.size ∧ a'.defers = a.defers ∧ Keep base L w.heap w'.heap ∧ Tw w w'

/-- An operation goes as the interpreter says. -/
def Goes (P : Program) (o : Oper) (base : Nat) (L : Len) (S : Pub) (s' : St) (a : Act) (w : World) : Prop :=
  ∀ (K : Act → World → Prop) (Q : Exit → Act → World → Prop), (∀ a' w', Out base L S s' a w a' w' → K a' w') → o.wp P a w K Q

section
variable {base : Nat} {L : Len} {S : Pub} {N : Nm} {s : St} {a : Act} {P : Program} {w : World}

theorem app_v {s : St} {x : Dl} {d : Nat} {y : DV} (h : x.v = some (d, y)) (hd : d < 1000000) : (app s x).v.get = upd s.v.get d (some y) := by
  funext i
  simp only [app, h, upd]
  rw [Tr.get_setF 24 _ _ _ _ (by omega)]

theorem app_v_none {s : St} {x : Dl} (h : x.v = none) : (app s x).v.get = s.v.get := by simp [app, h]

theorem app_lst_nil {s : St} {x : Dl} (h : x.o = []) : lst (app s x) = lst s := by
  funext i; simp [app, h, lst, setO]

theorem app_lst_one {s : St} {x : Dl} {h : Nat} {l : List Ob} (e : x.o = [(h, l)]) (hd : h < 1000000) : lst (app s x) = upd (lst s) h l := by
  funext i
  simp only [app, e, lst, setO, upd]
  rw [Tr.get_setF 24 _ _ _ _ (by omega)]
  split <;> simp

theorem app_lst_two {s : St} {x : Dl} {h h2 : Nat} {l l2 : List Ob} (e : x.o = [(h, l), (h2, l2)]) (hd : h < 1000000) (hd2 : h2 < 1000000) : lst (app s x) = upd (upd (lst s) h l) h2 l2 := by
  funext i
  simp only [app, e, lst, setO, upd]
  rw [Tr.get_setF 24 _ _ _ _ (by omega)]
  split
  · simp
  · rw [Tr.get_setF 24 _ _ _ _ (by omega)]
    split <;> simp

theorem put_some (a : Act) (d : Nat) (v : Value) : a.put (some d) v = { a with tmps := a.tmps.setIfInBounds d v } := rfl

theorem Fr.val (f : Fr base L S N s a.tmps w.heap) {d : Nat} {x : DV} {v : Value} (hv : V w.heap S N x v) (hd : d < a.tmps.size) (hd' : d < 1000000) :
    Fr base L S N (app s (Ev.val d x)) (a.put (some d) v).tmps w.heap := by
  show FR base L S N (app s (Ev.val d x)).v.get (lst (app s (Ev.val d x))) (fun p => p ∈ (app s (Ev.val d x)).z) _ _
  rw [app_v (s := s) (x := Ev.val d x) rfl hd', app_lst_nil rfl]
  exact FR.val f hd hv

/-- An operation that gives a value and does nothing else. -/
theorem goes_val (f : Fr base L S N s a.tmps w.heap) {o : Oper} {d : Nat} {x : DV} {v : Value} (ho : o.dst = some d) (hd : d < a.tmps.size) (hd' : d < 1000000)
    (hr : (execOp a.eval o).run P w = .ok (.value v) w) (hv : V w.heap S N x v) : Goes P o base L S (app s (val d x)) a w := by
  intro K Q hK
  unfold Oper.wp
  rw [hr, Oper.upon_value, ho]
  exact hK _ _ ⟨S, N, Sub.refl _, Fr.val f hv hd hd', by simp [put_some], by simp [put_some], Keep.refl _ _ _, Tw.refl _⟩

/-! ### Places -/

/-- What a pointer points to, cell by cell. -/
def At (hp : Hp) (S : Pub) (N : Nm) (cs : List DV) (a : Addr) : Prop := a.spot = none ∧ ∀ i d, cs[i]? = some d → ∃ v, cellAt hp a.block (a.off + i) = some v ∧ V hp S N d v

theorem At.drop {hp : Hp} {S : Pub} {N : Nm} {cs : List DV} {a : Addr} (h : At hp S N cs a) (k : Nat) : At hp S N (cs.drop k) (a.add k) :=
  ⟨add_spot _ _ h.1, fun i d e => by
    rw [List.getElem?_drop] at e
    have := h.2 _ _ e
    rw [add_block, add_off, Nat.add_assoc]; exact this⟩

theorem At.of_VC {hp : Hp} {S : Pub} {N : Nm} {cs : List DV} {a : Addr} (hs : a.spot = none) (h : VC hp S N cs a.block a.off) : At hp S N cs a :=
  ⟨hs, fun _ _ e => (VC.get h e).2⟩

theorem At.of_ptr (f : Fr base L S N s a.tmps w.heap) {h e off : Nat} {ob : Ob} {x : Value} (hv : V w.heap S N (.ptr h e off) x) (ho : look s h e = some ob) (hk : ob.k ≠ 1) :
    ∃ ad, x = .pointer (some ad) ∧ At w.heap S N (ob.cs.drop off) ad ∧ ∃ b, N h e = some (some (b, ob.sz)) ∧ ad.block = b ∧ ad.off = off := by
  simp only [V] at hv
  obtain ⟨ad, r, h1, h2, h3, h4⟩ := hv
  obtain ⟨b, g1, g2, _⟩ := f.obs h e ob ho
  rw [g1] at h3; cases h3
  obtain ⟨e1, e2⟩ := h4 b ob.sz rfl
  refine ⟨ad, h1, ⟨h2, fun i d hi => ?_⟩, b, g1, e1, e2⟩
  rw [List.getElem?_drop] at hi
  rcases g2 with ⟨c1, _⟩ | ⟨c1, arr, E, vs, t, c2, c3, c4, c5, c6⟩
  · exact absurd c1 hk
  · obtain ⟨v, hv1, hv2⟩ := VL.get c4 hi
    refine ⟨v, ?_, hv2⟩
    rw [e1, e2]
    simp only [cellAt, c2]
    have hlt : off + i < vs.length := by
      rcases Nat.lt_or_ge (off + i) vs.length with q | q
      · exact q
      · rw [List.getElem?_eq_none q] at hv1; cases hv1
    rw [← Array.getElem?_toList, c3, List.getElem?_append_left hlt]; exact hv1

/-- The values at consecutive places. -/
theorem At.values {hp : Hp} {S : Pub} {N : Nm} : ∀ {cs : List DV} {a : Addr}, At hp S N cs a → ∃ vs, VL hp S N cs vs ∧ ∀ j v, vs[j]? = some v → cellAt hp a.block (a.off + j) = some v
  | [], a, _ => ⟨[], by simp [VL], fun j v e => by simp at e⟩
  | d :: r, a, h => by
    obtain ⟨v, h1, h2⟩ := h.2 0 d (by simp)
    obtain ⟨vs, h3, h4⟩ := At.values (cs := r) (a := a.add 1) (by simpa using h.drop 1)
    refine ⟨v :: vs, by simp only [VL]; exact ⟨v, vs, rfl, h2, h3⟩, fun j u e => ?_⟩
    cases j with
    | zero => simp at e; subst e; exact h1
    | succ j =>
      simp at e
      have := h4 j u e
      rw [add_block, add_off] at this
      rw [show a.off + (j + 1) = a.off + 1 + j by omega]; exact this

theorem At.take {hp : Hp} {S : Pub} {N : Nm} {cs : List DV} {a : Addr} (h : At hp S N cs a) (k : Nat) : At hp S N (cs.take k) a :=
  ⟨h.1, fun i d e => by
    rw [List.getElem?_take] at e
    split at e
    · exact h.2 i d e
    · cases e⟩

/-- A load. -/
theorem load_ok {cs : List DV} {ad : Addr} {n : Nat} {agg : Bool} {d : DV} {t : TypeId} (h : At w.heap S N cs ad) (hp : Ev.part cs 0 n agg = some d)
    (ha : aggT P t = some agg) (hn : sizeT P t = some n) : ∃ z, (Instr.loadAt t (.pointer (some ad))).run P w = .ok z w ∧ V w.heap S N d z := by
  unfold aggT at ha
  unfold sizeT at hn
  simp only [Option.map_eq_some_iff] at hn
  obtain ⟨i, hi, rfl⟩ := hn
  have hs : (sizeOf t).run P w = .ok i.size w := by simp [sizeOf, typeInfo, hi]
  unfold Ev.part at hp
  cases hu : P.underlying t with
  | none => rw [hu] at ha; cases ha
  | some td =>
    have hagg : (isAgg t).run P w = .ok agg w := by
      rw [hu] at ha
      cases td <;> simp at ha <;> subst ha <;> simp [isAgg, run_underlying hu]
    cases agg with
    | true =>
      simp only [if_true, List.drop_zero, Nat.zero_add] at hp
      split at hp
      · rename_i hl; cases hp
        obtain ⟨vs, h1, h2⟩ := (h.take i.size).values
        have hlen : vs.length = i.size := by rw [VL.length h1]; simp; omega
        have := run_loadCells_list (P := P) w ad vs (fun j v e => by rw [cell?_eq _ _ (add_spot _ _ h.1), add_block, add_off]; exact h2 j v e)
        rw [hlen] at this
        refine ⟨.agg vs.toArray, by simp [Instr.loadAt, Instr.sureAddr, loadVar, hagg, hs, this], ?_⟩
        simp only [V]; exact ⟨vs, rfl, h1⟩
      · cases hp
    | false =>
      simp only [Bool.false_eq_true, if_false] at hp
      obtain ⟨v, h1, h2⟩ := h.2 0 d hp
      exact ⟨v, by simp [Instr.loadAt, Instr.sureAddr, loadVar, hagg, cell?_eq _ _ h.1, show cellAt w.heap ad.block ad.off = some v from h1], h2⟩

theorem rop_at {cs : List DV} {x : Value} (h : V w.heap S N (.rop cs) x) : ∃ ad, x = .pointer (some ad) ∧ At w.heap S N cs ad ∧ areDeep cs = true ∧ VC w.heap S N cs ad.block ad.off := by
  simp only [V] at h
  obtain ⟨ad, h1, h2, h3, h4⟩ := h
  exact ⟨ad, h1, At.of_VC h2 h4, h3, h4⟩

theorem rop_drop {cs : List DV} {ad : Addr} (hs : ad.spot = none) (hd : areDeep cs = true) (h : VC w.heap S N cs ad.block ad.off) (k : Nat) : V w.heap S N (.rop (cs.drop k)) (.pointer (some (ad.add k))) := by
  simp only [V]
  exact ⟨_, rfl, add_spot _ _ hs, areDeep_drop _ hd, by rw [add_block, add_off]; exact VC.drop k h⟩

theorem ptr_add {h e off : Nat} {x : Value} (hv : V w.heap S N (.ptr h e off) x) (k : Nat) : ∃ ad, x = .pointer (some ad) ∧ V w.heap S N (.ptr h e (off + k)) (.pointer (some (ad.add k))) := by
  simp only [V] at hv ⊢
  obtain ⟨ad, r, h1, h2, h3, h4⟩ := hv
  exact ⟨ad, h1, _, r, rfl, add_spot _ _ h2, h3, fun b sz hb => by
    obtain ⟨e1, e2⟩ := h4 b sz hb
    rw [add_block, add_off, e1, e2]; exact ⟨rfl, rfl⟩⟩

theorem fieldAt_ok {t : TypeId} {fs : Array Field} {f : Nat} {fl : Field} {ad : Addr} {n : Nat} (ht : P.underlying t = some (.struct fs)) (hf : fs[f]? = some fl) (hn : sizeT P fl.type = some (n + 1)) :
    (Instr.fieldAt t (.pointer (some ad)) f).run P w = .ok (.pointer (some (ad.add fl.offset))) w := by
  unfold sizeT at hn
  simp only [Option.map_eq_some_iff] at hn
  obtain ⟨i, hi, he⟩ := hn
  simp [Instr.fieldAt, run_underlying ht, hf, Instr.sureAddr, fieldPlace, sizeOf, typeInfo, hi, he]

theorem indexA_ok {t e : TypeId} {c sz : Nat} {ad : Addr} {k : IntKind} {i : Int} (ht : P.underlying t = some (.array c e)) (hn : sizeT P e = some sz) (hi : 0 ≤ i ∧ i < c) :
    (Instr.indexAt t (.pointer (some ad)) (.int k i)).run P w = .ok (.pointer (some (ad.add (i.toNat * sz)))) w := by
  unfold sizeT at hn
  simp only [Option.map_eq_some_iff] at hn
  obtain ⟨inf, hinf, rfl⟩ := hn
  simp [Instr.indexAt, run_underlying ht, asIntOf, Instr.sureAddr, hi.1, hi.2, sizeOf, typeInfo, hinf]

theorem indexS_ok {t e : TypeId} {c cap sz : Nat} {ad : Addr} {k : IntKind} {i : Int} (ht : P.underlying t = some (.slice e)) (hn : sizeT P e = some sz) (hi : 0 ≤ i ∧ i < c) :
    (Instr.indexAt t (.slice (some ad) c cap) (.int k i)).run P w = .ok (.pointer (some (ad.add (i.toNat * sz)))) w := by
  unfold sizeT at hn
  simp only [Option.map_eq_some_iff] at hn
  obtain ⟨inf, hinf, rfl⟩ := hn
  simp [Instr.indexAt, run_underlying ht, asIntOf, hi.1, hi.2, sizeOf, typeInfo, hinf]

theorem index_ok {t e : TypeId} {c sz : Nat} {agg : Bool} {cs : List DV} {vs : List Value} {k : IntKind} {i : Int} {d : DV} (ht : P.underlying t = some (.array c e)) (hn : sizeT P e = some sz) (ha : aggT P e = some agg)
    (hi : 0 ≤ i ∧ i < c) (hv : VL w.heap S N cs vs) (h : Ev.part cs (i.toNat * sz) sz agg = some d) :
    ∃ z, (Instr.index t (.agg vs.toArray) (.int k i)).run P w = .ok z w ∧ V w.heap S N d z := by
  obtain ⟨z, h1, h2⟩ := part_ok (P := P) w hv h ha hn
  unfold sizeT at hn
  simp only [Option.map_eq_some_iff] at hn
  obtain ⟨inf, hinf, rfl⟩ := hn
  exact ⟨z, by simp [Instr.index, run_underlying ht, asIntOf, hi.1, hi.2, sizeOf, typeInfo, hinf, h1], h2⟩

theorem field_ok {t : TypeId} {fs : Array Field} {f : Nat} {fl : Field} {n : Nat} {agg : Bool} {cs : List DV} {vs : List Value} {d : DV} (ht : P.underlying t = some (.struct fs)) (hf : fs[f]? = some fl)
    (hn : sizeT P fl.type = some n) (ha : aggT P fl.type = some agg) (hv : VL w.heap S N cs vs) (h : Ev.part cs fl.offset n agg = some d) :
    ∃ z, (Instr.field t (.agg vs.toArray) f).run P w = .ok z w ∧ V w.heap S N d z := by
  obtain ⟨z, h1, h2⟩ := part_ok (P := P) w hv h ha hn
  exact ⟨z, by simp [Instr.field, run_underlying ht, hf, asAgg, h1], h2⟩
end
end Go.Ev

/- The operations that make an object. -/
namespace Go.Ev

section
variable {base : Nat} {L : Len} {S : Pub} {N : Nm} {s : St} {a : Act} {P : Program} {w : World}

theorem push_get (hp : Hp) (o : Obj) : (hp.push o)[hp.size]? = some o := by simp

theorem FR.unpub {vals : Nat → Option DV} {ol : Nat → List Ob} {Z : Nat × Nat → Prop} {t : Array Value} {hp : Hp} (f : FR base L S N vals ol Z t hp) (o : Nat) : ¬ S.c hp.size o := by
  intro h
  obtain ⟨v, hv⟩ := f.pub _ _ h
  exact absurd (lt_of_cell hv) (Nat.lt_irrefl _)

theorem FR.unpubm {vals : Nat → Option DV} {ol : Nat → List Ob} {Z : Nat × Nat → Prop} {t : Array Value} {hp : Hp} (f : FR base L S N vals ol Z t hp) : ¬ S.m hp.size := by
  intro h
  obtain ⟨es, clk, hv⟩ := f.pubm _ h
  exact absurd (lt_of_get hv) (Nat.lt_irrefl _)

theorem FR.laterMore {vals : Nat → Option DV} {ol : Nat → List Ob} {Z : Nat × Nat → Prop} {t : Array Value} {hp : Hp} (f : FR base L S N vals ol Z t hp) {hp' : Hp} (g : Grows hp hp') (d : Nat) (p : Nat × Nat) : Later N (more N d (ol d).length p) hp hp' :=
  Later.more (f.fresh d) fun _ _ _ _ hn => rowSize_of_eq (g.2 _ (f.block hn))

/-- A new row, as an object. -/
theorem OB.row {vals : Nat → Option DV} {ol : Nat → List Ob} {Z : Nat × Nat → Prop} {t : Array Value} {hp : Hp} (f : FR base L S N vals ol Z t hp) {arr : Array Value} {E : TypeId} {cs : List DV} {us ts : List Value} {ob : Ob} {d : Nat} {p : Nat × Nat}
    (ha : arr.toList = us ++ ts) (hv : VL hp S N cs us) (hcs : ob.cs = cs) (hk : ob.k ≠ 1) (hd : ob.k = 0 → areDeep cs = true) :
    OB (hp.push (.cells arr E)) S (more N d (ol d).length p) False ob hp.size := by
  have g := Grows.push hp (.cells arr E)
  refine .inr ⟨hk, arr, E, us, ts, push_get _ _, ha, ?_, fun o h => absurd h (f.unpub o), fun h => hcs ▸ hd h⟩
  rw [hcs]
  exact VL.mono (f.keeps g) (Sub.refl _) (f.laterMore g d p) _ _ hv

/-- An operation that makes one object. -/
theorem goes_new {S' : Pub} {z : List (Nat × Nat)} (sub : Sub S S') (f : FR base L S' N s.v.get (lst s) (fun p => p ∈ s.z ∨ p ∈ z) a.tmps w.heap) (hb : base ≤ w.heap.size)
    {o : Oper} {d : Nat} {x : DV} {v : Value} {ob : Ob} {w' : World} {c : Obj} (ho : o.dst = some d) (hd : d < a.tmps.size) (hd' : d < 1000000) (hk : ob.k ≠ 3)
    (hr : (execOp a.eval o).run P w = .ok (.value v) w') (hw : w'.heap = w.heap.push c)
    (hob : OB (w.heap.push c) S' (more N d (lst s d).length (w.heap.size, ob.sz)) False ob w.heap.size)
    (hv : V (w.heap.push c) S' (more N d (lst s d).length (w.heap.size, ob.sz)) x v) (htw : Tw w w' := by first | exact ⟨rfl, rfl, rfl, Nat.le_refl _⟩ | exact ⟨rfl, rfl, rfl, Nat.le_succ _⟩) : Goes P o base L S (app s (newOb s d ob z x)) a w := by
  intro K Q hK
  unfold Oper.wp
  rw [hr, Oper.upon_value, ho]
  have g := Grows.push w.heap c
  have f1 := f.new g (d := d) (ob := ob) (b := w.heap.size) hk (Nat.le_refl _) hb hob
  have f2 := f1.val hd hv
  refine hK _ _ ⟨S', more N d (lst s d).length (w.heap.size, ob.sz), sub, ?_, by simp [put_some], by simp [put_some], by rw [hw]; exact Keep.grows hb g, htw⟩
  show FR base L S' (more N d (lst s d).length (w.heap.size, ob.sz)) (app s (newOb s d ob z x)).v.get (lst (app s (newOb s d ob z x))) (fun p => p ∈ (app s (newOb s d ob z x)).z) _ _
  rw [app_v (s := s) (x := newOb s d ob z x) rfl hd', app_lst_one (x := newOb s d ob z x) rfl hd', hw]
  refine cast ?_ f2
  congr 1
  funext p
  simp [app, newOb, or_comm]

theorem Fr.none_more (f : Fr base L S N s a.tmps w.heap) : FR base L S N s.v.get (lst s) (fun p => p ∈ s.z ∨ p ∈ []) a.tmps w.heap := by
  have e : (fun p : Nat × Nat => p ∈ s.z ∨ p ∈ ([] : List (Nat × Nat))) = fun p => p ∈ s.z := by funext p; simp
  rw [e]; exact f

theorem cells_ok {hp : Hp} {x : DV} {v : Value} (h : V hp S N x v) : VL hp S N (cells x) v.cells.toList := by
  cases x <;> (try (simp only [V] at h))
  case agg cs => obtain ⟨vs, rfl, h2⟩ := h; simpa [cells, Value.cells] using h2
  all_goals
    have hv : v.cells = #[v] := by
      first
        | (subst h; rfl)
        | (obtain ⟨_, _, rfl, _⟩ := h; rfl)
        | (obtain ⟨_, _, _, rfl, _⟩ := h; rfl)
        | (obtain ⟨_, rfl, _⟩ := h; rfl)
        | exact h.elim
    rw [hv]
    simp only [cells]
    exact VL.single (by simpa only [V] using h)

theorem zeroT_ok {t : TypeId} {z : List DV} (h : zeroT P t = some z) : ∃ i zv, P.info? t = some i ∧ i.zero = some zv ∧ ∀ hp S N, VL hp S N z zv.cells.toList := by
  unfold zeroT at h
  cases hi : P.info? t with
  | none => rw [hi] at h; cases h
  | some i =>
    rw [hi] at h
    cases hz : i.zero with
    | none => simp [hz] at h
    | some zv =>
      simp only [hz, Option.map_eq_some_iff] at h
      obtain ⟨dv, h1, rfl⟩ := h
      refine ⟨i, zv, rfl, hz, fun hp S N => ?_⟩
      exact cells_ok (ofVal_ok zv dv h1)

theorem goes_alloc (f : Fr base L S N s a.tmps w.heap) (hb : base ≤ w.heap.size) {o : Oper} {d : Nat} {t : TypeId} {z : List DV} (hop : o.op = .alloc t) (ho : o.dst = some d) (hd : d < a.tmps.size) (hd' : d < 1000000)
    (hz : zeroT P t = some z) : Goes P o base L S (app s (newOb s d ⟨2, 0, z⟩ [] (.ptr d (cnt s d) 0))) a w := by
  obtain ⟨i, zv, hi, hzv, hvl⟩ := zeroT_ok hz
  refine goes_new (Sub.refl _) f.none_more hb (c := .cells zv.cells t) (v := .pointer (some ⟨w.heap.size, 0, none⟩)) (w' := { w with heap := w.heap.push (.cells zv.cells t) }) ho hd hd' (by simp) ?_ rfl ?_ ?_
  · unfold execOp; rw [hop]
    simp [Instr.alloc, zeroValue, typeInfo, hi, hzv, newVar, newRow]
  · exact OB.row f.none_more (us := zv.cells.toList) (ts := []) (by simp) (hvl _ _ _) rfl (by simp) (by simp)
  · simp only [V]
    exact ⟨_, _, rfl, rfl, by unfold more; rw [if_pos ⟨rfl, rfl⟩], fun b sz e => by cases e; exact ⟨rfl, rfl⟩⟩

theorem goes_box (f : Fr base L S N s a.tmps w.heap) (hb : base ≤ w.heap.size) {o : Oper} {d : Nat} {t : TypeId} {X : Operand} {x : DV} (hop : o.op = .box t X) (ho : o.dst = some d) (hd : d < a.tmps.size) (hd' : d < 1000000)
    (hx : V w.heap S N x (a.eval X)) : Goes P o base L S (app s (newOb s d ⟨2, 0, cells x⟩ [] (.ptr d (cnt s d) 0))) a w := by
  refine goes_new (Sub.refl _) f.none_more hb (c := .cells (a.eval X).cells t) (v := .pointer (some ⟨w.heap.size, 0, none⟩)) (w' := { w with heap := w.heap.push (.cells (a.eval X).cells t) }) ho hd hd' (by simp) ?_ rfl ?_ ?_
  · unfold execOp; rw [hop]
    simp [Instr.box, newVar, newRow]
  · exact OB.row f.none_more (us := (a.eval X).cells.toList) (ts := []) (by simp) (cells_ok hx) rfl (by simp) (by simp)
  · simp only [V]
    exact ⟨_, _, rfl, rfl, by unfold more; rw [if_pos ⟨rfl, rfl⟩], fun b sz e => by cases e; exact ⟨rfl, rfl⟩⟩

theorem goes_mkmap (f : Fr base L S N s a.tmps w.heap) (hb : base ≤ w.heap.size) {o : Oper} {d : Nat} {t : TypeId} (hop : o.op = .makeMap t none) (ho : o.dst = some d) (hd : d < a.tmps.size) (hd' : d < 1000000) :
    Goes P o base L S (app s (newOb s d ⟨1, 0, []⟩ [] (.mref d (cnt s d)))) a w := by
  refine goes_new (Sub.refl _) f.none_more hb (c := .map #[] 0) (v := .map (some w.heap.size)) (w' := { w with heap := w.heap.push (.map #[] 0) }) ho hd hd' (by simp) ?_ rfl ?_ ?_
  · unfold execOp; rw [hop]
    simp [Instr.makeMap]
  · exact .inl ⟨rfl, #[], 0, push_get _ _, rfl, by simp [VM], ⟨by simp, by simp⟩, fun h => absurd h f.unpubm⟩
  · simp only [V]
    exact ⟨_, _, rfl, by unfold more; rw [if_pos ⟨rfl, rfl⟩], fun b sz e => by cases e; rfl⟩

/-! ### Parts laid into a row -/

theorem foldl_set : ∀ (l : List Value) (k off : Nat) (cs : Array Value), off + k + l.length ≤ cs.size →
    ((l.zipIdx k).foldl (fun cs (x : Value × Nat) => cs.setIfInBounds (off + x.2) x.1) cs).toList = cs.toList.take (off + k) ++ l ++ cs.toList.drop (off + k + l.length)
  | [], k, off, cs, _ => by simp
  | v :: r, k, off, cs, h => by
    simp only [List.length_cons] at h
    simp only [List.zipIdx_cons, List.foldl_cons]
    rw [foldl_set r (k + 1) off _ (by simp; omega)]
    have h1 : off + k < cs.toList.length := by simp; omega
    simp only [Array.toList_setIfInBounds, List.length_cons]
    rw [show off + (k + 1) = off + k + 1 by omega, List.take_succ_eq_append_getElem (by simpa using h1)]
    simp only [List.getElem_set_self, List.append_assoc, List.singleton_append]
    rw [List.take_set_of_le (Nat.le_refl _), List.drop_set_of_lt (by omega), show off + k + 1 + r.length = off + k + (r.length + 1) by omega]

/-- Parts, and where they go. -/
def PR (hp : Hp) (S : Pub) (N : Nm) (place : Nat → Option (Nat × Nat)) : List (Nat × Nat × DV) → List (Nat × Value) → Prop
  | [], l => l = []
  | (off, n, d) :: r, l => ∃ i v t, l = (i, v) :: t ∧ place i = some (off, n) ∧ V hp S N d v ∧ PR hp S N place r t

theorem PR.mono {hp hp' : Hp} {S S' : Pub} {N N' : Nm} (k : Keeps S hp hp') (sb : Sub S S') (l : Later N N' hp hp') {place : Nat → Option (Nat × Nat)} : ∀ {ds : List (Nat × Nat × DV)} {vs : List (Nat × Value)},
    PR hp S N place ds vs → PR hp' S' N' place ds vs
  | [], vs, h => by simpa only [PR] using h
  | (off, n, d) :: r, vs, h => by
    simp only [PR] at h ⊢
    obtain ⟨i, v, t, h1, h2, h3, h4⟩ := h
    exact ⟨i, v, t, h1, h2, V.mono k sb l _ _ h3, PR.mono k sb l h4⟩

theorem PR.of {place : Nat → Option (Nat × Nat)} : ∀ {ps : List (Nat × Operand)} {qs : List (Nat × Nat × Opd)} {ds : List (Nat × Nat × DV)},
    Fr base L S N s a.tmps w.heap → places place ps = some qs → partsOf s qs = some ds → PR w.heap S N place ds (ps.map fun x => (x.1, a.eval x.2))
  | [], qs, ds, f, h1, h2 => by
    simp [places] at h1; subst h1
    simp [partsOf] at h2; subst h2
    simp [PR]
  | (i, X) :: r, qs, ds, f, h1, h2 => by
    simp only [places] at h1
    split at h1
    · rename_i off n y l g1 g2 g3
      cases h1
      simp only [partsOf] at h2
      split at h2
      · rename_i d l' g4 g5
        cases h2
        simp only [PR, List.map_cons]
        exact ⟨_, _, _, rfl, g1, opv_ok f g2 g4, PR.of f g3 g5⟩
      · cases h2
    · cases h1

theorem fill_ok {hp : Hp} {place : Nat → Option (Nat × Nat)} : ∀ {ds : List (Nat × Nat × DV)} {vs : List (Nat × Value)} {cs cs' : List DV} {arr : Array Value},
    PR hp S N place ds vs → fillL cs ds = some cs' → VL hp S N cs arr.toList →
    ∃ arr', Instr.fill place arr vs = some arr' ∧ VL hp S N cs' arr'.toList
  | [], vs, cs, cs', arr, h1, h3, h4 => by
    simp only [PR] at h1; subst h1
    simp [fillL] at h3; subst h3
    exact ⟨arr, by simp [Instr.fill], h4⟩
  | (off, n, d) :: r, vs, cs, cs', arr, h1, h3, h4 => by
    simp only [PR] at h1
    obtain ⟨i, v, t, rfl, g1, g2, g3⟩ := h1
    simp only [fillL] at h3
    split at h3
    · rename_i hc
      have hx := cells_ok g2
      have hlen := VL.length hx
      have hlen2 := VL.length h4
      have hsz : v.cells.size = n := by
        have : v.cells.toList.length = n := by rw [hlen]; exact hc.1
        simpa using this
      have hle : off + v.cells.toList.length ≤ arr.size := by
        have : arr.toList.length = cs.length := hlen2
        simp at this; simp [hsz]; omega
      have hfold := foldl_set v.cells.toList 0 off arr (by simpa using hle)
      have hvl : VL hp S N (cs.take off ++ cells d ++ cs.drop (off + n)) ((v.cells.toList.zipIdx 0).foldl (fun cs (x : Value × Nat) => cs.setIfInBounds (off + x.2) x.1) arr).toList := by
        rw [hfold]
        simp only [Nat.add_zero]
        refine VL.append (VL.append (VL.take _ h4) hx) ?_
        have : v.cells.toList.length = n := by simpa using hsz
        rw [this]; exact VL.drop _ h4
      obtain ⟨arr', k1, k2⟩ := fill_ok g3 h3 hvl
      refine ⟨arr', ?_, k2⟩
      simp only [Instr.fill, g1]
      have hcond : (decide (v.cells.size ≠ n) || decide (off + v.cells.size > arr.size)) = false := by
        simp [hsz]; simp at hle; omega
      rw [hcond]
      simp only [Bool.false_eq_true, if_false]
      rw [← k1]
      congr 1
      rw [← Array.foldl_toList]
      congr 1
      simp
    · cases h3

theorem fillL_deep : ∀ {ds : List (Nat × Nat × DV)} {cs cs' : List DV}, fillL cs ds = some cs' → areDeep cs = true → (∀ x ∈ ds, isDeep x.2.2 = true) → areDeep cs' = true
  | [], cs, cs', h, hc, _ => by simp [fillL] at h; subst h; exact hc
  | (off, n, d) :: r, cs, cs', h, hc, hd => by
    simp only [fillL] at h
    split at h
    · refine fillL_deep h (areDeep_append (areDeep_append (areDeep_take _ hc) ?_) (areDeep_drop _ hc)) fun x hx => hd x (List.mem_cons_of_mem _ hx)
      have := hd (off, n, d) (by simp)
      cases d <;> simp_all [cells, isDeep, areDeep]
    · cases h

theorem deepParts_ok {vals : Nat → Option DV} {t : Array Value} {hp : Hp} {place : Nat → Option (Nat × Nat)} : ∀ {ds ds' : List (Nat × Nat × DV)} {z : List (Nat × Nat)} {vs : List (Nat × Value)} {S : Pub} {Z : Nat × Nat → Prop},
    FR base L S N vals (lst s) Z t hp → PR hp S N place ds vs → deepParts s ds = some (ds', z) →
    ∃ S', Sub S S' ∧ FR base L S' N vals (lst s) (fun p => Z p ∨ p ∈ z) t hp ∧ PR hp S' N place ds' vs ∧ ∀ x ∈ ds', isDeep x.2.2 = true
  | [], ds', z, vs, S, Z, f, h, hd => by
    simp [deepParts] at hd; obtain ⟨rfl, rfl⟩ := hd
    exact ⟨S, Sub.refl _, by simpa using f, h, by simp⟩
  | (off, n, d) :: r, ds', z, vs, S, Z, f, h, hd => by
    simp only [deepParts] at hd
    split at hd
    · rename_i d' z1 l z2 g1 g2
      cases hd
      simp only [PR] at h
      obtain ⟨i, v, t', rfl, k1, k2, k3⟩ := h
      obtain ⟨S1, a1, a2, a3, a4⟩ := deepen_ok s d d' z1 v S Z f k2 g1
      obtain ⟨S2, b1, b2, b3, b4⟩ := deepParts_ok a2 (PR.mono (Keeps.refl _ _) a1 (Later.refl _ _) k3) g2
      refine ⟨S2, a1.trans b1, ?_, ?_, ?_⟩
      · refine cast ?_ b2
        congr 1
        funext x
        simp [List.mem_append, or_assoc]
      · simp only [PR]
        exact ⟨i, v, t', rfl, k1, V.mono (Keeps.refl _ _) b1 (Later.refl _ _) _ _ a4, b3⟩
      · intro x hx
        rcases List.mem_cons.1 hx with rfl | hx
        · exact a3
        · exact b4 x hx
    · cases hd

theorem build_ok (f : Fr base L S N s a.tmps w.heap) {d : Nat} {t : TypeId} {ps : Array (Nat × Operand)} {i : I} {x : Dl} {K : Cfg} {cs : Sem} (hi : toI? P (some d) (.build t ps) = some i) (hx : evI K cs s i = some x) :
    ∃ y v, x = Ev.val d y ∧ (Instr.build t (ps.map fun x => (x.1, a.eval x.2))).run P w = .ok v w ∧ V w.heap S N y v := by
  simp only [toI?] at hi
  split at hi
  · rename_i it hit
    split at hi
    · rename_i z hz
      split at hi
      · rename_i zd fs hzd hu
        split at hi
        · rename_i pl hpl
          simp only [Option.map_eq_some_iff] at hi
          obtain ⟨l, h1, rfl⟩ := hi
          simp only [evI, Option.map_eq_some_iff, Option.bind_eq_some_iff] at hx
          obtain ⟨cs', ⟨ds, h2, h3⟩, rfl⟩ := hx
          have hpr := PR.of f h1 h2
          obtain ⟨arr, k1, k2⟩ := fill_ok hpr h3 (cells_ok (ofVal_ok z zd hzd))
          refine ⟨_, .agg arr, rfl, run_build w t _ arr ?_, ?_⟩
          · unfold Program.built
            rw [hit, hu]
            simp only [hz, hpl]
            rw [← k1]; congr 1; simp
          · simp only [V]; exact ⟨arr.toList, by simp, k2⟩
        · cases hi
      · rename_i zd n e hzd hu
        split at hi
        · rename_i ie hie
          simp only [Option.map_eq_some_iff] at hi
          obtain ⟨l, h1, rfl⟩ := hi
          simp only [evI, Option.map_eq_some_iff, Option.bind_eq_some_iff] at hx
          obtain ⟨cs', ⟨ds, h2, h3⟩, rfl⟩ := hx
          have hpr := PR.of f h1 h2
          obtain ⟨arr, k1, k2⟩ := fill_ok hpr h3 (cells_ok (ofVal_ok z zd hzd))
          refine ⟨_, .agg arr, rfl, run_build w t _ arr ?_, ?_⟩
          · unfold Program.built
            rw [hit, hu]
            simp only [hz, hie]
            rw [← k1]; congr 1; simp
          · simp only [V]; exact ⟨arr.toList, by simp, k2⟩
        · cases hi
      · cases hi
    · cases hi
  · cases hi

theorem zeros_toList (z : Array Value) (c n : Nat) (hz : z.size = n) (hn : n ≠ 0) : ((Array.range (c * n)).map (z[· % z.size]!)).toList = (List.replicate c z.toList).flatten := by
  induction c with
  | zero => simp
  | succ c ih =>
    rw [List.replicate_succ', List.flatten_append]
    rw [← ih]
    simp only [Array.toList_map, Array.toList_range, List.flatten_cons, List.flatten_nil, List.append_nil]
    rw [Nat.succ_mul, List.range_add, List.map_append]
    congr 1
    apply List.ext_getElem
    · simp [hz]
    · intro i h1 h2
      simp at h1 h2
      simp only [List.getElem_map, List.getElem_range, List.map_map, Function.comp]
      have : (c * n + i) % z.size = i := by rw [hz, Nat.mul_comm, Nat.mul_add_mod]; exact Nat.mod_eq_of_lt h1
      rw [this, getElem!_pos z i (by omega)]
      simp
end
end Go.Ev

/- Rows: literals, make, append, stores. -/
namespace Go.Ev

section
variable {base : Nat} {L : Len} {S : Pub} {N : Nm} {s : St} {a : Act} {P : Program} {w : World}

theorem V_ref_new {hp : Hp} {d c : Nat} {p sz n cap : Nat} (hn : n ≤ cap) (hr : cap * sz ≤ rowSize hp p) : V hp S (more N d c (p, sz)) (.ref d c 0 n) (.slice (some ⟨p, 0, none⟩) n cap) := by
  simp only [V]
  refine ⟨_, cap, _, rfl, hn, rfl, by unfold more; rw [if_pos ⟨rfl, rfl⟩], fun b z e _ => ?_⟩
  cases e; exact ⟨rfl, rfl, by omega⟩

theorem rowSize_push {hp : Hp} {arr : Array Value} {E : TypeId} : rowSize (hp.push (.cells arr E)) hp.size = arr.size := by simp [rowSize]

theorem VL_zero {hp : Hp} {z : List DV} {zv : Value} (h : VL hp S N z zv.cells.toList) (c : Nat) : VL hp S N (List.replicate c (z.map nrm)).flatten (List.replicate c zv.cells.toList).flatten :=
  VL.replicate c (VL.nrm h)

theorem areDeep_flatten {z : List DV} (h : areDeep z = true) : ∀ c, areDeep (List.replicate c z).flatten = true
  | 0 => rfl
  | c + 1 => by simp only [List.replicate_succ, List.flatten_cons]; exact areDeep_append h (areDeep_flatten h c)

mutual
theorem ofVal_deep : ∀ (v : Value) (d : DV), ofVal v = some d → (d = .nil ∨ isDeep d = true ∨ ∃ cs, d = .agg cs ∧ ∃ vs, ofVals vs = some cs)
  | .bool b, d, h => by simp [ofVal] at h; subst h; exact .inr (.inl rfl)
  | .int k n, d, h => by simp [ofVal] at h; subst h; exact .inr (.inl rfl)
  | .nilFunc, d, h => by simp [ofVal] at h; subst h; exact .inr (.inl rfl)
  | .slice a n c, d, h => by
    cases a <;> cases n <;> cases c <;> simp [ofVal] at h
    subst h; exact .inl rfl
  | .agg cs, d, h => by
    simp only [ofVal, Option.map_eq_some_iff] at h
    obtain ⟨ds, h1, rfl⟩ := h
    exact .inr (.inr ⟨ds, rfl, _, h1⟩)
  | .float .., _, h => by simp [ofVal] at h
  | .complex .., _, h => by simp [ofVal] at h
  | .string .., _, h => by simp [ofVal] at h
  | .pointer .., _, h => by simp [ofVal] at h
  | .map .., _, h => by simp [ofVal] at h
  | .chan .., _, h => by simp [ofVal] at h
  | .func .., _, h => by simp [ofVal] at h
  | .iface .., _, h => by simp [ofVal] at h
  | .nilIface, _, h => by simp [ofVal] at h
  | .tuple .., _, h => by simp [ofVal] at h
end

theorem goes_bslice (f : Fr base L S N s a.tmps w.heap) (hb : base ≤ w.heap.size) {o : Oper} {d : Nat} {t e : TypeId} {len : Nat} {ps : Array (Nat × Operand)} (hop : o.op = .buildSlice t len ps) (ho : o.dst = some d)
    (hd : d < a.tmps.size) (hd' : d < 1000000) {n : Nat} {z : List DV} {qs : List (Nat × Nat × Opd)} (ht : P.underlying t = some (.slice e)) (hn : sizeT P e = some n) (hz : zeroT P e = some z)
    (hc : len * n ≤ 16777216 ∧ n ≠ 0 ∧ z.length = n) (hzd : areDeep (z.map nrm) = true) (hq : places (fun i => some (i * n, n)) ps.toList = some qs) {ds ds' : List (Nat × Nat × DV)} {fz : List (Nat × Nat)} {cs : List DV}
    (h1 : partsOf s qs = some ds) (h2 : deepParts s ds = some (ds', fz)) (h3 : fillL ((List.replicate len (z.map nrm)).flatten) ds' = some cs) :
    Goes P o base L S (app s (newOb s d ⟨0, n, cs⟩ fz (.ref d (cnt s d) 0 len))) a w := by
  obtain ⟨i, zv, hi, hzv, hvl⟩ := zeroT_ok hz
  have hin : i.size = n := by simp [sizeT, hi] at hn; exact hn
  have hzs : zv.cells.size = n := by
    have := VL.length (hvl w.heap S N)
    rw [hc.2.2] at this; simpa using this
  obtain ⟨S', sub, f', hpr, hdp⟩ := deepParts_ok f (PR.of f hq h1) h2
  have hz0 : VL w.heap S' N (List.replicate len (z.map nrm)).flatten ((Array.range (len * n)).map (zv.cells[· % zv.cells.size]!)).toList := by
    rw [zeros_toList _ _ _ hzs hc.2.1]
    exact VL_zero (hvl _ _ _) len
  obtain ⟨arr, k1, k2⟩ := fill_ok hpr h3 hz0
  have hsz : arr.size = len * n := by
    have e1 := VL.length k2
    have e2 : ∀ {ds : List (Nat × Nat × DV)} {cs cs' : List DV}, fillL cs ds = some cs' → cs'.length = cs.length := by
      intro ds
      induction ds with
      | nil => intro cs cs' h; simp [fillL] at h; rw [h]
      | cons x r ih =>
        intro cs cs' h
        obtain ⟨o, m, v⟩ := x
        simp only [fillL] at h
        split at h
        · rename_i hh
          rw [ih h]; simp [hh.1]; omega
        · cases h
    have e3 := e2 h3
    have e4 := VL.length hz0
    rw [← e3, ← e1] at e4
    simpa using e4.symm
  refine goes_new (z := fz) sub f' hb (c := .cells arr e) (v := .slice (some ⟨w.heap.size, 0, none⟩) len len) (w' := { w with heap := w.heap.push (.cells arr e) }) ho hd hd' (by simp) ?_ rfl ?_ ?_
  · unfold execOp; rw [hop]
    have hzr : (zeroValue e).run P w = .ok zv w := by simp [zeroValue, typeInfo, hi, hzv]
    have hsr : (sizeOf e).run P w = .ok n w := by simp [sizeOf, typeInfo, hi, hin]
    have e0 : ∀ g : Nat → Value, (Array.range 0).map g = #[] := fun g => by rw [show Array.range 0 = #[] from rfl]; simp
    have hle : ¬ (16777216 < len * n) := by omega
    by_cases h0 : len * n = 0
    · rw [h0, e0] at k1
      simp [Instr.buildSlice, run_underlying ht, hsr, h0, e0, k1, newRow]
    · simp [Instr.buildSlice, run_underlying ht, hsr, h0, hle, hzr, k1, newRow]
  · exact OB.row f' (us := arr.toList) (ts := []) (by simp) k2 rfl (by simp) (fun _ => fillL_deep h3 (areDeep_flatten hzd len) hdp)
  · exact V_ref_new (Nat.le_refl _) (by rw [rowSize_push, hsz]; exact Nat.le_refl _)

theorem goes_mkslice (f : Fr base L S N s a.tmps w.heap) (hb : base ≤ w.heap.size) {o : Oper} {d : Nat} {t e : TypeId} {X Y : Operand} (hop : o.op = .makeSlice t X Y) (ho : o.dst = some d)
    (hd : d < a.tmps.size) (hd' : d < 1000000) {n : Nat} {z : List DV} {i : TypeInfo} (ht : P.underlying t = some (.slice e)) (hi : P.info? e = some i) (hn : i.size = n) (hz : zeroT P e = some z)
    (hc : n ≠ 0 ∧ z.length = n ∧ i.bytes ≤ 256) (hzd : areDeep (z.map nrm) = true) {k1 k2 : IntKind} {l c : Int} (hx : a.eval X = .int k1 l) (hy : a.eval Y = .int k2 c)
    (hl : 0 ≤ l ∧ l ≤ c ∧ bound c.toNat 1 = true) :
    Goes P o base L S (app s (newOb s d ⟨0, n, (List.replicate l.toNat (z.map nrm)).flatten⟩ [] (.ref d (cnt s d) 0 l.toNat))) a w := by
  obtain ⟨i', zv, hi', hzv, hvl⟩ := zeroT_ok hz
  rw [hi] at hi'; cases hi'
  have hzs : zv.cells.size = n := by
    have := VL.length (hvl w.heap S N)
    rw [hc.2.1] at this; simpa using this
  have hb2 : c.toNat ≤ 274877906944 := by have := hl.2.2; simp [bound] at this; omega
  have hlw : IntKind.i64.wrap l = l := by unfold IntKind.wrap; simp [IntKind.signed, IntKind.bits]; omega
  have hcw : IntKind.i64.wrap c = c := by unfold IntKind.wrap; simp [IntKind.signed, IntKind.bits]; omega
  have hin : (Array.range (c.toNat * n)).toList.length = c.toNat * n := by simp
  refine goes_new (z := []) (Sub.refl _) f.none_more hb (c := .cells ((Array.range (c.toNat * n)).map ((if c.toNat * n = 0 then #[] else zv.cells)[· % (if c.toNat * n = 0 then (#[] : Array Value) else zv.cells).size]!)) e)
    (v := .slice (some ⟨w.heap.size, 0, none⟩) l.toNat c.toNat) (w' := { w with heap := w.heap.push (.cells ((Array.range (c.toNat * n)).map ((if c.toNat * n = 0 then #[] else zv.cells)[· % (if c.toNat * n = 0 then (#[] : Array Value) else zv.cells).size]!)) e) }) ho hd hd' (by simp) ?_ rfl ?_ ?_
  · unfold execOp; rw [hop]
    have hzr : (zeroValue e).run P w = .ok zv w := by simp [zeroValue, typeInfo, hi, hzv]
    have hsr : (sizeOf e).run P w = .ok n w := by simp [sizeOf, typeInfo, hi, hn]
    have hbytes : ¬ (281474976710656 < (i.bytes : Int) * c) := by
      have h1 : (i.bytes : Int) ≤ 256 := by have := hc.2.2; omega
      have h2 : c ≤ 274877906944 := by omega
      have h3 : 0 ≤ c := by omega
      have := Int.mul_le_mul h1 h2 h3 (by omega)
      omega
    have hcond : ((decide (c < 0) || decide ((2 : Int) ^ 48 < (i.bytes : Int) * c)) || decide (l < 0) || decide (l > c)) = false := by
      simp; omega
    simp only [Instr.makeSlice, Sem.run_bind, run_underlying ht, Result.andThen_ok, hx, hy, asInt, asIntOf, Sem.run_pure, typeInfo, run_program, hi, hlw, hcw]
    rw [if_neg (by simp; omega)]
    by_cases h0 : c.toNat * n = 0
    · simp [hsr, h0, newRow]
    · simp [hsr, h0, hzr, newRow]
  · by_cases h0 : c.toNat * n = 0
    · have hc0 : c.toNat = 0 := by rcases Nat.mul_eq_zero.1 h0 with h | h; · exact h
                                   · exact absurd h hc.1
      have hl0 : l.toNat = 0 := by omega
      refine OB.row (cs := []) f.none_more (us := []) (ts := []) ?_ (by simp [VL]) (by simp [hl0]) (by simp) (fun _ => by rfl)
      rw [h0, show Array.range 0 = #[] from rfl]; simp
    · simp only [if_neg h0]
      refine OB.row f.none_more (us := (List.replicate l.toNat zv.cells.toList).flatten) (ts := (List.replicate (c.toNat - l.toNat) zv.cells.toList).flatten) ?_ (VL_zero (hvl _ _ _) l.toNat) rfl (by simp) (fun _ => areDeep_flatten hzd _)
      rw [zeros_toList _ _ _ hzs hc.1, ← List.flatten_append, List.replicate_append_replicate]
      congr 2; omega
  · refine V_ref_new (by omega) ?_
    rw [rowSize_push]; simp
end
end Go.Ev

/- Stores into rows and variables; copy. -/
namespace Go.Ev

section
variable {base : Nat} {L : Len} {S : Pub} {N : Nm} {s : St} {a : Act} {P : Program} {w : World}

/-- Values are written into an object that is not frozen. -/
theorem FR.write {vals : Nat → Option DV} {Z : Nat × Nat → Prop} {t : Array Value} {hp : Hp} (f : FR base L S N vals (lst s) Z t hp) {h e : Nat} {ob : Ob} {b : Nat} (ho : look s h e = some ob)
    (hN : N h e = some (some (b, ob.sz))) (hk : ob.k ≠ 1) (hz : ¬ Z (h, e)) {off : Nat} {ds : List DV} {us : List Value} (hv : VL hp S N ds us) (hlen : off + ds.length ≤ ob.cs.length) (hd : ob.k = 0 → areDeep ds = true) :
    ∃ arr E, hp[b]? = some (.cells arr E (0, 0)) ∧ off + us.length ≤ arr.size ∧ ∀ hp' : Hp, hp'[b]? = some (.cells (arr.toList.take off ++ us ++ arr.toList.drop (off + us.length)).toArray E (0, 0)) → (∀ b', b' ≠ b → hp'[b']? = hp[b']?) →
      FR base L S N vals (upd (lst s) h (setAt (lst s h) e { ob with cs := ob.cs.take off ++ ds ++ ob.cs.drop (off + ds.length) })) Z t hp' := by
  obtain ⟨b', g1, g2, g3⟩ := f.obs h e ob ho
  rw [hN] at g1; simp at g1; subst g1
  have hul := VL.length hv
  rcases g2 with ⟨c1, _⟩ | ⟨c1, arr, E, vs, ts, c2, c3, c4, c5, c6⟩
  · exact absurd c1 hk
  · have hvl := VL.length c4
    have has : arr.size = vs.length + ts.length := by rw [← Array.length_toList, c3]; simp
    refine ⟨arr, E, c2, by omega, fun hp' h1 h2 => ?_⟩
    have hnp : ∀ o, ¬ S.c b o := fun o ho => hz (c5 o ho).1
    have hnm : ¬ S.m b := fun hm => by
      obtain ⟨es, clk, hx⟩ := f.pubm _ hm
      rw [c2] at hx; cases hx
    have hrow : rowSize hp b ≤ rowSize hp' b := by
      simp only [rowSize, c2, h1]
      simp; omega
    have kp : Keeps S hp hp' := by
      constructor
      · intro b1 o hc
        by_cases hb : b1 = b
        · subst hb; exact absurd hc (hnp o)
        · exact cellAt_of_eq (h2 b1 hb)
      · intro r hm
        by_cases hb : r = b
        · subst hb; exact absurd hm hnm
        · exact h2 r hb
    have lt : Later N N hp hp' := by
      intro h3 e3 r hr
      refine ⟨r, hr, .inr rfl, fun b1 sz1 hb1 => ?_⟩
      by_cases hb : b1 = b
      · subst hb; exact hrow
      · exact rowSize_of_eq (h2 b1 hb)
    refine FR.mut f ho hN h2 hrow ⟨fun o hc => absurd hc (hnp o), fun hm => absurd hm hnm⟩ (show ob.k ≠ 3 from nth_k ho) rfl ?_
    refine .inr ⟨hk, _, E, vs.take off ++ us ++ vs.drop (off + us.length), ts, h1, ?_, ?_, fun o hc => absurd hc (hnp o), fun h0 => ?_⟩
    · simp only [c3]
      rw [List.take_append_of_le_length (by omega), List.drop_append_of_le_length (by omega)]
      simp
    · rw [hul]
      exact VL.append (VL.append (VL.mono kp (Sub.refl _) lt _ _ (VL.take _ c4)) (VL.mono kp (Sub.refl _) lt _ _ hv)) (VL.mono kp (Sub.refl _) lt _ _ (VL.drop _ c4))
    · exact areDeep_append (areDeep_append (areDeep_take _ (c6 h0)) (hd h0)) (areDeep_drop _ (c6 h0))

theorem isCell_ok {hp : Hp} : ∀ {x : DV} {v : Value}, V hp S N x v → isCell x = true → v.oneCell' = true := by
  intro x v h hc
  cases x <;> (try (simp only [V] at h)) <;> first
    | (subst h; rfl)
    | (obtain ⟨_, _, rfl, _⟩ := h; rfl)
    | (obtain ⟨_, _, _, rfl, _⟩ := h; rfl)
    | (simp [isCell] at hc; done)
    | (obtain ⟨_, rfl, _⟩ := h; rfl)
    | exact h.elim

theorem areCells_ok {hp : Hp} : ∀ {xs : List DV} {vs : List Value}, VL hp S N xs vs → xs.all isCell = true → ∀ v ∈ vs, v.oneCell' = true
  | [], vs, h, _, v, hv => by simp only [VL] at h; subst h; simp at hv
  | x :: r, vs, h, hc, v, hv => by
    simp only [VL] at h
    obtain ⟨u, t, rfl, h1, h2⟩ := h
    simp only [List.all_cons, Bool.and_eq_true] at hc
    rcases List.mem_cons.1 hv with rfl | hv
    · exact isCell_ok h1 hc.1
    · exact areCells_ok h2 hc.2 v hv

/-- The memory behind a write into one row. -/
theorem Keep.setRow {hp : Hp} {b : Nat} {arr cs : Array Value} {E : TypeId} {z : Nat × Nat} (hw : w.heap = hp) (hb : hp[b]? = some (.cells arr E z)) (hs : cs.size = arr.size) (hbase : base ≤ b ∨ L b) : Keep base L hp (w.setRow b cs).heap := by
  subst hw
  refine ⟨by simp, fun x hx hl => ?_, fun x => ?_⟩
  · have : x ≠ b := by rintro rfl; rcases hbase with h | h; · omega
                       · exact hl h
    exact setRow_other w b x cs this
  · by_cases hx : x = b
    · subst hx
      simp only [rowSize, hb, setRow_heap w x arr cs E z hb]; omega
    · exact rowSize_of_eq (setRow_other w b x cs hx)

theorem goes_store (f : Fr base L S N s a.tmps w.heap) {o : Oper} {t : TypeId} {X Y : Operand} (hop : o.op = .store t X Y) (ho : o.dst = none) {n : Nat} (hn : sizeT P t = some n)
    {x y : DV} (hx : V w.heap S N x (a.eval X)) (hy : V w.heap S N y (a.eval Y)) {h e off : Nat} (he : x = .ptr h e off) {ob : Ob} (hob : look s h e = some ob) (hz : (h, e) ∉ s.z) (hk : ob.k ≠ 1) (hh : h < 1000000)
    {y' : DV} {z : List (Nat × Nat)} (hyy : (ob.k = 2 ∧ y' = y ∧ z = []) ∨ (deepen s y = some (y', z) ∧ (h, e) ∉ z)) {cs : List DV} (hf : fillL ob.cs [(off, n, y')] = some cs) :
    Goes P o base L S (app s ⟨none, [(h, setAt (lst s h) e { ob with cs := cs })], z⟩) a w := by
  subst he
  obtain ⟨b, hN, _, hbase⟩ := f.obs h e ob hob
  -- the value that is stored, frozen where it has to be
  obtain ⟨S', sub, f', hv', hdeep⟩ : ∃ S', Sub S S' ∧ FR base L S' N s.v.get (lst s) (fun p => p ∈ s.z ∨ p ∈ z) a.tmps w.heap ∧ V w.heap S' N y' (a.eval Y) ∧ (ob.k = 0 → isDeep y' = true) := by
    rcases hyy with ⟨h1, rfl, rfl⟩ | ⟨h1, _⟩
    · exact ⟨S, Sub.refl _, f.none_more, hy, fun h0 => by omega⟩
    · obtain ⟨S', a1, a2, a3, a4⟩ := deepen_ok s y y' z _ S _ f hy h1
      exact ⟨S', a1, a2, a4, fun _ => a3⟩
  have hz' : ¬ ((h, e) ∈ s.z ∨ (h, e) ∈ z) := by
    rintro (h1 | h1)
    · exact hz h1
    · rcases hyy with ⟨_, _, rfl⟩ | ⟨_, h2⟩
      · cases h1
      · exact h2 h1
  simp only [fillL] at hf
  split at hf
  · rename_i hc
    cases hf
    have hcv := cells_ok hv'
    have hpt := At.of_ptr f hx hob hk
    obtain ⟨ad, hxa, hat, b', hN', hb1, hb2⟩ := hpt
    rw [hN] at hN'; cases hN'
    have hcl : (a.eval Y).cells.toList.length = n := by rw [VL.length hcv]; exact hc.1
    obtain ⟨arr, E, q1, q2, q3⟩ := FR.write f' hob hN hk hz' hcv (by rw [hc.1]; exact hc.2.1) (fun h0 => by
      have := hdeep h0
      cases y' <;> simp_all [cells, isDeep, areDeep])
    have hone := areCells_ok hcv hc.2.2
    intro K Q hK
    unfold Oper.wp
    have hs : (storeCells (⟨b, off, none⟩ : Addr) (a.eval Y).cells.toList 0).run P w = .ok () (w.setRow b (arr.toList.take (off + 0) ++ (a.eval Y).cells.toList ++ arr.toList.drop (off + 0 + (a.eval Y).cells.toList.length)).toArray) :=
      run_storeCells_at P b off E _ 0 arr w q1 (by simpa using q2) hone
    have had : ad = ⟨b, off, none⟩ := by
      obtain ⟨blk, o1, sp⟩ := ad
      have := hat.1
      simp at this hb1 hb2; subst this; subst hb1; subst hb2; rfl
    have hsz : (a.eval Y).cells.size = n := by simpa using hcl
    have hrun : (execOp a.eval o).run P w = .ok .skip (w.setRow b (arr.toList.take off ++ (a.eval Y).cells.toList ++ arr.toList.drop (off + (a.eval Y).cells.toList.length)).toArray) := by
      unfold execOp; rw [hop]
      unfold sizeT at hn
      simp only [Option.map_eq_some_iff] at hn
      obtain ⟨i, hi, hin⟩ := hn
      simp only [Nat.add_zero] at hs
      simp [Instr.storeAt, hxa, Instr.sureAddr, storeVar, sizeOf, typeInfo, hi, hin, hsz, had, hs]
    rw [hrun, Oper.upon_skip, ho]
    refine hK _ _ ⟨S', N, sub, ?_, rfl, rfl, ?_, ⟨rfl, rfl, rfl, Nat.le_refl _⟩⟩
    · show FR base L S' N (app s _).v.get (lst (app s _)) (fun p => p ∈ (app s _).z) _ _
      rw [app_v_none rfl, app_lst_one (h := h) rfl hh]
      have := q3 (w.setRow b (arr.toList.take off ++ (a.eval Y).cells.toList ++ arr.toList.drop (off + (a.eval Y).cells.toList.length)).toArray).heap (setRow_heap w b arr _ E (0, 0) q1) (fun b1 hb1 => setRow_other w b b1 _ hb1)
      rw [hc.1] at this
      refine cast ?_ this
      show FR _ _ _ _ _ _ _ _ _ = FR _ _ _ _ _ _ _ _ _
      congr 1
      funext p
      simp [app, or_comm]
    · refine Keep.setRow rfl q1 ?_ hbase
      simp at q2 ⊢; omega
  · cases hf
end
end Go.Ev

/- Append and copy. -/
namespace Go.Ev

section
variable {base : Nat} {L : Len} {S : Pub} {N : Nm} {s : St} {a : Act} {P : Program} {w : World}

/-- The cells of a slice lie where its value says. -/
theorem slCells_ok (f : Fr base L S N s a.tmps w.heap) {x : DV} {v : Value} {n : Nat} {cs : List DV} (hv : V w.heap S N x v) (hl : lenOf x = some n) (hc : slCells s x = some cs) :
    ∃ b cap, v = .slice b n cap ∧ n ≤ cap ∧ (b = none → cap = 0) ∧ ∀ ad, b = some ad → cap ≠ 0 → At w.heap S N cs ad ∧ (x ≠ .nil) := by
  cases x <;> simp [lenOf] at hl
  · subst hl
    simp only [V] at hv; subst hv
    exact ⟨none, 0, rfl, Nat.le_refl _, fun _ => rfl, fun ad h => by cases h⟩
  · rename_i m ds
    subst hl
    simp [slCells] at hc; subst hc
    simp only [V] at hv
    obtain ⟨b, cap, h1, h2, h3, h4, h5⟩ := hv
    exact ⟨b, cap, h1, h2, h4.1, fun ad e hc => ⟨At.of_VC (h5 ad e hc).1 (h5 ad e hc).2, by simp⟩⟩
  · rename_i h e off m
    subst hl
    simp only [slCells, Option.bind_eq_some_iff] at hc
    obtain ⟨ob, ho, hc⟩ := hc
    split at hc
    · rename_i hk0
      have hk : ob.k ≠ 1 := by omega
      cases hc
      have hv' := hv
      simp only [V] at hv'
      obtain ⟨ad, cap, r, h1, h2, h3, h4, h5⟩ := hv'
      refine ⟨some ad, cap, h1, h2, (fun h => by cases h), fun ad' e' hcap => ⟨?_, by simp⟩⟩
      cases e'
      obtain ⟨b, g1, _, _⟩ := f.obs h e ob ho
      rw [g1] at h4; cases h4
      obtain ⟨e1, e2, _⟩ := h5 b ob.sz rfl hcap
      have hp : V w.heap S N (.ptr h e off) (.pointer (some ad)) := by
        simp only [V]
        exact ⟨ad, _, rfl, h3, g1, fun b' sz' hb => by cases hb; exact ⟨e1, e2⟩⟩
      obtain ⟨ad2, q1, q2, _⟩ := At.of_ptr f hp ho hk
      cases q1; exact q2
    · cases hc
  · subst hl
    simp [slCells] at hc; subst hc
    simp only [V] at hv; subst hv
    exact ⟨none, 0, rfl, Nat.le_refl _, fun _ => rfl, fun ad h => by cases h⟩
  · subst hl
    simp [slCells] at hc; subst hc
    simp only [V] at hv
    obtain ⟨b, cap, h1, h2⟩ := hv
    exact ⟨some b, cap, h1, Nat.zero_le _, (fun h => by cases h), fun ad e hc => by
      cases e
      exact ⟨⟨h2 hc, fun i d h => by simp at h⟩, by simp⟩⟩
  · simp [slCells] at hc

theorem slCells_deep (f : Fr base L S N s a.tmps w.heap) {x : DV} {v : Value} {cs : List DV} (hv : V w.heap S N x v) (hc : slCells s x = some cs) : areDeep cs = true := by
  cases x with
  | nil => simp [slCells] at hc; subst hc; rfl
  | non => simp [slCells] at hc; subst hc; rfl
  | emp => simp [slCells] at hc; subst hc; rfl
  | sl n cs0 =>
    simp [slCells] at hc; subst hc
    simp only [V] at hv
    obtain ⟨_, _, _, _, h, _⟩ := hv
    exact h
  | ref h e off n =>
    simp only [slCells, Option.bind_eq_some_iff] at hc
    obtain ⟨ob, ho, hc⟩ := hc
    split at hc
    · rename_i hk
      cases hc
      obtain ⟨b, _, g2, _⟩ := f.obs _ _ ob ho
      rcases g2 with ⟨c1, _⟩ | ⟨c1, arr, E, vs, t, c2, c3, c4, c5, c6⟩
      · omega
      · exact areDeep_drop _ (c6 hk)
    · cases hc
  | _ => simp [slCells] at hc

theorem run_app_grow (t u ty e e' : TypeId) (i : TypeInfo) (z : Value) (ht : P.underlying t = some (.slice e)) (hu : P.underlying u = some (.slice e')) (hi : P.info? e = some i) (hz : i.zero = some z)
    (b : Option Addr) (sLen sCap : Nat) (olds : List Value) (hfo : ∀ w' : World, w'.heap = w.heap → (Builtin.firstCells i.size sLen (.slice b sLen sCap)).run P w' = .ok olds.toArray w')
    (c : Option Addr) (n cap : Nat) (news : List Value) (hf : ∀ w' : World, w'.heap = w.heap → (Builtin.firstCells i.size n (.slice c n cap)).run P w' = .ok news.toArray w')
    (hg : sCap < sLen + n) (hsm : sLen + n ≤ 274877906944) (hby : i.bytes ≤ 256) :
    (Builtin.append_ #[t, u] ty #[.slice b sLen sCap, .slice c n cap]).run P w =
      .ok (.slice (some ⟨w.heap.size, 0, none⟩) (sLen + n) (grownCap w (sLen + n) sCap e))
        (w.drew.alloc (.cells (olds.toArray ++ news.toArray ++ Builtin.zeroCells z.cells (grownCap w (sLen + n) sCap e - (sLen + n))) e)) := by
  have hn : ¬ (sLen + n ≤ sCap) := by omega
  have h63' : ¬ (9223372036854775807 < ((sLen : Int) + (n : Int))) := by omega
  have hfit : Builtin.nextslicecap (sLen + n) sCap * i.bytes ≤ 281474976710656 :=
    growslice_fits hg (Nat.le_trans (Nat.mul_le_mul hsm hby) (by decide))
  have h48' : ¬ (281474976710656 < Builtin.nextslicecap (sLen + n) sCap * i.bytes) := by omega
  have hfn := hf w.drew rfl
  have hfo' := hfo w.drew rfl
  simp [Builtin.append_, run_underlying ht, run_underlying hu, sizeOf, typeInfo, zeroValue, hi, hz, Builtin.lenOf, hn, h63', h48', Question.forced, hfn, hfo', newRow, grownCap]
  congr 2
  apply Array.ext'
  simp [List.append_assoc]

theorem grownCap_ge (w : World) (need old : Nat) (e : TypeId) : need ≤ grownCap w need old e := by simp [grownCap, Question.cut]

theorem run_app_room (t u ty e e' : TypeId) (i : TypeInfo) (ht : P.underlying t = some (.slice e)) (hu : P.underlying u = some (.slice e')) (hi : P.info? e = some i)
    (b : Addr) (sLen sCap : Nat) (c : Option Addr) (n cap : Nat) (news : List Value) (hf : (Builtin.firstCells i.size n (.slice c n cap)).run P w = .ok news.toArray w) (hg : sLen + n ≤ sCap)
    {w' : World} (hs : (storeCells (b.add (sLen * i.size)) news).run P w = .ok () w') :
    (Builtin.append_ #[t, u] ty #[.slice (some b) sLen sCap, .slice c n cap]).run P w = .ok (.slice (some b) (sLen + n) sCap) w' := by
  simp [Builtin.append_, run_underlying ht, run_underlying hu, sizeOf, typeInfo, hi, Builtin.lenOf, hg, hf, hs]

theorem run_app_none (t u ty e e' : TypeId) (i : TypeInfo) (ht : P.underlying t = some (.slice e)) (hu : P.underlying u = some (.slice e')) (hi : P.info? e = some i)
    (b : Option Addr) (sLen sCap : Nat) (c : Option Addr) (cap : Nat) (hg : sLen ≤ sCap) (hsp : ∀ x, b = some x → True) :
    (Builtin.append_ #[t, u] ty #[.slice b sLen sCap, .slice c 0 cap]).run P w = .ok (.slice b sLen sCap) w := by
  have hf : (Builtin.firstCells i.size 0 (.slice c 0 cap)).run P w = .ok #[] w := by
    cases c <;> simp [Builtin.firstCells, loadCells, loadCellsFrom]
  cases b <;> simp [Builtin.append_, run_underlying ht, run_underlying hu, sizeOf, typeInfo, hi, Builtin.lenOf, hg, hf, storeCells]

theorem firstCells_ok (P : Program) {i n cap : Nat} {c : Option Addr} {cs : List DV} (hl : n * i ≤ cs.length) (h : ∀ ad, c = some ad → At w.heap S N cs ad) (h0 : c = none → n * i = 0) :
    ∃ vs, VL w.heap S N (cs.take (n * i)) vs ∧ (∀ w' : World, w'.heap = w.heap → (Builtin.firstCells i n (.slice c n cap)).run P w' = .ok vs.toArray w') ∧ vs.length = n * i := by
  cases c with
  | none =>
    have := h0 rfl
    rw [this]
    exact ⟨[], by simp [VL], fun w' _ => by simp [Builtin.firstCells], rfl⟩
  | some ad =>
    obtain ⟨vs, h1, h2⟩ := ((h ad rfl).take (n * i)).values
    have hlen : vs.length = n * i := by rw [VL.length h1]; simp; omega
    refine ⟨vs, h1, fun w' hw => ?_, hlen⟩
    exact run_firstCells_some w' i n ad n cap vs hlen fun j v e => by
      rw [cell?_eq _ _ (add_spot _ _ (h ad rfl).1), add_block, add_off, hw]; exact h2 j v e

theorem goes_append_nil (f : Fr base L S N s a.tmps w.heap) (hb : base ≤ w.heap.size) {o : Oper} {c : Call} {d : Nat} {t u e e' : TypeId} {X Y : Operand} (hop : o.op = .call c) (hcal : c.callee = .builtin .append) (hargs : c.args = #[X, Y]) (hty : c.argTypes[0]? = some t) (hty' : c.argTypes[1]? = some u)
    (ho : o.dst = some d) (hd : d < a.tmps.size) (hd' : d < 1000000) (ht : P.underlying t = some (.slice e)) (hu : P.underlying u = some (.slice e')) {sz by_ : Nat} {i : TypeInfo} (hi : P.info? e = some i) (hsz : i.size = sz) (hby : i.bytes = by_)
    {zv : Value} (hz : i.zero = some zv) (hzs : zv.cells.size = i.size)
    (hx : a.eval X = .slice none 0 0) {y : DV} (hy : V w.heap S N y (a.eval Y)) {lb : Nat} {news : List DV} (hl : lenOf y = some lb) (hc : slCells s y = some news) (hlen : ¬ news.length < lb * sz) (hbd : bound (0 + lb) by_ = true) (h0 : lb ≠ 0)
    (hrun : ∀ w, (execOp a.eval o).run P w = ((Builtin.append_ #[t, u] o.type #[a.eval X, a.eval Y]).run P w).andThen fun v w => .ok (.value v) w) (hdp : areDeep (news.take (lb * sz)) = true) :
    Goes P o base L S (app s (newOb s d ⟨0, sz, news.take (lb * sz)⟩ [] (.ref d (cnt s d) 0 lb))) a w := by
  obtain ⟨b, cap, h1, h2, h3, h4⟩ := slCells_ok f hy hl hc
  have hcap : cap ≠ 0 := by omega
  have hb' : lb ≤ 274877906944 ∧ i.bytes ≤ 256 := by simp [bound] at hbd; rw [hby]; exact hbd
  obtain ⟨vs, k1, hfn, k3⟩ := firstCells_ok (S := S) (N := N) (w := w) P (i := i.size) (n := lb) (cap := cap) (c := b) (cs := news) (by rw [hsz]; omega) (fun ad e => (h4 ad e hcap).1) (fun e => absurd (h3 e) hcap)
  have hg := run_app_grow (P := P) (w := w) t u o.type e e' i zv ht hu hi hz none 0 0 [] (fun w' _ => by simp [Builtin.firstCells]) b lb cap vs hfn (by omega) (by omega) hb'.2
  have hge := grownCap_ge w (0 + lb) 0 e
  refine goes_new (z := []) (Sub.refl _) f.none_more hb (c := .cells ((([] : List Value).toArray ++ vs.toArray) ++ Builtin.zeroCells zv.cells (grownCap w (0 + lb) 0 e - (0 + lb))) e) (v := .slice (some ⟨w.heap.size, 0, none⟩) (0 + lb) (grownCap w (0 + lb) 0 e)) ho hd hd' (by simp)
    (by rw [hrun, hx, h1, hg]; rfl) rfl ?_ ?_
  · refine OB.row f.none_more (us := vs) (ts := (Builtin.zeroCells zv.cells (grownCap w (0 + lb) 0 e - (0 + lb))).toList) (by simp) ?_ rfl (by simp) (fun _ => hdp)
    rw [← hsz]; exact k1
  · rw [Nat.zero_add]
    refine V_ref_new (by simpa using hge) ?_
    rw [rowSize_push]
    simp [Builtin.zeroCells, k3, hzs]
    have := Nat.add_mul lb (grownCap w lb 0 e - lb) i.size
    rw [hsz] at *
    simp at hge
    rw [show lb + (grownCap w lb 0 e - lb) = grownCap w lb 0 e by omega] at this
    omega

theorem V_ref_renew {hp : Hp} {h e c : Nat} {p sz n cap : Nat} (hne : ¬ c = e) (hn : n ≤ cap) (hr : cap * sz ≤ rowSize hp p) : V hp S (renew N h e c (p, sz)) (.ref h c 0 n) (.slice (some ⟨p, 0, none⟩) n cap) := by
  simp only [V]
  refine ⟨_, cap, _, rfl, hn, rfl, by unfold renew; rw [if_neg (fun x => hne x.2), if_pos ⟨rfl, rfl⟩], fun b z e _ => ?_⟩
  cases e; exact ⟨rfl, rfl, by omega⟩

theorem goes_append_ref (f : Fr base L S N s a.tmps w.heap) (hb : base ≤ w.heap.size) {o : Oper} {d : Nat} {t u e e' : TypeId} {X Y : Operand}
    (ho : o.dst = some d) (hd : d < a.tmps.size) (hd' : d < 1000000) (ht : P.underlying t = some (.slice e)) (hu : P.underlying u = some (.slice e')) {sz by_ : Nat} {i : TypeInfo} (hi : P.info? e = some i) (hsz : i.size = sz) (hby : i.bytes = by_)
    {zv : Value} (hz : i.zero = some zv) (hzs : zv.cells.size = i.size) {h q la : Nat} {ob : Ob} (hh : h < 1000000)
    (hx : V w.heap S N (.ref h q 0 la) (a.eval X)) (hob : look s h q = some ob) (hk : ob.k = 0) (hosz : ob.sz = sz) (hol : ob.cs.length = la * sz)
    {y : DV} (hy : V w.heap S N y (a.eval Y)) {lb : Nat} {news : List DV} (hl : lenOf y = some lb) (hc : slCells s y = some news) (hlen : ¬ news.length < lb * sz) (hbd : bound (la + lb) by_ = true) (h0 : lb ≠ 0) (hs0 : sz ≠ 0)
    (hcell : (news.take (lb * sz)).all isCell = true)
    (hrun : ∀ w, (execOp a.eval o).run P w = ((Builtin.append_ #[t, u] o.type #[a.eval X, a.eval Y]).run P w).andThen fun v w => .ok (.value v) w) (hdp : areDeep (news.take (lb * sz)) = true) :
    Goes P o base L S (app s ⟨some (d, .ref h (cnt s h) 0 (la + lb)), [(h, { ob with cs := ob.cs ++ news.take (lb * sz) } :: setAt (lst s h) q { ob with k := 3 })], if (h, q) ∈ s.z then [(h, cnt s h)] else []⟩) a w := by
  obtain ⟨b, cap, h1, h2, h3, h4⟩ := slCells_ok f hy hl hc
  have hcap : cap ≠ 0 := by omega
  have hb' : la + lb ≤ 274877906944 ∧ i.bytes ≤ 256 := by simp [bound] at hbd; rw [hby]; exact hbd
  obtain ⟨vs, k1, hfn, k3⟩ := firstCells_ok (S := S) (N := N) (w := w) P (i := i.size) (n := lb) (cap := cap) (c := b) (cs := news) (by rw [hsz]; omega) (fun ad e => (h4 ad e hcap).1) (fun e => absurd (h3 e) hcap)
  rw [hsz] at k1 k3
  simp only [V] at hx
  obtain ⟨ad, capX, r, x1, x2, x3, x4, x5⟩ := hx
  obtain ⟨blk, g1, g2, g3⟩ := f.obs h q ob hob
  rw [g1] at x4; cases x4
  have x6 := x5 blk ob.sz rfl
  have hq := nth_lt hob
  have hqne : ¬ cnt s h = q := by unfold cnt; omega
  rcases g2 with ⟨c1, _⟩ | ⟨c1, arr, E, us, ts, c2, c3, c4, c5, c6⟩
  · omega
  have hul := VL.length c4
  have hZ : (fun p => p ∈ s.z ∨ ((h, q) ∈ s.z ∧ p = (h, (lst s h).length))) = fun p => p ∈ (app s ⟨some (d, .ref h (cnt s h) 0 (la + lb)), [(h, { ob with cs := ob.cs ++ news.take (lb * sz) } :: setAt (lst s h) q { ob with k := 3 })], if (h, q) ∈ s.z then [(h, cnt s h)] else []⟩).z := by
    funext p
    simp only [app]
    by_cases hz1 : (h, q) ∈ s.z
    · simp [hz1, cnt, or_comm]
    · simp [hz1]
  by_cases hroom : la + lb ≤ capX
  · -- there is room
    obtain ⟨e1, e2, e3⟩ := x6 (by omega)
    have e3 := e3 trivial
    have hrs : rowSize w.heap blk = arr.size := by simp [rowSize, c2]
    have had : ad = ⟨blk, 0, none⟩ := by
      obtain ⟨bl, o1, sp⟩ := ad
      simp at x3 e1 e2; subst x3; subst e1; subst e2; rfl
    have hmul : (la + lb) * sz ≤ capX * sz := Nat.mul_le_mul_right _ hroom
    have hadd := Nat.add_mul la lb sz
    have hle : la * sz + vs.length ≤ arr.size := by rw [k3, ← hrs]; rw [hosz] at e3; omega
    have hst := run_storeCells_at P blk (la * sz) E vs 0 arr w c2 (by simpa using hle) (areCells_ok k1 hcell)
    simp only [Nat.add_zero] at hst
    have hap := run_app_room (P := P) (w := w) t u o.type e e' i ht hu hi ad la capX b lb cap vs (hfn w rfl) hroom (w' := w.setRow blk (arr.toList.take (la * sz) ++ vs ++ arr.toList.drop (la * sz + vs.length)).toArray) (by rw [had, add_mk, hsz, Nat.zero_add]; exact hst)
    have hheap := setRow_heap w blk arr (arr.toList.take (la * sz) ++ vs ++ arr.toList.drop (la * sz + vs.length)).toArray E (0, 0) c2
    have hoth : ∀ b1, b1 ≠ blk → (w.setRow blk (arr.toList.take (la * sz) ++ vs ++ arr.toList.drop (la * sz + vs.length)).toArray).heap[b1]? = w.heap[b1]? := fun b1 hb1 => setRow_other w blk b1 _ hb1
    have husl : us.length = la * sz := by omega
    have hnm : ¬ S.m blk := fun hm => by
      obtain ⟨es, clk, hx⟩ := f.pubm _ hm
      rw [c2] at hx; cases hx
    have kp : Keeps S w.heap (w.setRow blk (arr.toList.take (la * sz) ++ vs ++ arr.toList.drop (la * sz + vs.length)).toArray).heap := by
      constructor
      · intro b1 o1 hc1
        by_cases hbb : b1 = blk
        · subst hbb
          have ho1 := (c5 o1 hc1).2
          simp only [cellAt, c2, hheap]
          simp only [List.getElem?_toArray]
          rw [List.append_assoc, List.getElem?_append_left (by simp; omega), List.getElem?_take, if_pos (by omega)]
          simp
        · exact cellAt_of_eq (hoth b1 hbb)
      · intro r hm
        by_cases hbb : r = blk
        · subst hbb; exact absurd hm hnm
        · exact hoth r hbb
    have hbl : ∀ h1 e1 b1 sz1, N h1 e1 = some (some (b1, sz1)) → ¬ (h1 = h ∧ e1 = q) → (w.setRow blk (arr.toList.take (la * sz) ++ vs ++ arr.toList.drop (la * sz + vs.length)).toArray).heap[b1]? = w.heap[b1]? ∧ b1 ≠ blk := by
      intro h1 e1 b1 sz1 hn1 hne
      have : b1 ≠ blk := by rintro rfl; exact hne (f.inj _ _ _ _ _ _ _ hn1 g1)
      exact ⟨hoth b1 this, this⟩
    have lt : Later N (renew N h q (lst s h).length (blk, ob.sz)) w.heap (w.setRow blk (arr.toList.take (la * sz) ++ vs ++ arr.toList.drop (la * sz + vs.length)).toArray).heap := by
      intro h1 e1 r hr
      unfold renew
      by_cases h5 : h1 = h ∧ e1 = q
      · rw [if_pos h5]; exact ⟨none, rfl, .inl rfl, fun _ _ x => by cases x⟩
      · rw [if_neg h5]
        by_cases h6 : h1 = h ∧ e1 = (lst s h).length
        · obtain ⟨rfl, rfl⟩ := h6; rw [f.fresh h1] at hr; cases hr
        · rw [if_neg h6]
          exact ⟨r, hr, .inr rfl, fun b1 sz1 hr1 => rowSize_of_eq (hbl h1 e1 b1 sz1 (hr1 ▸ hr) h5).1⟩
    have hobn : OB (w.setRow blk (arr.toList.take (la * sz) ++ vs ++ arr.toList.drop (la * sz + vs.length)).toArray).heap S (renew N h q (lst s h).length (blk, ob.sz)) ((h, q) ∈ s.z) { ob with cs := ob.cs ++ news.take (lb * sz) } blk := by
      refine .inr ⟨c1, _, E, us ++ vs, arr.toList.drop (la * sz + vs.length), hheap, ?_, ?_, fun o1 hc1 => ⟨(c5 o1 hc1).1, ?_⟩, fun _ => areDeep_append (c6 hk) hdp⟩
      · simp only [List.append_assoc]
        congr 1
        rw [c3, List.take_append_of_le_length (by omega), List.take_of_length_le (by omega)]
      · exact VL.append (VL.mono kp (Sub.refl _) lt _ _ c4) (VL.mono kp (Sub.refl _) lt _ _ k1)
      · have := (c5 o1 hc1).2; simp; omega
    have f2 := FR.renew f hob kp hbl g3 (ob' := { ob with cs := ob.cs ++ news.take (lb * sz) }) (by simp; omega) hobn
    have hrs2 : capX * ob.sz ≤ rowSize (w.setRow blk (arr.toList.take (la * sz) ++ vs ++ arr.toList.drop (la * sz + vs.length)).toArray).heap blk := by
      simp only [rowSize, hheap]; simp; rw [hrs] at e3; omega
    have hv : V (w.setRow blk (arr.toList.take (la * sz) ++ vs ++ arr.toList.drop (la * sz + vs.length)).toArray).heap S (renew N h q (lst s h).length (blk, ob.sz)) (.ref h (cnt s h) 0 (la + lb)) (.slice (some ad) (la + lb) capX) := by
      rw [had]; exact V_ref_renew hqne hroom hrs2
    intro K Q hK
    unfold Oper.wp
    rw [hrun, x1, h1, hap, Result.andThen_ok, Oper.upon_value, ho]
    refine hK _ _ ⟨S, renew N h q (lst s h).length (blk, ob.sz), Sub.refl _, ?_, by simp [put_some], by simp [put_some], Keep.setRow rfl c2 (by simp; omega) g3, ⟨rfl, rfl, rfl, Nat.le_refl _⟩⟩
    show FR base L S (renew N h q (lst s h).length (blk, ob.sz)) (app s _).v.get (lst (app s _)) (fun p => p ∈ (app s _).z) _ _
    rw [app_v (d := d) (y := .ref h (cnt s h) 0 (la + lb)) rfl hd', app_lst_one (h := h) rfl hh, ← hZ]
    exact FR.val f2 hd hv
  · -- a new block
    have hroom' : capX < la + lb := by omega
    have hold : ∃ cs0 : List DV, la * sz ≤ cs0.length ∧ cs0.take (la * sz) = ob.cs ∧ At w.heap S N cs0 ad := by
      by_cases hc0 : capX = 0
      · have : la = 0 := by omega
        subst this
        have : ob.cs = [] := by apply List.eq_nil_of_length_eq_zero; simpa using hol
        exact ⟨[], by simp, by simp [this], x3, fun i d hi => by simp at hi⟩
      · obtain ⟨e1, e2, e3⟩ := x6 hc0
        have hp : V w.heap S N (.ptr h q 0) (.pointer (some ad)) := by
          simp only [V]
          exact ⟨ad, _, rfl, x3, g1, fun b' sz' hb => by cases hb; exact ⟨e1, e2⟩⟩
        obtain ⟨ad2, q1, q2, _⟩ := At.of_ptr f hp hob c1
        cases q1
        exact ⟨ob.cs, by omega, by rw [List.take_of_length_le (by omega)], by simpa using q2⟩
    obtain ⟨cs0, hc1, hc2, hc3⟩ := hold
    obtain ⟨os, m1, hfo, m3⟩ := firstCells_ok (S := S) (N := N) (w := w) P (i := i.size) (n := la) (cap := capX) (c := some ad) (cs := cs0) (by rw [hsz]; exact hc1) (fun ad' e => by cases e; exact hc3) (fun e => by cases e)
    rw [hsz] at m1 m3
    rw [hc2] at m1
    have hg := run_app_grow (P := P) (w := w) t u o.type e e' i zv ht hu hi hz (some ad) la capX os hfo b lb cap vs hfn hroom' hb'.1 hb'.2
    have hge := grownCap_ge w (la + lb) capX e
    generalize hG : grownCap w (la + lb) capX e = G at hg hge
    generalize hA : os.toArray ++ vs.toArray ++ Builtin.zeroCells zv.cells (G - (la + lb)) = A at hg
    have hgr : Grows w.heap (w.heap.push (.cells A e)) := Grows.push _ _
    have kp := f.keeps hgr
    have hbl : ∀ h1 e1 b1 sz1, N h1 e1 = some (some (b1, sz1)) → ¬ (h1 = h ∧ e1 = q) → (w.heap.push (.cells A e))[b1]? = w.heap[b1]? ∧ b1 ≠ w.heap.size := by
      intro h1 e1 b1 sz1 hn1 hne
      have := f.block hn1
      exact ⟨hgr.2 _ this, by omega⟩
    have lt : Later N (renew N h q (lst s h).length (w.heap.size, ob.sz)) w.heap (w.heap.push (.cells A e)) := by
      intro h1 e1 r hr
      unfold renew
      by_cases h5 : h1 = h ∧ e1 = q
      · rw [if_pos h5]; exact ⟨none, rfl, .inl rfl, fun _ _ x => by cases x⟩
      · rw [if_neg h5]
        by_cases h6 : h1 = h ∧ e1 = (lst s h).length
        · obtain ⟨rfl, rfl⟩ := h6; rw [f.fresh h1] at hr; cases hr
        · rw [if_neg h6]
          exact ⟨r, hr, .inr rfl, fun b1 sz1 hr1 => rowSize_of_eq (hbl h1 e1 b1 sz1 (hr1 ▸ hr) h5).1⟩
    have hAl : A.toList = (os ++ vs) ++ (Builtin.zeroCells zv.cells (G - (la + lb))).toList := by rw [← hA]; simp
    have hobn : OB (w.heap.push (.cells A e)) S (renew N h q (lst s h).length (w.heap.size, ob.sz)) ((h, q) ∈ s.z) { ob with cs := ob.cs ++ news.take (lb * sz) } w.heap.size := by
      refine .inr ⟨c1, A, e, os ++ vs, _, push_get _ _, hAl, ?_, fun o1 hc1 => absurd hc1 (FR.unpub f o1), fun _ => areDeep_append (c6 hk) hdp⟩
      exact VL.append (VL.mono kp (Sub.refl _) lt _ _ m1) (VL.mono kp (Sub.refl _) lt _ _ k1)
    have f2 := FR.renew f hob kp hbl (.inl hb) (ob' := { ob with cs := ob.cs ++ news.take (lb * sz) }) (by simp; omega) hobn
    have hAs : A.size = G * sz := by
      have e1 : A.size = A.toList.length := by simp
      rw [e1, hAl]
      simp [Builtin.zeroCells, k3, m3, hzs, hsz]
      rw [← Nat.add_mul, ← Nat.add_mul]
      congr 1; omega
    have hv : V (w.heap.push (.cells A e)) S (renew N h q (lst s h).length (w.heap.size, ob.sz)) (.ref h (cnt s h) 0 (la + lb)) (.slice (some ⟨w.heap.size, 0, none⟩) (la + lb) G) :=
      V_ref_renew hqne hge (by rw [rowSize_push, hAs, hosz]; exact Nat.le_refl _)
    intro K Q hK
    unfold Oper.wp
    rw [hrun, x1, h1, hg, Result.andThen_ok, Oper.upon_value, ho]
    refine hK _ _ ⟨S, renew N h q (lst s h).length (w.heap.size, ob.sz), Sub.refl _, ?_, by simp [put_some], by simp [put_some], Keep.grows hb hgr, ⟨rfl, rfl, rfl, Nat.le_succ _⟩⟩
    show FR base L S (renew N h q (lst s h).length (w.heap.size, ob.sz)) (app s _).v.get (lst (app s _)) (fun p => p ∈ (app s _).z) _ _
    rw [app_v (d := d) (y := .ref h (cnt s h) 0 (la + lb)) rfl hd', app_lst_one (h := h) rfl hh, ← hZ]
    exact FR.val f2 hd hv
end
end Go.Ev

/- Maps whose keys are arrays of integers: lookup and update. -/
namespace Go.Ev

section
variable {base : Nat} {L : Len} {S : Pub} {N : Nm} {s : St} {a : Act} {P : Program} {w : World}

theorem run_getObj_map {r : Nat} {ms : Array MapEntry} {clk : Nat} (h : w.heap[r]? = some (.map ms clk)) : (getObj r).run P w = .ok (.map ms clk) w := by simp [getObj, Sem.run, h]

theorem intCells : ∀ {xs : List DV} {us : List Value}, VL w.heap S N xs us → eqCells xs xs ≠ none → ∀ (j : Nat) (v : Value), us[j]? = some v → ∃ k n, v = Value.int k n
  | [], us, h, _, j, v, e => by simp only [VL] at h; subst h; simp at e
  | x :: r, us, h, hq, j, v, e => by
    simp only [VL] at h
    obtain ⟨u, t, rfl, h1, h2⟩ := h
    cases x <;> (try (simp [eqCells] at hq; done))
    rename_i k n
    simp only [V] at h1; subst h1
    cases j with
    | zero => simp at e; subst e; exact ⟨k, n, rfl⟩
    | succ j =>
      simp at e
      refine intCells h2 ?_ j v e
      intro h0
      simp [eqCells, h0] at hq

/-- Where a key stands, said of both sides. -/
def FindR (hp : Hp) (S : Pub) (N : Nm) (k : Value) (ms : List MapEntry) (j : Nat) : Option (Nat × DV) → Option (Nat × Value) → Prop
  | none, none => True
  | some (x, d), some (y, v) => x = y ∧ V hp S N d v ∧ j ≤ x ∧ ∃ m, ms[x - j]? = some m ∧ m.key = k
  | _, _ => False

theorem checkKey_int (em : Bool) (d : Nat) {e : TypeId} {k0 k : IntKind} {n : Int} (he : P.underlying e = some (.int k0)) : (Instr.checkKey em (d + 1) e (.int k n)).run P w = .ok () w := by
  simp [Instr.checkKey, run_underlying he]

theorem checkKey_ok (em : Bool) (d : Nat) {t e : TypeId} {c : Nat} {k0 : IntKind} {i : TypeInfo} (ht : P.underlying t = some (.array c e)) (he : P.underlying e = some (.int k0)) (hi : P.info? e = some i) (h1 : i.size = 1)
    {us : List Value} (hus : ∀ (j : Nat) (v : Value), us[j]? = some v → ∃ k n, v = Value.int k n) (hl : us.length = c) : (Instr.checkKey em (d + 2) t (.agg us.toArray)).run P w = .ok () w := by
  rw [Instr.checkKey]
  simp only [Sem.run_bind, run_underlying ht, Result.andThen_ok]
  simp only [Std.Legacy.Range.forIn_eq_forIn_range', Std.Legacy.Range.size, Nat.sub_zero, Nat.add_one_sub_one, Nat.div_one]
  have key : ∀ (is : List Nat), (∀ j ∈ is, j < c) → (forIn is PUnit.unit fun j r => do
      let a ← sizeOf e
      let b ← Go.part e us.toArray (j * a)
      Instr.checkKey em (d + 1) e b
      pure (ForInStep.yield PUnit.unit) : Go.Sem PUnit).run P w = .ok PUnit.unit w := by
    intro is
    induction is with
    | nil => intro _; simp
    | cons j is ih =>
      intro hj
      have hlt := hj j (by simp)
      have hgu : us[j]? = some us[j] := List.getElem?_eq_getElem (by omega)
      obtain ⟨k, n, hv⟩ := hus j _ hgu
      have hagg : (isAgg e).run P w = .ok false w := by simp [isAgg, run_underlying he]
      have hsz : (sizeOf e).run P w = .ok 1 w := by simp [sizeOf, typeInfo, hi, h1]
      have hp : (Go.part e us.toArray (j * 1)).run P w = .ok (.int k n) w := by
        simp [Go.part, hagg, hgu, hv]
      simp only [List.forIn_cons, Sem.run_bind, hsz, Result.andThen_ok, hp, checkKey_int em d he, Sem.run_pure]
      exact ih fun x hx => hj x (by simp [hx])
  have hk := key (List.range' 0 c) (by intro j hj; simp at hj; omega)
  have hk2 := hk
  simp at hk2
  simp
  rw [hk2]
  rfl

theorem eqCells_eq : ∀ {xs ys : List DV} {us vs : List Value}, VL w.heap S N xs us → VL w.heap S N ys vs → eqCells xs ys = some true → us = vs
  | [], ys, us, vs, h1, h2, h => by
    cases ys with
    | nil => simp only [VL] at h1 h2; rw [h1, h2]
    | cons y t => simp [eqCells] at h
  | x :: r, ys, us, vs, h1, h2, h => by
    cases ys with
    | nil => cases x <;> simp [eqCells] at h
    | cons y t =>
      cases x <;> cases y <;> simp [eqCells] at h
      obtain ⟨hk, h⟩ := h
      split at h
      · rename_i q hq
        simp at h
        obtain ⟨h3, rfl⟩ := h
        simp only [VL] at h1 h2
        obtain ⟨u, us', rfl, hu, g1⟩ := h1
        obtain ⟨v, vs', rfl, hv, g2⟩ := h2
        simp only [V] at hu hv
        subst hu; subst hv; subst hk; subst h3
        rw [eqCells_eq g1 g2 hq]
      · cases h

theorem mapFind_cons {k : List DV} {d : DV} {r : List DV} {i : Nat} {res : Option (Nat × DV)} (h : mapFind k (d :: r) i = some res) :
    ∃ k' v, d = .tup [.agg k', v] ∧ ((eqCells k k' = some true ∧ res = some (i, v)) ∨ (eqCells k k' = some false ∧ mapFind k r (i + 1) = some res)) := by
  cases d <;> (try (simp [mapFind] at h; done))
  rename_i vs
  rcases vs with _ | ⟨x, _ | ⟨y, _ | ⟨z, t⟩⟩⟩ <;> (try (simp [mapFind] at h; done)) <;> (cases x <;> (try (simp [mapFind] at h; done)))
  rename_i k'
  simp only [mapFind] at h
  refine ⟨k', y, rfl, ?_⟩
  split at h
  · rename_i hq; cases h; exact .inl ⟨hq, rfl⟩
  · rename_i hq; exact .inr ⟨hq, h⟩
  · cases h

/-- Where a key stands in a map. -/
theorem find_ok {t e : TypeId} {c : Nat} {k0 : IntKind} {i : TypeInfo} (ht : P.underlying t = some (.array c e)) (he : P.underlying e = some (.int k0)) (hi : P.info? e = some i) (h1 : i.size = 1)
    {kc : List DV} {us : List Value} (hk : VL w.heap S N kc us) (hc : kc.length = c) : ∀ {es : List DV} {ms : List MapEntry} {j : Nat} {r : Option (Nat × DV)}, VM w.heap S N es ms → mapFind kc es j = some r →
    ∃ r', (Instr.findAsking t (.agg us.toArray) ms j).run P w = .ok r' w ∧ FindR w.heap S N (.agg us.toArray) ms j r r'
  | [], ms, j, r, hm, h => by
    simp [mapFind] at h; subst h
    simp only [VM] at hm; subst hm
    exact ⟨none, by simp [Instr.findAsking], by simp [FindR]⟩
  | x :: es, ms, j, r, hm, h => by
    simp only [VM] at hm
    obtain ⟨m, mt, rfl, g1, g2⟩ := hm
    obtain ⟨kk, vv, rfl, hq⟩ := mapFind_cons h
    simp only [V, VL] at g1
    obtain ⟨vs, e1, v1, t1, rfl, ⟨ku, hku, hkv⟩, v2, t2, rfl, hvv, rfl⟩ := g1
    simp at e1
    obtain ⟨e2, e3⟩ := e1
    subst hku
    rcases hq with ⟨hq, rfl⟩ | ⟨hq, h⟩
    · have heq := equal_ok w ht he hi h1 hk hkv hc hq
      refine ⟨some (j, m.val), ?_, rfl, by rw [e3]; exact hvv, Nat.le_refl _, m, by simp, by rw [e2, eqCells_eq hk hkv hq]⟩
      simp [Instr.findAsking, e2, heq]
    · have heq := equal_ok w ht he hi h1 hk hkv hc hq
      obtain ⟨r', q1, q2⟩ := find_ok ht he hi h1 hk hc g2 h
      refine ⟨r', ?_, ?_⟩
      · simp [Instr.findAsking, e2, heq, q1]
      · cases r with
        | none => cases r' with
          | none => trivial
          | some _ => exact q2.elim
        | some p =>
          cases r' with
          | none => exact q2.elim
          | some p' =>
            obtain ⟨x1, d1⟩ := p
            obtain ⟨y1, v1⟩ := p'
            obtain ⟨a1, a2, a3, mm, a4, a5⟩ := q2
            refine ⟨a1, a2, by omega, mm, ?_, a5⟩
            rw [show x1 - j = (x1 - (j + 1)) + 1 by omega]; simpa using a4

theorem findKey_ok {t e : TypeId} {c : Nat} {k0 : IntKind} {i : TypeInfo} (ht : P.underlying t = some (.array c e)) (he : P.underlying e = some (.int k0)) (hi : P.info? e = some i) (h1 : i.size = 1)
    {kc : List DV} {us : List Value} (hk : VL w.heap S N kc us) (hc : kc.length = c) {es : List DV} {ms : List MapEntry} {r : Option (Nat × DV)} (hm : VM w.heap S N es ms) (h : mapFind kc es 0 = some r) :
    ∃ r', (Instr.findKey t (.agg us.toArray) ms).run P w = .ok r' w ∧ FindR w.heap S N (.agg us.toArray) ms 0 r r' := by
  obtain ⟨r', h2, h3⟩ := find_ok ht he hi h1 hk hc hm h
  refine ⟨r', ?_, h3⟩
  cases ms with
  | nil => simpa [Instr.findKey, run_underlying ht, Instr.findNow, Instr.findAsking] using h2
  | cons m mt => simpa [Instr.findKey, run_underlying ht, Instr.findNow, Instr.sameNow] using h2

theorem sameBits_int : ∀ {us : List Value}, (∀ (j : Nat) (v : Value), us[j]? = some v → ∃ k n, v = Value.int k n) → ((us.zip us).all fun (x : Value × Value) => Instr.sameBits 9999 x.1 x.2) = true
  | [], _ => by simp
  | u :: r, h => by
    obtain ⟨k, n, rfl⟩ := h 0 u (by simp)
    simp only [List.zip_cons_cons, List.all_cons, Bool.and_eq_true]
    exact ⟨by simp [Instr.sameBits], sameBits_int fun j v e => h (j + 1) v (by simpa using e)⟩

theorem keyStays_ok {us : List Value} (h : ∀ (j : Nat) (v : Value), us[j]? = some v → ∃ k n, v = Value.int k n) : (Instr.keyThatStays (.agg us.toArray) (.agg us.toArray)).run P w = .ok (.agg us.toArray) w := by
  have : Instr.sameBits 10000 (.agg us.toArray) (.agg us.toArray) = true := by
    have := sameBits_int h
    simpa [Instr.sameBits] using this
  simp [Instr.keyThatStays, this]

/-- What a map holds: its object, or what was published. -/
theorem mref_ok (f : Fr base L S N s a.tmps w.heap) {h e : Nat} {ob : Ob} {x : Value} (hv : V w.heap S N (.mref h e) x) (ho : look s h e = some ob) (hk : ob.k = 1) :
    ∃ b ms clk, x = .map (some b) ∧ N h e = some (some (b, ob.sz)) ∧ w.heap[b]? = some (.map ms clk) ∧ VM w.heap S N ob.cs ms.toList ∧ MapOK ms clk ∧ areDeep ob.cs = true ∧ (S.m b → (h, e) ∈ s.z) ∧ (base ≤ b ∨ L b) := by
  simp only [V] at hv
  obtain ⟨q, r, h1, h3, h4⟩ := hv
  obtain ⟨b, g1, g2, g3⟩ := f.obs h e ob ho
  rw [g1] at h3; cases h3
  obtain rfl := h4 b ob.sz rfl
  rcases g2 with ⟨c1, ms, clk, c2, c3, c4, c5, c6⟩ | ⟨c1, _⟩
  · exact ⟨q, ms, clk, h1, g1, c2, c4, c5, c3, c6, g3⟩
  · exact absurd hk c1

theorem lookup_ok (f : Fr base L S N s a.tmps w.heap) {t kt et e : TypeId} {c : Nat} {k0 : IntKind} {i ie : TypeInfo} (hm : P.underlying t = some (.map kt et)) (ht : P.underlying kt = some (.array c e)) (he : P.underlying e = some (.int k0))
    (hi : P.info? e = some i) (h1 : i.size = 1) (hie : P.info? et = some ie) {zv : DV} (hzv : ie.zero.bind ofVal = some zv) {h q : Nat} {ob : Ob} {x : Value} (hx : V w.heap S N (.mref h q) x) (ho : look s h q = some ob) (hk : ob.k = 1)
    {kc : List DV} {ku : Value} (hkv : V w.heap S N (.agg kc) ku) (hc : kc.length = c) (hcc : eqCells kc kc ≠ none) {r : Option (Nat × DV)} (hf : mapFind kc ob.cs 0 = some r) (ok : Bool) :
    ∃ v, (Instr.lookup t x ku ok).run P w = .ok v w ∧ V w.heap S N (match r with | some (_, d) => if ok then .tup [d, .b true] else d | none => if ok then .tup [zv, .b false] else zv) v := by
  obtain ⟨b, ms, clk, rfl, _, c2, c4, c5, _, _, _⟩ := mref_ok f hx ho hk
  simp only [V] at hkv
  obtain ⟨us, rfl, hus⟩ := hkv
  obtain ⟨r', f1, f2⟩ := findKey_ok ht he hi h1 hus hc c4 hf
  simp only [Option.bind_eq_some_iff] at hzv
  obtain ⟨zval, hzval, hz2⟩ := hzv
  have hzr : (zeroValue et).run P w = .ok zval w := by simp [zeroValue, typeInfo, hie, hzval]
  have hzV : V w.heap S N zv zval := ofVal_ok zval zv hz2
  have hck := checkKey_ok (P := P) (w := w) ms.isEmpty 9998 ht he hi h1 (intCells hus hcc) (by rw [VL.length hus]; exact hc)
  have e1 : (Instr.lookup t (.map (some b)) (.agg us.toArray) ok).run P w = .ok (match r' with | some (_, v) => if ok then .tuple #[v, .bool true] else v | none => if ok then .tuple #[zval, .bool false] else zval) w := by
    cases r' with
    | none => simp [Instr.lookup, run_underlying hm, run_getObj_map c2, hck, f1, hzr]
    | some p => simp [Instr.lookup, run_underlying hm, run_getObj_map c2, hck, f1]
  refine ⟨_, e1, ?_⟩
  cases r with
  | none =>
    cases r' with
    | none =>
      cases ok
      · exact hzV
      · simp only [if_true, V, VL]
        exact ⟨[zval, .bool false], rfl, _, _, rfl, hzV, _, _, rfl, rfl, rfl⟩
    | some p => exact f2.elim
  | some p =>
    cases r' with
    | none => exact f2.elim
    | some p' =>
      obtain ⟨x1, d1⟩ := p
      obtain ⟨y1, v1⟩ := p'
      cases ok
      · exact f2.2.1
      · simp only [if_true, V, VL]
        exact ⟨[v1, .bool true], rfl, _, _, rfl, f2.2.1, _, _, rfl, rfl, rfl⟩

theorem VM.length {hp : Hp} : ∀ {cs : List DV} {vs : List MapEntry}, VM hp S N cs vs → vs.length = cs.length
  | [], vs, h => by simp only [VM] at h; simp [h]
  | d :: r, vs, h => by
    simp only [VM] at h
    obtain ⟨v, t, rfl, _, h3⟩ := h
    simp [VM.length h3]

theorem VM.set {hp : Hp} : ∀ {cs : List DV} {ms : List MapEntry} {i : Nat} {d : DV} {m : MapEntry}, VM hp S N cs ms → V hp S N d (.tuple #[m.key, m.val]) → VM hp S N (cs.set i d) (ms.set i m)
  | [], ms, i, d, m, h, _ => by simp only [VM] at h; subst h; simp [VM]
  | c :: r, ms, i, d, m, h, hd => by
    simp only [VM] at h
    obtain ⟨v, t, rfl, h2, h3⟩ := h
    cases i with
    | zero => simp only [List.set_cons_zero, VM]; exact ⟨m, t, rfl, hd, h3⟩
    | succ i => simp only [List.set_cons_succ, VM]; exact ⟨v, _, rfl, h2, VM.set h3 hd⟩

theorem VM.append {hp : Hp} : ∀ {cs : List DV} {ms : List MapEntry} {ds : List DV} {ns : List MapEntry}, VM hp S N cs ms → VM hp S N ds ns → VM hp S N (cs ++ ds) (ms ++ ns)
  | [], ms, ds, ns, h, g => by simp only [VM] at h; subst h; simpa using g
  | d :: r, ms, ds, ns, h, g => by
    simp only [VM] at h
    obtain ⟨v, t, rfl, h2, h3⟩ := h
    simp only [List.cons_append, VM]
    exact ⟨v, t ++ ns, rfl, h2, VM.append h3 g⟩

/-- The entries of a map behind a store. -/
def mapPut (cs : List DV) (r : Option (Nat × DV)) (x : DV) : List DV :=
  match r with
  | some (j, _) => cs.set j x
  | none => cs ++ [x]

theorem run_setObj_map {r : Nat} {ms : Array MapEntry} {clk : Nat} {o : Obj} (h : w.heap[r]? = some (.map ms clk)) : (setObj r o).run P w = .ok () { w with heap := w.heap.setIfInBounds r o } := by simp [setObj, Sem.run, h]

theorem set_modify {α : Type} (xs : Array α) (i : Nat) (f : α → α) (x : α) (h : xs[i]? = some x) : (xs.modify i f).toList = xs.toList.set i (f x) := by
  apply List.ext_getElem?
  intro j
  simp only [Array.getElem?_toList, Array.getElem?_modify, List.getElem?_set]
  by_cases hj : i = j
  · subst hj
    have : i < xs.size := by
      rcases Nat.lt_or_ge i xs.size with q | q
      · exact q
      · rw [Array.getElem?_eq_none q] at h; cases h
    rw [Array.getElem?_eq_getElem this] at h; cases h
    simp [this]
  · simp [hj]

theorem goes_mupd (f : Fr base L S N s a.tmps w.heap) {o : Oper} {t kt et e : TypeId} {X Y Z : Operand} (hop : o.op = .mapUpdate t X Y Z) (ho : o.dst = none) {c : Nat} {k0 : IntKind} {i : TypeInfo} (hm : P.underlying t = some (.map kt et)) (ht : P.underlying kt = some (.array c e))
    (he : P.underlying e = some (.int k0)) (hi : P.info? e = some i) (h1 : i.size = 1) {h q : Nat} {ob : Ob} (hh : h < 1000000) (hx : V w.heap S N (.mref h q) (a.eval X)) (hob : look s h q = some ob) (hk : ob.k = 1) (hz : (h, q) ∉ s.z)
    {kc : List DV} (hkv : V w.heap S N (.agg kc) (a.eval Y)) (hc : kc.length = c) (hcc : eqCells kc kc ≠ none) {v v' : DV} {z : List (Nat × Nat)} (hv : V w.heap S N v (a.eval Z)) (hd : deepen s v = some (v', z)) (hzz : (h, q) ∉ z)
    {r : Option (Nat × DV)} (hf : mapFind kc ob.cs 0 = some r) :
    Goes P o base L S (app s ⟨none, [(h, setAt (lst s h) q { ob with cs := mapPut ob.cs r (.tup [.agg kc, v']) })], z⟩) a w := by
  obtain ⟨S', sub, f', hdp, hv'⟩ := deepen_ok s v v' z _ S _ f hv hd
  have hkd : isDeep (.agg kc) = true := by
    simp only [isDeep]
    have : ∀ {xs ys : List DV}, eqCells xs ys ≠ none → areDeep xs = true := by
      intro xs
      induction xs with
      | nil => intro ys _; rfl
      | cons x r ih =>
        intro ys hq
        cases ys with
        | nil => cases x <;> simp [eqCells] at hq
        | cons y t =>
          cases x <;> cases y <;> (try (simp [eqCells] at hq; done))
          simp only [areDeep, isDeep, Bool.true_and]
          refine ih (ys := t) fun h0 => hq ?_
          simp [eqCells, h0]
    exact this hcc
  obtain ⟨b, ms, clk, hxe, hN, c2, c4, c5, c3, c6, hbase⟩ := mref_ok f hx hob hk
  have hkv0 := hkv
  simp only [V] at hkv
  obtain ⟨us, hku, hus⟩ := hkv
  obtain ⟨r', f1, f2⟩ := findKey_ok ht he hi h1 hus hc c4 hf
  have hints := intCells hus hcc
  have hck := checkKey_ok (P := P) (w := w) false 9998 ht he hi h1 hints (by rw [VL.length hus]; exact hc)
  obtain ⟨b2, ms2, clk2, hN2, c22, _⟩ : ∃ b2 ms2 clk2, N h q = some (some (b2, ob.sz)) ∧ w.heap[b2]? = some (.map ms2 clk2) ∧ True := ⟨b, ms, clk, hN, c2, trivial⟩
  have hnm : ¬ S'.m b := by
    intro hmm
    obtain ⟨b3, g1, g2, _⟩ := f'.obs h q ob hob
    rw [hN] at g1; simp at g1; subst g1
    rcases g2 with ⟨_, _, _, _, _, _, _, d6⟩ | ⟨d1, _⟩
    · rcases d6 hmm with d | d
      · exact hz d
      · exact hzz d
    · exact absurd hk d1
  have hnc : ∀ o1, ¬ S'.c b o1 := by
    intro o1 hcc1
    obtain ⟨v1, hv1⟩ := f'.pub _ _ hcc1
    simp [cellAt, c2] at hv1
  have hpair : V w.heap S' N (.tup [.agg kc, v']) (.tuple #[.agg us.toArray, a.eval Z]) := by
    simp only [V, VL]
    exact ⟨[.agg us.toArray, a.eval Z], rfl, _, _, rfl, ⟨us, rfl, VL.mono (Keeps.refl _ _) sub (Later.refl _ _) _ _ hus⟩, _, _, rfl, hv', rfl⟩
  -- the new map
  obtain ⟨ms', clk', hrun, hVM, hOK⟩ : ∃ ms' clk', (Instr.mapUpdate t (.map (some b)) (.agg us.toArray) (a.eval Z)).run P w = .ok () { w with heap := w.heap.setIfInBounds b (.map ms' clk') } ∧
      VM w.heap S' N (mapPut ob.cs r (.tup [.agg kc, v'])) ms'.toList ∧ MapOK ms' clk' := by
    have c4' := VM.mono (Keeps.refl _ w.heap) sub (Later.refl N w.heap) _ _ c4
    cases r with
    | none =>
      cases r' with
      | some p => exact f2.elim
      | none =>
        refine ⟨ms.push { key := .agg us.toArray, val := a.eval Z, born := clk }, clk + 1, ?_, ?_, ?_⟩
        · simp [Instr.mapUpdate, run_underlying hm, run_getObj_map c2, hck, f1, run_setObj_map c2]
        · simp only [Array.toList_push]
          exact VM.append c4' (by simp only [VM]; exact ⟨_, [], rfl, hpair, rfl⟩)
        · refine ⟨?_, ?_⟩
          · simp only [Array.toList_push]
            rw [List.pairwise_append]
            exact ⟨c5.1, by simp, fun x hx y hy => by simp at hy; subst hy; exact c5.2 x hx⟩
          · intro m hm'
            simp only [Array.toList_push, List.mem_append, List.mem_singleton] at hm'
            rcases hm' with hm' | rfl
            · have := c5.2 m hm'; omega
            · simp
    | some p =>
      cases r' with
      | none => exact f2.elim
      | some p' =>
        obtain ⟨x1, d1⟩ := p
        obtain ⟨y1, v1⟩ := p'
        obtain ⟨a1, _, _, m, a4, a5⟩ := f2
        subst a1
        simp only [Nat.sub_zero] at a4
        have hmx : ms[x1]? = some m := by rw [← Array.getElem?_toList]; exact a4
        have hset := set_modify ms x1 (fun e => { e with key := .agg us.toArray, val := a.eval Z }) m hmx
        refine ⟨ms.modify x1 fun e => { e with key := .agg us.toArray, val := a.eval Z }, clk, ?_, ?_, ?_⟩
        · simp [Instr.mapUpdate, run_underlying hm, run_getObj_map c2, hck, f1, hmx, a5, keyStays_ok hints, run_setObj_map c2]
        · rw [hset]
          exact VM.set c4' hpair
        · have hb : ∀ {α : Type} (R : α → α → Prop) (l : List MapEntry) (g : MapEntry → α), (∀ (j : Nat) (x : MapEntry), l[x1]? = some m → True) → True := fun _ _ _ _ => trivial
          have hmap : (ms.toList.set x1 { m with key := .agg us.toArray, val := a.eval Z }).map (·.born) = ms.toList.map (·.born) := by
            rw [List.map_set]
            apply List.ext_getElem?
            intro j
            rw [List.getElem?_set]
            split
            · rename_i hj; subst hj
              split
              · simp [a4]
              · rename_i hlt
                rw [List.getElem?_eq_none (by simpa using hlt)]
            · rfl
          constructor
          · rw [hset]
            have h7 := c5.1
            rw [← List.pairwise_map (f := fun m : MapEntry => m.born) (R := fun a b => a < b)] at h7 ⊢
            rw [hmap]; exact h7
          · intro mm hmm
            rw [hset] at hmm
            have : mm.born ∈ (ms.toList.set x1 { m with key := .agg us.toArray, val := a.eval Z }).map (·.born) := List.mem_map_of_mem hmm
            rw [hmap] at this
            obtain ⟨m2, hm2, hm3⟩ := List.mem_map.1 this
            have := c5.2 m2 hm2
            omega
  intro K Q hK
  unfold Oper.wp
  have hex : (execOp a.eval o).run P w = .ok .skip { w with heap := w.heap.setIfInBounds b (.map ms' clk') } := by
    unfold execOp; rw [hop]
    simp only [hxe, hku, Sem.run_bind, hrun, Result.andThen_ok, Sem.run_pure]
  rw [hex, Oper.upon_skip, ho]
  have hlt := lt_of_get c2
  have hoth : ∀ b1, b1 ≠ b → (w.heap.setIfInBounds b (.map ms' clk'))[b1]? = w.heap[b1]? := fun b1 hb1 => Array.getElem?_setIfInBounds_ne (Ne.symm hb1)
  have hat : (w.heap.setIfInBounds b (.map ms' clk'))[b]? = some (.map ms' clk') := by simp [hlt]
  have hrow : ∀ b1, rowSize w.heap b1 ≤ rowSize (w.heap.setIfInBounds b (.map ms' clk')) b1 := by
    intro b1
    by_cases hb1 : b1 = b
    · subst hb1; simp [rowSize, c2]
    · exact rowSize_of_eq (hoth b1 hb1)
  have kp : Keeps S' w.heap (w.heap.setIfInBounds b (.map ms' clk')) := by
    constructor
    · intro b1 o1 h2
      by_cases hb1 : b1 = b
      · subst hb1; exact absurd h2 (hnc o1)
      · exact cellAt_of_eq (hoth b1 hb1)
    · intro r1 h2
      by_cases hb1 : r1 = b
      · subst hb1; exact absurd h2 hnm
      · exact hoth r1 hb1
  have lt : Later N N w.heap (w.heap.setIfInBounds b (.map ms' clk')) := fun h3 e3 r3 hr => ⟨r3, hr, .inr rfl, fun b1 _ _ => hrow b1⟩
  have f3 := FR.mut f' hob hN hoth (hrow b) ⟨fun o1 h2 => absurd h2 (hnc o1), fun h2 => absurd h2 hnm⟩ (ob' := { ob with cs := mapPut ob.cs r (.tup [.agg kc, v']) }) (by simp; omega) rfl (by
    refine .inl ⟨hk, ms', clk', hat, ?_, VM.mono kp (Sub.refl _) lt _ _ hVM, hOK, fun h2 => absurd h2 hnm⟩
    have hpd : isDeep (.tup [.agg kc, v']) = true := by simp [isDeep, areDeep, hdp]; simpa [isDeep] using hkd
    unfold mapPut
    cases r with
    | none => exact areDeep_append c3 (by simp [areDeep, hpd])
    | some p => exact areDeep_set c3 hpd)
  refine hK _ _ ⟨S', N, sub, ?_, rfl, rfl, ⟨by simp, fun b1 hb1 hl => ?_, hrow⟩, ⟨rfl, rfl, rfl, Nat.le_refl _⟩⟩
  · show FR base L S' N (app s _).v.get (lst (app s _)) (fun p => p ∈ (app s _).z) _ _
    rw [app_v_none rfl, app_lst_one (h := h) rfl hh]
    refine cast ?_ f3
    show FR _ _ _ _ _ _ _ _ _ = FR _ _ _ _ _ _ _ _ _
    congr 1
    funext p
    simp [app, or_comm]
  · have : b1 ≠ b := by
      rintro rfl
      rcases hbase with h2 | h2
      · omega
      · exact hl h2
    exact hoth b1 this
end
end Go.Ev

/- Equality of structs whose cells are integers. -/
namespace Go.Ev

section
variable {P : Program} {hp : Hp} {S : Pub} {N : Nm} (w : World)

theorem eqCells_split : ∀ (c : Nat) {xs ys : List DV} {q : Bool}, eqCells xs ys = some q → c ≤ xs.length →
    ∃ q1 q2, eqCells (xs.take c) (ys.take c) = some q1 ∧ eqCells (xs.drop c) (ys.drop c) = some q2 ∧ q = (q1 && q2)
  | 0, xs, ys, q, h, _ => ⟨true, q, by simp [eqCells], by simpa using h, by simp⟩
  | c + 1, [], ys, q, h, hc => by simp at hc
  | c + 1, x :: r, ys, q, h, hc => by
    cases ys with
    | nil => cases x <;> simp [eqCells] at h
    | cons y t =>
      cases x <;> cases y <;> simp [eqCells] at h
      rename_i k a k' b
      obtain ⟨hk, h⟩ := h
      subst hk
      split at h
      · rename_i q' hq
        cases h
        obtain ⟨q1, q2, h1, h2, rfl⟩ := eqCells_split c hq (by simpa using hc)
        refine ⟨a == b && q1, q2, ?_, by simpa using h2, by rw [Bool.and_assoc]⟩
        simp [eqCells, h1]
      · cases h

theorem VL.split {xs : List DV} {us : List Value} (h : VL hp S N xs us) (c : Nat) : VL hp S N (xs.take c) (us.take c) ∧ VL hp S N (xs.drop c) (us.drop c) := by
  induction c generalizing xs us with
  | zero => simp [VL]; exact h
  | succ c ih =>
    cases xs with
    | nil => simp only [VL] at h; subst h; simp [VL]
    | cons x r =>
      simp only [VL] at h
      obtain ⟨v, t, rfl, h1, h2⟩ := h
      obtain ⟨g1, g2⟩ := ih h2
      simp only [List.take_succ_cons, List.drop_succ_cons, VL]
      exact ⟨⟨v, _, rfl, h1, g1⟩, g2⟩

theorem flatF_le : ∀ {fs : List Field} {off n : Nat}, flatF P off fs = some n → off ≤ n
  | [], off, n, h => by simp only [flatF, Option.some.injEq] at h; omega
  | f :: r, off, n, h => by
    simp only [flatF] at h
    split at h
    · split at h
      · split at h
        · have := flatF_le h; omega
        · cases h
      · split at h
        · split at h
          · have := flatF_le h; omega
          · cases h
        · cases h
      · cases h
    · cases h

theorem eqFields_ok (d : Nat) : ∀ (fs : List Field) (pu pv us vs : List Value) (xs ys : List DV) (q : Bool), flatF P pu.length fs = some (pu.length + xs.length) → pu.length = pv.length → VL hp S N xs us → VL hp S N ys vs → eqCells xs ys = some q →
    (Op.eqFields (d + 2) (pu ++ us).toArray (pv ++ vs).toArray fs).run P w = .ok q w
  | [], pu, pv, us, vs, xs, ys, q, hf, hl, hx, hy, h => by
    simp only [flatF, Option.some.injEq] at hf
    have : xs = [] := List.eq_nil_of_length_eq_zero (by omega)
    subst this
    cases ys with
    | nil => simp [eqCells] at h; subst h; simp [Op.eqFields]
    | cons y r => simp [eqCells] at h
  | f :: fs, pu, pv, us, vs, xs, ys, q, hf, hl, hx, hy, h => by
    simp only [flatF] at hf
    split at hf
    · rename_i hname
      simp only [Bool.and_eq_true, bne_iff_ne, ne_eq, beq_iff_eq] at hname
      have hlen := eqCells_length h
      have lu := VL.length hx
      have lv := VL.length hy
      split at hf
      · -- a number
        rename_i k0 i hu hi
        split at hf
        · rename_i hs
          have hmono := flatF_le hf
          obtain ⟨q1, q2, h1, h2, rfl⟩ := eqCells_split 1 h (by omega)
          obtain ⟨x1, x2⟩ := VL.split hx 1
          obtain ⟨y1, y2⟩ := VL.split hy 1
          cases xs with
          | nil => simp only [List.length_nil] at hmono; omega
          | cons x xr =>
          cases ys with
          | nil => simp at hlen
          | cons y yr =>
          simp only [List.take_succ_cons, List.take_zero, List.drop_succ_cons, List.drop_zero] at h1 x1 y1 x2 y2 h2
          simp only [VL] at x1 y1
          obtain ⟨u, t1, e1, hu', _⟩ := x1
          obtain ⟨v, t2, e2, hv', _⟩ := y1
          cases us with
          | nil => simp at e1
          | cons u0 ur =>
          cases vs with
          | nil => simp at e2
          | cons v0 vr =>
          simp only [List.take_succ_cons, List.take_zero, List.cons.injEq] at e1 e2
          obtain ⟨rfl, _⟩ := e1
          obtain ⟨rfl, _⟩ := e2
          simp only [List.drop_succ_cons, List.drop_zero] at x2 y2
          cases x with
          | i k a =>
            cases y with
            | i k' b =>
              simp only [eqCells] at h1
              split at h1
              · rename_i hk
                subst hk
                simp only [V] at hu' hv'
                subst hu'; subst hv'
                simp only [Bool.and_true, Option.some.injEq] at h1
                have hagg : ∀ w, (isAgg f.type).run P w = .ok false w := fun w => by simp [isAgg, run_underlying hu]
                have p1 : ∀ w, (Go.part f.type (pu ++ .int k a :: ur).toArray f.offset).run P w = .ok (.int k a) w := fun w => by rw [hname.2]; simp [Go.part, hagg]
                have p2 : ∀ w, (Go.part f.type (pv ++ .int k b :: vr).toArray f.offset).run P w = .ok (.int k b) w := fun w => by rw [hname.2]; simp [Go.part, hagg, hl]
                have p3 : ∀ w, (Op.equalIn (d + 2) f.type (.int k a) (.int k b)).run P w = .ok (a == b) w := fun w => by simp [Op.equalIn, run_underlying hu]
                have ih := eqFields_ok d fs (pu ++ [.int k a]) (pv ++ [.int k b]) ur vr xr yr q2 (by simp at hf ⊢; rw [hf]; congr 1; omega) (by simp [hl]) x2 y2 h2
                simp only [List.append_assoc, List.singleton_append] at ih
                simp only [Op.eqFields, if_pos hname.1, Sem.run_bind, p1, p2, p3, Result.andThen_ok]
                subst h1
                cases hab : (a == b)
                · simp
                · simpa using ih
              · cases h1
            | _ => simp [eqCells] at h1
          | _ => simp [eqCells] at h1
        · cases hf
      · -- an array of numbers
        rename_i c e i hu hi
        split at hf
        · rename_i k0 ie he hie
          split at hf
          · rename_i hs
            have hmono := flatF_le hf
            obtain ⟨q1, q2, h1, h2, rfl⟩ := eqCells_split c h (by omega)
            obtain ⟨x1, x2⟩ := VL.split hx c
            obtain ⟨y1, y2⟩ := VL.split hy c
            have hagg : ∀ w, (isAgg f.type).run P w = .ok true w := fun w => by simp [isAgg, run_underlying hu]
            have hsz : ∀ w, (sizeOf f.type).run P w = .ok c w := fun w => by simp [sizeOf, typeInfo, hi, hs.2]
            have ex : ∀ (pre l : List Value), pre.length = pu.length → c ≤ l.length → ((pre ++ l).toArray.extract pu.length (pu.length + c)) = (l.take c).toArray := by
              intro pre l hp hc
              apply Array.ext'
              simp [hp]
            have p1 : ∀ w, (Go.part f.type (pu ++ us).toArray f.offset).run P w = .ok (.agg (us.take c).toArray) w := fun w => by
              rw [hname.2]; simp only [Go.part, Sem.run_bind, hagg, hsz, Result.andThen_ok, if_true, Sem.run_pure]
              rw [ex pu us rfl (by omega)]
            have p2 : ∀ w, (Go.part f.type (pv ++ vs).toArray f.offset).run P w = .ok (.agg (vs.take c).toArray) w := fun w => by
              rw [hname.2]; simp only [Go.part, Sem.run_bind, hagg, hsz, Result.andThen_ok, if_true, Sem.run_pure]
              rw [ex pv vs hl.symm (by omega)]
            have p3 : ∀ w, (Op.equalIn (d + 2) f.type (.agg (us.take c).toArray) (.agg (vs.take c).toArray)).run P w = .ok q1 w := fun w => by
              have hlt : (xs.take c).length = c := by simp; omega
              have := eqItems_ok w d he hie hs.1 (xs.take c) (ys.take c) (us.take c) (vs.take c) [] [] q1 x1 y1 h1 rfl
              simp only [List.nil_append, List.length_nil, hlt] at this
              show (Op.equalIn (d + 1 + 1) f.type (.agg (us.take c).toArray) (.agg (vs.take c).toArray)).run P w = _
              rw [run_equalIn_array w (d + 1) (us.take c).toArray (vs.take c).toArray hu hie]
              rw [List.range_eq_range']; exact this
            have ih := eqFields_ok d fs (pu ++ us.take c) (pv ++ vs.take c) (us.drop c) (vs.drop c) (xs.drop c) (ys.drop c) q2 (by
              have e1 : (us.take c).length = c := by simp; omega
              rw [List.length_append, e1, hf]; congr 1; simp; omega) (by simp; omega) x2 y2 h2
            simp only [List.append_assoc, List.take_append_drop] at ih
            simp only [Op.eqFields, if_pos hname.1, Sem.run_bind, p1, p2, p3, Result.andThen_ok]
            cases q1
            · simp
            · simpa using ih
          · cases hf
        · cases hf
      · cases hf
    · cases hf

theorem eqs_ok {op : BinOp} {t : TypeId} {X Y : Operand} {n : Nat} {fs : Array Field} (ho : op = .eql ∨ op = .neq) (ht : P.underlying t = some (.struct fs)) (hf : flatF P 0 fs.toList = some n) (h1 : P.stoodInHeld t = false) (h2 : P.eqGuardType P.depth t = false)
    {xs ys : List DV} {us vs : List Value} {q : Bool} (hx : VL hp S N xs us) (hy : VL hp S N ys vs) (hn : xs.length = n) (h : eqCells xs ys = some q) :
    ((do eqGuard op t X Y (.agg us.toArray) (.agg vs.toArray); binOp op t (.agg us.toArray) (.agg vs.toArray) : Go.Sem Value)).run P w = .ok (.bool (if op = .neq then !q else q)) w := by
  have hfo : P.fieldsOf t = fs := by simp [Program.fieldsOf, ht]
  have he : (Op.equalIn 10000 t (.agg us.toArray) (.agg vs.toArray)).run P w = .ok q w := by
    show (Op.equalIn (9999 + 1) t (.agg us.toArray) (.agg vs.toArray)).run P w = _
    rw [run_equalIn_struct w 9999 t _ _ (by rw [hfo]; exact ht) h1, hfo]
    have := eqFields_ok (P := P) w 9997 fs.toList [] [] us vs xs ys q (by simp [hf, hn]) rfl hx hy h
    simpa using this
  simp only [Sem.run_bind, run_eqGuard_agg w op t X Y _ _ h2, Result.andThen_ok]
  rcases ho with rfl | rfl
  · rw [run_eql_struct, he]; simp
  · rw [run_neq_struct, he]; simp
end
end Go.Ev

/- One operation that is no call of a function. -/
namespace Go.Ev

section
variable {base : Nat} {L : Len} {S : Pub} {N : Nm} {s : St} {a : Act} {P : Program} {w : World} {K : Cfg} {cs : Sem}

theorem opds_one {xs : List Operand} {b : Opd} (h : toOpds xs = some [b]) : ∃ x, xs = [x] ∧ toOpd x = some b := by
  rcases xs with _ | ⟨x, _ | ⟨y, r⟩⟩ <;> simp only [toOpds] at h
  · cases h
  · split at h
    · rename_i a l h1 h2; simp at h; exact ⟨x, rfl, h.1 ▸ h1⟩
    · cases h
  · split at h
    · rename_i a l h1 h2
      split at h2
      · cases h2; simp at h
      · cases h2
    · cases h

theorem opds_two {xs : List Operand} {b c : Opd} (h : toOpds xs = some [b, c]) : ∃ x y, xs = [x, y] ∧ toOpd x = some b ∧ toOpd y = some c := by
  rcases xs with _ | ⟨x, r⟩ <;> simp only [toOpds] at h
  · cases h
  · split at h
    · rename_i a l h1 h2
      simp at h
      obtain ⟨rfl, rfl⟩ := h
      obtain ⟨y, rfl, hy⟩ := opds_one h2
      exact ⟨x, y, rfl, h1, hy⟩
    · cases h

/-- The slot that an operation writes lies in the frame. -/
def DstOk (o : Oper) (a : Act) : Prop := ∀ d, o.dst = some d → d < a.tmps.size ∧ d < 1000000

theorem go_val (f : Fr base L S N s a.tmps w.heap) {o : Oper} {d : Nat} (ho : o.dst = some d) (hd : DstOk o a) {x : Dl} (hh : ∃ y v, x = Ev.val d y ∧ (execOp a.eval o).run P w = .ok (.value v) w ∧ V w.heap S N y v) :
    Goes P o base L S (app s x) a w := by
  obtain ⟨y, v, rfl, h1, h2⟩ := hh
  exact goes_val f ho (hd d ho).1 (hd d ho).2 h1 h2

theorem run_v {x : Go.Sem Value} {v : Value} (h : x.run P w = .ok v w) : (do pure (.value (← x)) : Go.Sem Next).run P w = .ok (.value v) w := by simp [h]

variable (f : Fr base L S N s a.tmps w.heap) {o : Oper} {d : Nat} (ho : o.dst = some d) (hd : DstOk o a) {i : I} {x : Dl} (hx : evI K cs s i = some x)
include f ho hd hx

theorem one_move {X : Operand} (hop : o.op = .move X ∨ o.op = .assign X) (hi : toI? P (some d) o.op = some i) : Goes P o base L S (app s x) a w := by
  have h2 : ∃ b, toOpd X = some b ∧ i = .mv d b := by
    rcases hop with h | h <;> rw [h] at hi <;> simp only [toI?, Option.map_eq_some_iff] at hi <;> (obtain ⟨b, h1, h2⟩ := hi; exact ⟨b, h1, h2.symm⟩)
  obtain ⟨b, h3, rfl⟩ := h2
  simp only [evI, Option.map_eq_some_iff] at hx
  obtain ⟨v, h4, rfl⟩ := hx
  refine go_val f ho hd ⟨v, a.eval X, rfl, ?_, opv_ok f h3 h4⟩
  rcases hop with h | h <;> (unfold execOp; rw [h]; rfl)

theorem one_pick {C X Y : Operand} (hop : o.op = .pick C X Y) (hi : toI? P (some d) o.op = some i) : Goes P o base L S (app s x) a w := by
  rw [hop] at hi
  simp only [toI?] at hi
  split at hi
  · rename_i c b e h1 h2 h3
    cases hi
    simp only [evI] at hx
    split at hx
    · rename_i y h4 h5
      cases hx
      have hc := opv_ok f h1 h4
      simp only [V] at hc
      exact go_val f ho hd ⟨y, a.eval X, rfl, by unfold execOp; rw [hop]; simp [hc, asBool], opv_ok f h2 h5⟩
    · rename_i y h4 h5
      cases hx
      have hc := opv_ok f h1 h4
      simp only [V] at hc
      exact go_val f ho hd ⟨y, a.eval Y, rfl, by unfold execOp; rw [hop]; simp [hc, asBool], opv_ok f h3 h5⟩
    · cases hx
  · cases hi

theorem one_binOp {op : BinOp} {t t' : TypeId} {X Y : Operand} (hop : o.op = .binOp op t X Y t') (hi : toI? P (some d) o.op = some i) : Goes P o base L S (app s x) a w := by
  rw [hop] at hi
  simp only [toI?] at hi
  split at hi
  · rename_i b c h1 h2
    have hex : (execOp a.eval o) = (do pure (.value (← (do eqGuard op t X Y (a.eval X) (a.eval Y); binOp op t (a.eval X) (a.eval Y)))) : Go.Sem Next) := by unfold execOp; rw [hop]
    have hbin : i = .bin d op b c → Goes P o base L S (app s x) a w := by
      rintro rfl
      simp only [evI] at hx
      split at hx
      · rename_i u v h3 h4
        simp only [Option.map_eq_some_iff] at hx
        obtain ⟨r, h5, rfl⟩ := hx
        obtain ⟨z, q1, q2⟩ := bin_ok (P := P) w (t := t) (X := X) (Y := Y) (opv_ok f h1 h3) (opv_ok f h2 h4) h5
        exact go_val f ho hd ⟨r, z, rfl, by rw [hex]; exact run_v q1, q2⟩
      · cases hx
    split at hi
    · rename_i hopn
      split at hi
      · cases hi; exact hbin rfl
      · rename_i hb
        cases hi
        simp only [evI] at hx
        split at hx
        · rename_i u v h3 h4
          cases hx
          have e1 := opv_ok f h1 h3
          have e2 := opv_ok f h2 h4
          simp only [V] at e1 e2
          refine go_val f ho hd ⟨_, _, rfl, by rw [hex, e1, e2]; exact run_v (beq_ok w u v hopn hb), ?_⟩
          simp only [V]
          rcases hopn with rfl | rfl <;> simp
        · cases hx
      · rename_i n e hu
        split at hi
        · rename_i k0 inf he hinf
          split at hi
          · rename_i hs
            cases hi
            simp only [evI] at hx
            split at hx
            · rename_i xs ys h3 h4
              split at hx
              · rename_i hn
                split at hx
                · rename_i q hq
                  cases hx
                  have e1 := opv_ok f h1 h3
                  have e2 := opv_ok f h2 h4
                  simp only [V] at e1 e2
                  obtain ⟨us, e1, e3⟩ := e1
                  obtain ⟨vs, e2, e4⟩ := e2
                  refine go_val f ho hd ⟨_, _, rfl, by rw [hex, e1, e2]; exact run_v (eqa_ok w hopn hu he hinf hs e3 e4 hn hq), ?_⟩
                  simp only [V]
                  rcases hopn with rfl | rfl <;> simp
                · cases hx
              · cases hx
            · cases hx
          · cases hi
        · cases hi
      · rename_i e hu
        split at hi
        · cases hi
          simp only [evI, Option.map_eq_some_iff, Option.bind_eq_some_iff] at hx
          obtain ⟨q, ⟨u, h3, h4⟩, rfl⟩ := hx
          obtain ⟨bs, n, c, e1, e2⟩ := isNil_ok (opv_ok f h1 h3) h4
          have e3 : a.eval Y = .slice none 0 0 := by
            have := opv_ok f h2 (d := .nil) rfl
            simpa only [V] using this
          refine go_val f ho hd ⟨_, _, rfl, by rw [hex, e1, e3]; exact run_v (eqlNil_ok w bs n c hopn hu), ?_⟩
          simp only [V, e2]
          rcases hopn with rfl | rfl <;> simp
        · cases hi
      · rename_i fs hu
        split at hi
        · rename_i n hfl
          split at hi
          · rename_i hg
            cases hi
            simp only [evI] at hx
            split at hx
            · rename_i xs ys h3 h4
              split at hx
              · rename_i hn
                split at hx
                · rename_i q hq
                  cases hx
                  have e1 := opv_ok f h1 h3
                  have e2 := opv_ok f h2 h4
                  simp only [V] at e1 e2
                  obtain ⟨us, e1, e3⟩ := e1
                  obtain ⟨vs, e2, e4⟩ := e2
                  refine go_val f ho hd ⟨_, _, rfl, by rw [hex, e1, e2]; exact run_v (eqs_ok w hopn hu hfl hg.1 hg.2 e3 e4 hn hq), ?_⟩
                  simp only [V]
                  rcases hopn with rfl | rfl <;> simp
                · cases hx
              · cases hx
            · cases hx
          · cases hi
        · cases hi
      · cases hi
    · cases hi; exact hbin rfl
  · cases hi

theorem one_unOp {op : UnOp} {t : TypeId} {X : Operand} (hop : o.op = .unOp op t X) (hi : toI? P (some d) o.op = some i) : Goes P o base L S (app s x) a w := by
  rw [hop] at hi
  simp only [toI?, Option.map_eq_some_iff] at hi
  obtain ⟨b, h1, rfl⟩ := hi
  simp only [evI, Option.map_eq_some_iff, Option.bind_eq_some_iff] at hx
  obtain ⟨r, ⟨u, h2, h3⟩, rfl⟩ := hx
  obtain ⟨z, q1, q2⟩ := un_ok (P := P) w (opv_ok f h1 h2) h3
  exact go_val f ho hd ⟨r, z, rfl, by unfold execOp; rw [hop]; exact run_v q1, q2⟩

theorem one_convert {t u : TypeId} {X : Operand} (hop : o.op = .convert t u X) (hi : toI? P (some d) o.op = some i) : Goes P o base L S (app s x) a w := by
  rw [hop] at hi
  simp only [toI?] at hi
  split at hi
  · rename_i k0 k b h1 h2 h3
    cases hi
    simp only [evI, Option.map_eq_some_iff, Option.bind_eq_some_iff] at hx
    obtain ⟨r, ⟨v, h4, h5⟩, rfl⟩ := hx
    obtain ⟨k', n, e, e2⟩ := conv_ok (opv_ok f h3 h4) h5
    refine go_val f ho hd ⟨r, .int k (k.wrap n), rfl, ?_, e2⟩
    unfold execOp; rw [hop]
    refine run_v ?_
    rw [e]
    simp [convert, run_underlying h1, run_underlying h2, Conv.intToInt]
  · cases hi

theorem one_extract {X : Operand} {n : Nat} (hop : o.op = .extract X n) (hi : toI? P (some d) o.op = some i) : Goes P o base L S (app s x) a w := by
  rw [hop] at hi
  simp only [toI?, Option.map_eq_some_iff] at hi
  obtain ⟨b, h1, rfl⟩ := hi
  simp only [evI] at hx
  split at hx
  · rename_i vs h2
    simp only [Option.map_eq_some_iff] at hx
    obtain ⟨y, h3, rfl⟩ := hx
    have e := opv_ok f h1 h2
    simp only [V] at e
    obtain ⟨us, e1, e2⟩ := e
    obtain ⟨v, q1, q2⟩ := VL.get e2 h3
    refine go_val f ho hd ⟨y, v, rfl, ?_, q2⟩
    unfold execOp; rw [hop]
    refine run_v ?_
    rw [e1]
    simp [Instr.extract, q1]
  · cases hx

theorem one_build {t : TypeId} {ps : Array (Nat × Operand)} (hop : o.op = .build t ps) (hi : toI? P (some d) o.op = some i) : Goes P o base L S (app s x) a w := by
  rw [hop] at hi
  obtain ⟨y, v, h1, h2, h3⟩ := build_ok f hi hx
  exact go_val f ho hd ⟨y, v, h1, by unfold execOp; rw [hop]; exact run_v h2, h3⟩

theorem one_load {t : TypeId} {X : Operand} (hop : o.op = .load t X) (hi : toI? P (some d) o.op = some i) : Goes P o base L S (app s x) a w := by
  rw [hop] at hi
  simp only [toI?] at hi
  split at hi
  · rename_i n g b h1 h2 h3
    cases hi
    simp only [evI] at hx
    split at hx
    · rename_i h e off h4
      simp only [Option.bind_eq_some_iff] at hx
      obtain ⟨ob, h5, hx⟩ := hx
      split at hx
      · cases hx
      · rename_i hk
        simp only [Option.map_eq_some_iff] at hx
        obtain ⟨y, h6, rfl⟩ := hx
        obtain ⟨ad, e1, e2, _⟩ := At.of_ptr f (opv_ok f h3 h4) h5 hk
        have h7 : Ev.part (ob.cs.drop off) 0 n g = some y := by
          unfold Ev.part at h6 ⊢
          cases g
          · simpa using h6
          · simp only [if_true] at h6 ⊢
            split at h6
            · rename_i hl; rw [if_pos (by simp; omega)]; simpa using h6
            · cases h6
        obtain ⟨v, q1, q2⟩ := load_ok (P := P) e2 h7 h2 h1
        exact go_val f ho hd ⟨y, v, rfl, by unfold execOp; rw [hop]; exact run_v (by rw [e1]; exact q1), q2⟩
    · rename_i l h4
      simp only [Option.map_eq_some_iff] at hx
      obtain ⟨y, h6, rfl⟩ := hx
      obtain ⟨ad, e1, e2, _⟩ := rop_at (opv_ok f h3 h4)
      obtain ⟨v, q1, q2⟩ := load_ok (P := P) e2 h6 h2 h1
      exact go_val f ho hd ⟨y, v, rfl, by unfold execOp; rw [hop]; exact run_v (by rw [e1]; exact q1), q2⟩
    · cases hx
  · cases hi

theorem one_fieldAddr {t : TypeId} {X : Operand} {n : Nat} (hop : o.op = .fieldAddr t X n) (hi : toI? P (some d) o.op = some i) : Goes P o base L S (app s x) a w := by
  rw [hop] at hi
  simp only [toI?] at hi
  split at hi
  · rename_i fs b h1 h2
    simp only [Option.bind_eq_some_iff] at hi
    obtain ⟨fl, h3, hi⟩ := hi
    split at hi
    · rename_i m h4
      cases hi
      simp only [evI] at hx
      split at hx
      · rename_i h e off h5
        cases hx
        obtain ⟨ad, e1, e2⟩ := ptr_add (opv_ok f h2 h5) fl.offset
        exact go_val f ho hd ⟨_, _, rfl, by unfold execOp; rw [hop]; exact run_v (by rw [e1]; exact fieldAt_ok h1 h3 h4), e2⟩
      · rename_i l h5
        cases hx
        obtain ⟨ad, e1, e2, e3, e4⟩ := rop_at (opv_ok f h2 h5)
        exact go_val f ho hd ⟨_, _, rfl, by unfold execOp; rw [hop]; exact run_v (by rw [e1]; exact fieldAt_ok h1 h3 h4), rop_drop e2.1 e3 e4 _⟩
      · cases hx
    · cases hi
  · cases hi

theorem one_nilCheck {X : Operand} (hop : o.op = .nilCheck X) (hi : toI? P (some d) o.op = some i) : Goes P o base L S (app s x) a w := by
  rw [hop] at hi
  simp only [toI?, Option.map_eq_some_iff] at hi
  obtain ⟨b, h1, rfl⟩ := hi
  simp only [evI] at hx
  split at hx
  · rename_i h e off h5
    cases hx
    obtain ⟨ad, e1, e2⟩ := ptr_add (opv_ok f h1 h5) 0
    rw [show ad.add 0 = ad by simp [Addr.add]] at e2
    exact go_val f ho hd ⟨_, _, rfl, by unfold execOp; rw [hop]; simp [e1], e2⟩
  · rename_i l h5
    cases hx
    obtain ⟨ad, e1, e2, e3, e4⟩ := rop_at (opv_ok f h1 h5)
    have := rop_drop e2.1 e3 e4 0
    rw [show ad.add 0 = ad by simp [Addr.add]] at this
    exact go_val f ho hd ⟨_, _, rfl, by unfold execOp; rw [hop]; simp [e1], this⟩
  · cases hx

theorem one_field {t : TypeId} {X : Operand} {n : Nat} (hop : o.op = .field t X n) (hi : toI? P (some d) o.op = some i) : Goes P o base L S (app s x) a w := by
  rw [hop] at hi
  simp only [toI?] at hi
  split at hi
  · rename_i fs b h1 h2
    simp only [Option.bind_eq_some_iff] at hi
    obtain ⟨fl, h3, hi⟩ := hi
    split at hi
    · rename_i m g h4 h5
      cases hi
      simp only [evI] at hx
      split at hx
      · rename_i l h6
        simp only [Option.map_eq_some_iff] at hx
        obtain ⟨y, h7, rfl⟩ := hx
        have e := opv_ok f h2 h6
        simp only [V] at e
        obtain ⟨us, e1, e2⟩ := e
        obtain ⟨v, q1, q2⟩ := field_ok h1 h3 h4 h5 e2 h7
        exact go_val f ho hd ⟨y, v, rfl, by unfold execOp; rw [hop]; exact run_v (by rw [e1]; exact q1), q2⟩
      · cases hx
    · cases hi
  · cases hi

theorem one_indexAddr {t : TypeId} {X Y : Operand} (hop : o.op = .indexAddr t X Y) (hi : toI? P (some d) o.op = some i) : Goes P o base L S (app s x) a w := by
  rw [hop] at hi
  simp only [toI?] at hi
  split at hi
  · rename_i c e b b2 h1 h2 h3
    simp only [Option.map_eq_some_iff] at hi
    obtain ⟨n, h4, rfl⟩ := hi
    simp only [evI] at hx
    split at hx
    · rename_i h q off k m h5 h6
      split at hx
      · rename_i hm
        cases hx
        have ei := opv_ok f h3 h6
        simp only [V] at ei
        obtain ⟨ad, e1, e2⟩ := ptr_add (opv_ok f h2 h5) (m.toNat * n)
        exact go_val f ho hd ⟨_, _, rfl, by unfold execOp; rw [hop]; exact run_v (by rw [e1, ei]; exact indexA_ok h1 h4 hm), e2⟩
      · cases hx
    · rename_i l k m h5 h6
      split at hx
      · rename_i hm
        cases hx
        have ei := opv_ok f h3 h6
        simp only [V] at ei
        obtain ⟨ad, e1, e2, e3, e4⟩ := rop_at (opv_ok f h2 h5)
        exact go_val f ho hd ⟨_, _, rfl, by unfold execOp; rw [hop]; exact run_v (by rw [e1, ei]; exact indexA_ok h1 h4 hm), rop_drop e2.1 e3 e4 _⟩
      · cases hx
    · cases hx
  · rename_i e b b2 h1 h2 h3
    simp only [Option.map_eq_some_iff] at hi
    obtain ⟨n, h4, rfl⟩ := hi
    simp only [evI] at hx
    split at hx
    · rename_i c l k m h5 h6
      split at hx
      · rename_i hm
        cases hx
        have ei := opv_ok f h3 h6
        have ev := opv_ok f h2 h5
        simp only [V] at ei ev
        obtain ⟨b0, cap, e1, e2, e3, e4, e5⟩ := ev
        cases b0 with
        | none => have := e4.1 rfl; omega
        | some ad =>
          obtain ⟨e6, e7⟩ := e5 ad rfl (by omega)
          exact go_val f ho hd ⟨_, _, rfl, by unfold execOp; rw [hop]; exact run_v (by rw [e1, ei]; exact indexS_ok h1 h4 hm), rop_drop e6 e3 e7 _⟩
      · cases hx
    · rename_i h q off c k m h5 h6
      split at hx
      · rename_i hm
        cases hx
        have ei := opv_ok f h3 h6
        have ev := opv_ok f h2 h5
        simp only [V] at ei ev
        obtain ⟨ad, cap, r, e1, e2, e3, e4, e5⟩ := ev
        refine go_val f ho hd ⟨_, .pointer (some (ad.add (m.toNat * n))), rfl, by unfold execOp; rw [hop]; exact run_v (by rw [e1, ei]; exact indexS_ok h1 h4 hm), ?_⟩
        simp only [V]
        refine ⟨_, r, rfl, add_spot _ _ e3, e4, fun b sz hb => ?_⟩
        obtain ⟨q1, q2, _⟩ := e5 b sz hb (by omega)
        rw [add_block, add_off, q1, q2]; exact ⟨rfl, rfl⟩
      · cases hx
    · cases hx
  · cases hi

theorem one_makeFunc {g : Fn} {fi ca : Array Operand} (hop : o.op = .makeFunc g fi ca) (hi : toI? P (some d) o.op = some i) : Goes P o base L S (app s x) a w := by
  rw [hop] at hi
  cases g <;> simp only [toI?] at hi <;> (try (cases hi; done))
  rename_i g
  split at hi
  · rename_i hem
    simp only [Option.map_eq_some_iff] at hi
    obtain ⟨l, h1, rfl⟩ := hi
    simp only [evI, Option.map_eq_some_iff] at hx
    obtain ⟨ds, h2, rfl⟩ := hx
    have hfi : fi = #[] := by simpa using hem
    subst hfi
    refine go_val f ho hd ⟨_, .func (.func g) #[] (ca.map a.eval), rfl, ?_, ?_⟩
    · unfold execOp; rw [hop]
      exact run_v (by simp [Instr.makeFunc])
    · simp only [V]
      exact ⟨ca.toList.map a.eval, by congr 1; apply Array.ext'; simp, opvL_ok f h1 h2⟩
  · split at hi
    · rename_i hem
      simp only [Option.map_eq_some_iff] at hi
      obtain ⟨l, h1, rfl⟩ := hi
      simp only [evI, Option.map_eq_some_iff] at hx
      obtain ⟨ds, h2, rfl⟩ := hx
      have hca : ca = #[] := by simpa using hem
      subst hca
      refine go_val f ho hd ⟨_, .func (.func g) (fi.map a.eval) #[], rfl, ?_, ?_⟩
      · unfold execOp; rw [hop]
        exact run_v (by simp [Instr.makeFunc])
      · simp only [V]
        exact ⟨fi.toList.map a.eval, by congr 1; apply Array.ext'; simp, opvL_ok f h1 h2⟩
    · cases hi
end
end Go.Ev
