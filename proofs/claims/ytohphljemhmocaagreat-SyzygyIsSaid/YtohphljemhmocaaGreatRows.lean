/-
  No cell of these rows narrows 'for every input' (looked for: loops, veiled, ifaces, maps, wideKeys, modest, calm, conditions, laid).
  DERIVED. THE GIVEN ROWS OF THIS SEAT. 15 by the template 'for every input the law returns true; each argument reads behind the call as it read before'; 0 by the template 'total and deterministic' (their statements: YtohphljemhmocaaGreatTotals.lean).
  GIVEN WITH THE SEED: the statements are not yours to turn. If you find one false, say at which input.
  Laid BY PROGRAM, IN A SANDBOX (cutbox-rows.mjs): the forced cells as the released guide's own fill.sh prints them over the translation 350640bda3e080a8… (all of the seat's roots in one cut). By AI agents, Wed Nov 11 2026. No macro, syntax, notation, axiom, sorry.
-/
import Derived.Test.YtohphljemhmocaaGreatChecked
import GoSem.Claim
import GoSem.ClaimJoined
import GoSem.ClaimMapViews
import Derived.JoinedTies
import Derived.KernelRfl
namespace Go.Proofs.YtohphljemhmocaaGreat
/- THE CELL 'sum', in the pinned program and in every row, IS THE sha256 OF THE DUMP (.gsa) THAT YtohphljemhmocaaGreatProg.lean LOADS. Nothing in Lean hashes anything: it is a label: what it is worth is what the hold of that sum in a sandbox is worth. -/
noncomputable def Tryz.pinned : Pinned := { name := "ytohphljemhmocaagreat", sum := "350640bda3e080a81753af6cd8c437f4a4d77e399390faa867265b2909c8647b", checked := Tryz.checked }
namespace Rows
def none {H : Type} : Left H := { results := [], args := [] }

/-- 'eliminantlaw19.SyzygyIs': WHATEVER THE INPUT: true; the input reads as it did. -/
def syzygyIsSpec : ChangeSpec := { name := "syzygyIs", fn := fun _ => fun
  | [d1, d2, d3] => { results := [.lit (.bool true)], args := [d1, d2, d3] }
  | _ => none }
def syzygyIsRow : OpenClaim := { program := "ytohphljemhmocaagreat", sum := "350640bda3e080a81753af6cd8c437f4a4d77e399390faa867265b2909c8647b", func := "eliminant/eliminantlaw19.SyzygyIs", spec := "syzygyIs", unfollowed := true, recurses := true, named := ["math/bits.overflowError"], plainKeys := false, apart := false }
def SyzygyIsSaid : Prop := syzygyIsRow.holds Tryz.pinned (OpenSpec.ofChange syzygyIsSpec)

/-- ITS FALSE NEIGHBOUR: 'it returns false'. Refute it at one input. -/
def syzygyIsWrong : ChangeSpec := { name := "syzygyIs", fn := fun _ => fun
  | [d1, d2, d3] => { results := [.lit (.bool false)], args := [d1, d2, d3] }
  | _ => none }
def SyzygyIsWrongFalsely : Prop := syzygyIsRow.holds Tryz.pinned (OpenSpec.ofChange syzygyIsWrong)

/-- 'eliminantlaw19.SyzygySchreyer': WHATEVER THE INPUT: true; the input reads as it did. -/
def syzygySchreyerSpec : ChangeSpec := { name := "syzygySchreyer", fn := fun _ => fun
  | [d1, d2, d3] => { results := [.lit (.bool true)], args := [d1, d2, d3] }
  | _ => none }
def syzygySchreyerRow : OpenClaim := { program := "ytohphljemhmocaagreat", sum := "350640bda3e080a81753af6cd8c437f4a4d77e399390faa867265b2909c8647b", func := "eliminant/eliminantlaw19.SyzygySchreyer", spec := "syzygySchreyer", unfollowed := true, recurses := true, named := ["math/bits.overflowError"], plainKeys := false, apart := false }
def SyzygySchreyerSaid : Prop := syzygySchreyerRow.holds Tryz.pinned (OpenSpec.ofChange syzygySchreyerSpec)

/-- ITS FALSE NEIGHBOUR: 'it returns false'. Refute it at one input. -/
def syzygySchreyerWrong : ChangeSpec := { name := "syzygySchreyer", fn := fun _ => fun
  | [d1, d2, d3] => { results := [.lit (.bool false)], args := [d1, d2, d3] }
  | _ => none }
def SyzygySchreyerWrongFalsely : Prop := syzygySchreyerRow.holds Tryz.pinned (OpenSpec.ofChange syzygySchreyerWrong)

/-- 'eliminantlaw19.SyzygyErrors': WHATEVER THE INPUT: true; the input reads as it did. -/
def syzygyErrorsSpec : ChangeSpec := { name := "syzygyErrors", fn := fun _ => fun
  | [d1, d2, d3] => { results := [.lit (.bool true)], args := [d1, d2, d3] }
  | _ => none }
def syzygyErrorsRow : OpenClaim := { program := "ytohphljemhmocaagreat", sum := "350640bda3e080a81753af6cd8c437f4a4d77e399390faa867265b2909c8647b", func := "eliminant/eliminantlaw19.SyzygyErrors", spec := "syzygyErrors", unfollowed := true, recurses := true, named := ["math/bits.overflowError"], plainKeys := false, apart := false }
def SyzygyErrorsSaid : Prop := syzygyErrorsRow.holds Tryz.pinned (OpenSpec.ofChange syzygyErrorsSpec)

/-- ITS FALSE NEIGHBOUR: 'it returns false'. Refute it at one input. -/
def syzygyErrorsWrong : ChangeSpec := { name := "syzygyErrors", fn := fun _ => fun
  | [d1, d2, d3] => { results := [.lit (.bool false)], args := [d1, d2, d3] }
  | _ => none }
def SyzygyErrorsWrongFalsely : Prop := syzygyErrorsRow.holds Tryz.pinned (OpenSpec.ofChange syzygyErrorsWrong)

/-- 'eliminantlaw19.SyzygyExpresses': WHATEVER THE INPUT: true; the input reads as it did. -/
def syzygyExpressesSpec : ChangeSpec := { name := "syzygyExpresses", fn := fun _ => fun
  | [d1, d2, d3] => { results := [.lit (.bool true)], args := [d1, d2, d3] }
  | _ => none }
def syzygyExpressesRow : OpenClaim := { program := "ytohphljemhmocaagreat", sum := "350640bda3e080a81753af6cd8c437f4a4d77e399390faa867265b2909c8647b", func := "eliminant/eliminantlaw19.SyzygyExpresses", spec := "syzygyExpresses", unfollowed := true, recurses := true, named := ["math/bits.overflowError"], plainKeys := false, apart := false }
def SyzygyExpressesSaid : Prop := syzygyExpressesRow.holds Tryz.pinned (OpenSpec.ofChange syzygyExpressesSpec)

/-- ITS FALSE NEIGHBOUR: 'it returns false'. Refute it at one input. -/
def syzygyExpressesWrong : ChangeSpec := { name := "syzygyExpresses", fn := fun _ => fun
  | [d1, d2, d3] => { results := [.lit (.bool false)], args := [d1, d2, d3] }
  | _ => none }
def SyzygyExpressesWrongFalsely : Prop := syzygyExpressesRow.holds Tryz.pinned (OpenSpec.ofChange syzygyExpressesWrong)

/-- 'eliminantlaw13.GroebnerMatchesReference': WHATEVER THE INPUT: true; the input reads as it did. -/
def groebnerMatchesReferenceSpec : ChangeSpec := { name := "groebnerMatchesReference", fn := fun _ => fun
  | [d] => { results := [.lit (.bool true)], args := [d] }
  | _ => none }
def groebnerMatchesReferenceRow : OpenClaim := { program := "ytohphljemhmocaagreat", sum := "350640bda3e080a81753af6cd8c437f4a4d77e399390faa867265b2909c8647b", func := "eliminant/eliminantlaw13.GroebnerMatchesReference", spec := "groebnerMatchesReference", unfollowed := true, recurses := true, named := ["math/bits.overflowError"], plainKeys := false, apart := false }
def GroebnerMatchesReferenceSaid : Prop := groebnerMatchesReferenceRow.holds Tryz.pinned (OpenSpec.ofChange groebnerMatchesReferenceSpec)

/-- ITS FALSE NEIGHBOUR: 'it returns false'. Refute it at one input. -/
def groebnerMatchesReferenceWrong : ChangeSpec := { name := "groebnerMatchesReference", fn := fun _ => fun
  | [d] => { results := [.lit (.bool false)], args := [d] }
  | _ => none }
def GroebnerMatchesReferenceWrongFalsely : Prop := groebnerMatchesReferenceRow.holds Tryz.pinned (OpenSpec.ofChange groebnerMatchesReferenceWrong)

/-- 'eliminantlaw13.GroebnerHolds': WHATEVER THE INPUT: true; the input reads as it did. -/
def groebnerHoldsSpec : ChangeSpec := { name := "groebnerHolds", fn := fun _ => fun
  | [d1, d2, d3] => { results := [.lit (.bool true)], args := [d1, d2, d3] }
  | _ => none }
def groebnerHoldsRow : OpenClaim := { program := "ytohphljemhmocaagreat", sum := "350640bda3e080a81753af6cd8c437f4a4d77e399390faa867265b2909c8647b", func := "eliminant/eliminantlaw13.GroebnerHolds", spec := "groebnerHolds", unfollowed := true, recurses := true, named := ["math/bits.overflowError"], plainKeys := false, apart := false }
def GroebnerHoldsSaid : Prop := groebnerHoldsRow.holds Tryz.pinned (OpenSpec.ofChange groebnerHoldsSpec)

/-- ITS FALSE NEIGHBOUR: 'it returns false'. Refute it at one input. -/
def groebnerHoldsWrong : ChangeSpec := { name := "groebnerHolds", fn := fun _ => fun
  | [d1, d2, d3] => { results := [.lit (.bool false)], args := [d1, d2, d3] }
  | _ => none }
def GroebnerHoldsWrongFalsely : Prop := groebnerHoldsRow.holds Tryz.pinned (OpenSpec.ofChange groebnerHoldsWrong)

/-- 'eliminantlaw13.GroebnerMembers': WHATEVER THE INPUT: true; the input reads as it did. -/
def groebnerMembersSpec : ChangeSpec := { name := "groebnerMembers", fn := fun _ => fun
  | [d1, d2, d3] => { results := [.lit (.bool true)], args := [d1, d2, d3] }
  | _ => none }
def groebnerMembersRow : OpenClaim := { program := "ytohphljemhmocaagreat", sum := "350640bda3e080a81753af6cd8c437f4a4d77e399390faa867265b2909c8647b", func := "eliminant/eliminantlaw13.GroebnerMembers", spec := "groebnerMembers", unfollowed := true, recurses := true, named := ["math/bits.overflowError"], plainKeys := false, apart := false }
def GroebnerMembersSaid : Prop := groebnerMembersRow.holds Tryz.pinned (OpenSpec.ofChange groebnerMembersSpec)

/-- ITS FALSE NEIGHBOUR: 'it returns false'. Refute it at one input. -/
def groebnerMembersWrong : ChangeSpec := { name := "groebnerMembers", fn := fun _ => fun
  | [d1, d2, d3] => { results := [.lit (.bool false)], args := [d1, d2, d3] }
  | _ => none }
def GroebnerMembersWrongFalsely : Prop := groebnerMembersRow.holds Tryz.pinned (OpenSpec.ofChange groebnerMembersWrong)

/-- 'eliminantlaw13.GroebnerUnique': WHATEVER THE INPUT: true; the input reads as it did. -/
def groebnerUniqueSpec : ChangeSpec := { name := "groebnerUnique", fn := fun _ => fun
  | [d1, d2, d3] => { results := [.lit (.bool true)], args := [d1, d2, d3] }
  | _ => none }
def groebnerUniqueRow : OpenClaim := { program := "ytohphljemhmocaagreat", sum := "350640bda3e080a81753af6cd8c437f4a4d77e399390faa867265b2909c8647b", func := "eliminant/eliminantlaw13.GroebnerUnique", spec := "groebnerUnique", unfollowed := true, recurses := true, named := ["math/bits.overflowError"], plainKeys := false, apart := false }
def GroebnerUniqueSaid : Prop := groebnerUniqueRow.holds Tryz.pinned (OpenSpec.ofChange groebnerUniqueSpec)

/-- ITS FALSE NEIGHBOUR: 'it returns false'. Refute it at one input. -/
def groebnerUniqueWrong : ChangeSpec := { name := "groebnerUnique", fn := fun _ => fun
  | [d1, d2, d3] => { results := [.lit (.bool false)], args := [d1, d2, d3] }
  | _ => none }
def GroebnerUniqueWrongFalsely : Prop := groebnerUniqueRow.holds Tryz.pinned (OpenSpec.ofChange groebnerUniqueWrong)

/-- 'eliminantlaw13.GroebnerReduces': WHATEVER THE INPUT: true; the input reads as it did. -/
def groebnerReducesSpec : ChangeSpec := { name := "groebnerReduces", fn := fun _ => fun
  | [d1, d2, d3] => { results := [.lit (.bool true)], args := [d1, d2, d3] }
  | _ => none }
def groebnerReducesRow : OpenClaim := { program := "ytohphljemhmocaagreat", sum := "350640bda3e080a81753af6cd8c437f4a4d77e399390faa867265b2909c8647b", func := "eliminant/eliminantlaw13.GroebnerReduces", spec := "groebnerReduces", unfollowed := true, recurses := true, named := ["math/bits.overflowError"], plainKeys := false, apart := false }
def GroebnerReducesSaid : Prop := groebnerReducesRow.holds Tryz.pinned (OpenSpec.ofChange groebnerReducesSpec)

/-- ITS FALSE NEIGHBOUR: 'it returns false'. Refute it at one input. -/
def groebnerReducesWrong : ChangeSpec := { name := "groebnerReduces", fn := fun _ => fun
  | [d1, d2, d3] => { results := [.lit (.bool false)], args := [d1, d2, d3] }
  | _ => none }
def GroebnerReducesWrongFalsely : Prop := groebnerReducesRow.holds Tryz.pinned (OpenSpec.ofChange groebnerReducesWrong)

/-- 'eliminantlaw13.GroebnerPoints': WHATEVER THE INPUT: true; the input reads as it did. -/
def groebnerPointsSpec : ChangeSpec := { name := "groebnerPoints", fn := fun _ => fun
  | [d1, d2, d3] => { results := [.lit (.bool true)], args := [d1, d2, d3] }
  | _ => none }
def groebnerPointsRow : OpenClaim := { program := "ytohphljemhmocaagreat", sum := "350640bda3e080a81753af6cd8c437f4a4d77e399390faa867265b2909c8647b", func := "eliminant/eliminantlaw13.GroebnerPoints", spec := "groebnerPoints", unfollowed := true, recurses := true, named := ["math/bits.overflowError"], plainKeys := false, apart := false }
def GroebnerPointsSaid : Prop := groebnerPointsRow.holds Tryz.pinned (OpenSpec.ofChange groebnerPointsSpec)

/-- ITS FALSE NEIGHBOUR: 'it returns false'. Refute it at one input. -/
def groebnerPointsWrong : ChangeSpec := { name := "groebnerPoints", fn := fun _ => fun
  | [d1, d2, d3] => { results := [.lit (.bool false)], args := [d1, d2, d3] }
  | _ => none }
def GroebnerPointsWrongFalsely : Prop := groebnerPointsRow.holds Tryz.pinned (OpenSpec.ofChange groebnerPointsWrong)

/-- 'eliminantlaw13.GroebnerLinear': WHATEVER THE INPUT: true; the input reads as it did. -/
def groebnerLinearSpec : ChangeSpec := { name := "groebnerLinear", fn := fun _ => fun
  | [d] => { results := [.lit (.bool true)], args := [d] }
  | _ => none }
def groebnerLinearRow : OpenClaim := { program := "ytohphljemhmocaagreat", sum := "350640bda3e080a81753af6cd8c437f4a4d77e399390faa867265b2909c8647b", func := "eliminant/eliminantlaw13.GroebnerLinear", spec := "groebnerLinear", unfollowed := true, recurses := true, named := ["math/bits.overflowError"], plainKeys := false, apart := false }
def GroebnerLinearSaid : Prop := groebnerLinearRow.holds Tryz.pinned (OpenSpec.ofChange groebnerLinearSpec)

/-- ITS FALSE NEIGHBOUR: 'it returns false'. Refute it at one input. -/
def groebnerLinearWrong : ChangeSpec := { name := "groebnerLinear", fn := fun _ => fun
  | [d] => { results := [.lit (.bool false)], args := [d] }
  | _ => none }
def GroebnerLinearWrongFalsely : Prop := groebnerLinearRow.holds Tryz.pinned (OpenSpec.ofChange groebnerLinearWrong)

/-- 'eliminantlaw13.GroebnerExtends': WHATEVER THE INPUT: true; the input reads as it did. -/
def groebnerExtendsSpec : ChangeSpec := { name := "groebnerExtends", fn := fun _ => fun
  | [d1, d2, d3] => { results := [.lit (.bool true)], args := [d1, d2, d3] }
  | _ => none }
def groebnerExtendsRow : OpenClaim := { program := "ytohphljemhmocaagreat", sum := "350640bda3e080a81753af6cd8c437f4a4d77e399390faa867265b2909c8647b", func := "eliminant/eliminantlaw13.GroebnerExtends", spec := "groebnerExtends", unfollowed := true, recurses := true, named := ["math/bits.overflowError"], plainKeys := false, apart := false }
def GroebnerExtendsSaid : Prop := groebnerExtendsRow.holds Tryz.pinned (OpenSpec.ofChange groebnerExtendsSpec)

/-- ITS FALSE NEIGHBOUR: 'it returns false'. Refute it at one input. -/
def groebnerExtendsWrong : ChangeSpec := { name := "groebnerExtends", fn := fun _ => fun
  | [d1, d2, d3] => { results := [.lit (.bool false)], args := [d1, d2, d3] }
  | _ => none }
def GroebnerExtendsWrongFalsely : Prop := groebnerExtendsRow.holds Tryz.pinned (OpenSpec.ofChange groebnerExtendsWrong)

/-- 'eliminantlaw13.GroebnerOrders': WHATEVER THE INPUT: true; the input reads as it did. -/
def groebnerOrdersSpec : ChangeSpec := { name := "groebnerOrders", fn := fun _ => fun
  | [d1, d2] => { results := [.lit (.bool true)], args := [d1, d2] }
  | _ => none }
def groebnerOrdersRow : OpenClaim := { program := "ytohphljemhmocaagreat", sum := "350640bda3e080a81753af6cd8c437f4a4d77e399390faa867265b2909c8647b", func := "eliminant/eliminantlaw13.GroebnerOrders", spec := "groebnerOrders", unfollowed := true, recurses := true, named := ["math/bits.overflowError"], plainKeys := false, apart := false }
def GroebnerOrdersSaid : Prop := groebnerOrdersRow.holds Tryz.pinned (OpenSpec.ofChange groebnerOrdersSpec)

/-- ITS FALSE NEIGHBOUR: 'it returns false'. Refute it at one input. -/
def groebnerOrdersWrong : ChangeSpec := { name := "groebnerOrders", fn := fun _ => fun
  | [d1, d2] => { results := [.lit (.bool false)], args := [d1, d2] }
  | _ => none }
def GroebnerOrdersWrongFalsely : Prop := groebnerOrdersRow.holds Tryz.pinned (OpenSpec.ofChange groebnerOrdersWrong)

/-- 'eliminantlaw19.SyzygyGenerates': WHATEVER THE INPUT: true; the input reads as it did. -/
def syzygyGeneratesSpec : ChangeSpec := { name := "syzygyGenerates", fn := fun _ => fun
  | [d1, d2] => { results := [.lit (.bool true)], args := [d1, d2] }
  | _ => none }
def syzygyGeneratesRow : OpenClaim := { program := "ytohphljemhmocaagreat", sum := "350640bda3e080a81753af6cd8c437f4a4d77e399390faa867265b2909c8647b", func := "eliminant/eliminantlaw19.SyzygyGenerates", spec := "syzygyGenerates", unfollowed := true, recurses := true, named := ["math/bits.overflowError"], plainKeys := false, apart := false }
def SyzygyGeneratesSaid : Prop := syzygyGeneratesRow.holds Tryz.pinned (OpenSpec.ofChange syzygyGeneratesSpec)

/-- ITS FALSE NEIGHBOUR: 'it returns false'. Refute it at one input. -/
def syzygyGeneratesWrong : ChangeSpec := { name := "syzygyGenerates", fn := fun _ => fun
  | [d1, d2] => { results := [.lit (.bool false)], args := [d1, d2] }
  | _ => none }
def SyzygyGeneratesWrongFalsely : Prop := syzygyGeneratesRow.holds Tryz.pinned (OpenSpec.ofChange syzygyGeneratesWrong)

/-- 'eliminantlaw19.SyzygyPairs': WHATEVER THE INPUT: true; the input reads as it did. -/
def syzygyPairsSpec : ChangeSpec := { name := "syzygyPairs", fn := fun _ => fun
  | [d1, d2] => { results := [.lit (.bool true)], args := [d1, d2] }
  | _ => none }
def syzygyPairsRow : OpenClaim := { program := "ytohphljemhmocaagreat", sum := "350640bda3e080a81753af6cd8c437f4a4d77e399390faa867265b2909c8647b", func := "eliminant/eliminantlaw19.SyzygyPairs", spec := "syzygyPairs", unfollowed := true, recurses := true, named := ["math/bits.overflowError"], plainKeys := false, apart := false }
def SyzygyPairsSaid : Prop := syzygyPairsRow.holds Tryz.pinned (OpenSpec.ofChange syzygyPairsSpec)

/-- ITS FALSE NEIGHBOUR: 'it returns false'. Refute it at one input. -/
def syzygyPairsWrong : ChangeSpec := { name := "syzygyPairs", fn := fun _ => fun
  | [d1, d2] => { results := [.lit (.bool false)], args := [d1, d2] }
  | _ => none }
def SyzygyPairsWrongFalsely : Prop := syzygyPairsRow.holds Tryz.pinned (OpenSpec.ofChange syzygyPairsWrong)

/- THE SECOND FORM. 'bulk': how many values and letters a reading holds, each counted each time it is reached (what is shared counts as often as it is met; a slice's spare places count too). A statement '..UptoSaid' is the law's where the arguments, and the package variables that the reading takes, are together of bulk at most 1048576: NARROWER than '..Said'. Prove '..Said' where nothing that the law and all that it calls make is longer than what came in: it says more and counts as full. Else prove '..UptoSaid'. A law counts once. -/
mutual
def uptoBulk {H : Type} : DataW H → Nat
  | .lit (.string bytes) => bytes.length + 1
  | .lit _ => 1
  | .nil => 1
  | .ptr d => uptoBulk d + 1
  | .slice elems spare => uptoBulkAll elems + uptoBulkAll spare + 1
  | .agg parts => uptoBulkAll parts + 1
  | .iface _ d => uptoBulk d + 1
  | .map entries => uptoBulkEntries entries + 1
  | .held _ => 1
def uptoBulkAll {H : Type} : List (DataW H) → Nat
  | [] => 0
  | d :: r => uptoBulk d + uptoBulkAll r
def uptoBulkEntries {H : Type} : List (Lit × DataW H) → Nat
  | [] => 0
  | x :: r => uptoBulkEntry x + uptoBulkEntries r
def uptoBulkEntry {H : Type} : Lit × DataW H → Nat
  | (.string bytes, d) => bytes.length + uptoBulk d + 1
  | (_, d) => uptoBulk d + 1
 end
def uptoSmall : (H : Type) → List (DataW H) → Bool := fun _ ds => decide (uptoBulkAll ds ≤ 1048576)
def OpenSpec.upto (s : _root_.Go.ChangeSpec) : _root_.Go.OpenSpec := { _root_.Go.OpenSpec.ofChange s with cond := some uptoSmall }

/-- 'eliminantlaw19.SyzygyIs', WHERE WHAT IT READS IS OF BULK AT MOST 1048576: true; the input reads as it did. -/
def syzygyIsUptoRow : OpenClaim := { program := "ytohphljemhmocaagreat", sum := "350640bda3e080a81753af6cd8c437f4a4d77e399390faa867265b2909c8647b", func := "eliminant/eliminantlaw19.SyzygyIs", spec := "syzygyIs", unfollowed := true, recurses := true, named := ["math/bits.overflowError"], plainKeys := false, apart := false, narrowed := true }
def SyzygyIsUptoSaid : Prop := syzygyIsUptoRow.holds Tryz.pinned (OpenSpec.upto syzygyIsSpec)

/-- 'eliminantlaw19.SyzygySchreyer', WHERE WHAT IT READS IS OF BULK AT MOST 1048576: true; the input reads as it did. -/
def syzygySchreyerUptoRow : OpenClaim := { program := "ytohphljemhmocaagreat", sum := "350640bda3e080a81753af6cd8c437f4a4d77e399390faa867265b2909c8647b", func := "eliminant/eliminantlaw19.SyzygySchreyer", spec := "syzygySchreyer", unfollowed := true, recurses := true, named := ["math/bits.overflowError"], plainKeys := false, apart := false, narrowed := true }
def SyzygySchreyerUptoSaid : Prop := syzygySchreyerUptoRow.holds Tryz.pinned (OpenSpec.upto syzygySchreyerSpec)

/-- 'eliminantlaw19.SyzygyErrors', WHERE WHAT IT READS IS OF BULK AT MOST 1048576: true; the input reads as it did. -/
def syzygyErrorsUptoRow : OpenClaim := { program := "ytohphljemhmocaagreat", sum := "350640bda3e080a81753af6cd8c437f4a4d77e399390faa867265b2909c8647b", func := "eliminant/eliminantlaw19.SyzygyErrors", spec := "syzygyErrors", unfollowed := true, recurses := true, named := ["math/bits.overflowError"], plainKeys := false, apart := false, narrowed := true }
def SyzygyErrorsUptoSaid : Prop := syzygyErrorsUptoRow.holds Tryz.pinned (OpenSpec.upto syzygyErrorsSpec)

/-- 'eliminantlaw19.SyzygyExpresses', WHERE WHAT IT READS IS OF BULK AT MOST 1048576: true; the input reads as it did. -/
def syzygyExpressesUptoRow : OpenClaim := { program := "ytohphljemhmocaagreat", sum := "350640bda3e080a81753af6cd8c437f4a4d77e399390faa867265b2909c8647b", func := "eliminant/eliminantlaw19.SyzygyExpresses", spec := "syzygyExpresses", unfollowed := true, recurses := true, named := ["math/bits.overflowError"], plainKeys := false, apart := false, narrowed := true }
def SyzygyExpressesUptoSaid : Prop := syzygyExpressesUptoRow.holds Tryz.pinned (OpenSpec.upto syzygyExpressesSpec)

/-- 'eliminantlaw13.GroebnerMatchesReference', WHERE WHAT IT READS IS OF BULK AT MOST 1048576: true; the input reads as it did. -/
def groebnerMatchesReferenceUptoRow : OpenClaim := { program := "ytohphljemhmocaagreat", sum := "350640bda3e080a81753af6cd8c437f4a4d77e399390faa867265b2909c8647b", func := "eliminant/eliminantlaw13.GroebnerMatchesReference", spec := "groebnerMatchesReference", unfollowed := true, recurses := true, named := ["math/bits.overflowError"], plainKeys := false, apart := false, narrowed := true }
def GroebnerMatchesReferenceUptoSaid : Prop := groebnerMatchesReferenceUptoRow.holds Tryz.pinned (OpenSpec.upto groebnerMatchesReferenceSpec)

/-- 'eliminantlaw13.GroebnerHolds', WHERE WHAT IT READS IS OF BULK AT MOST 1048576: true; the input reads as it did. -/
def groebnerHoldsUptoRow : OpenClaim := { program := "ytohphljemhmocaagreat", sum := "350640bda3e080a81753af6cd8c437f4a4d77e399390faa867265b2909c8647b", func := "eliminant/eliminantlaw13.GroebnerHolds", spec := "groebnerHolds", unfollowed := true, recurses := true, named := ["math/bits.overflowError"], plainKeys := false, apart := false, narrowed := true }
def GroebnerHoldsUptoSaid : Prop := groebnerHoldsUptoRow.holds Tryz.pinned (OpenSpec.upto groebnerHoldsSpec)

/-- 'eliminantlaw13.GroebnerMembers', WHERE WHAT IT READS IS OF BULK AT MOST 1048576: true; the input reads as it did. -/
def groebnerMembersUptoRow : OpenClaim := { program := "ytohphljemhmocaagreat", sum := "350640bda3e080a81753af6cd8c437f4a4d77e399390faa867265b2909c8647b", func := "eliminant/eliminantlaw13.GroebnerMembers", spec := "groebnerMembers", unfollowed := true, recurses := true, named := ["math/bits.overflowError"], plainKeys := false, apart := false, narrowed := true }
def GroebnerMembersUptoSaid : Prop := groebnerMembersUptoRow.holds Tryz.pinned (OpenSpec.upto groebnerMembersSpec)

/-- 'eliminantlaw13.GroebnerUnique', WHERE WHAT IT READS IS OF BULK AT MOST 1048576: true; the input reads as it did. -/
def groebnerUniqueUptoRow : OpenClaim := { program := "ytohphljemhmocaagreat", sum := "350640bda3e080a81753af6cd8c437f4a4d77e399390faa867265b2909c8647b", func := "eliminant/eliminantlaw13.GroebnerUnique", spec := "groebnerUnique", unfollowed := true, recurses := true, named := ["math/bits.overflowError"], plainKeys := false, apart := false, narrowed := true }
def GroebnerUniqueUptoSaid : Prop := groebnerUniqueUptoRow.holds Tryz.pinned (OpenSpec.upto groebnerUniqueSpec)

/-- 'eliminantlaw13.GroebnerReduces', WHERE WHAT IT READS IS OF BULK AT MOST 1048576: true; the input reads as it did. -/
def groebnerReducesUptoRow : OpenClaim := { program := "ytohphljemhmocaagreat", sum := "350640bda3e080a81753af6cd8c437f4a4d77e399390faa867265b2909c8647b", func := "eliminant/eliminantlaw13.GroebnerReduces", spec := "groebnerReduces", unfollowed := true, recurses := true, named := ["math/bits.overflowError"], plainKeys := false, apart := false, narrowed := true }
def GroebnerReducesUptoSaid : Prop := groebnerReducesUptoRow.holds Tryz.pinned (OpenSpec.upto groebnerReducesSpec)

/-- 'eliminantlaw13.GroebnerPoints', WHERE WHAT IT READS IS OF BULK AT MOST 1048576: true; the input reads as it did. -/
def groebnerPointsUptoRow : OpenClaim := { program := "ytohphljemhmocaagreat", sum := "350640bda3e080a81753af6cd8c437f4a4d77e399390faa867265b2909c8647b", func := "eliminant/eliminantlaw13.GroebnerPoints", spec := "groebnerPoints", unfollowed := true, recurses := true, named := ["math/bits.overflowError"], plainKeys := false, apart := false, narrowed := true }
def GroebnerPointsUptoSaid : Prop := groebnerPointsUptoRow.holds Tryz.pinned (OpenSpec.upto groebnerPointsSpec)

/-- 'eliminantlaw13.GroebnerLinear', WHERE WHAT IT READS IS OF BULK AT MOST 1048576: true; the input reads as it did. -/
def groebnerLinearUptoRow : OpenClaim := { program := "ytohphljemhmocaagreat", sum := "350640bda3e080a81753af6cd8c437f4a4d77e399390faa867265b2909c8647b", func := "eliminant/eliminantlaw13.GroebnerLinear", spec := "groebnerLinear", unfollowed := true, recurses := true, named := ["math/bits.overflowError"], plainKeys := false, apart := false, narrowed := true }
def GroebnerLinearUptoSaid : Prop := groebnerLinearUptoRow.holds Tryz.pinned (OpenSpec.upto groebnerLinearSpec)

/-- 'eliminantlaw13.GroebnerExtends', WHERE WHAT IT READS IS OF BULK AT MOST 1048576: true; the input reads as it did. -/
def groebnerExtendsUptoRow : OpenClaim := { program := "ytohphljemhmocaagreat", sum := "350640bda3e080a81753af6cd8c437f4a4d77e399390faa867265b2909c8647b", func := "eliminant/eliminantlaw13.GroebnerExtends", spec := "groebnerExtends", unfollowed := true, recurses := true, named := ["math/bits.overflowError"], plainKeys := false, apart := false, narrowed := true }
def GroebnerExtendsUptoSaid : Prop := groebnerExtendsUptoRow.holds Tryz.pinned (OpenSpec.upto groebnerExtendsSpec)

/-- 'eliminantlaw13.GroebnerOrders', WHERE WHAT IT READS IS OF BULK AT MOST 1048576: true; the input reads as it did. -/
def groebnerOrdersUptoRow : OpenClaim := { program := "ytohphljemhmocaagreat", sum := "350640bda3e080a81753af6cd8c437f4a4d77e399390faa867265b2909c8647b", func := "eliminant/eliminantlaw13.GroebnerOrders", spec := "groebnerOrders", unfollowed := true, recurses := true, named := ["math/bits.overflowError"], plainKeys := false, apart := false, narrowed := true }
def GroebnerOrdersUptoSaid : Prop := groebnerOrdersUptoRow.holds Tryz.pinned (OpenSpec.upto groebnerOrdersSpec)

/-- 'eliminantlaw19.SyzygyGenerates', WHERE WHAT IT READS IS OF BULK AT MOST 1048576: true; the input reads as it did. -/
def syzygyGeneratesUptoRow : OpenClaim := { program := "ytohphljemhmocaagreat", sum := "350640bda3e080a81753af6cd8c437f4a4d77e399390faa867265b2909c8647b", func := "eliminant/eliminantlaw19.SyzygyGenerates", spec := "syzygyGenerates", unfollowed := true, recurses := true, named := ["math/bits.overflowError"], plainKeys := false, apart := false, narrowed := true }
def SyzygyGeneratesUptoSaid : Prop := syzygyGeneratesUptoRow.holds Tryz.pinned (OpenSpec.upto syzygyGeneratesSpec)

/-- 'eliminantlaw19.SyzygyPairs', WHERE WHAT IT READS IS OF BULK AT MOST 1048576: true; the input reads as it did. -/
def syzygyPairsUptoRow : OpenClaim := { program := "ytohphljemhmocaagreat", sum := "350640bda3e080a81753af6cd8c437f4a4d77e399390faa867265b2909c8647b", func := "eliminant/eliminantlaw19.SyzygyPairs", spec := "syzygyPairs", unfollowed := true, recurses := true, named := ["math/bits.overflowError"], plainKeys := false, apart := false, narrowed := true }
def SyzygyPairsUptoSaid : Prop := syzygyPairsUptoRow.holds Tryz.pinned (OpenSpec.upto syzygyPairsSpec)

end Rows
end Go.Proofs.YtohphljemhmocaaGreat
