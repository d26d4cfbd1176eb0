/-
  No cell of these rows narrows 'for every input' (looked for: loops, veiled, ifaces, maps, wideKeys, modest, calm, conditions, laid).
  DERIVED. THE GIVEN ROWS OF THIS SEAT. 7 by the template 'for every input the law returns true; each argument reads behind the call as it read before'; 0 by the template 'total and deterministic' (their statements: YthoahkpbbepneaaTotals.lean).
  GIVEN WITH THE SEED: the statements are not yours to turn. If you find one false, say at which input.
  Laid BY PROGRAM, IN A SANDBOX (cutbox-rows.mjs): the forced cells as the released guide's own fill.sh prints them over the translation 310dc11e0662c9d9… (all of the seat's roots in one cut). By AI agents, Wed Nov 11 2026. No macro, syntax, notation, axiom, sorry.
-/
import Derived.Test.YthoahkpbbepneaaChecked
import GoSem.Claim
import GoSem.ClaimJoined
import GoSem.ClaimMapViews
import Derived.JoinedTies
import Derived.KernelRfl
namespace Go.Proofs.Ythoahkpbbepneaa
/- THE CELL 'sum', in the pinned program and in every row, IS THE sha256 OF THE DUMP (.gsa) THAT YthoahkpbbepneaaProg.lean LOADS. Nothing in Lean hashes anything: it is a label: what it is worth is what the hold of that sum in a sandbox is worth. -/
noncomputable def Try.pinned : Pinned := { name := "ythoahkpbbepneaa", sum := "310dc11e0662c9d9ce5a8f4888e6472ebb61a62d2eacc3c99cb63f9bf272b95f", checked := Try.checked }
namespace Rows
def none {H : Type} : Left H := { results := [], args := [] }

/-- 'symbolonlaw02.ShapeTells': WHATEVER THE INPUT: true; the input reads as it did. -/
def shapeTellsSpec : ChangeSpec := { name := "shapeTells", fn := fun _ => fun
  | [d1, d2, d3, d4, d5, d6, d7, d8] => { results := [.lit (.bool true)], args := [d1, d2, d3, d4, d5, d6, d7, d8] }
  | _ => none }
def shapeTellsRow : OpenClaim := { program := "ythoahkpbbepneaa", sum := "310dc11e0662c9d9ce5a8f4888e6472ebb61a62d2eacc3c99cb63f9bf272b95f", func := "symbolon/symbolonlaw02.ShapeTells", spec := "shapeTells", unfollowed := true, recurses := true, apart := false }
def ShapeTellsSaid : Prop := shapeTellsRow.holds Try.pinned (OpenSpec.ofChange shapeTellsSpec)

/-- ITS FALSE NEIGHBOUR: 'it returns false'. Refute it at one input. -/
def shapeTellsWrong : ChangeSpec := { name := "shapeTells", fn := fun _ => fun
  | [d1, d2, d3, d4, d5, d6, d7, d8] => { results := [.lit (.bool false)], args := [d1, d2, d3, d4, d5, d6, d7, d8] }
  | _ => none }
def ShapeTellsWrongFalsely : Prop := shapeTellsRow.holds Try.pinned (OpenSpec.ofChange shapeTellsWrong)

/-- 'symbolonlaw02.ShapePlaces': WHATEVER THE INPUT: true; the input reads as it did. -/
def shapePlacesSpec : ChangeSpec := { name := "shapePlaces", fn := fun _ => fun
  | [d1, d2, d3, d4, d5] => { results := [.lit (.bool true)], args := [d1, d2, d3, d4, d5] }
  | _ => none }
def shapePlacesRow : OpenClaim := { program := "ythoahkpbbepneaa", sum := "310dc11e0662c9d9ce5a8f4888e6472ebb61a62d2eacc3c99cb63f9bf272b95f", func := "symbolon/symbolonlaw02.ShapePlaces", spec := "shapePlaces", unfollowed := true, recurses := true, apart := false }
def ShapePlacesSaid : Prop := shapePlacesRow.holds Try.pinned (OpenSpec.ofChange shapePlacesSpec)

/-- ITS FALSE NEIGHBOUR: 'it returns false'. Refute it at one input. -/
def shapePlacesWrong : ChangeSpec := { name := "shapePlaces", fn := fun _ => fun
  | [d1, d2, d3, d4, d5] => { results := [.lit (.bool false)], args := [d1, d2, d3, d4, d5] }
  | _ => none }
def ShapePlacesWrongFalsely : Prop := shapePlacesRow.holds Try.pinned (OpenSpec.ofChange shapePlacesWrong)

/-- 'symbolonlaw02.ShapeConv': WHATEVER THE INPUT: true; the input reads as it did. -/
def shapeConvSpec : ChangeSpec := { name := "shapeConv", fn := fun _ => fun
  | [d1, d2, d3, d4] => { results := [.lit (.bool true)], args := [d1, d2, d3, d4] }
  | _ => none }
def shapeConvRow : OpenClaim := { program := "ythoahkpbbepneaa", sum := "310dc11e0662c9d9ce5a8f4888e6472ebb61a62d2eacc3c99cb63f9bf272b95f", func := "symbolon/symbolonlaw02.ShapeConv", spec := "shapeConv", unfollowed := true, recurses := true, apart := false }
def ShapeConvSaid : Prop := shapeConvRow.holds Try.pinned (OpenSpec.ofChange shapeConvSpec)

/-- ITS FALSE NEIGHBOUR: 'it returns false'. Refute it at one input. -/
def shapeConvWrong : ChangeSpec := { name := "shapeConv", fn := fun _ => fun
  | [d1, d2, d3, d4] => { results := [.lit (.bool false)], args := [d1, d2, d3, d4] }
  | _ => none }
def ShapeConvWrongFalsely : Prop := shapeConvRow.holds Try.pinned (OpenSpec.ofChange shapeConvWrong)

/-- 'symbolonlaw02.ShapePool': WHATEVER THE INPUT: true; the input reads as it did. -/
def shapePoolSpec : ChangeSpec := { name := "shapePool", fn := fun _ => fun
  | [d1, d2] => { results := [.lit (.bool true)], args := [d1, d2] }
  | _ => none }
def shapePoolRow : OpenClaim := { program := "ythoahkpbbepneaa", sum := "310dc11e0662c9d9ce5a8f4888e6472ebb61a62d2eacc3c99cb63f9bf272b95f", func := "symbolon/symbolonlaw02.ShapePool", spec := "shapePool", unfollowed := true, recurses := true, apart := false }
def ShapePoolSaid : Prop := shapePoolRow.holds Try.pinned (OpenSpec.ofChange shapePoolSpec)

/-- ITS FALSE NEIGHBOUR: 'it returns false'. Refute it at one input. -/
def shapePoolWrong : ChangeSpec := { name := "shapePool", fn := fun _ => fun
  | [d1, d2] => { results := [.lit (.bool false)], args := [d1, d2] }
  | _ => none }
def ShapePoolWrongFalsely : Prop := shapePoolRow.holds Try.pinned (OpenSpec.ofChange shapePoolWrong)

/-- 'symbolonlaw02.ShapeTurns': WHATEVER THE INPUT: true; the input reads as it did. -/
def shapeTurnsSpec : ChangeSpec := { name := "shapeTurns", fn := fun _ => fun
  | [d1, d2, d3, d4] => { results := [.lit (.bool true)], args := [d1, d2, d3, d4] }
  | _ => none }
def shapeTurnsRow : OpenClaim := { program := "ythoahkpbbepneaa", sum := "310dc11e0662c9d9ce5a8f4888e6472ebb61a62d2eacc3c99cb63f9bf272b95f", func := "symbolon/symbolonlaw02.ShapeTurns", spec := "shapeTurns", unfollowed := true, recurses := true, apart := false }
def ShapeTurnsSaid : Prop := shapeTurnsRow.holds Try.pinned (OpenSpec.ofChange shapeTurnsSpec)

/-- ITS FALSE NEIGHBOUR: 'it returns false'. Refute it at one input. -/
def shapeTurnsWrong : ChangeSpec := { name := "shapeTurns", fn := fun _ => fun
  | [d1, d2, d3, d4] => { results := [.lit (.bool false)], args := [d1, d2, d3, d4] }
  | _ => none }
def ShapeTurnsWrongFalsely : Prop := shapeTurnsRow.holds Try.pinned (OpenSpec.ofChange shapeTurnsWrong)

/-- 'symbolonlaw02.ShapeOne': WHATEVER THE INPUT: true; the input reads as it did. -/
def shapeOneSpec : ChangeSpec := { name := "shapeOne", fn := fun _ => fun
  | [d1, d2] => { results := [.lit (.bool true)], args := [d1, d2] }
  | _ => none }
def shapeOneRow : OpenClaim := { program := "ythoahkpbbepneaa", sum := "310dc11e0662c9d9ce5a8f4888e6472ebb61a62d2eacc3c99cb63f9bf272b95f", func := "symbolon/symbolonlaw02.ShapeOne", spec := "shapeOne", unfollowed := true, recurses := true, apart := false }
def ShapeOneSaid : Prop := shapeOneRow.holds Try.pinned (OpenSpec.ofChange shapeOneSpec)

/-- ITS FALSE NEIGHBOUR: 'it returns false'. Refute it at one input. -/
def shapeOneWrong : ChangeSpec := { name := "shapeOne", fn := fun _ => fun
  | [d1, d2] => { results := [.lit (.bool false)], args := [d1, d2] }
  | _ => none }
def ShapeOneWrongFalsely : Prop := shapeOneRow.holds Try.pinned (OpenSpec.ofChange shapeOneWrong)

/-- 'symbolonlaw02.ShapeOrder': WHATEVER THE INPUT: true; the input reads as it did. -/
def shapeOrderSpec : ChangeSpec := { name := "shapeOrder", fn := fun _ => fun
  | [d1, d2, d3] => { results := [.lit (.bool true)], args := [d1, d2, d3] }
  | _ => none }
def shapeOrderRow : OpenClaim := { program := "ythoahkpbbepneaa", sum := "310dc11e0662c9d9ce5a8f4888e6472ebb61a62d2eacc3c99cb63f9bf272b95f", func := "symbolon/symbolonlaw02.ShapeOrder", spec := "shapeOrder", unfollowed := true, recurses := true, apart := false }
def ShapeOrderSaid : Prop := shapeOrderRow.holds Try.pinned (OpenSpec.ofChange shapeOrderSpec)

/-- ITS FALSE NEIGHBOUR: 'it returns false'. Refute it at one input. -/
def shapeOrderWrong : ChangeSpec := { name := "shapeOrder", fn := fun _ => fun
  | [d1, d2, d3] => { results := [.lit (.bool false)], args := [d1, d2, d3] }
  | _ => none }
def ShapeOrderWrongFalsely : Prop := shapeOrderRow.holds Try.pinned (OpenSpec.ofChange shapeOrderWrong)

/- THE SECOND FORM. 'bulk': how many values and letters a reading holds, each counted each time it is reached (what is shared counts as often as it is met; a slice's spare places count too). A statement '..UptoSaid' is the law's where the arguments, and the package variables that the reading takes, are together of bulk at most 1048576: NARROWER than '..Said'. Prove '..Said' where nothing that the law and all that it calls make is longer than what came in: it says more and counts as full. Else prove '..UptoSaid'. A law counts once. -/
mutual
def uptoBulk {H : Type} : DataW H → Nat
  | .lit (.string bytes) => bytes.length + 1
  | .lit _ => 1
  | .nil => 1
  | .ptr d => uptoBulk d + 1
  | .slice elems spare => uptoBulkAll elems + uptoBulkAll spare + 1
  | .agg parts => uptoBulkAll parts + 1
  | .iface _ d => uptoBulk d + 1
  | .map entries => uptoBulkEntries entries + 1
  | .held _ => 1
def uptoBulkAll {H : Type} : List (DataW H) → Nat
  | [] => 0
  | d :: r => uptoBulk d + uptoBulkAll r
def uptoBulkEntries {H : Type} : List (Lit × DataW H) → Nat
  | [] => 0
  | x :: r => uptoBulkEntry x + uptoBulkEntries r
def uptoBulkEntry {H : Type} : Lit × DataW H → Nat
  | (.string bytes, d) => bytes.length + uptoBulk d + 1
  | (_, d) => uptoBulk d + 1
 end
def uptoSmall : (H : Type) → List (DataW H) → Bool := fun _ ds => decide (uptoBulkAll ds ≤ 1048576)
def OpenSpec.upto (s : _root_.Go.ChangeSpec) : _root_.Go.OpenSpec := { _root_.Go.OpenSpec.ofChange s with cond := some uptoSmall }

/-- 'symbolonlaw02.ShapeTells', WHERE WHAT IT READS IS OF BULK AT MOST 1048576: true; the input reads as it did. -/
def shapeTellsUptoRow : OpenClaim := { program := "ythoahkpbbepneaa", sum := "310dc11e0662c9d9ce5a8f4888e6472ebb61a62d2eacc3c99cb63f9bf272b95f", func := "symbolon/symbolonlaw02.ShapeTells", spec := "shapeTells", unfollowed := true, recurses := true, apart := false, narrowed := true }
def ShapeTellsUptoSaid : Prop := shapeTellsUptoRow.holds Try.pinned (OpenSpec.upto shapeTellsSpec)

/-- 'symbolonlaw02.ShapePlaces', WHERE WHAT IT READS IS OF BULK AT MOST 1048576: true; the input reads as it did. -/
def shapePlacesUptoRow : OpenClaim := { program := "ythoahkpbbepneaa", sum := "310dc11e0662c9d9ce5a8f4888e6472ebb61a62d2eacc3c99cb63f9bf272b95f", func := "symbolon/symbolonlaw02.ShapePlaces", spec := "shapePlaces", unfollowed := true, recurses := true, apart := false, narrowed := true }
def ShapePlacesUptoSaid : Prop := shapePlacesUptoRow.holds Try.pinned (OpenSpec.upto shapePlacesSpec)

/-- 'symbolonlaw02.ShapeConv', WHERE WHAT IT READS IS OF BULK AT MOST 1048576: true; the input reads as it did. -/
def shapeConvUptoRow : OpenClaim := { program := "ythoahkpbbepneaa", sum := "310dc11e0662c9d9ce5a8f4888e6472ebb61a62d2eacc3c99cb63f9bf272b95f", func := "symbolon/symbolonlaw02.ShapeConv", spec := "shapeConv", unfollowed := true, recurses := true, apart := false, narrowed := true }
def ShapeConvUptoSaid : Prop := shapeConvUptoRow.holds Try.pinned (OpenSpec.upto shapeConvSpec)

/-- 'symbolonlaw02.ShapePool', WHERE WHAT IT READS IS OF BULK AT MOST 1048576: true; the input reads as it did. -/
def shapePoolUptoRow : OpenClaim := { program := "ythoahkpbbepneaa", sum := "310dc11e0662c9d9ce5a8f4888e6472ebb61a62d2eacc3c99cb63f9bf272b95f", func := "symbolon/symbolonlaw02.ShapePool", spec := "shapePool", unfollowed := true, recurses := true, apart := false, narrowed := true }
def ShapePoolUptoSaid : Prop := shapePoolUptoRow.holds Try.pinned (OpenSpec.upto shapePoolSpec)

/-- 'symbolonlaw02.ShapeTurns', WHERE WHAT IT READS IS OF BULK AT MOST 1048576: true; the input reads as it did. -/
def shapeTurnsUptoRow : OpenClaim := { program := "ythoahkpbbepneaa", sum := "310dc11e0662c9d9ce5a8f4888e6472ebb61a62d2eacc3c99cb63f9bf272b95f", func := "symbolon/symbolonlaw02.ShapeTurns", spec := "shapeTurns", unfollowed := true, recurses := true, apart := false, narrowed := true }
def ShapeTurnsUptoSaid : Prop := shapeTurnsUptoRow.holds Try.pinned (OpenSpec.upto shapeTurnsSpec)

/-- 'symbolonlaw02.ShapeOne', WHERE WHAT IT READS IS OF BULK AT MOST 1048576: true; the input reads as it did. -/
def shapeOneUptoRow : OpenClaim := { program := "ythoahkpbbepneaa", sum := "310dc11e0662c9d9ce5a8f4888e6472ebb61a62d2eacc3c99cb63f9bf272b95f", func := "symbolon/symbolonlaw02.ShapeOne", spec := "shapeOne", unfollowed := true, recurses := true, apart := false, narrowed := true }
def ShapeOneUptoSaid : Prop := shapeOneUptoRow.holds Try.pinned (OpenSpec.upto shapeOneSpec)

/-- 'symbolonlaw02.ShapeOrder', WHERE WHAT IT READS IS OF BULK AT MOST 1048576: true; the input reads as it did. -/
def shapeOrderUptoRow : OpenClaim := { program := "ythoahkpbbepneaa", sum := "310dc11e0662c9d9ce5a8f4888e6472ebb61a62d2eacc3c99cb63f9bf272b95f", func := "symbolon/symbolonlaw02.ShapeOrder", spec := "shapeOrder", unfollowed := true, recurses := true, apart := false, narrowed := true }
def ShapeOrderUptoSaid : Prop := shapeOrderUptoRow.holds Try.pinned (OpenSpec.upto shapeOrderSpec)

end Rows
end Go.Proofs.Ythoahkpbbepneaa
