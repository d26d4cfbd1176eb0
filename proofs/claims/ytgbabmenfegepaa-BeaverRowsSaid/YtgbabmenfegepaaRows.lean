/-
  No cell of these rows narrows 'for every input' (looked for: loops, veiled, ifaces, maps, wideKeys, modest, calm, conditions, laid).
  DERIVED. THE GIVEN ROWS OF THIS SEAT. 6 by the template 'for every input the law returns true; each argument reads behind the call as it read before'; 0 by the template 'total and deterministic' (their statements: YtgbabmenfegepaaTotals.lean).
  GIVEN WITH THE SEED: the statements are not yours to turn. If you find one false, say at which input.
  Laid BY PROGRAM, IN A SANDBOX (cutbox-rows.mjs): the forced cells as the released guide's own fill.sh prints them over the translation a9804568c2efbed7… (all of the seat's roots in one cut). By AI agents, Wed Nov 11 2026. No macro, syntax, notation, axiom, sorry.
-/
import Derived.Test.YtgbabmenfegepaaChecked
import GoSem.Claim
import GoSem.ClaimJoined
import GoSem.ClaimMapViews
import Derived.JoinedTies
import Derived.KernelRfl
namespace Go.Proofs.Ytgbabmenfegepaa
/- THE CELL 'sum', in the pinned program and in every row, IS THE sha256 OF THE DUMP (.gsa) THAT YtgbabmenfegepaaProg.lean LOADS. Nothing in Lean hashes anything: it is a label: what it is worth is what the hold of that sum in a sandbox is worth. -/
noncomputable def Try.pinned : Pinned := { name := "ytgbabmenfegepaa", sum := "a9804568c2efbed7472b821a24690feeec6bc7aa689738bfa537dcf3dab6e91c", checked := Try.checked }
namespace Rows
def none {H : Type} : Left H := { results := [], args := [] }

/-- 'symbolonlaw12.BeaverTells': WHATEVER THE INPUT: true; the input reads as it did. -/
def beaverTellsSpec : ChangeSpec := { name := "beaverTells", fn := fun _ => fun
  | [d1, d2, d3, d4, d5, d6] => { results := [.lit (.bool true)], args := [d1, d2, d3, d4, d5, d6] }
  | _ => none }
def beaverTellsRow : OpenClaim := { program := "ytgbabmenfegepaa", sum := "a9804568c2efbed7472b821a24690feeec6bc7aa689738bfa537dcf3dab6e91c", func := "symbolon/symbolonlaw12.BeaverTells", spec := "beaverTells", apart := false }
def BeaverTellsSaid : Prop := beaverTellsRow.holds Try.pinned (OpenSpec.ofChange beaverTellsSpec)

/-- ITS FALSE NEIGHBOUR: 'it returns false'. Refute it at one input. -/
def beaverTellsWrong : ChangeSpec := { name := "beaverTells", fn := fun _ => fun
  | [d1, d2, d3, d4, d5, d6] => { results := [.lit (.bool false)], args := [d1, d2, d3, d4, d5, d6] }
  | _ => none }
def BeaverTellsWrongFalsely : Prop := beaverTellsRow.holds Try.pinned (OpenSpec.ofChange beaverTellsWrong)

/-- 'symbolonlaw12.BeaverExact': WHATEVER THE INPUT: true; the input reads as it did. -/
def beaverExactSpec : ChangeSpec := { name := "beaverExact", fn := fun _ => fun
  | [d1, d2, d3, d4, d5, d6] => { results := [.lit (.bool true)], args := [d1, d2, d3, d4, d5, d6] }
  | _ => none }
def beaverExactRow : OpenClaim := { program := "ytgbabmenfegepaa", sum := "a9804568c2efbed7472b821a24690feeec6bc7aa689738bfa537dcf3dab6e91c", func := "symbolon/symbolonlaw12.BeaverExact", spec := "beaverExact", apart := false }
def BeaverExactSaid : Prop := beaverExactRow.holds Try.pinned (OpenSpec.ofChange beaverExactSpec)

/-- ITS FALSE NEIGHBOUR: 'it returns false'. Refute it at one input. -/
def beaverExactWrong : ChangeSpec := { name := "beaverExact", fn := fun _ => fun
  | [d1, d2, d3, d4, d5, d6] => { results := [.lit (.bool false)], args := [d1, d2, d3, d4, d5, d6] }
  | _ => none }
def BeaverExactWrongFalsely : Prop := beaverExactRow.holds Try.pinned (OpenSpec.ofChange beaverExactWrong)

/-- 'symbolonlaw12.BeaverAny': WHATEVER THE INPUT: true; the input reads as it did. -/
def beaverAnySpec : ChangeSpec := { name := "beaverAny", fn := fun _ => fun
  | [d1, d2, d3, d4, d5, d6] => { results := [.lit (.bool true)], args := [d1, d2, d3, d4, d5, d6] }
  | _ => none }
def beaverAnyRow : OpenClaim := { program := "ytgbabmenfegepaa", sum := "a9804568c2efbed7472b821a24690feeec6bc7aa689738bfa537dcf3dab6e91c", func := "symbolon/symbolonlaw12.BeaverAny", spec := "beaverAny", apart := false }
def BeaverAnySaid : Prop := beaverAnyRow.holds Try.pinned (OpenSpec.ofChange beaverAnySpec)

/-- ITS FALSE NEIGHBOUR: 'it returns false'. Refute it at one input. -/
def beaverAnyWrong : ChangeSpec := { name := "beaverAny", fn := fun _ => fun
  | [d1, d2, d3, d4, d5, d6] => { results := [.lit (.bool false)], args := [d1, d2, d3, d4, d5, d6] }
  | _ => none }
def BeaverAnyWrongFalsely : Prop := beaverAnyRow.holds Try.pinned (OpenSpec.ofChange beaverAnyWrong)

/-- 'symbolonlaw12.BeaverMasks': WHATEVER THE INPUT: true; the input reads as it did. -/
def beaverMasksSpec : ChangeSpec := { name := "beaverMasks", fn := fun _ => fun
  | [d1, d2, d3, d4, d5] => { results := [.lit (.bool true)], args := [d1, d2, d3, d4, d5] }
  | _ => none }
def beaverMasksRow : OpenClaim := { program := "ytgbabmenfegepaa", sum := "a9804568c2efbed7472b821a24690feeec6bc7aa689738bfa537dcf3dab6e91c", func := "symbolon/symbolonlaw12.BeaverMasks", spec := "beaverMasks", apart := false }
def BeaverMasksSaid : Prop := beaverMasksRow.holds Try.pinned (OpenSpec.ofChange beaverMasksSpec)

/-- ITS FALSE NEIGHBOUR: 'it returns false'. Refute it at one input. -/
def beaverMasksWrong : ChangeSpec := { name := "beaverMasks", fn := fun _ => fun
  | [d1, d2, d3, d4, d5] => { results := [.lit (.bool false)], args := [d1, d2, d3, d4, d5] }
  | _ => none }
def BeaverMasksWrongFalsely : Prop := beaverMasksRow.holds Try.pinned (OpenSpec.ofChange beaverMasksWrong)

/-- 'symbolonlaw12.BeaverRows': WHATEVER THE INPUT: true; the input reads as it did. -/
def beaverRowsSpec : ChangeSpec := { name := "beaverRows", fn := fun _ => fun
  | [d1, d2, d3, d4, d5] => { results := [.lit (.bool true)], args := [d1, d2, d3, d4, d5] }
  | _ => none }
def beaverRowsRow : OpenClaim := { program := "ytgbabmenfegepaa", sum := "a9804568c2efbed7472b821a24690feeec6bc7aa689738bfa537dcf3dab6e91c", func := "symbolon/symbolonlaw12.BeaverRows", spec := "beaverRows", apart := false }
def BeaverRowsSaid : Prop := beaverRowsRow.holds Try.pinned (OpenSpec.ofChange beaverRowsSpec)

/-- ITS FALSE NEIGHBOUR: 'it returns false'. Refute it at one input. -/
def beaverRowsWrong : ChangeSpec := { name := "beaverRows", fn := fun _ => fun
  | [d1, d2, d3, d4, d5] => { results := [.lit (.bool false)], args := [d1, d2, d3, d4, d5] }
  | _ => none }
def BeaverRowsWrongFalsely : Prop := beaverRowsRow.holds Try.pinned (OpenSpec.ofChange beaverRowsWrong)

/-- 'symbolonlaw12.BeaverSides': WHATEVER THE INPUT: true; the input reads as it did. -/
def beaverSidesSpec : ChangeSpec := { name := "beaverSides", fn := fun _ => fun
  | [d1, d2, d3] => { results := [.lit (.bool true)], args := [d1, d2, d3] }
  | _ => none }
def beaverSidesRow : OpenClaim := { program := "ytgbabmenfegepaa", sum := "a9804568c2efbed7472b821a24690feeec6bc7aa689738bfa537dcf3dab6e91c", func := "symbolon/symbolonlaw12.BeaverSides", spec := "beaverSides", apart := false }
def BeaverSidesSaid : Prop := beaverSidesRow.holds Try.pinned (OpenSpec.ofChange beaverSidesSpec)

/-- ITS FALSE NEIGHBOUR: 'it returns false'. Refute it at one input. -/
def beaverSidesWrong : ChangeSpec := { name := "beaverSides", fn := fun _ => fun
  | [d1, d2, d3] => { results := [.lit (.bool false)], args := [d1, d2, d3] }
  | _ => none }
def BeaverSidesWrongFalsely : Prop := beaverSidesRow.holds Try.pinned (OpenSpec.ofChange beaverSidesWrong)

/- THE SECOND FORM. 'bulk': how many values and letters a reading holds, each counted each time it is reached (what is shared counts as often as it is met; a slice's spare places count too). A statement '..UptoSaid' is the law's where the arguments, and the package variables that the reading takes, are together of bulk at most 1048576: NARROWER than '..Said'. Prove '..Said' where nothing that the law and all that it calls make is longer than what came in: it says more and counts as full. Else prove '..UptoSaid'. A law counts once. -/
mutual
def uptoBulk {H : Type} : DataW H → Nat
  | .lit (.string bytes) => bytes.length + 1
  | .lit _ => 1
  | .nil => 1
  | .ptr d => uptoBulk d + 1
  | .slice elems spare => uptoBulkAll elems + uptoBulkAll spare + 1
  | .agg parts => uptoBulkAll parts + 1
  | .iface _ d => uptoBulk d + 1
  | .map entries => uptoBulkEntries entries + 1
  | .held _ => 1
def uptoBulkAll {H : Type} : List (DataW H) → Nat
  | [] => 0
  | d :: r => uptoBulk d + uptoBulkAll r
def uptoBulkEntries {H : Type} : List (Lit × DataW H) → Nat
  | [] => 0
  | x :: r => uptoBulkEntry x + uptoBulkEntries r
def uptoBulkEntry {H : Type} : Lit × DataW H → Nat
  | (.string bytes, d) => bytes.length + uptoBulk d + 1
  | (_, d) => uptoBulk d + 1
 end
def uptoSmall : (H : Type) → List (DataW H) → Bool := fun _ ds => decide (uptoBulkAll ds ≤ 1048576)
def OpenSpec.upto (s : _root_.Go.ChangeSpec) : _root_.Go.OpenSpec := { _root_.Go.OpenSpec.ofChange s with cond := some uptoSmall }

/-- 'symbolonlaw12.BeaverTells', WHERE WHAT IT READS IS OF BULK AT MOST 1048576: true; the input reads as it did. -/
def beaverTellsUptoRow : OpenClaim := { program := "ytgbabmenfegepaa", sum := "a9804568c2efbed7472b821a24690feeec6bc7aa689738bfa537dcf3dab6e91c", func := "symbolon/symbolonlaw12.BeaverTells", spec := "beaverTells", apart := false, narrowed := true }
def BeaverTellsUptoSaid : Prop := beaverTellsUptoRow.holds Try.pinned (OpenSpec.upto beaverTellsSpec)

/-- 'symbolonlaw12.BeaverExact', WHERE WHAT IT READS IS OF BULK AT MOST 1048576: true; the input reads as it did. -/
def beaverExactUptoRow : OpenClaim := { program := "ytgbabmenfegepaa", sum := "a9804568c2efbed7472b821a24690feeec6bc7aa689738bfa537dcf3dab6e91c", func := "symbolon/symbolonlaw12.BeaverExact", spec := "beaverExact", apart := false, narrowed := true }
def BeaverExactUptoSaid : Prop := beaverExactUptoRow.holds Try.pinned (OpenSpec.upto beaverExactSpec)

/-- 'symbolonlaw12.BeaverAny', WHERE WHAT IT READS IS OF BULK AT MOST 1048576: true; the input reads as it did. -/
def beaverAnyUptoRow : OpenClaim := { program := "ytgbabmenfegepaa", sum := "a9804568c2efbed7472b821a24690feeec6bc7aa689738bfa537dcf3dab6e91c", func := "symbolon/symbolonlaw12.BeaverAny", spec := "beaverAny", apart := false, narrowed := true }
def BeaverAnyUptoSaid : Prop := beaverAnyUptoRow.holds Try.pinned (OpenSpec.upto beaverAnySpec)

/-- 'symbolonlaw12.BeaverMasks', WHERE WHAT IT READS IS OF BULK AT MOST 1048576: true; the input reads as it did. -/
def beaverMasksUptoRow : OpenClaim := { program := "ytgbabmenfegepaa", sum := "a9804568c2efbed7472b821a24690feeec6bc7aa689738bfa537dcf3dab6e91c", func := "symbolon/symbolonlaw12.BeaverMasks", spec := "beaverMasks", apart := false, narrowed := true }
def BeaverMasksUptoSaid : Prop := beaverMasksUptoRow.holds Try.pinned (OpenSpec.upto beaverMasksSpec)

/-- 'symbolonlaw12.BeaverRows', WHERE WHAT IT READS IS OF BULK AT MOST 1048576: true; the input reads as it did. -/
def beaverRowsUptoRow : OpenClaim := { program := "ytgbabmenfegepaa", sum := "a9804568c2efbed7472b821a24690feeec6bc7aa689738bfa537dcf3dab6e91c", func := "symbolon/symbolonlaw12.BeaverRows", spec := "beaverRows", apart := false, narrowed := true }
def BeaverRowsUptoSaid : Prop := beaverRowsUptoRow.holds Try.pinned (OpenSpec.upto beaverRowsSpec)

/-- 'symbolonlaw12.BeaverSides', WHERE WHAT IT READS IS OF BULK AT MOST 1048576: true; the input reads as it did. -/
def beaverSidesUptoRow : OpenClaim := { program := "ytgbabmenfegepaa", sum := "a9804568c2efbed7472b821a24690feeec6bc7aa689738bfa537dcf3dab6e91c", func := "symbolon/symbolonlaw12.BeaverSides", spec := "beaverSides", apart := false, narrowed := true }
def BeaverSidesUptoSaid : Prop := beaverSidesUptoRow.holds Try.pinned (OpenSpec.upto beaverSidesSpec)

end Rows
end Go.Proofs.Ytgbabmenfegepaa
