/-
  No cell of these rows narrows 'for every input' (looked for: loops, veiled, ifaces, maps, wideKeys, modest, calm, conditions, laid).
  DERIVED. THE GIVEN ROWS OF THIS SEAT. 7 by the template 'for every input the law returns true; each argument reads behind the call as it read before'; 0 by the template 'total and deterministic' (their statements: YtfkgacjiccgdfaaTotals.lean).
  GIVEN WITH THE SEED: the statements are not yours to turn. If you find one false, say at which input.
  Laid BY PROGRAM, IN A SANDBOX (cutbox-rows.mjs): the forced cells as the released guide's own fill.sh prints them over the translation 2852675622b75046… (all of the seat's roots in one cut). By AI agents, Wed Nov 11 2026. No macro, syntax, notation, axiom, sorry.
-/
import Derived.Test.YtfkgacjiccgdfaaChecked
import GoSem.Claim
import GoSem.ClaimJoined
import GoSem.ClaimMapViews
import Derived.JoinedTies
import Derived.KernelRfl
namespace Go.Proofs.Ytfkgacjiccgdfaa
/- THE CELL 'sum', in the pinned program and in every row, IS THE sha256 OF THE DUMP (.gsa) THAT YtfkgacjiccgdfaaProg.lean LOADS. Nothing in Lean hashes anything: it is a label: what it is worth is what the hold of that sum in a sandbox is worth. -/
noncomputable def Try.pinned : Pinned := { name := "ytfkgacjiccgdfaa", sum := "2852675622b7504685e56f96ed36a5962bff0a13657f1d655e1374e5b5be4254", checked := Try.checked }
namespace Rows
def none {H : Type} : Left H := { results := [], args := [] }

/-- 'symbolonlaw14.ChunkTells': WHATEVER THE INPUT: true; the input reads as it did. -/
def chunkTellsSpec : ChangeSpec := { name := "chunkTells", fn := fun _ => fun
  | [d1, d2, d3, d4, d5] => { results := [.lit (.bool true)], args := [d1, d2, d3, d4, d5] }
  | _ => none }
def chunkTellsRow : OpenClaim := { program := "ytfkgacjiccgdfaa", sum := "2852675622b7504685e56f96ed36a5962bff0a13657f1d655e1374e5b5be4254", func := "symbolon/symbolonlaw14.ChunkTells", spec := "chunkTells", unfollowed := true, recurses := true, apart := false }
def ChunkTellsSaid : Prop := chunkTellsRow.holds Try.pinned (OpenSpec.ofChange chunkTellsSpec)

/-- ITS FALSE NEIGHBOUR: 'it returns false'. Refute it at one input. -/
def chunkTellsWrong : ChangeSpec := { name := "chunkTells", fn := fun _ => fun
  | [d1, d2, d3, d4, d5] => { results := [.lit (.bool false)], args := [d1, d2, d3, d4, d5] }
  | _ => none }
def ChunkTellsWrongFalsely : Prop := chunkTellsRow.holds Try.pinned (OpenSpec.ofChange chunkTellsWrong)

/-- 'symbolonlaw14.ChunkBack': WHATEVER THE INPUT: true; the input reads as it did. -/
def chunkBackSpec : ChangeSpec := { name := "chunkBack", fn := fun _ => fun
  | [d1, d2, d3] => { results := [.lit (.bool true)], args := [d1, d2, d3] }
  | _ => none }
def chunkBackRow : OpenClaim := { program := "ytfkgacjiccgdfaa", sum := "2852675622b7504685e56f96ed36a5962bff0a13657f1d655e1374e5b5be4254", func := "symbolon/symbolonlaw14.ChunkBack", spec := "chunkBack", unfollowed := true, recurses := true, apart := false }
def ChunkBackSaid : Prop := chunkBackRow.holds Try.pinned (OpenSpec.ofChange chunkBackSpec)

/-- ITS FALSE NEIGHBOUR: 'it returns false'. Refute it at one input. -/
def chunkBackWrong : ChangeSpec := { name := "chunkBack", fn := fun _ => fun
  | [d1, d2, d3] => { results := [.lit (.bool false)], args := [d1, d2, d3] }
  | _ => none }
def ChunkBackWrongFalsely : Prop := chunkBackRow.holds Try.pinned (OpenSpec.ofChange chunkBackWrong)

/-- 'symbolonlaw14.ChunkWhole': WHATEVER THE INPUT: true; the input reads as it did. -/
def chunkWholeSpec : ChangeSpec := { name := "chunkWhole", fn := fun _ => fun
  | [d1, d2, d3, d4, d5] => { results := [.lit (.bool true)], args := [d1, d2, d3, d4, d5] }
  | _ => none }
def chunkWholeRow : OpenClaim := { program := "ytfkgacjiccgdfaa", sum := "2852675622b7504685e56f96ed36a5962bff0a13657f1d655e1374e5b5be4254", func := "symbolon/symbolonlaw14.ChunkWhole", spec := "chunkWhole", unfollowed := true, recurses := true, apart := false }
def ChunkWholeSaid : Prop := chunkWholeRow.holds Try.pinned (OpenSpec.ofChange chunkWholeSpec)

/-- ITS FALSE NEIGHBOUR: 'it returns false'. Refute it at one input. -/
def chunkWholeWrong : ChangeSpec := { name := "chunkWhole", fn := fun _ => fun
  | [d1, d2, d3, d4, d5] => { results := [.lit (.bool false)], args := [d1, d2, d3, d4, d5] }
  | _ => none }
def ChunkWholeWrongFalsely : Prop := chunkWholeRow.holds Try.pinned (OpenSpec.ofChange chunkWholeWrong)

/-- 'symbolonlaw14.ChunkLacks': WHATEVER THE INPUT: true; the input reads as it did. -/
def chunkLacksSpec : ChangeSpec := { name := "chunkLacks", fn := fun _ => fun
  | [d1, d2, d3] => { results := [.lit (.bool true)], args := [d1, d2, d3] }
  | _ => none }
def chunkLacksRow : OpenClaim := { program := "ytfkgacjiccgdfaa", sum := "2852675622b7504685e56f96ed36a5962bff0a13657f1d655e1374e5b5be4254", func := "symbolon/symbolonlaw14.ChunkLacks", spec := "chunkLacks", unfollowed := true, recurses := true, apart := false }
def ChunkLacksSaid : Prop := chunkLacksRow.holds Try.pinned (OpenSpec.ofChange chunkLacksSpec)

/-- ITS FALSE NEIGHBOUR: 'it returns false'. Refute it at one input. -/
def chunkLacksWrong : ChangeSpec := { name := "chunkLacks", fn := fun _ => fun
  | [d1, d2, d3] => { results := [.lit (.bool false)], args := [d1, d2, d3] }
  | _ => none }
def ChunkLacksWrongFalsely : Prop := chunkLacksRow.holds Try.pinned (OpenSpec.ofChange chunkLacksWrong)

/-- 'symbolonlaw14.ChunkFirst': WHATEVER THE INPUT: true; the input reads as it did. -/
def chunkFirstSpec : ChangeSpec := { name := "chunkFirst", fn := fun _ => fun
  | [d1, d2, d3, d4] => { results := [.lit (.bool true)], args := [d1, d2, d3, d4] }
  | _ => none }
def chunkFirstRow : OpenClaim := { program := "ytfkgacjiccgdfaa", sum := "2852675622b7504685e56f96ed36a5962bff0a13657f1d655e1374e5b5be4254", func := "symbolon/symbolonlaw14.ChunkFirst", spec := "chunkFirst", unfollowed := true, recurses := true, apart := false }
def ChunkFirstSaid : Prop := chunkFirstRow.holds Try.pinned (OpenSpec.ofChange chunkFirstSpec)

/-- ITS FALSE NEIGHBOUR: 'it returns false'. Refute it at one input. -/
def chunkFirstWrong : ChangeSpec := { name := "chunkFirst", fn := fun _ => fun
  | [d1, d2, d3, d4] => { results := [.lit (.bool false)], args := [d1, d2, d3, d4] }
  | _ => none }
def ChunkFirstWrongFalsely : Prop := chunkFirstRow.holds Try.pinned (OpenSpec.ofChange chunkFirstWrong)

/-- 'symbolonlaw14.ChunkCuts': WHATEVER THE INPUT: true; the input reads as it did. -/
def chunkCutsSpec : ChangeSpec := { name := "chunkCuts", fn := fun _ => fun
  | [d1, d2, d3] => { results := [.lit (.bool true)], args := [d1, d2, d3] }
  | _ => none }
def chunkCutsRow : OpenClaim := { program := "ytfkgacjiccgdfaa", sum := "2852675622b7504685e56f96ed36a5962bff0a13657f1d655e1374e5b5be4254", func := "symbolon/symbolonlaw14.ChunkCuts", spec := "chunkCuts", unfollowed := true, recurses := true, apart := false }
def ChunkCutsSaid : Prop := chunkCutsRow.holds Try.pinned (OpenSpec.ofChange chunkCutsSpec)

/-- ITS FALSE NEIGHBOUR: 'it returns false'. Refute it at one input. -/
def chunkCutsWrong : ChangeSpec := { name := "chunkCuts", fn := fun _ => fun
  | [d1, d2, d3] => { results := [.lit (.bool false)], args := [d1, d2, d3] }
  | _ => none }
def ChunkCutsWrongFalsely : Prop := chunkCutsRow.holds Try.pinned (OpenSpec.ofChange chunkCutsWrong)

/-- 'symbolonlaw14.ChunkSorts': WHATEVER THE INPUT: true; the input reads as it did. -/
def chunkSortsSpec : ChangeSpec := { name := "chunkSorts", fn := fun _ => fun
  | [d1, d2, d3, d4] => { results := [.lit (.bool true)], args := [d1, d2, d3, d4] }
  | _ => none }
def chunkSortsRow : OpenClaim := { program := "ytfkgacjiccgdfaa", sum := "2852675622b7504685e56f96ed36a5962bff0a13657f1d655e1374e5b5be4254", func := "symbolon/symbolonlaw14.ChunkSorts", spec := "chunkSorts", unfollowed := true, recurses := true, apart := false }
def ChunkSortsSaid : Prop := chunkSortsRow.holds Try.pinned (OpenSpec.ofChange chunkSortsSpec)

/-- ITS FALSE NEIGHBOUR: 'it returns false'. Refute it at one input. -/
def chunkSortsWrong : ChangeSpec := { name := "chunkSorts", fn := fun _ => fun
  | [d1, d2, d3, d4] => { results := [.lit (.bool false)], args := [d1, d2, d3, d4] }
  | _ => none }
def ChunkSortsWrongFalsely : Prop := chunkSortsRow.holds Try.pinned (OpenSpec.ofChange chunkSortsWrong)

/- THE SECOND FORM. 'bulk': how many values and letters a reading holds, each counted each time it is reached (what is shared counts as often as it is met; a slice's spare places count too). A statement '..UptoSaid' is the law's where the arguments, and the package variables that the reading takes, are together of bulk at most 1048576: NARROWER than '..Said'. Prove '..Said' where nothing that the law and all that it calls make is longer than what came in: it says more and counts as full. Else prove '..UptoSaid'. A law counts once. -/
mutual
def uptoBulk {H : Type} : DataW H → Nat
  | .lit (.string bytes) => bytes.length + 1
  | .lit _ => 1
  | .nil => 1
  | .ptr d => uptoBulk d + 1
  | .slice elems spare => uptoBulkAll elems + uptoBulkAll spare + 1
  | .agg parts => uptoBulkAll parts + 1
  | .iface _ d => uptoBulk d + 1
  | .map entries => uptoBulkEntries entries + 1
  | .held _ => 1
def uptoBulkAll {H : Type} : List (DataW H) → Nat
  | [] => 0
  | d :: r => uptoBulk d + uptoBulkAll r
def uptoBulkEntries {H : Type} : List (Lit × DataW H) → Nat
  | [] => 0
  | x :: r => uptoBulkEntry x + uptoBulkEntries r
def uptoBulkEntry {H : Type} : Lit × DataW H → Nat
  | (.string bytes, d) => bytes.length + uptoBulk d + 1
  | (_, d) => uptoBulk d + 1
 end
def uptoSmall : (H : Type) → List (DataW H) → Bool := fun _ ds => decide (uptoBulkAll ds ≤ 1048576)
def OpenSpec.upto (s : _root_.Go.ChangeSpec) : _root_.Go.OpenSpec := { _root_.Go.OpenSpec.ofChange s with cond := some uptoSmall }

/-- 'symbolonlaw14.ChunkTells', WHERE WHAT IT READS IS OF BULK AT MOST 1048576: true; the input reads as it did. -/
def chunkTellsUptoRow : OpenClaim := { program := "ytfkgacjiccgdfaa", sum := "2852675622b7504685e56f96ed36a5962bff0a13657f1d655e1374e5b5be4254", func := "symbolon/symbolonlaw14.ChunkTells", spec := "chunkTells", unfollowed := true, recurses := true, apart := false, narrowed := true }
def ChunkTellsUptoSaid : Prop := chunkTellsUptoRow.holds Try.pinned (OpenSpec.upto chunkTellsSpec)

/-- 'symbolonlaw14.ChunkBack', WHERE WHAT IT READS IS OF BULK AT MOST 1048576: true; the input reads as it did. -/
def chunkBackUptoRow : OpenClaim := { program := "ytfkgacjiccgdfaa", sum := "2852675622b7504685e56f96ed36a5962bff0a13657f1d655e1374e5b5be4254", func := "symbolon/symbolonlaw14.ChunkBack", spec := "chunkBack", unfollowed := true, recurses := true, apart := false, narrowed := true }
def ChunkBackUptoSaid : Prop := chunkBackUptoRow.holds Try.pinned (OpenSpec.upto chunkBackSpec)

/-- 'symbolonlaw14.ChunkWhole', WHERE WHAT IT READS IS OF BULK AT MOST 1048576: true; the input reads as it did. -/
def chunkWholeUptoRow : OpenClaim := { program := "ytfkgacjiccgdfaa", sum := "2852675622b7504685e56f96ed36a5962bff0a13657f1d655e1374e5b5be4254", func := "symbolon/symbolonlaw14.ChunkWhole", spec := "chunkWhole", unfollowed := true, recurses := true, apart := false, narrowed := true }
def ChunkWholeUptoSaid : Prop := chunkWholeUptoRow.holds Try.pinned (OpenSpec.upto chunkWholeSpec)

/-- 'symbolonlaw14.ChunkLacks', WHERE WHAT IT READS IS OF BULK AT MOST 1048576: true; the input reads as it did. -/
def chunkLacksUptoRow : OpenClaim := { program := "ytfkgacjiccgdfaa", sum := "2852675622b7504685e56f96ed36a5962bff0a13657f1d655e1374e5b5be4254", func := "symbolon/symbolonlaw14.ChunkLacks", spec := "chunkLacks", unfollowed := true, recurses := true, apart := false, narrowed := true }
def ChunkLacksUptoSaid : Prop := chunkLacksUptoRow.holds Try.pinned (OpenSpec.upto chunkLacksSpec)

/-- 'symbolonlaw14.ChunkFirst', WHERE WHAT IT READS IS OF BULK AT MOST 1048576: true; the input reads as it did. -/
def chunkFirstUptoRow : OpenClaim := { program := "ytfkgacjiccgdfaa", sum := "2852675622b7504685e56f96ed36a5962bff0a13657f1d655e1374e5b5be4254", func := "symbolon/symbolonlaw14.ChunkFirst", spec := "chunkFirst", unfollowed := true, recurses := true, apart := false, narrowed := true }
def ChunkFirstUptoSaid : Prop := chunkFirstUptoRow.holds Try.pinned (OpenSpec.upto chunkFirstSpec)

/-- 'symbolonlaw14.ChunkCuts', WHERE WHAT IT READS IS OF BULK AT MOST 1048576: true; the input reads as it did. -/
def chunkCutsUptoRow : OpenClaim := { program := "ytfkgacjiccgdfaa", sum := "2852675622b7504685e56f96ed36a5962bff0a13657f1d655e1374e5b5be4254", func := "symbolon/symbolonlaw14.ChunkCuts", spec := "chunkCuts", unfollowed := true, recurses := true, apart := false, narrowed := true }
def ChunkCutsUptoSaid : Prop := chunkCutsUptoRow.holds Try.pinned (OpenSpec.upto chunkCutsSpec)

/-- 'symbolonlaw14.ChunkSorts', WHERE WHAT IT READS IS OF BULK AT MOST 1048576: true; the input reads as it did. -/
def chunkSortsUptoRow : OpenClaim := { program := "ytfkgacjiccgdfaa", sum := "2852675622b7504685e56f96ed36a5962bff0a13657f1d655e1374e5b5be4254", func := "symbolon/symbolonlaw14.ChunkSorts", spec := "chunkSorts", unfollowed := true, recurses := true, apart := false, narrowed := true }
def ChunkSortsUptoSaid : Prop := chunkSortsUptoRow.holds Try.pinned (OpenSpec.upto chunkSortsSpec)

end Rows
end Go.Proofs.Ytfkgacjiccgdfaa
