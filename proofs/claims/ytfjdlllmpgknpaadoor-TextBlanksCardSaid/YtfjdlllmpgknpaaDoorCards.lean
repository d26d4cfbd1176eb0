/-
  DERIVED. GIVEN WITH THE SEED: THE CARDS: each row of YtfjdlllmpgknpaaDoorRows.lean that lists a variable, with what it lists TIED to the program's text (the seventh form; the later family's looks); each row that meets fmt, with fmt's text TOLD by the authors' own Lean function (tested against real Go, not proved from fmt's source: count such statements apart). THE CARD IS WHAT COUNTS. Prove the row's statement (the work); the ties are given (YtfjdlllmpgknpaaDoorTie.lean); close each card by the builder's one call (the guide's Derived/Test/ToyasCard.lean, 'card_holds'). Laid BY PROGRAM, IN A SANDBOX (cutbox-door.mjs). By AI agents, Wed Nov 11 2026. No macro, syntax, notation, axiom, sorry.
-/
import Derived.Test.YtfjdlllmpgknpaaDoorRows
import GoSem.ClaimSeven
namespace Go.Proofs.YtfjdlllmpgknpaaDoor
namespace Rows

/-- THE TIED CARD OF 'symbolonlaw03.TextTells'. -/
def textTellsCard : Claim7 := { stood := { row := textTellsRow, standIns := [], harness := (true, "01237703d6bf3620fd5a64fecfe660e625725eb4e475c2d1c5ba5e36afd2936e"), looks := true }, kinds := [], alts := [], laidByText := true, laidKinds := [.data, .data, .data, .data, .sentinel, .sentinel, .pinned], laidTests := true, laidLooks := .later }
def TextTellsCardSaid : Prop := Claim7.holds Tryd.pinned (.plain (OpenSpec.ofChange textTellsSpec)) textTellsCard

/-- THE TIED CARD OF 'symbolonlaw03.TextNumbers'. -/
def textNumbersCard : Claim7 := { stood := { row := textNumbersRow, standIns := [], harness := (true, "01237703d6bf3620fd5a64fecfe660e625725eb4e475c2d1c5ba5e36afd2936e"), looks := true }, kinds := [], alts := [], laidByText := true, laidKinds := [.data, .data, .data, .data, .sentinel, .sentinel, .pinned], laidTests := true, laidLooks := .later }
def TextNumbersCardSaid : Prop := Claim7.holds Tryd.pinned (.plain (OpenSpec.ofChange textNumbersSpec)) textNumbersCard

/-- THE TIED CARD OF 'symbolonlaw03.TextWords'. -/
def textWordsCard : Claim7 := { stood := { row := textWordsRow, standIns := [], harness := (true, "01237703d6bf3620fd5a64fecfe660e625725eb4e475c2d1c5ba5e36afd2936e"), looks := true }, kinds := [], alts := [], laidByText := true, laidKinds := [.data, .data, .data, .data, .sentinel, .sentinel, .pinned], laidTests := true, laidLooks := .later }
def TextWordsCardSaid : Prop := Claim7.holds Tryd.pinned (.plain (OpenSpec.ofChange textWordsSpec)) textWordsCard

/-- THE TIED CARD OF 'symbolonlaw03.TextLines'. -/
def textLinesCard : Claim7 := { stood := { row := textLinesRow, standIns := [], harness := (true, "01237703d6bf3620fd5a64fecfe660e625725eb4e475c2d1c5ba5e36afd2936e"), looks := true }, kinds := [], alts := [], laidByText := true, laidKinds := [.data, .data, .data, .data, .sentinel, .sentinel, .pinned], laidTests := true, laidLooks := .later }
def TextLinesCardSaid : Prop := Claim7.holds Tryd.pinned (.plain (OpenSpec.ofChange textLinesSpec)) textLinesCard

/-- THE TIED CARD OF 'symbolonlaw03.TextBlanks'. -/
def textBlanksCard : Claim7 := { stood := { row := textBlanksRow, standIns := [], harness := (true, "01237703d6bf3620fd5a64fecfe660e625725eb4e475c2d1c5ba5e36afd2936e"), looks := true }, kinds := [], alts := [], laidByText := true, laidKinds := [.data, .data, .data, .data, .sentinel, .sentinel, .pinned], laidTests := true, laidLooks := .later }
def TextBlanksCardSaid : Prop := Claim7.holds Tryd.pinned (.plain (OpenSpec.ofChange textBlanksSpec)) textBlanksCard

/-- THE TIED CARD OF 'symbolonlaw03.TextFits'. -/
def textFitsCard : Claim7 := { stood := { row := textFitsRow, standIns := [], harness := (true, "01237703d6bf3620fd5a64fecfe660e625725eb4e475c2d1c5ba5e36afd2936e"), looks := true }, kinds := [], alts := [], laidByText := true, laidKinds := [.data, .data, .data, .data, .sentinel, .sentinel, .pinned], laidTests := true, laidLooks := .later }
def TextFitsCardSaid : Prop := Claim7.holds Tryd.pinned (.plain (OpenSpec.ofChange textFitsSpec)) textFitsCard

/-- THE SECOND FORM's CARD OF 'symbolonlaw03.TextTells'. -/
def textTellsUptoCard : Claim7 := { stood := { row := textTellsUptoRow, standIns := [], harness := (true, "01237703d6bf3620fd5a64fecfe660e625725eb4e475c2d1c5ba5e36afd2936e"), looks := true }, kinds := [], alts := [], laidByText := true, laidKinds := [.data, .data, .data, .data, .sentinel, .sentinel, .pinned], laidTests := true, laidLooks := .later }
def TextTellsUptoCardSaid : Prop := Claim7.holds Tryd.pinned (.plain (OpenSpec.upto textTellsSpec)) textTellsUptoCard

/-- THE SECOND FORM's CARD OF 'symbolonlaw03.TextNumbers'. -/
def textNumbersUptoCard : Claim7 := { stood := { row := textNumbersUptoRow, standIns := [], harness := (true, "01237703d6bf3620fd5a64fecfe660e625725eb4e475c2d1c5ba5e36afd2936e"), looks := true }, kinds := [], alts := [], laidByText := true, laidKinds := [.data, .data, .data, .data, .sentinel, .sentinel, .pinned], laidTests := true, laidLooks := .later }
def TextNumbersUptoCardSaid : Prop := Claim7.holds Tryd.pinned (.plain (OpenSpec.upto textNumbersSpec)) textNumbersUptoCard

/-- THE SECOND FORM's CARD OF 'symbolonlaw03.TextWords'. -/
def textWordsUptoCard : Claim7 := { stood := { row := textWordsUptoRow, standIns := [], harness := (true, "01237703d6bf3620fd5a64fecfe660e625725eb4e475c2d1c5ba5e36afd2936e"), looks := true }, kinds := [], alts := [], laidByText := true, laidKinds := [.data, .data, .data, .data, .sentinel, .sentinel, .pinned], laidTests := true, laidLooks := .later }
def TextWordsUptoCardSaid : Prop := Claim7.holds Tryd.pinned (.plain (OpenSpec.upto textWordsSpec)) textWordsUptoCard

/-- THE SECOND FORM's CARD OF 'symbolonlaw03.TextLines'. -/
def textLinesUptoCard : Claim7 := { stood := { row := textLinesUptoRow, standIns := [], harness := (true, "01237703d6bf3620fd5a64fecfe660e625725eb4e475c2d1c5ba5e36afd2936e"), looks := true }, kinds := [], alts := [], laidByText := true, laidKinds := [.data, .data, .data, .data, .sentinel, .sentinel, .pinned], laidTests := true, laidLooks := .later }
def TextLinesUptoCardSaid : Prop := Claim7.holds Tryd.pinned (.plain (OpenSpec.upto textLinesSpec)) textLinesUptoCard

/-- THE SECOND FORM's CARD OF 'symbolonlaw03.TextBlanks'. -/
def textBlanksUptoCard : Claim7 := { stood := { row := textBlanksUptoRow, standIns := [], harness := (true, "01237703d6bf3620fd5a64fecfe660e625725eb4e475c2d1c5ba5e36afd2936e"), looks := true }, kinds := [], alts := [], laidByText := true, laidKinds := [.data, .data, .data, .data, .sentinel, .sentinel, .pinned], laidTests := true, laidLooks := .later }
def TextBlanksUptoCardSaid : Prop := Claim7.holds Tryd.pinned (.plain (OpenSpec.upto textBlanksSpec)) textBlanksUptoCard

/-- THE SECOND FORM's CARD OF 'symbolonlaw03.TextFits'. -/
def textFitsUptoCard : Claim7 := { stood := { row := textFitsUptoRow, standIns := [], harness := (true, "01237703d6bf3620fd5a64fecfe660e625725eb4e475c2d1c5ba5e36afd2936e"), looks := true }, kinds := [], alts := [], laidByText := true, laidKinds := [.data, .data, .data, .data, .sentinel, .sentinel, .pinned], laidTests := true, laidLooks := .later }
def TextFitsUptoCardSaid : Prop := Claim7.holds Tryd.pinned (.plain (OpenSpec.upto textFitsSpec)) textFitsUptoCard
end Rows
end Go.Proofs.YtfjdlllmpgknpaaDoor
