-- Laid by a program of this session (wip/myprint.py) in the form of the kit's print; a text of this claim, checked by Lean like any other.
import Derived.Test.YtfjdlllmpgknpaaDoorQ0
import Derived.Test.YtfjdlllmpgknpaaDoorSTabs
import Derived.Test.YtfjdlllmpgknpaaDoorSLines
namespace Go.Proofs.YtfjdlllmpgknpaaDoor.Q
open Go.RowKit Go.Proofs.YtfjdlllmpgknpaaDoorW.PrintWords Go.Proofs.YtfjdlllmpgknpaaDoorW.PrintLast Go.Proofs.YtfjdlllmpgknpaaDoorW.PrintMore
attribute [local go_sem] max2_int min2_int max_two min_two max_three min_three max_four min_four   -- for this text's walks alone
set_option linter.unusedVariables false
set_option linter.unusedSimpArgs false

/-! ### text_Lines: function 15 (by hand) -/
-- IMPORT Derived.Test.YtfjdlllmpgknpaaDoorSLines
def text_Lines.f (a0 : ByteArray) : Option (List ByteArray × ByteArray) := S.lines a0
theorem text_Lines.calls (a0 : ByteArray) (r1 : List ByteArray) (r2 : ByteArray) (w : World) (h : text_Lines.f a0 = some (r1, r2)) (hT : S.Tabs w) :
    Calls Tryd.prog 15 #[.string a0] w fun e w' => ∃ v0_ : Value, e = .returned (.tuple #[v0_, .string r2]) ∧ S.Lr.R Kd.string 9 w' w.heap.size (fun _ => True) v0_ r1 ∧ Below w.heap.size w w' := S.lines_calls a0 r1 r2 w h hT

end Go.Proofs.YtfjdlllmpgknpaaDoor.Q
