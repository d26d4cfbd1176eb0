-- Laid by a program of this session (wip/myprint.py) in the form of the kit's print; a text of this claim, checked by Lean like any other.
import Derived.Test.YtfjdlllmpgknpaaDoorQ0
import Derived.Test.YtfjdlllmpgknpaaDoorSTabs
namespace Go.Proofs.YtfjdlllmpgknpaaDoor.Q
open Go.RowKit Go.Proofs.YtfjdlllmpgknpaaDoorW.PrintWords Go.Proofs.YtfjdlllmpgknpaaDoorW.PrintLast Go.Proofs.YtfjdlllmpgknpaaDoorW.PrintMore
attribute [local go_sem] max2_int min2_int max_two min_two max_three min_three max_four min_four   -- for this text's walks alone
set_option linter.unusedVariables false
set_option linter.unusedSimpArgs false

/-! ### strconv_Itoa_28: function 28 (by hand) -/
-- IMPORT Derived.Test.YtfjdlllmpgknpaaDoorSTabs
def strconv_Itoa_28.f (a0 : Int) : Option (ByteArray) := S.itoa a0
theorem strconv_Itoa_28.calls (a0 : Int) (r : ByteArray) (w : World) (h : strconv_Itoa_28.f a0 = some r) (hT : S.Tabs w) :
    Calls Tryd.prog 28 #[.int .i64 a0] w fun e w' => e = .returned (.string r) ∧ Below w.heap.size w w' := S.itoa_calls a0 r w h hT

end Go.Proofs.YtfjdlllmpgknpaaDoor.Q
