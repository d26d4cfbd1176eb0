-- Laid by a program of this session (wip/myprint.py) in the form of the kit's print; a text of this claim, checked by Lean like any other.
import Derived.Test.YtfjdlllmpgknpaaDoorQ0
import Derived.Test.YtfjdlllmpgknpaaDoorSTabs
import Derived.Test.YtfjdlllmpgknpaaDoorSGet
namespace Go.Proofs.YtfjdlllmpgknpaaDoor.Q
open Go.RowKit Go.Proofs.YtfjdlllmpgknpaaDoorW.PrintWords Go.Proofs.YtfjdlllmpgknpaaDoorW.PrintLast Go.Proofs.YtfjdlllmpgknpaaDoorW.PrintMore
attribute [local go_sem] max2_int min2_int max_two min_two max_three min_three max_four min_four   -- for this text's walks alone
set_option linter.unusedVariables false
set_option linter.unusedSimpArgs false

/-! ### text_Get: function 11 (by hand) -/
-- IMPORT Derived.Test.YtfjdlllmpgknpaaDoorSGet
def text_Get.f (a0 : ByteArray) : Option (Int × Bool) := S.get a0
theorem text_Get.calls (a0 : ByteArray) (r1 : Int) (r2 : Bool) (w : World) (h : text_Get.f a0 = some (r1, r2)) (hT : S.Tabs w) :
    Calls Tryd.prog 11 #[.string a0] w fun e w' => e = .returned (.tuple #[.int .i64 r1, .bool r2]) ∧ Below w.heap.size w w' := S.get_calls a0 r1 r2 w h hT

end Go.Proofs.YtfjdlllmpgknpaaDoor.Q
