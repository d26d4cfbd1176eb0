-- Laid by a program of this session (wip/myprint.py) in the form of the kit's print; a text of this claim, checked by Lean like any other.
import Derived.Test.YthoahkpbbepneaaQ0
import Derived.Test.YthoahkpbbepneaaSConv
namespace Go.Proofs.Ythoahkpbbepneaa.Q
open Go.RowKit Go.Proofs.YthoahkpbbepneaaW.PrintWords Go.Proofs.YthoahkpbbepneaaW.PrintLast Go.Proofs.YthoahkpbbepneaaW.PrintMore
attribute [local go_sem] max2_int min2_int max_two min_two max_three min_three max_four min_four   -- for this text's walks alone
set_option linter.unusedVariables false
set_option linter.unusedSimpArgs false

/-! ### shape_Conv: function 13 (by hand) -/
-- IMPORT Derived.Test.YthoahkpbbepneaaSConv
def shape_Conv.f (a0_0 : Int) (a0_1 : Int) (a0_2 : Int) (a1 : Int) (a2 : Int) (a3 : Int) : Option (Int × Int × Int × Bool) := S.conv a0_0 a0_1 a0_2 a1 a2 a3
theorem shape_Conv.calls (a0_0 : Int) (a0_1 : Int) (a0_2 : Int) (a1 : Int) (a2 : Int) (a3 : Int) (r1 : Int) (r2 : Int) (r3 : Int) (r4 : Bool) (w : World) (h : shape_Conv.f a0_0 a0_1 a0_2 a1 a2 a3 = some (r1, r2, r3, r4)) :
    Calls Try.prog 13 #[.agg #[.int .i64 a0_0, .int .i64 a0_1, .int .i64 a0_2], .int .i64 a1, .int .i64 a2, .int .i64 a3] w fun e w' => e = .returned (.tuple #[.agg #[.int .i64 r1, .int .i64 r2, .int .i64 r3], .bool r4]) ∧ Below w.heap.size w w' := S.conv_calls a0_0 a0_1 a0_2 a1 a2 a3 r1 r2 r3 r4 w h

end Go.Proofs.Ythoahkpbbepneaa.Q
