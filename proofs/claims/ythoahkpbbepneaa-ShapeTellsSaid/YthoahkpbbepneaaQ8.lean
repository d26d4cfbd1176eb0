-- Laid by a program of this session (wip/myprint.py) in the form of the kit's print; a text of this claim, checked by Lean like any other.
import Derived.Test.YthoahkpbbepneaaQ0
import Derived.Test.YthoahkpbbepneaaSPool
namespace Go.Proofs.Ythoahkpbbepneaa.Q
open Go.RowKit Go.Proofs.YthoahkpbbepneaaW.PrintWords Go.Proofs.YthoahkpbbepneaaW.PrintLast Go.Proofs.YthoahkpbbepneaaW.PrintMore
attribute [local go_sem] max2_int min2_int max_two min_two max_three min_three max_four min_four   -- for this text's walks alone
set_option linter.unusedVariables false
set_option linter.unusedSimpArgs false

/-! ### shape_Pool: function 15 (by hand) -/
-- IMPORT Derived.Test.YthoahkpbbepneaaSPool
def shape_Pool.f (a0_0 : Int) (a0_1 : Int) (a0_2 : Int) (a1 : Int) : Option (Int × Int × Int × Bool) := S.pool a0_0 a0_1 a0_2 a1
theorem shape_Pool.calls (a0_0 : Int) (a0_1 : Int) (a0_2 : Int) (a1 : Int) (r1 : Int) (r2 : Int) (r3 : Int) (r4 : Bool) (w : World) (h : shape_Pool.f a0_0 a0_1 a0_2 a1 = some (r1, r2, r3, r4)) :
    Calls Try.prog 15 #[.agg #[.int .i64 a0_0, .int .i64 a0_1, .int .i64 a0_2], .int .i64 a1] w fun e w' => e = .returned (.tuple #[.agg #[.int .i64 r1, .int .i64 r2, .int .i64 r3], .bool r4]) ∧ Below w.heap.size w w' := S.pool_calls a0_0 a0_1 a0_2 a1 r1 r2 r3 r4 w h

end Go.Proofs.Ythoahkpbbepneaa.Q
