/-
The live question 'head' of layer 12 answers true, at every number of rounds from 20 on. No condition.
-/
import Derived.Test.YtgbabmenfegepaaQ10
namespace Go.Proofs.Ytgbabmenfegepaa.Pure
open Go.RowKit Go.Proofs.YtgbabmenfegepaaW.PrintWords Go.Proofs.Ytgbabmenfegepaa.Q
theorem head20 : symbolonlaw12_head.f 20 = some true := by decide +kernel
theorem head_true : ∀ k, 20 ≤ k → symbolonlaw12_head.f k = some true := fun _ hk => at_rounds symbolonlaw12_head.mono hk head20
end Go.Proofs.Ytgbabmenfegepaa.Pure
