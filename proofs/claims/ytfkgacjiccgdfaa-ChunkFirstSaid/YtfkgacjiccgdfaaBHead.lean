/-
The live question 'head' of layer 14 answers true, at every number of rounds from 60 on. No condition.
-/
import Derived.Test.YtfkgacjiccgdfaaQ7
set_option linter.unusedSimpArgs false
namespace Go.Proofs.Ytfkgacjiccgdfaa.Pure
open Go.RowKit Go.Proofs.YtfkgacjiccgdfaaW.PrintWords Go.Proofs.Ytfkgacjiccgdfaa.Q
theorem head_60 : symbolonlaw14_head.f 60 = some true := by decide +kernel
theorem head_true : ∀ k, 60 ≤ k → symbolonlaw14_head.f k = some true := fun _ hk => at_rounds symbolonlaw14_head.mono hk head_60
end Go.Proofs.Ytfkgacjiccgdfaa.Pure
