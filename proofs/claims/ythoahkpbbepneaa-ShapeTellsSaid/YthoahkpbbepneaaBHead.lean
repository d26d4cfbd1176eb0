/-
The live question 'head' of layer 2 answers true. No condition.
-/
import Derived.Test.YthoahkpbbepneaaQ10
set_option linter.unusedSimpArgs false
namespace Go.Proofs.Ythoahkpbbepneaa.Pure
open Go.RowKit Go.Proofs.YthoahkpbbepneaaW.PrintWords Go.Proofs.Ythoahkpbbepneaa.Q
theorem head_true : symbolonlaw02_head.f = some true := by decide +kernel
end Go.Proofs.Ythoahkpbbepneaa.Pure
