/-
The plain law of ShapeTurns: with rows and columns changed for one another what comes of windows and blocks is so, too; the size stays. Condition: none.
-/
import Derived.Test.YthoahkpbbepneaaQ21
import Derived.Test.YthoahkpbbepneaaBHead
import Derived.Test.YthoahkpbbepneaaBNum
set_option linter.unusedSimpArgs false
namespace Go.Proofs.Ythoahkpbbepneaa.Pure
open Go.RowKit Go.Proofs.YthoahkpbbepneaaW.PrintWords Go.Proofs.Ythoahkpbbepneaa.Q

theorem ok_turn {c h x : Int} : okS c h x ↔ okS c x h := by
  have e : c * h * x = c * x * h := by rw [Int.mul_assoc, Int.mul_comm h x, Int.mul_assoc]
  unfold okS
  rw [e]
  omega
theorem conv_turn (c h x out size step : Int) : convS c x h out size step = ((convS c h x out size step).1, (convS c h x out size step).2.2.1, (convS c h x out size step).2.1, (convS c h x out size step).2.2.2) := by
  unfold convS
  by_cases k : okS c h x ∧ okS out (sdS h size step) (sdS x size step)
  · rw [if_pos k, if_pos ⟨ok_turn.1 k.1, ok_turn.1 k.2⟩]
  · rw [if_neg k, if_neg (fun z => k ⟨ok_turn.1 z.1, ok_turn.1 z.2⟩)]
theorem pool_turn (c h x size : Int) : poolS c x h size = ((poolS c h x size).1, (poolS c h x size).2.2.1, (poolS c h x size).2.1, (poolS c h x size).2.2.2) := by
  unfold poolS
  by_cases k : okS c h x ∧ okS c (psS h size) (psS x size)
  · rw [if_pos k, if_pos ⟨ok_turn.1 k.1, ok_turn.1 k.2⟩]
  · rw [if_neg k, if_neg (fun z => k ⟨ok_turn.1 z.1, ok_turn.1 z.2⟩)]
theorem size_turn (c h x : Int) : sizeS c x h = sizeS c h x := by
  have e : c * h * x = c * x * h := by rw [Int.mul_assoc, Int.mul_comm h x, Int.mul_assoc]
  unfold sizeS
  by_cases k : okS c h x
  · rw [if_pos k, if_pos (ok_turn.1 k), e]
  · rw [if_neg k, if_neg (fun z => k (ok_turn.1 z))]
theorem ShapeTurns : symbolonlaw02_ShapeTurns.Pure := by
  intro c h x out size step _ _ _ _ _ _
  unfold symbolonlaw02_ShapeTurns.f
  rw [head_true]
  simp only [conv_tells, pool_tells, right_tells, size_tells, Option.bind_some, if_true]
  rw [conv_turn c h x, pool_turn c h x, size_turn c h x, show decide (okS c x h) = decide (okS c h x) from decide_eq_decide.2 ok_turn.symm]
  simp
end Go.Proofs.Ythoahkpbbepneaa.Pure
