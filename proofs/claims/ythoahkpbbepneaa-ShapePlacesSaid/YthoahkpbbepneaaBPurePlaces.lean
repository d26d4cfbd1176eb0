/-
The plain law of ShapePlaces: places and channels, rows, columns tell one another, one by one; there are just as many as the size says. Condition: none.
-/
import Derived.Test.YthoahkpbbepneaaQ18
import Derived.Test.YthoahkpbbepneaaBHead
import Derived.Test.YthoahkpbbepneaaBNum
import Derived.Test.YthoahkpbbepneaaBPlaces
set_option linter.unusedSimpArgs false
namespace Go.Proofs.Ythoahkpbbepneaa.Pure
open Go.RowKit Go.Proofs.YthoahkpbbepneaaW.PrintWords Go.Proofs.Ythoahkpbbepneaa.Q

theorem mx_one {n : Int} (h : 0 ≤ n) : mx n 1 = if n = 0 then 1 else n := by
  unfold mx
  split <;> split <;> omega
theorem ShapePlaces : symbolonlaw02_ShapePlaces.Pure := by
  intro c h x a b d i _ _ _ _ _ _ _
  refine ⟨3, ?_⟩
  unfold symbolonlaw02_ShapePlaces.f
  rw [head_true, at_tells, size_tells]
  simp only [Option.bind_some]
  have hs0 : 0 ≤ sizeS c h x := by
    unfold sizeS
    split
    · rename_i k
      have := ok_pos k
      omega
    · omega
  have last : symbolonlaw02_ShapePlaces.j1 2 i true (sizeS c h x) false c h x = some true := by
    by_cases k : okS c h x ∧ 0 ≤ i ∧ i < c * h * x
    · obtain ⟨k, i0, i1⟩ := k
      obtain ⟨u1, u2, u3, u4⟩ := at_of k i0 i1
      have eo : ofS c h x i = (i / x / h, i / x % h, i % x, true) := by unfold ofS; rw [if_pos ⟨k, i0, i1⟩]
      have e : atS c h x (i / x / h) (i / x % h) (i % x) = i := by
        unfold atS
        rw [if_pos ⟨k, u1, u2, u3⟩, u4]
      have es : sizeS c h x = c * h * x := by unfold sizeS; rw [if_pos k]
      simp [symbolonlaw02_ShapePlaces.j1, of_tells, eo, at_tells, e, es, i0, i1]
    · have eo : ofS c h x i = (0, 0, 0, false) := by unfold ofS; rw [if_neg k]
      have es : ¬ (0 ≤ i ∧ i < sizeS c h x) := by
        unfold sizeS
        split
        · rename_i k2
          intro z
          exact k ⟨k2, z⟩
        · omega
      by_cases i0 : 0 ≤ i
      · have i1 : ¬ i < sizeS c h x := fun z => es ⟨i0, z⟩
        simp [symbolonlaw02_ShapePlaces.j1, of_tells, eo, i0, i1]
      · simp [symbolonlaw02_ShapePlaces.j1, of_tells, eo, i0]
  have mid : symbolonlaw02_ShapePlaces.j0 3 a b d i true (atS c h x a b d) (sizeS c h x) false c h x = some true := by
    rw [show (3 : Nat) = 2 + 1 from rfl]
    by_cases k : okS c h x ∧ (0 ≤ a ∧ a < c) ∧ (0 ≤ b ∧ b < h) ∧ (0 ≤ d ∧ d < x)
    · have ea : atS c h x a b d = d + x * (b + h * a) := by unfold atS; rw [if_pos k]
      obtain ⟨k, ka, kb, kd⟩ := k
      obtain ⟨m0, m1, m2, m3, m4⟩ := at_in k ka kb kd
      obtain ⟨v1, v2, v3⟩ := of_at k ka kb kd
      have p0 : (0 : Int) ≤ d + x * (b + h * a) := by omega
      have eo : ofS c h x (d + x * (b + h * a)) = (a, b, d, true) := by unfold ofS; rw [if_pos ⟨k, p0, m4⟩, v1, v2, v3]
      rw [ea]
      simp [symbolonlaw02_ShapePlaces.j0, of_tells, eo, p0, last]
    · have ea : atS c h x a b d = -1 := by unfold atS; rw [if_neg k]
      have eo : ofS c h x (-1) = (0, 0, 0, false) := by unfold ofS; rw [if_neg (by omega)]
      rw [ea]
      simp [symbolonlaw02_ShapePlaces.j0, of_tells, eo, last]
  have r1 : -1 ≤ atS c h x a b d := by
    unfold atS
    split
    · rename_i k
      obtain ⟨k, ka, kb, kd⟩ := k
      have := at_in k ka kb kd
      omega
    · omega
  have r2 : ¬ (atS c h x a b d ≥ mx (sizeS c h x) 1) := by
    rw [mx_one hs0]
    by_cases k : okS c h x ∧ (0 ≤ a ∧ a < c) ∧ (0 ≤ b ∧ b < h) ∧ (0 ≤ d ∧ d < x)
    · have ea : atS c h x a b d = d + x * (b + h * a) := by unfold atS; rw [if_pos k]
      obtain ⟨k, ka, kb, kd⟩ := k
      have es : sizeS c h x = c * h * x := by unfold sizeS; rw [if_pos k]
      have := at_in k ka kb kd
      have := ok_pos k
      rw [ea, es, if_neg (by omega)]
      omega
    · have ea : atS c h x a b d = -1 := by unfold atS; rw [if_neg k]
      rw [ea]
      split <;> omega
  rw [if_neg (by omega), if_neg r2]
  by_cases p : atS c h x a b d ≥ 0
  · rw [if_pos p]
    have e : (sizeS c h x == 0) = false := by
      unfold atS at p
      unfold sizeS
      split at p
      · rename_i k
        have := ok_pos k.1
        rw [if_pos k.1, beq_eq_false_iff_ne]
        omega
      · omega
    rw [e]
    exact mid
  · rw [if_neg p]
    exact mid
end Go.Proofs.Ythoahkpbbepneaa.Pure
