/-
The plain law of ShapeConv: each window of a Conv lies within the picture, and there is no room for one more. Condition: each given number is an int.
-/
import Derived.Test.YthoahkpbbepneaaQ19
import Derived.Test.YthoahkpbbepneaaBHead
import Derived.Test.YthoahkpbbepneaaBNum
set_option linter.unusedSimpArgs false
namespace Go.Proofs.Ythoahkpbbepneaa.Pure
open Go.RowKit Go.Proofs.YthoahkpbbepneaaW.PrintWords Go.Proofs.Ythoahkpbbepneaa.Q

theorem sd_range {n size step : Int} (h1 : 1 ≤ n) (h2 : n ≤ 12) (h : 1 ≤ sdS n size step) : 1 ≤ size ∧ size ≤ n ∧ 1 ≤ step ∧ step ≤ 12 ∧ (sdS n size step - 1) * step + size ≤ n ∧ n < sdS n size step * step + size ∧ sdS n size step ≤ 12 := by
  unfold sdS at h ⊢
  by_cases k : (1 ≤ size ∧ size ≤ n) ∧ (1 ≤ step ∧ step ≤ 12)
  · rw [if_pos k] at h ⊢
    obtain ⟨⟨a1, a2⟩, a3, a4⟩ := k
    have e := Int.mul_ediv_add_emod (n - size) step
    have e0 := Int.emod_nonneg (n - size) (show step ≠ 0 by omega)
    have e1 := Int.emod_lt_of_pos (n - size) (show 0 < step by omega)
    have e2 : (n - size) / step ≤ n - size := Int.ediv_le_self _ (by omega)
    have e3 : ((n - size) / step + 1 - 1) * step = step * ((n - size) / step) := by rw [Int.add_sub_cancel, Int.mul_comm]
    have e4 : ((n - size) / step + 1) * step = step * ((n - size) / step) + step := by rw [Int.add_mul, Int.one_mul, Int.mul_comm]
    rw [e3, e4]
    omega
  · rw [if_neg k] at h
    omega
theorem ShapeConv : symbolonlaw02_ShapeConv.Pure := by
  intro c h x out size step hc hh hx _ _ _
  unfold symbolonlaw02_ShapeConv.f
  rw [head_true, conv_tells]
  simp only [Option.bind_some]
  unfold convS
  by_cases k : okS c h x ∧ okS out (sdS h size step) (sdS x size step)
  · rw [if_pos k]
    obtain ⟨⟨k1, k2, k3, k4, k5, k6, k7⟩, q⟩ := k
    have qq := q
    obtain ⟨q1, q2, q3, q4, q5, q6, q7⟩ := qq
    obtain ⟨s1, s2, s3, s4, s5, s6, s7⟩ := sd_range k3 k4 q3
    obtain ⟨t1, t2, t3, t4, t5, t6, t7⟩ := sd_range k5 k6 q5
    simp only [if_true, right_tells, Option.bind_some, decide_eq_true q]
    generalize sdS h size step = a at s5 s6 s7 q3 q4
    generalize sdS x size step = b at t5 t6 t7 q5 q6
    have a0 : 0 ≤ (a - 1) * step := Int.mul_nonneg (by omega) (by omega)
    have b0 : 0 ≤ (b - 1) * step := Int.mul_nonneg (by omega) (by omega)
    have a1 : a * step = (a - 1) * step + step := by rw [Int.sub_mul, Int.one_mul]; omega
    have b1 : b * step = (b - 1) * step + step := by rw [Int.sub_mul, Int.one_mul]; omega
    rw [w_id (a := a - 1) (by omega) (by omega), w_id (a := b - 1) (by omega) (by omega), w_id (a := (a - 1) * step) (by omega) (by omega), w_id (a := (b - 1) * step) (by omega) (by omega)]
    rw [w_id (a := a * step) (by omega) (by omega), w_id (a := b * step) (by omega) (by omega)]
    rw [w_id (a := (a - 1) * step + size) (by omega) (by omega), w_id (a := (b - 1) * step + size) (by omega) (by omega), w_id (a := a * step + size) (by omega) (by omega), w_id (a := b * step + size) (by omega) (by omega)]
    rw [if_pos (by omega), if_pos (by omega), if_pos (by omega), if_pos (by omega), if_pos (by omega), decide_eq_true (by omega)]
  · rw [if_neg k]
    rfl
end Go.Proofs.Ythoahkpbbepneaa.Pure
