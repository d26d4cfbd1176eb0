/-
The plain law of ShapePool: a Pool's blocks are all of the picture, none of them cut; blocks of one number are the picture. Condition: each given number is an int.
-/
import Derived.Test.YthoahkpbbepneaaQ20
import Derived.Test.YthoahkpbbepneaaBHead
import Derived.Test.YthoahkpbbepneaaBNum
set_option linter.unusedSimpArgs false
namespace Go.Proofs.Ythoahkpbbepneaa.Pure
open Go.RowKit Go.Proofs.YthoahkpbbepneaaW.PrintWords Go.Proofs.Ythoahkpbbepneaa.Q

theorem ps_range {n size : Int} (h1 : 1 ≤ n) (h2 : n ≤ 12) (h : 1 ≤ psS n size) : 1 ≤ size ∧ psS n size * size = n ∧ psS n size ≤ 12 ∧ size ≤ 12 := by
  unfold psS at h ⊢
  by_cases k : 1 ≤ size ∧ n % size = 0
  · rw [if_pos k] at h ⊢
    obtain ⟨a1, a2⟩ := k
    have e : n / size * size = n := Int.ediv_mul_cancel (Int.dvd_of_emod_eq_zero a2)
    have e2 : n / size ≤ n := Int.ediv_le_self _ (by omega)
    have e3 : 1 * size ≤ n / size * size := Int.mul_le_mul_of_nonneg_right h (by omega)
    omega
  · rw [if_neg k] at h
    omega
theorem ps_one {n : Int} : psS n 1 = n := by
  unfold psS
  rw [if_pos ⟨by omega, by omega⟩, Int.ediv_one]
theorem pool_one (c h x : Int) : poolS c h x 1 = if okS c h x then (c, h, x, true) else (0, 0, 0, false) := by
  unfold poolS
  rw [ps_one, ps_one]
  by_cases k : okS c h x
  · rw [if_pos ⟨k, k⟩, if_pos k]
  · rw [if_neg (fun z => k z.1), if_neg k]
theorem ShapePool : symbolonlaw02_ShapePool.Pure := by
  intro c h x size hc hh hx _
  refine ⟨2, ?_⟩
  unfold symbolonlaw02_ShapePool.f
  rw [head_true, pool_tells, pool_tells, right_tells, pool_one]
  simp only [Option.bind_some]
  have main : symbolonlaw02_ShapePool.j0 2 size true (poolS c h x size).2.2.2 false c h x (poolS c h x size).1 (poolS c h x size).2.1 (poolS c h x size).2.2.1 = some true := by
    unfold poolS
    by_cases k : okS c h x ∧ okS c (psS h size) (psS x size)
    · rw [if_pos k]
      obtain ⟨p, q⟩ := k
      have pp := p
      have qq := q
      obtain ⟨k1, k2, k3, k4, k5, k6, k7⟩ := pp
      obtain ⟨q1, q2, q3, q4, q5, q6, q7⟩ := qq
      obtain ⟨s1, s2, s3, s4⟩ := ps_range k3 k4 q3
      obtain ⟨t1, t2, t3, t4⟩ := ps_range k5 k6 q5
      simp only [symbolonlaw02_ShapePool.j0, if_true, right_tells, size_tells, Option.bind_some, decide_eq_true q]
      rw [s2, t2, w_id (a := h) (by omega) (by omega), w_id (a := x) (by omega) (by omega)]
      unfold sizeS
      rw [if_pos p, if_pos q]
      have e : c * psS h size * psS x size * size * size = c * h * x := by
        have e1 : c * psS h size * psS x size * size * size = c * (psS h size * size) * (psS x size * size) := by grind
        rw [e1, s2, t2]
      have hn := ok_pos q
      have hp := ok_pos p
      have u0 : 0 ≤ c * psS h size * psS x size * size := Int.mul_nonneg (by omega) (by omega)
      have u1 : c * psS h size * psS x size * size ≤ 128 * 12 := Int.mul_le_mul hn.2 s4 (by omega) (by omega)
      rw [w_id (a := c * psS h size * psS x size * size) (by omega) (by omega), e, w_id (by omega) (by omega)]
      simp
    · rw [if_neg k]
      rfl
  by_cases k : okS c h x
  · rw [if_pos k, decide_eq_true k]
    simp only [bne_self_eq_false, if_true, beq_self_eq_true, Bool.not_true, Bool.or_self]
    exact main
  · rw [if_neg k, decide_eq_false k]
    exact main
end Go.Proofs.Ythoahkpbbepneaa.Pure
