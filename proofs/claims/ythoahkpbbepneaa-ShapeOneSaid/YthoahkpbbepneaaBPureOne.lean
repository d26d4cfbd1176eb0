/-
The plain law of ShapeOne: windows of one number, one by one, are the picture with other channels; the greatest window is one. Condition: a number of channels below 256.
-/
import Derived.Test.YthoahkpbbepneaaQ22
import Derived.Test.YthoahkpbbepneaaBHead
import Derived.Test.YthoahkpbbepneaaBNum
set_option linter.unusedSimpArgs false
namespace Go.Proofs.Ythoahkpbbepneaa.Pure
open Go.RowKit Go.Proofs.YthoahkpbbepneaaW.PrintWords Go.Proofs.Ythoahkpbbepneaa.Q

theorem bd8 {a : Int} (h : (Lit.int .u8 a).wf = true) : 0 ≤ a ∧ a < 256 := by
  simp only [Lit.wf, Bool.and_eq_true, decide_eq_true_eq] at h
  have h1 : IntKind.u8.min = 0 := rfl
  have h2 : IntKind.u8.max = 255 := rfl
  omega
theorem sd_one {n : Int} (h : 1 ≤ n) : sdS n 1 1 = n := by
  unfold sdS
  rw [if_pos ⟨⟨by omega, by omega⟩, by omega, by omega⟩, Int.ediv_one]
  omega
theorem sd_great {n m : Int} (h1 : 1 ≤ m) (h2 : m ≤ n) (h3 : n ≤ 12) : sdS n m 12 = 1 := by
  unfold sdS
  rw [if_pos ⟨⟨h1, h2⟩, by omega, by omega⟩]
  omega
theorem ShapeOne : symbolonlaw02_ShapeOne.Pure := by
  intro c h x o _ _ _ ho
  have hb := bd8 ho
  unfold symbolonlaw02_ShapeOne.f
  have hn : wrap64 ((Int.tmod (wrap64 o) 8) + 1) = o % 8 + 1 := by
    rw [w_id (a := o) (by omega) (by omega), Int.tmod_eq_emod_of_nonneg (by omega), w_id (by omega) (by omega)]
  rw [hn, head_true, conv_tells, conv_tells, right_tells]
  obtain ⟨n, hn2⟩ : ∃ n, n = o % 8 + 1 := ⟨_, rfl⟩
  rw [← hn2]
  have n1 : 1 ≤ n := by omega
  have n8 : n ≤ 8 := by omega
  simp only [Option.bind_some]
  by_cases k : okS c h x
  · have kk := k
    obtain ⟨k1, k2, k3, k4, k5, k6, k7⟩ := kk
    have m1 : 1 ≤ mn h x ∧ mn h x ≤ h ∧ mn h x ≤ x := by unfold mn; split <;> omega
    have ek : okS n 1 1 := ⟨n1, n8, by omega, by omega, by omega, by omega, by omega⟩
    have e2 : convS c h x n (mn h x) 12 = (n, 1, 1, true) := by
      unfold convS
      rw [sd_great m1.1 m1.2.1 k4, sd_great m1.1 m1.2.2 k6, if_pos ⟨k, ek⟩]
    rw [e2, decide_eq_true k]
    have e1 : convS c h x n 1 1 = if n * h * x ≤ 128 then (n, h, x, true) else (0, 0, 0, false) := by
      unfold convS
      rw [sd_one k3, sd_one k5]
      by_cases f : n * h * x ≤ 128
      · rw [if_pos ⟨k, n1, n8, k3, k4, k5, k6, f⟩, if_pos f]
      · rw [if_neg (fun z => f z.2.2.2.2.2.2.2), if_neg f]
    rw [e1, ww n1 n8 k3 k4 k5 k6]
    by_cases f : n * h * x ≤ 128
    · simp [f]
    · simp [f]
  · have e : ∀ size step, convS c h x n size step = (0, 0, 0, false) := fun size step => by
      unfold convS
      rw [if_neg (fun z => k z.1)]
    rw [e, e, decide_eq_false k]
    simp
end Go.Proofs.Ythoahkpbbepneaa.Pure
