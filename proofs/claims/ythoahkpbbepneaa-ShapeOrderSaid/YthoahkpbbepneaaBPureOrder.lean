/-
The plain law of ShapeOrder: of two places the lesser one is of an earlier channel, or of the same one and an earlier row, or of the same row and an earlier column. Condition: two numbers below 256.
-/
import Derived.Test.YthoahkpbbepneaaQ23
import Derived.Test.YthoahkpbbepneaaBHead
import Derived.Test.YthoahkpbbepneaaBNum
import Derived.Test.YthoahkpbbepneaaBPlaces
set_option linter.unusedSimpArgs false
namespace Go.Proofs.Ythoahkpbbepneaa.Pure
open Go.RowKit Go.Proofs.YthoahkpbbepneaaW.PrintWords Go.Proofs.Ythoahkpbbepneaa.Q

theorem bd8 {a : Int} (h : (Lit.int .u8 a).wf = true) : 0 ≤ a ∧ a < 256 := by
  simp only [Lit.wf, Bool.and_eq_true, decide_eq_true_eq] at h
  have h1 : IntKind.u8.min = 0 := rfl
  have h2 : IntKind.u8.max = 255 := rfl
  omega
theorem lex {q r m : Int} (hm : 0 < m) : (q < r) ↔ (q / m < r / m ∨ q / m = r / m ∧ q % m < r % m) := by
  have e1 := Int.emod_add_mul_ediv q m
  have e2 := Int.emod_add_mul_ediv r m
  have a0 := Int.emod_nonneg q (show m ≠ 0 by omega)
  have a1 := Int.emod_lt_of_pos q hm
  have b0 := Int.emod_nonneg r (show m ≠ 0 by omega)
  have b1 := Int.emod_lt_of_pos r hm
  generalize q / m = u at e1 ⊢
  generalize r / m = v at e2 ⊢
  constructor
  · intro h
    by_cases k : u < v
    · exact .inl k
    · right
      have k2 : u = v ∨ v + 1 ≤ u := by omega
      rcases k2 with k2 | k2
      · subst k2
        exact ⟨rfl, by omega⟩
      · exfalso
        have := Int.mul_le_mul_of_nonneg_left k2 (show 0 ≤ m by omega)
        rw [Int.mul_add, Int.mul_one] at this
        omega
  · intro h
    rcases h with h | ⟨h, h2⟩
    · have := Int.mul_le_mul_of_nonneg_left (show u + 1 ≤ v by omega) (show 0 ≤ m by omega)
      rw [Int.mul_add, Int.mul_one] at this
      omega
    · subst h
      omega
theorem ShapeOrder : symbolonlaw02_ShapeOrder.Pure := by
  intro c h x i k _ _ _ hi hk
  have bi := bd8 hi
  have bk := bd8 hk
  unfold symbolonlaw02_ShapeOrder.f
  rw [head_true, size_tells]
  simp only [Option.bind_some]
  unfold sizeS
  by_cases s : okS c h x
  · rw [if_pos s]
    have hN := ok_pos s
    obtain ⟨N, eN⟩ : ∃ N, N = c * h * x := ⟨_, rfl⟩
    rw [← eN] at hN ⊢
    rw [if_neg (by omega), if_neg (by omega), w_id (a := i) (by omega) (by omega), w_id (a := k) (by omega) (by omega), Int.tmod_eq_emod_of_nonneg bi.1, Int.tmod_eq_emod_of_nonneg bk.1]
    have p0 := Int.emod_nonneg i (show N ≠ 0 by omega)
    have p1 := Int.emod_lt_of_pos i (show 0 < N by omega)
    have q0 := Int.emod_nonneg k (show N ≠ 0 by omega)
    have q1 := Int.emod_lt_of_pos k (show 0 < N by omega)
    generalize i % N = p at p0 p1 ⊢
    generalize k % N = q at q0 q1 ⊢
    rw [of_tells, of_tells]
    unfold ofS
    rw [← eN, if_pos ⟨s, p0, p1⟩, if_pos ⟨s, q0, q1⟩]
    have hx : 0 < x := by have := s.2.2.2.2.1; omega
    have hh : 0 < h := by have := s.2.2.1; omega
    have l1 := @lex p q x hx
    have l2 := @lex (p / x) (q / x) h hh
    simp only [Option.bind_some, if_true]
    have same : p / x = q / x ↔ (p / x / h = q / x / h ∧ p / x % h = q / x % h) := by
      constructor
      · intro z
        rw [z]
        exact ⟨rfl, rfl⟩
      · intro z
        have e1 := Int.emod_add_mul_ediv (p / x) h
        have e2 := Int.emod_add_mul_ediv (q / x) h
        rw [z.1, z.2] at e1
        omega
    generalize p / x / h = a at l2 same ⊢
    generalize q / x / h = d at l2 same ⊢
    generalize p / x % h = b at l2 same ⊢
    generalize q / x % h = z at l2 same ⊢
    by_cases c1 : a < d
    · rw [if_pos c1]
      have : p < q := l1.2 (.inl (l2.2 (.inl c1)))
      simp [this]
    · rw [if_neg c1]
      by_cases c2 : a = d
      · rw [if_pos c2]
        by_cases c3 : b < z
        · rw [if_pos c3]
          have : p < q := l1.2 (.inl (l2.2 (.inr ⟨c2, c3⟩)))
          simp [this]
        · rw [if_neg c3]
          by_cases c4 : b = z
          · rw [if_pos c4]
            have hs := same.2 ⟨c2, c4⟩
            have : (p % x < q % x) ↔ p < q := by rw [l1]; omega
            simp [this]
          · rw [if_neg c4]
            have : ¬ p < q := by
              rw [l1, l2, same]
              omega
            simp [this]
      · rw [if_neg c2]
        have : ¬ p < q := by
          rw [l1, l2, same]
          omega
        simp [this]
  · rw [if_neg s, if_pos (by omega)]
    simp
end Go.Proofs.Ythoahkpbbepneaa.Pure
