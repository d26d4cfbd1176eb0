/-
Places and where they are tell one another. Condition: the shape is right, the place lies in it.
-/
import Derived.Test.YthoahkpbbepneaaBNum
set_option linter.unusedSimpArgs false
set_option linter.unusedVariables false
namespace Go.Proofs.Ythoahkpbbepneaa.Pure
open Go.RowKit Go.Proofs.YthoahkpbbepneaaW.PrintWords Go.Proofs.Ythoahkpbbepneaa.Q
theorem of_at {c h x a b d : Int} (k : okS c h x) (ha : 0 ≤ a ∧ a < c) (hb : 0 ≤ b ∧ b < h) (hd : 0 ≤ d ∧ d < x) :
    (d + x * (b + h * a)) / x / h = a ∧ (d + x * (b + h * a)) / x % h = b ∧ (d + x * (b + h * a)) % x = d := by
  have hx : x ≠ 0 := by have := k.2.2.2.2.1; omega
  have hh : h ≠ 0 := by have := k.2.2.1; omega
  have e1 : (d + x * (b + h * a)) / x = b + h * a := by rw [Int.add_mul_ediv_left _ _ hx, Int.ediv_eq_zero_of_lt hd.1 hd.2, Int.zero_add]
  rw [e1, Int.add_mul_ediv_left _ _ hh, Int.ediv_eq_zero_of_lt hb.1 hb.2, Int.zero_add, Int.add_mul_emod_self_left, Int.emod_eq_of_lt hb.1 hb.2, Int.add_mul_emod_self_left, Int.emod_eq_of_lt hd.1 hd.2]
  exact ⟨rfl, rfl, rfl⟩
theorem at_of {c h x i : Int} (k : okS c h x) (h0 : 0 ≤ i) (h1 : i < c * h * x) :
    (0 ≤ i / x / h ∧ i / x / h < c) ∧ (0 ≤ i / x % h ∧ i / x % h < h) ∧ (0 ≤ i % x ∧ i % x < x) ∧ i % x + x * (i / x % h + h * (i / x / h)) = i := by
  have hx : 0 < x := by have := k.2.2.2.2.1; omega
  have hh : 0 < h := by have := k.2.2.1; omega
  have q0 : 0 ≤ i / x := Int.ediv_nonneg h0 (by omega)
  have e1 := Int.emod_add_mul_ediv i x
  have e2 := Int.emod_add_mul_ediv (i / x) h
  refine ⟨⟨Int.ediv_nonneg q0 (by omega), ?_⟩, ⟨Int.emod_nonneg _ (by omega), Int.emod_lt_of_pos _ hh⟩, ⟨Int.emod_nonneg _ (by omega), Int.emod_lt_of_pos _ hx⟩, ?_⟩
  · have f1 : i / x < c * h := Int.ediv_lt_of_lt_mul hx h1
    exact Int.ediv_lt_of_lt_mul hh f1
  · rw [e2, e1]
end Go.Proofs.Ythoahkpbbepneaa.Pure
