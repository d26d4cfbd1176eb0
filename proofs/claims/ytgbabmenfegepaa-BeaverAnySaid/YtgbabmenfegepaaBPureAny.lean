/-
The plain law of BeaverAny: with any triple both parts are the product, and as much more as the triple's third number is above it. No condition.
-/
import Derived.Test.YtgbabmenfegepaaQ19
import Derived.Test.YtgbabmenfegepaaBHead
import Derived.Test.YtgbabmenfegepaaBNum
set_option linter.unusedSimpArgs false
namespace Go.Proofs.Ytgbabmenfegepaa.Pure
open Go.RowKit Go.Proofs.YtgbabmenfegepaaW.PrintWords Go.Proofs.Ytgbabmenfegepaa.Q Go.Proofs.Ytgbabmenfegepaa.Num
theorem BeaverAny : symbolonlaw12_BeaverAny.Pure := by
  intro x u y v sa sb sc ta tb tc _ _ _ _ _ _ _ _ _ _
  refine ⟨20, ?_⟩
  unfold symbolonlaw12_BeaverAny.f
  rw [head_true 20 (by omega)]
  simp only [beaver_Open.f, beaver_mask_of.f, beaver_Sum.f, beaver_Close.f, beaver_gate_part.f, Option.bind_some, if_true, if_neg (show ¬ ((1 : Int) = 0) by omega), w_add_l, w_add_r, w_sub_l, w_sub_r, w_mul_l, w_mul_r, w_w]
  rw [Option.some.injEq, beq_iff_eq]
  refine w_of_B ?_
  simp only [B_wrap, B_add, B_mul, B_sub]
  grind
end Go.Proofs.Ytgbabmenfegepaa.Pure
