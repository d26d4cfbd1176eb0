/-
The plain law of BeaverTells: what is opened, summed up and closed is the document's. No condition.
-/
import Derived.Test.YtgbabmenfegepaaQ14
import Derived.Test.YtgbabmenfegepaaBHead
import Derived.Test.YtgbabmenfegepaaBNum
set_option linter.unusedSimpArgs false
namespace Go.Proofs.Ytgbabmenfegepaa.Pure
open Go.RowKit Go.Proofs.YtgbabmenfegepaaW.PrintWords Go.Proofs.Ytgbabmenfegepaa.Q Go.Proofs.Ytgbabmenfegepaa.Num
theorem BeaverTells : symbolonlaw12_BeaverTells.Pure := by
  intro x y ta tb tc od oe pd pe who _ _ _ _ _ _ _ _ _ _
  refine ⟨20, ?_⟩
  unfold symbolonlaw12_BeaverTells.f
  rw [head_true 20 (by omega)]
  simp only [beaver_Open.f, symbolonref12_Open.f, beaver_mask_of.f, beaver_Sum.f, symbolonref12_Sum.f, beaver_Close.f, symbolonref12_Close.f, beaver_gate_part.f, Option.bind_some, if_true, beq_self_eq_true, Bool.and_self]
  by_cases h : who = 0
  · simp only [if_pos h, Option.bind_some, w_add_l, w_add_r, w_sub_l, w_sub_r, w_mul_l, w_mul_r, w_w]
    rw [Option.some.injEq, beq_iff_eq]
  · simp only [if_neg h, Option.bind_some, w_add_l, w_add_r, w_sub_l, w_sub_r, w_mul_l, w_mul_r, w_w]
    rw [Option.some.injEq, beq_iff_eq]
end Go.Proofs.Ytgbabmenfegepaa.Pure
