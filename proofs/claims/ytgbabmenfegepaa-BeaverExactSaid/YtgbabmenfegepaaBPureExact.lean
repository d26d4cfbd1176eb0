/-
The plain law of BeaverExact: with a dealer's triple both parts are the product. No condition.
-/
import Derived.Test.YtgbabmenfegepaaQ18
import Derived.Test.YtgbabmenfegepaaBHead
import Derived.Test.YtgbabmenfegepaaBNum
set_option linter.unusedSimpArgs false
namespace Go.Proofs.Ytgbabmenfegepaa.Pure
open Go.RowKit Go.Proofs.YtgbabmenfegepaaW.PrintWords Go.Proofs.Ytgbabmenfegepaa.Q Go.Proofs.Ytgbabmenfegepaa.Num
theorem num_some (a i : Int) : ∃ r, symbolonref09_Number.f a i = some r := by
  unfold symbolonref09_Number.f symbolonref09_shift.f
  simp
theorem BeaverExact : symbolonlaw12_BeaverExact.Pure := by
  intro x u y v seed i _ _ _ _ _ _
  refine ⟨20, ?_⟩
  unfold symbolonlaw12_BeaverExact.f symbolonref11_Half.f
  rw [head_true 20 (by omega)]
  obtain ⟨p, hp⟩ := num_some seed (IntKind.u64.wrap (5 * i))
  obtain ⟨q, hq⟩ := num_some seed (IntKind.u64.wrap ((IntKind.u64.wrap (5 * i)) + 1))
  obtain ⟨r, hr⟩ := num_some seed (IntKind.u64.wrap ((IntKind.u64.wrap (5 * i)) + 2))
  obtain ⟨s, hs⟩ := num_some seed (IntKind.u64.wrap ((IntKind.u64.wrap (5 * i)) + 3))
  obtain ⟨t, ht⟩ := num_some seed (IntKind.u64.wrap ((IntKind.u64.wrap (5 * i)) + 4))
  rw [hp, hq, hr, hs, ht]
  simp only [beaver_Open.f, beaver_mask_of.f, beaver_Sum.f, beaver_Close.f, beaver_gate_part.f, Option.bind_some, if_true, if_neg (show ¬ ((1 : Int) = 0) by omega), w_add_l, w_add_r, w_sub_l, w_sub_r, w_mul_l, w_mul_r, w_w]
  rw [Option.some.injEq, beq_iff_eq]
  refine w_of_B ?_
  simp only [B_wrap, B_add, B_mul, B_sub]
  grind
end Go.Proofs.Ytgbabmenfegepaa.Pure
