/-
The plain law of BeaverMasks: what is opened may stand for any two numbers; of one triple unlike numbers are opened unlike. Numbers below 2^64.
-/
import Derived.Test.YtgbabmenfegepaaQ20
import Derived.Test.YtgbabmenfegepaaBHead
import Derived.Test.YtgbabmenfegepaaBNum
namespace Go.Proofs.Ytgbabmenfegepaa.Pure
open Go.RowKit Go.Proofs.YtgbabmenfegepaaW.PrintWords Go.Proofs.Ytgbabmenfegepaa.Q Go.Proofs.Ytgbabmenfegepaa.Num
theorem BeaverMasks : symbolonlaw12_BeaverMasks.Pure := by
  intro x y ta tb tc u v hx hy ha hb _ hu hv
  replace hx := bd hx
  replace hy := bd hy
  replace ha := bd ha
  replace hb := bd hb
  replace hu := bd hu
  replace hv := bd hv
  refine ⟨20, ?_⟩
  unfold symbolonlaw12_BeaverMasks.f
  rw [head_true 20 (by omega)]
  simp only [beaver_Open.f, beaver_mask_of.f, Option.bind_some, if_true]
  have e1 : IntKind.u64.wrap (u - IntKind.u64.wrap (IntKind.u64.wrap (ta + u) - x)) = IntKind.u64.wrap (x - ta) := by
    rw [w_sub_r, w_eq, w_eq, w_eq]; omega
  have e2 : IntKind.u64.wrap (v - IntKind.u64.wrap (IntKind.u64.wrap (tb + v) - y)) = IntKind.u64.wrap (y - tb) := by
    rw [w_sub_r, w_eq, w_eq, w_eq]; omega
  have e3 : IntKind.u64.wrap (IntKind.u64.wrap (x - ta) + ta) = x := by rw [w_eq, w_eq]; omega
  have e4 : IntKind.u64.wrap (IntKind.u64.wrap (y - tb) + tb) = y := by rw [w_eq, w_eq]; omega
  have e5 : (IntKind.u64.wrap (u - ta) == IntKind.u64.wrap (x - ta)) = (u == x) := by
    rw [Bool.eq_iff_iff, beq_iff_eq, beq_iff_eq, w_eq, w_eq]; omega
  have e6 : (IntKind.u64.wrap (v - tb) == IntKind.u64.wrap (y - tb)) = (v == y) := by
    rw [Bool.eq_iff_iff, beq_iff_eq, beq_iff_eq, w_eq, w_eq]; omega
  rw [e1, e2, e3, e4, e5, e6]
  by_cases h : u = x
  · subst h; simp
  · simp [h]
end Go.Proofs.Ytgbabmenfegepaa.Pure
