/-
The plain law of BeaverSides: the parties' parts are apart by D times E; of noughts both are C. Numbers below 2^64.
-/
import Derived.Test.YtgbabmenfegepaaQ25
import Derived.Test.YtgbabmenfegepaaBHead
import Derived.Test.YtgbabmenfegepaaBNum
set_option linter.unusedSimpArgs false
namespace Go.Proofs.Ytgbabmenfegepaa.Pure
open Go.RowKit Go.Proofs.YtgbabmenfegepaaW.PrintWords Go.Proofs.Ytgbabmenfegepaa.Q Go.Proofs.Ytgbabmenfegepaa.Num
theorem BeaverSides : symbolonlaw12_BeaverSides.Pure := by
  intro d e ta tb tc who hd he _ _ hc _
  replace hd := bd hd
  replace he := bd he
  replace hc := bd hc
  refine ⟨20, ?_⟩
  unfold symbolonlaw12_BeaverSides.f
  rw [head_true 20 (by omega)]
  have z : ∀ k : Int, IntKind.u64.wrap (k + 0) = IntKind.u64.wrap k := fun k => by rw [Int.add_zero]
  by_cases h : who = 0
  · simp [beaver_Sum.f, beaver_Close.f, beaver_gate_part.f, h, w_add_l, w_add_r, w_sub_l, w_sub_r, w_mul_l, w_mul_r, w_w, w_of hd.1 hd.2, w_of he.1 he.2, w_of hc.1 hc.2]
  · simp [beaver_Sum.f, beaver_Close.f, beaver_gate_part.f, h, w_add_l, w_add_r, w_sub_l, w_sub_r, w_mul_l, w_mul_r, w_w, w_of hd.1 hd.2, w_of he.1 he.2, w_of hc.1 hc.2]
    exact w_cong (by grind)
end Go.Proofs.Ytgbabmenfegepaa.Pure
