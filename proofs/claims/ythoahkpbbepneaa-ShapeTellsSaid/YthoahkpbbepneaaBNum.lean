/-
What the functions of layer 2 come to, in plain numbers: which shapes are right, how many numbers they have, places, windows and blocks. Condition: none, but that each given number is an int.
-/
import Derived.Test.YthoahkpbbepneaaQ3
import Derived.Test.YthoahkpbbepneaaQ4
import Derived.Test.YthoahkpbbepneaaQ5
import Derived.Test.YthoahkpbbepneaaQ7
import Derived.Test.YthoahkpbbepneaaQ8
import Derived.Test.YthoahkpbbepneaaQ9
set_option linter.unusedSimpArgs false
set_option linter.unusedVariables false
namespace Go.Proofs.Ythoahkpbbepneaa.Pure
open Go.RowKit Go.Proofs.YthoahkpbbepneaaW.PrintWords Go.Proofs.Ythoahkpbbepneaa.Q

theorem bd {a : Int} (h : (Lit.int .i64 a).wf = true) : -9223372036854775808 ≤ a ∧ a < 9223372036854775808 := by
  simp only [Lit.wf, Bool.and_eq_true, decide_eq_true_eq] at h
  have h1 : IntKind.i64.min = -9223372036854775808 := rfl
  have h2 : IntKind.i64.max = 9223372036854775807 := rfl
  omega
theorem w_id {a : Int} (h1 : -9223372036854775808 ≤ a) (h2 : a < 9223372036854775808) : wrap64 a = a := by
  unfold wrap64
  omega
/-- A shape that may be. -/
def okS (c h x : Int) : Prop := 1 ≤ c ∧ c ≤ 8 ∧ 1 ≤ h ∧ h ≤ 12 ∧ 1 ≤ x ∧ x ≤ 12 ∧ c * h * x ≤ 128
instance (c h x : Int) : Decidable (okS c h x) := by unfold okS; infer_instance
theorem prod2 {c h : Int} (h1 : 1 ≤ c) (h2 : c ≤ 8) (h3 : 1 ≤ h) (h4 : h ≤ 12) : 1 ≤ c * h ∧ c * h ≤ 96 := by
  obtain rfl | rfl | rfl | rfl | rfl | rfl | rfl | rfl : c = 1 ∨ c = 2 ∨ c = 3 ∨ c = 4 ∨ c = 5 ∨ c = 6 ∨ c = 7 ∨ c = 8 := by omega
  all_goals omega
theorem prod3 {c h x : Int} (h1 : 1 ≤ c) (h2 : c ≤ 8) (h3 : 1 ≤ h) (h4 : h ≤ 12) (h5 : 1 ≤ x) (h6 : x ≤ 12) : 1 ≤ c * h * x ∧ c * h * x ≤ 1152 := by
  obtain ⟨a, b⟩ := prod2 h1 h2 h3 h4
  generalize c * h = n at a b ⊢
  have e1 : 1 * 1 ≤ n * x := Int.mul_le_mul a h5 (by omega) (by omega)
  have e2 : n * x ≤ 96 * 12 := Int.mul_le_mul b h6 (by omega) (by omega)
  omega
theorem ww {c h x : Int} (h1 : 1 ≤ c) (h2 : c ≤ 8) (h3 : 1 ≤ h) (h4 : h ≤ 12) (h5 : 1 ≤ x) (h6 : x ≤ 12) : wrap64 (wrap64 (c * h) * x) = c * h * x := by
  obtain ⟨a, b⟩ := prod2 h1 h2 h3 h4
  obtain ⟨e, f⟩ := prod3 h1 h2 h3 h4 h5 h6
  rw [w_id (a := c * h) (by omega) (by omega), w_id (by omega) (by omega)]
theorem within_tells (n a b : Int) : shape_within.f n a b = some (decide (a ≤ n ∧ n ≤ b)) := by
  unfold shape_within.f
  by_cases h : n ≥ a
  · rw [if_pos h]
    congr 1
    rw [decide_eq_decide]
    omega
  · rw [if_neg h, decide_eq_false (by omega)]
theorem right_tells (c h x : Int) : shape_Right.f c h x = some (decide (okS c h x)) := by
  unfold shape_Right.f
  simp only [within_tells, Option.bind_some]
  by_cases h1 : 1 ≤ c ∧ c ≤ 8
  · by_cases h2 : 1 ≤ h ∧ h ≤ 12
    · by_cases h3 : 1 ≤ x ∧ x ≤ 12
      · rw [ww h1.1 h1.2 h2.1 h2.2 h3.1 h3.2, decide_eq_true h1, decide_eq_true h2, decide_eq_true h3, if_pos rfl, if_pos rfl, if_pos rfl, Option.some.injEq, decide_eq_decide]
        unfold okS
        omega
      · rw [decide_eq_true h1, decide_eq_true h2, decide_eq_false h3, if_pos rfl, if_pos rfl, if_neg (by decide), decide_eq_false (by unfold okS; omega)]
    · rw [decide_eq_true h1, decide_eq_false h2, if_pos rfl, if_neg (by decide), decide_eq_false (by unfold okS; omega)]
  · rw [decide_eq_false h1, if_neg (by decide), decide_eq_false (by unfold okS; omega)]
theorem ok_w {c h x : Int} (k : okS c h x) : wrap64 (wrap64 (c * h) * x) = c * h * x := ww k.1 k.2.1 k.2.2.1 k.2.2.2.1 k.2.2.2.2.1 k.2.2.2.2.2.1
theorem ok_pos {c h x : Int} (k : okS c h x) : 1 ≤ c * h * x ∧ c * h * x ≤ 128 := ⟨(prod3 k.1 k.2.1 k.2.2.1 k.2.2.2.1 k.2.2.2.2.1 k.2.2.2.2.2.1).1, k.2.2.2.2.2.2⟩
/-- How many numbers a shape has. -/
def sizeS (c h x : Int) : Int := if okS c h x then c * h * x else 0
theorem size_tells (c h x : Int) : shape_Size.f c h x = some (sizeS c h x) := by
  unfold shape_Size.f sizeS
  rw [right_tells]
  simp only [Option.bind_some]
  by_cases k : okS c h x
  · rw [decide_eq_true k, if_pos rfl, if_pos k, ok_w k]
  · rw [decide_eq_false k, if_neg (by decide), if_neg k]
/-- Where a place is. -/
def ofS (c h x i : Int) : Int × Int × Int × Bool := if okS c h x ∧ 0 ≤ i ∧ i < c * h * x then (i / x / h, i / x % h, i % x, true) else (0, 0, 0, false)
theorem of_tells (c h x i : Int) : shape_Of.f c h x i = some (ofS c h x i) := by
  unfold shape_Of.f ofS
  rw [size_tells]
  simp only [Option.bind_some, within_tells]
  unfold sizeS
  by_cases k : okS c h x
  · obtain ⟨k1, k2⟩ := ok_pos k
    rw [if_pos k, w_id (by omega) (by omega)]
    by_cases hi : 0 ≤ i ∧ i < c * h * x
    · have hx : 1 ≤ x := k.2.2.2.2.1
      have hh : 1 ≤ h := k.2.2.1
      rw [decide_eq_true (by omega), if_pos rfl, if_neg (by omega), if_neg (by omega), if_pos ⟨k, hi⟩]
      have q0 : 0 ≤ i / x := Int.ediv_nonneg hi.1 (by omega)
      have q1 : i / x ≤ i := Int.ediv_le_self _ hi.1
      have r0 : 0 ≤ i / x / h := Int.ediv_nonneg q0 (by omega)
      have r1 : i / x / h ≤ i / x := Int.ediv_le_self _ q0
      rw [Int.tdiv_eq_ediv_of_nonneg hi.1, w_id (a := i / x) (by omega) (by omega), Int.tdiv_eq_ediv_of_nonneg q0, w_id (a := i / x / h) (by omega) (by omega), Int.tmod_eq_emod_of_nonneg q0, Int.tmod_eq_emod_of_nonneg hi.1]
    · rw [decide_eq_false (by omega), if_neg (by decide), if_neg (fun z => hi z.2)]
  · rw [if_neg k, decide_eq_false (by rw [w_id (by omega) (by omega)]; omega), if_neg (by decide), if_neg (fun z => k z.1)]
/-- The place of a number. -/
def atS (c h x a b d : Int) : Int := if okS c h x ∧ (0 ≤ a ∧ a < c) ∧ (0 ≤ b ∧ b < h) ∧ (0 ≤ d ∧ d < x) then d + x * (b + h * a) else -1
theorem at_in {c h x a b d : Int} (k : okS c h x) (ha : 0 ≤ a ∧ a < c) (hb : 0 ≤ b ∧ b < h) (hd : 0 ≤ d ∧ d < x) : 0 ≤ h * a ∧ 0 ≤ b + h * a ∧ b + h * a < c * h ∧ 0 ≤ x * (b + h * a) ∧ d + x * (b + h * a) < c * h * x := by
  obtain ⟨k1, k2, k3, k4, k5, k6, k7⟩ := k
  have e0 : 0 ≤ h * a := Int.mul_nonneg (by omega) ha.1
  have e1 : h * a ≤ h * (c - 1) := Int.mul_le_mul_of_nonneg_left (by omega) (by omega)
  have e2 : h * (c - 1) = c * h - h := by rw [Int.mul_sub, Int.mul_one, Int.mul_comm]
  have e3 : 0 ≤ x * (b + h * a) := Int.mul_nonneg (by omega) (by omega)
  have e4 : x * (b + h * a) ≤ x * (c * h - 1) := Int.mul_le_mul_of_nonneg_left (by omega) (by omega)
  have e5 : x * (c * h - 1) = c * h * x - x := by rw [Int.mul_sub, Int.mul_one, Int.mul_comm]
  omega
theorem at_tells (c h x a b d : Int) : shape_At.f c h x a b d = some (atS c h x a b d) := by
  unfold shape_At.f atS
  rw [right_tells]
  simp only [Option.bind_some, within_tells]
  by_cases k : okS c h x
  · have kk := k
    obtain ⟨k1, k2, k3, k4, k5, k6, k7⟩ := kk
    rw [decide_eq_true k, if_pos rfl, w_id (a := c - 1) (by omega) (by omega), w_id (a := h - 1) (by omega) (by omega), w_id (a := x - 1) (by omega) (by omega)]
    by_cases ha : 0 ≤ a ∧ a < c
    · by_cases hb : 0 ≤ b ∧ b < h
      · by_cases hd : 0 ≤ d ∧ d < x
        · obtain ⟨e0, e1, e2, e3, e4⟩ := at_in k ha hb hd
          obtain ⟨p1, p2⟩ := prod2 k1 k2 k3 k4
          rw [decide_eq_true (by omega), if_pos rfl, decide_eq_true (by omega), if_pos rfl, decide_eq_true (by omega), if_pos rfl, if_pos ⟨k, ha, hb, hd⟩]
          rw [w_id (a := h * a) (by omega) (by omega), w_id (a := b + h * a) (by omega) (by omega), w_id (a := x * (b + h * a)) (by omega) (by omega), w_id (by omega) (by omega)]
        · rw [decide_eq_true (by omega), if_pos rfl, decide_eq_true (by omega), if_pos rfl, decide_eq_false (by omega), if_neg (by decide), if_neg (fun z => hd z.2.2.2)]
      · rw [decide_eq_true (by omega), if_pos rfl, decide_eq_false (by omega), if_neg (by decide), if_neg (fun z => hb z.2.2.1)]
    · rw [decide_eq_false (by omega), if_neg (by decide), if_neg (fun z => ha z.2.1)]
  · rw [decide_eq_false k, if_neg (by decide), if_neg (fun z => k z.1)]
/-- How many windows there are along a side. -/
def sdS (n size step : Int) : Int := if (1 ≤ size ∧ size ≤ n) ∧ (1 ≤ step ∧ step ≤ 12) then (n - size) / step + 1 else 0
theorem side_tells {n : Int} (size step : Int) (h1 : 1 ≤ n) (h2 : n ≤ 12) : S.side n size step = sdS n size step := by
  unfold S.side sdS
  by_cases c1 : 1 ≤ size ∧ size ≤ n
  · by_cases c2 : 1 ≤ step ∧ step ≤ 12
    · rw [if_pos c1, if_pos c2, if_pos ⟨c1, c2⟩, w_id (a := n - size) (by omega) (by omega), Int.tdiv_eq_ediv_of_nonneg (by omega)]
      have q0 : 0 ≤ (n - size) / step := Int.ediv_nonneg (by omega) (by omega)
      have q1 : (n - size) / step ≤ n - size := Int.ediv_le_self _ (by omega)
      rw [w_id (a := (n - size) / step) (by omega) (by omega), w_id (by omega) (by omega)]
    · rw [if_pos c1, if_neg c2, if_neg (fun z => c2 z.2)]
  · rw [if_neg c1, if_neg (fun z => c1 z.1)]
/-- What comes of windows. -/
def convS (c h x out size step : Int) : Int × Int × Int × Bool := if okS c h x ∧ okS out (sdS h size step) (sdS x size step) then (out, sdS h size step, sdS x size step, true) else (0, 0, 0, false)
theorem conv_tells (c h x out size step : Int) : shape_Conv.f c h x out size step = some (convS c h x out size step) := by
  unfold shape_Conv.f S.conv convS
  simp only [right_tells, Option.bind_some]
  by_cases k : okS c h x
  · have kk := k
    obtain ⟨k1, k2, k3, k4, k5, k6, k7⟩ := kk
    rw [side_tells _ _ k3 k4, side_tells _ _ k5 k6]
    by_cases k2 : okS out (sdS h size step) (sdS x size step)
    · rw [decide_eq_true k, decide_eq_true k2, if_pos (show (true && true) = true from rfl), if_pos ⟨k, k2⟩]
    · rw [decide_eq_true k, decide_eq_false k2, if_neg (show ¬ (true && false) = true by decide), if_neg (fun z => k2 z.2)]
  · rw [decide_eq_false k, if_neg (by simp), if_neg (fun z => k z.1)]
/-- How many blocks there are along a side. -/
def psS (n size : Int) : Int := if 1 ≤ size ∧ n % size = 0 then n / size else 0
theorem pside_tells {n : Int} (size : Int) (h1 : 1 ≤ n) (h2 : n ≤ 12) : S.pside n size = psS n size := by
  unfold S.pside psS
  by_cases c1 : size < 1
  · rw [if_pos c1, if_neg (by omega)]
  · rw [if_neg c1, Int.tmod_eq_emod_of_nonneg (by omega), Int.tdiv_eq_ediv_of_nonneg (by omega)]
    have q0 : 0 ≤ n / size := Int.ediv_nonneg (by omega) (by omega)
    have q1 : n / size ≤ n := Int.ediv_le_self _ (by omega)
    by_cases c2 : n % size = 0
    · rw [if_pos c2, if_pos ⟨by omega, c2⟩, w_id (by omega) (by omega)]
    · rw [if_neg c2, if_neg (fun z => c2 z.2)]
/-- What comes of blocks. -/
def poolS (c h x size : Int) : Int × Int × Int × Bool := if okS c h x ∧ okS c (psS h size) (psS x size) then (c, psS h size, psS x size, true) else (0, 0, 0, false)
theorem pool_tells (c h x size : Int) : shape_Pool.f c h x size = some (poolS c h x size) := by
  unfold shape_Pool.f S.pool poolS
  simp only [right_tells, Option.bind_some]
  by_cases k : okS c h x
  · have kk := k
    obtain ⟨k1, k2, k3, k4, k5, k6, k7⟩ := kk
    rw [pside_tells _ k3 k4, pside_tells _ k5 k6]
    by_cases k2 : okS c (psS h size) (psS x size)
    · rw [decide_eq_true k, decide_eq_true k2, if_pos (show (true && true) = true from rfl), if_pos ⟨k, k2⟩]
    · rw [decide_eq_true k, decide_eq_false k2, if_neg (show ¬ (true && false) = true by decide), if_neg (fun z => k2 z.2)]
  · rw [decide_eq_false k, if_neg (by simp), if_neg (fun z => k z.1)]
end Go.Proofs.Ythoahkpbbepneaa.Pure
