/-
The plain law of ShapeTells: whether any shape is right, its size, any place in it, and what comes of windows and blocks, are the document's. Condition: each given number is an int.
-/
import Derived.Test.YthoahkpbbepneaaQ17
import Derived.Test.YthoahkpbbepneaaBHead
import Derived.Test.YthoahkpbbepneaaBNum
import Derived.Test.YthoahkpbbepneaaBPlaces
set_option linter.unusedSimpArgs false
namespace Go.Proofs.Ythoahkpbbepneaa.Pure
open Go.RowKit Go.Proofs.YthoahkpbbepneaaW.PrintWords Go.Proofs.Ythoahkpbbepneaa.Q

theorem ref_right (c h x : Int) : symbolonref02_Right.f c h x = some (decide (okS c h x)) := by
  unfold symbolonref02_Right.f
  by_cases h1 : 1 ≤ c ∧ c ≤ 8
  · by_cases h2 : 1 ≤ h ∧ h ≤ 12
    · by_cases h3 : 1 ≤ x ∧ x ≤ 12
      · rw [ww h1.1 h1.2 h2.1 h2.2 h3.1 h3.2, if_pos h1.1, if_pos h1.2, if_pos h2.1, if_pos h2.2, if_pos h3.1, if_pos h3.2, Option.some.injEq, decide_eq_decide]
        unfold okS
        omega
      · rw [decide_eq_false (p := okS c h x) (by unfold okS; omega)]
        repeat' split
        all_goals first | rfl | (exfalso; omega)
    · rw [decide_eq_false (p := okS c h x) (by unfold okS; omega)]
      repeat' split
      all_goals first | rfl | (exfalso; omega)
  · rw [decide_eq_false (p := okS c h x) (by unfold okS; omega)]
    repeat' split
    all_goals first | rfl | (exfalso; omega)
theorem ref_size (c h x : Int) : symbolonref02_Size.f c h x = some (sizeS c h x) := by
  unfold symbolonref02_Size.f sizeS
  rw [ref_right]
  simp only [Option.bind_some]
  by_cases k : okS c h x
  · rw [decide_eq_true k, if_pos rfl, if_pos k, ok_w k]
  · rw [decide_eq_false k, if_neg (by decide), if_neg k]
theorem ref_at (c h x a b d : Int) : symbolonref02_At.f c h x a b d = some (atS c h x a b d) := by
  by_cases k : okS c h x
  · by_cases q : (0 ≤ a ∧ a < c) ∧ (0 ≤ b ∧ b < h) ∧ (0 ≤ d ∧ d < x)
    · have ea : atS c h x a b d = d + x * (b + h * a) := by unfold atS; rw [if_pos ⟨k, q⟩]
      rw [ea]
      unfold symbolonref02_At.f
      rw [ref_right, decide_eq_true k]
      simp only [Option.bind_some]
      obtain ⟨ka, kb, kd⟩ := q
      obtain ⟨e0, e1, e2, e3, e4⟩ := at_in k ka kb kd
      obtain ⟨p1, p2⟩ := ok_pos k
      have kk := k
      obtain ⟨k1, k2, k3, k4, k5, k6, k7⟩ := kk
      obtain ⟨r1, r2⟩ := prod2 k1 k2 k3 k4
      rw [if_pos trivial, if_neg (by omega), if_neg (by omega), if_neg (by omega), if_neg (by omega), if_neg (by omega), if_neg (by omega)]
      have f1 : a * h = h * a := Int.mul_comm _ _
      have f2 : (h * a + b) * x = x * (b + h * a) := by rw [Int.mul_comm, Int.add_comm]
      rw [f1, w_id (a := h * a) (by omega) (by omega), w_id (a := h * a + b) (by omega) (by omega), f2, w_id (a := x * (b + h * a)) (by omega) (by omega), w_id (by omega) (by omega), Int.add_comm]
    · have ea : atS c h x a b d = -1 := by unfold atS; rw [if_neg (fun z => q z.2)]
      rw [ea]
      unfold symbolonref02_At.f
      rw [ref_right, decide_eq_true k]
      simp only [Option.bind_some]
      rw [if_pos trivial]
      repeat' split
      all_goals first | rfl | (exfalso; omega)
  · have ea : atS c h x a b d = -1 := by unfold atS; rw [if_neg (fun z => k z.1)]
    rw [ea]
    unfold symbolonref02_At.f
    rw [ref_right, decide_eq_false k]
    simp
theorem ref_conv (c h x out size step : Int) (k : Nat) : symbolonref02_Conv.f (k + 1) c h x out size step = some (convS c h x out size step) := by
  unfold symbolonref02_Conv.f
  rw [ref_right]
  simp only [Option.bind_some]
  have no : ¬ (okS c h x ∧ okS out (sdS h size step) (sdS x size step)) → some (convS c h x out size step) = some (0, 0, 0, false) := fun z => by unfold convS; rw [if_neg z]
  have dead : ∀ a b d : Int, symbolonref02_Conv.j0 (k + 1) a b d true c h x = some (0, 0, 0, false) := fun a b d => by simp only [symbolonref02_Conv.j0, if_true]
  by_cases s : okS c h x
  · rw [decide_eq_true s, if_pos rfl]
    have kk := s
    obtain ⟨k1, k2, k3, k4, k5, k6, k7⟩ := kk
    have m1 : (size > mn h x) ↔ (size > h ∨ size > x) := by unfold mn; split <;> omega
    have z0 : ∀ n, ¬ ((1 ≤ size ∧ size ≤ n) ∧ (1 ≤ step ∧ step ≤ 12)) → sdS n size step = 0 := fun n q => by unfold sdS; rw [if_neg q]
    by_cases c1 : out < 1
    · rw [if_pos c1, dead, no (fun z => by have := z.2.1; omega)]
    rw [if_neg c1]
    by_cases c2 : out > 8
    · rw [if_pos c2, dead, no (fun z => by have := z.2.2.1; omega)]
    rw [if_neg c2]
    by_cases c3 : size < 1
    · rw [if_pos c3, dead, no (fun z => by have := z.2.2.2.1; rw [z0 h (by omega)] at this; omega)]
    rw [if_neg c3]
    by_cases c4 : size > mn h x
    · rw [if_pos c4, dead, no]
      intro z
      have u := z.2.2.2.1
      have v := z.2.2.2.2.2.1
      rcases m1.1 c4 with m | m
      · rw [z0 h (by omega)] at u; omega
      · rw [z0 x (by omega)] at v; omega
    rw [if_neg c4]
    by_cases c5 : step < 1
    · rw [if_pos c5, dead, no (fun z => by have := z.2.2.2.1; rw [z0 h (by omega)] at this; omega)]
    rw [if_neg c5]
    by_cases c6 : step > 12
    · rw [decide_eq_true c6, dead, no (fun z => by have := z.2.2.2.1; rw [z0 h (by omega)] at this; omega)]
    rw [decide_eq_false c6]
    simp only [symbolonref02_Conv.j0]
    rw [if_neg (by decide), if_neg (by omega)]
    have sh := side_tells size step k3 k4
    have sx := side_tells size step k5 k6
    unfold S.side at sh sx
    rw [if_pos (by omega), if_pos (by omega)] at sh sx
    rw [sh, sx, ref_right]
    simp only [Option.bind_some]
    unfold convS
    by_cases t : okS out (sdS h size step) (sdS x size step)
    · rw [decide_eq_true t, if_pos rfl, if_pos ⟨s, t⟩]
    · rw [decide_eq_false t, if_neg (by decide), if_neg (fun z => t z.2)]
  · rw [decide_eq_false s, if_neg (by decide), dead, no (fun z => s z.1)]
theorem ref_pool (c h x size : Int) : symbolonref02_Pool.f c h x size = some (poolS c h x size) := by
  unfold symbolonref02_Pool.f
  rw [ref_right]
  simp only [Option.bind_some]
  have no : ¬ (okS c h x ∧ okS c (psS h size) (psS x size)) → some (poolS c h x size) = some (0, 0, 0, false) := fun z => by unfold poolS; rw [if_neg z]
  by_cases s : okS c h x
  · rw [decide_eq_true s, if_pos rfl]
    have kk := s
    obtain ⟨k1, k2, k3, k4, k5, k6, k7⟩ := kk
    have z0 : ∀ n, ¬ (1 ≤ size ∧ n % size = 0) → psS n size = 0 := fun n q => by unfold psS; rw [if_neg q]
    by_cases c1 : size < 1
    · rw [if_pos c1, no (fun z => by have := z.2.2.2.1; rw [z0 h (by omega)] at this; omega)]
    rw [if_neg c1, if_neg (by omega), Int.tmod_eq_emod_of_nonneg (by omega), Int.tmod_eq_emod_of_nonneg (by omega)]
    by_cases c2 : h % size = 0
    · rw [if_pos c2]
      by_cases c3 : x % size = 0
      · rw [if_pos c3, Int.tdiv_eq_ediv_of_nonneg (by omega), Int.tdiv_eq_ediv_of_nonneg (by omega)]
        have eh : h / size * size = h := Int.ediv_mul_cancel (Int.dvd_of_emod_eq_zero c2)
        have ex : x / size * size = x := Int.ediv_mul_cancel (Int.dvd_of_emod_eq_zero c3)
        have lh : h / size ≤ h := Int.ediv_le_self _ (by omega)
        have lx : x / size ≤ x := Int.ediv_le_self _ (by omega)
        have nh : 0 ≤ h / size := Int.ediv_nonneg (by omega) (by omega)
        have nx : 0 ≤ x / size := Int.ediv_nonneg (by omega) (by omega)
        have ph : 1 ≤ h / size := by
          rcases (show h / size = 0 ∨ 1 ≤ h / size by omega) with z | z
          · rw [z] at eh; omega
          · exact z
        have px : 1 ≤ x / size := by
          rcases (show x / size = 0 ∨ 1 ≤ x / size by omega) with z | z
          · rw [z] at ex; omega
          · exact z
        have sh : psS h size = h / size := by unfold psS; rw [if_pos ⟨by omega, c2⟩]
        have sx : psS x size = x / size := by unfold psS; rw [if_pos ⟨by omega, c3⟩]
        have t : okS c (psS h size) (psS x size) := by
          rw [sh, sx]
          refine ⟨k1, k2, ph, by omega, px, by omega, ?_⟩
          have f1 : c * (h / size) ≤ c * h := Int.mul_le_mul_of_nonneg_left lh (by omega)
          have f2 : 0 ≤ c * (h / size) := Int.mul_nonneg (by omega) nh
          have f3 : c * (h / size) * (x / size) ≤ c * h * x := Int.mul_le_mul f1 lx nx (by omega)
          omega
        unfold poolS
        rw [if_pos ⟨s, t⟩, sh, sx, w_id (by omega) (by omega), w_id (by omega) (by omega)]
      · rw [if_neg c3, no (fun z => by have := z.2.2.2.2.2.1; rw [z0 x (fun q => c3 q.2)] at this; omega)]
    · rw [if_neg c2, no (fun z => by have := z.2.2.2.1; rw [z0 h (fun q => c2 q.2)] at this; omega)]
  · rw [decide_eq_false s, if_neg (by decide), no (fun z => s z.1)]
theorem wi {i : Int} (h0 : 0 ≤ i) (h1 : i ≤ 12) : wrap64 (i + 1) = i + 1 := w_id (by omega) (by omega)
section
variable {c h x i : Int} (s : okS c h x)
include s
theorem l2_ev (a b : Int) (ha : 0 ≤ a ∧ a < c) (hb : 0 ≤ b ∧ b < h) (next : ¬ (0 ≤ i ∧ i < x * (b + 1 + h * a)) → Ev (fun k => symbolonref02_Of.l1 k i a (b + 1) c h x) (ofS c h x i)) : ∀ (e : Nat) (d : Int), d + e = x → 0 ≤ d → ¬ (0 ≤ i ∧ i < d + x * (b + h * a)) →
    Ev (fun k => symbolonref02_Of.l2 k i a b d c h x) (ofS c h x i) := by
  have k6 := s.2.2.2.2.2.1
  have k4 := s.2.2.2.1
  intro e
  induction e with
  | zero =>
    intro d hd h0 hn
    have ed : d = x := by omega
    refine Ev.step (f := fun k => symbolonref02_Of.l1 k i a (b + 1) c h x) (fun k => ?_) (next ?_)
    · simp only [symbolonref02_Of.l2]
      rw [if_neg (by omega), wi hb.1 (by omega)]
    · have : x * (b + 1 + h * a) = x + x * (b + h * a) := by rw [show b + 1 + h * a = (b + h * a) + 1 by omega, Int.mul_add, Int.mul_one, Int.add_comm]
      rw [this]
      rw [ed] at hn
      exact hn
  | succ e ih =>
    intro d hd h0 hn
    have hdx : d < x := by omega
    by_cases f : d + x * (b + h * a) = i
    · refine Ev.step (f := fun _ => some (ofS c h x i)) (fun k => ?_) (Ev.now _)
      obtain ⟨m0, m1, m2, m3, m4⟩ := at_in s ha hb ⟨h0, hdx⟩
      obtain ⟨v1, v2, v3⟩ := of_at s ha hb ⟨h0, hdx⟩
      have ea : atS c h x a b d = i := by unfold atS; rw [if_pos ⟨s, ha, hb, h0, hdx⟩, f]
      have eo : ofS c h x i = (a, b, d, true) := by unfold ofS; rw [if_pos ⟨s, by omega, by omega⟩, ← f, v1, v2, v3]
      rw [eo]
      simp only [symbolonref02_Of.l2]
      rw [if_pos hdx, ref_at, ea]
      simp only [Option.bind_some, if_true]
    · refine Ev.step (f := fun k => symbolonref02_Of.l2 k i a b (d + 1) c h x) (fun k => ?_) (ih (d + 1) (by omega) (by omega) (by omega))
      simp only [symbolonref02_Of.l2]
      have ea : atS c h x a b d = d + x * (b + h * a) := by unfold atS; rw [if_pos ⟨s, ha, hb, h0, hdx⟩]
      rw [if_pos hdx, ref_at, ea]
      simp only [Option.bind_some]
      rw [if_neg f, wi h0 (by omega)]
theorem l1_ev (a : Int) (ha : 0 ≤ a ∧ a < c) (next : ¬ (0 ≤ i ∧ i < x * (h * (a + 1))) → Ev (fun k => symbolonref02_Of.l0 k i (a + 1) c h x) (ofS c h x i)) : ∀ (e : Nat) (b : Int), b + e = h → 0 ≤ b → ¬ (0 ≤ i ∧ i < x * (b + h * a)) →
    Ev (fun k => symbolonref02_Of.l1 k i a b c h x) (ofS c h x i) := by
  have k5 := s.2.2.2.2.1
  have k4 := s.2.2.2.1
  have k2 := s.2.1
  intro e
  induction e with
  | zero =>
    intro b hb h0 hn
    refine Ev.step (f := fun k => symbolonref02_Of.l0 k i (a + 1) c h x) (fun k => ?_) (next ?_)
    · simp only [symbolonref02_Of.l1]
      rw [if_neg (by omega), wi ha.1 (by omega)]
    · have : h * (a + 1) = b + h * a := by rw [Int.mul_add, Int.mul_one]; omega
      rw [this]
      exact hn
  | succ e ih =>
    intro b hb h0 hn
    refine Ev.step (f := fun k => symbolonref02_Of.l2 k i a b 0 c h x) (fun k => ?_) (l2_ev s a b ha ⟨h0, by omega⟩ (fun z => ih (b + 1) (by omega) (by omega) z) x.toNat 0 (by omega) (by omega) (by rw [Int.zero_add]; exact hn))
    simp only [symbolonref02_Of.l1]
    rw [if_pos (by omega)]
theorem l0_ev : ∀ (e : Nat) (a : Int), a + e = c → 0 ≤ a → ¬ (0 ≤ i ∧ i < x * (h * a)) → Ev (fun k => symbolonref02_Of.l0 k i a c h x) (ofS c h x i) := by
  have k3 := s.2.2.1
  intro e
  induction e with
  | zero =>
    intro a ha h0 hn
    refine Ev.step (f := fun k => symbolonref02_Of.j1 k i a false c h x) (fun k => ?_) (Ev.step (f := fun _ => some (ofS c h x i)) (fun k => ?_) (Ev.now _))
    · simp only [symbolonref02_Of.l0]
      rw [if_neg (by omega)]
    · simp only [symbolonref02_Of.j1]
      rw [if_neg (by decide)]
      unfold ofS
      have e1 : a = c := by omega
      have e2 : c * h * x = x * (h * a) := by rw [e1, Int.mul_comm, Int.mul_comm c h]
      rw [if_neg (fun z => hn (by rw [← e2]; exact z.2))]
  | succ e ih =>
    intro a ha h0 hn
    refine Ev.step (f := fun k => symbolonref02_Of.j1 k i a true c h x) (fun k => ?_) (Ev.step (f := fun k => symbolonref02_Of.l1 k i a 0 c h x) (fun k => ?_) (l1_ev s a ⟨h0, by omega⟩ (fun z => ih (a + 1) (by omega) (by omega) z) h.toNat 0 (by omega) (by omega) (by rw [Int.zero_add]; exact hn)))
    · simp only [symbolonref02_Of.l0]
      rw [if_pos (by omega), ref_right, decide_eq_true s]
      rfl
    · simp only [symbolonref02_Of.j1, if_true]
end
theorem ref_of (c h x i : Int) : Ev (fun k => symbolonref02_Of.f k c h x i) (ofS c h x i) := by
  unfold symbolonref02_Of.f
  by_cases s : okS c h x
  · have k1 := s.1
    exact l0_ev s c.toNat 0 (by omega) (by omega) (by omega)
  · have e : ofS c h x i = (0, 0, 0, false) := by unfold ofS; rw [if_neg (fun z => s z.1)]
    rw [e]
    refine Ev.step (f := fun k => symbolonref02_Of.j1 k i 0 false c h x) (fun k => ?_) (Ev.step (f := fun _ => some (0, 0, 0, false)) (fun k => ?_) (Ev.now _))
    · simp only [symbolonref02_Of.l0]
      split
      · rw [ref_right, decide_eq_false s]
        rfl
      · rfl
    · simp only [symbolonref02_Of.j1]
      rw [if_neg (by decide)]
theorem ShapeTells : symbolonlaw02_ShapeTells.Pure := by
  intro c h x a b d i out size step _ _ _ _ _ _ _ _ _ _
  obtain ⟨K, hK⟩ := ref_of c h x i
  refine ⟨K + 1, ?_⟩
  have hO : symbolonref02_Of.f (K + 1) c h x i = some (ofS c h x i) := hK (K + 1) (by omega)
  unfold symbolonlaw02_ShapeTells.f
  rw [head_true, hO, ref_conv]
  simp only [of_tells, conv_tells, pool_tells, ref_pool, right_tells, ref_right, size_tells, ref_size, at_tells, ref_at, Option.bind_some, if_true, beq_self_eq_true, Bool.and_self]
end Go.Proofs.Ythoahkpbbepneaa.Pure
