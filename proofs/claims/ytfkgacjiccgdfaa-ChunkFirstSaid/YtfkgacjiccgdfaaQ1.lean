-- Laid by a program of this session (wip/myprint.py) in the form of the kit's print; a text of this claim, checked by Lean like any other.
import Derived.Test.YtfkgacjiccgdfaaQ0
namespace Go.Proofs.Ytfkgacjiccgdfaa.Q
open Go.RowKit Go.Proofs.YtfkgacjiccgdfaaW.PrintWords Go.Proofs.YtfkgacjiccgdfaaW.PrintLast Go.Proofs.YtfkgacjiccgdfaaW.PrintMore
attribute [local go_sem] max2_int min2_int max_two min_two max_three min_three max_four min_four   -- for this text's walks alone
set_option linter.unusedVariables false
set_option linter.unusedSimpArgs false

/-! ### chunk_Get: function 12 -/
mutual
def chunk_Get.j0 : Nat → List Int → Int → Bool → Option (Int × List Int × Bool)
  | 0, _, _, _ => none
  | k + 1, x0, x5, x27 => if x27 = true then (some (0, ([] : List Int), false)) else (if 0 < (x0.length : Int) then (if 1 < (x0.length : Int) then (if x5 > (wrap64 ((wrap64 (65535 - (Go.bits .or .i64 (wrap64 ((wrap64 (rd x0 0)) * 256)) (wrap64 (rd x0 1))))) + 1)) then (some (0, ([] : List Int), false)) else (if 0 ≤ x5 then (if (x5 : Int).toNat ≤ 35184372088832 then (if 2 ≤ (x0.length : Int) then (chunk_Get.l0 k (Go.bits .or .i64 (wrap64 ((wrap64 (rd x0 0)) * 256)) (wrap64 (rd x0 1))) (List.replicate (x5 : Int).toNat 0) (x0.drop 2) ((x0.drop 2).length : Int) 0) else (none)) else (none)) else (none))) else (none)) else (none))
def chunk_Get.l0 : Nat → Int → List Int → List Int → Int → Int → Option (Int × List Int × Bool)
  | 0, _, _, _, _, _ => none
  | k + 1, x6, x7, x46, x47, x48 => if x48 < x47 then (if 0 ≤ x48 then (if x48 < (x46.length : Int) then (if 0 ≤ (wrap64 (Int.tdiv x48 8)) then (if (wrap64 (Int.tdiv x48 8)) < (x7.length : Int) then (chunk_Get.l0 k x6 (x7.set ((wrap64 (Int.tdiv x48 8)) : Int).toNat (Go.bits .or .u64 (IntKind.u64.wrap ((rd x7 (wrap64 (Int.tdiv x48 8))) * 256)) (IntKind.u64.wrap (rd x46 x48)))) x46 x47 (wrap64 (x48 + 1))) else (none)) else (none)) else (none)) else (none)) else (some (x6, x7, true))
end
def chunk_Get.f (k : Nat) (l0 : List Int) : Option (Int × List Int × Bool) := if (wrap64 (Int.tdiv (wrap64 ((l0.length : Int) - 2)) 8)) < 1 then (chunk_Get.j0 k l0 (wrap64 (Int.tdiv (wrap64 ((l0.length : Int) - 2)) 8)) true) else (if (wrap64 (Int.tdiv (wrap64 ((l0.length : Int) - 2)) 8)) > 6 then (chunk_Get.j0 k l0 (wrap64 (Int.tdiv (wrap64 ((l0.length : Int) - 2)) 8)) true) else (chunk_Get.j0 k l0 (wrap64 (Int.tdiv (wrap64 ((l0.length : Int) - 2)) 8)) ((l0.length : Int) != (wrap64 (2 + (wrap64 (8 * (wrap64 (Int.tdiv (wrap64 ((l0.length : Int) - 2)) 8)))))))))
theorem chunk_Get.mono_l : ∀ k, (∀ y0 y1 y2, LeO (chunk_Get.j0 k y0 y1 y2) (chunk_Get.j0 (k + 1) y0 y1 y2)) ∧ (∀ y0 y1 y2 y3 y4, LeO (chunk_Get.l0 k y0 y1 y2 y3 y4) (chunk_Get.l0 (k + 1) y0 y1 y2 y3 y4))
  | 0 => ⟨fun _ _ _ r h => by simp [chunk_Get.j0] at h, fun _ _ _ _ _ r h => by simp [chunk_Get.l0] at h⟩
  | k + 1 => by
    obtain ⟨ih0, ih1⟩ := chunk_Get.mono_l k
    refine ⟨?_, ?_⟩
    · intro y0 y1 y2
      unfold chunk_Get.j0
      repeat' first
      | (with_reducible exact ih0 _ _ _)
      | (with_reducible exact ih1 _ _ _ _ _)
      | (with_reducible exact LeO.refl _)
      | (with_reducible exact LeO.none _)
      | (with_reducible refine LeO.ite ?_ ?_)
      | (with_reducible refine LeO.bind ?_ (fun _ => ?_))
      | exact ih0 _ _ _
      | exact ih1 _ _ _ _ _
      | exact LeO.none _
      | refine LeO.ite ?_ ?_
      | refine LeO.bind ?_ (fun _ => ?_)
    · intro y0 y1 y2 y3 y4
      unfold chunk_Get.l0
      repeat' first
      | (with_reducible exact ih0 _ _ _)
      | (with_reducible exact ih1 _ _ _ _ _)
      | (with_reducible exact LeO.refl _)
      | (with_reducible exact LeO.none _)
      | (with_reducible refine LeO.ite ?_ ?_)
      | (with_reducible refine LeO.bind ?_ (fun _ => ?_))
      | exact ih0 _ _ _
      | exact ih1 _ _ _ _ _
      | exact LeO.none _
      | refine LeO.ite ?_ ?_
      | refine LeO.bind ?_ (fun _ => ?_)
theorem chunk_Get.mono : ∀ a0 k, LeO (chunk_Get.f k a0) (chunk_Get.f (k + 1) a0) := by
  intro a0 k
  obtain ⟨ih0, ih1⟩ := chunk_Get.mono_l k
  unfold chunk_Get.f
  repeat' first
      | (with_reducible exact ih0 _ _ _)
      | (with_reducible exact ih1 _ _ _ _ _)
      | (with_reducible exact LeO.refl _)
      | (with_reducible exact LeO.none _)
      | (with_reducible refine LeO.ite ?_ ?_)
      | (with_reducible refine LeO.bind ?_ (fun _ => ?_))
      | exact ih0 _ _ _
      | exact ih1 _ _ _ _ _
      | exact LeO.none _
      | refine LeO.ite ?_ ?_
      | refine LeO.bind ?_ (fun _ => ?_)
set_option maxHeartbeats 8000000 in
set_option maxRecDepth 100000 in
theorem chunk_Get.calls (k : Nat) (A0 : Option Addr) (c0 : Nat) (l0 : List Int) (r1 : Int) (r2 : List Int) (r3 : Bool) (w : World) (hr0 : Kd.C (Kd.int .u8) w A0 l0.length l0) (hc0 : l0.length ≤ c0) (h : chunk_Get.f k l0 = some (r1, r2, r3)) :
    Calls Try.prog 12 #[.slice A0 l0.length c0] w fun e w' => ∃ v1_ : Value, e = .returned (.tuple #[.int .i64 r1, v1_, .bool r3]) ∧ Kd.R (Kd.int .u64) 40 w' w.heap.size (fun _ => True) v1_ r2 ∧ Below w.heap.size w w' := by
  have HR0 := Aside0.mk hr0
  have HC0 := Aside0.mk hc0
  clear hr0 hc0
  have HB := Aside0.mk (Below.refl w.heap.size w)
  have H : (if (wrap64 (Int.tdiv (wrap64 ((l0.length : Int) - 2)) 8)) < 1 then (chunk_Get.j0 k l0 (wrap64 (Int.tdiv (wrap64 ((l0.length : Int) - 2)) 8)) true) else (if (wrap64 (Int.tdiv (wrap64 ((l0.length : Int) - 2)) 8)) > 6 then (chunk_Get.j0 k l0 (wrap64 (Int.tdiv (wrap64 ((l0.length : Int) - 2)) 8)) true) else (chunk_Get.j0 k l0 (wrap64 (Int.tdiv (wrap64 ((l0.length : Int) - 2)) 8)) ((l0.length : Int) != (wrap64 (2 + (wrap64 (8 * (wrap64 (Int.tdiv (wrap64 ((l0.length : Int) - 2)) 8)))))))))) = some (r1, r2, r3) := h
  clear h
  have HC2 := Aside0.mk H
  clear H
  go_enter Try.func12, Try.ntmps12
  go_upto_region 2 with (fail)
  repeat (go_quiet (fail); go_upto_region 2 with (fail))
  go_cut [27] (fun v27 wc => ∃ (kq : Nat) (x27_1 : Bool), v27 = .bool x27_1 ∧ Aside0 (chunk_Get.j0 kq l0 (wrap64 (Int.tdiv (wrap64 ((l0.length : Int) - 2)) 8)) x27_1 = some (r1, r2, r3)) ∧ Aside0 (kq ≤ k) ∧ Aside0 (Below w.heap.size w wc))
  case first =>
    have H := HC2.out
    clear HC2
    by_cases c3 : (wrap64 (Int.tdiv (wrap64 ((l0.length : Int) - 2)) 8)) < 1
    · rw [if_pos c3] at H
      have c3b0 : decide ((wrap64 (Int.tdiv (wrap64 ((l0.length : Int) - 2)) 8)) < 1) = true := decide_eq_true c3
      clear c3
      (first | rw [c3b0] | (simp only [i64_w, i32_w]; rw [c3b0]) | skip)
      have H' := Aside0.mk H
      clear H
      go_wp2
      repeat (go_quiet (fail); try go_wp2)
      go_meet
      case rel => exact ⟨_, (true), (by first | rfl | (simp; done) | (simp [*]; done)), H', ⟨by first | omega | exact Nat.le_refl _⟩, ⟨by repeat (first | (with_reducible first | exact HB.out | apply below_alloc | apply pw_below_drewN | apply below_drew1) | exact HB.out)⟩⟩
    · rw [if_neg c3] at H
      have c3b0 : decide ((wrap64 (Int.tdiv (wrap64 ((l0.length : Int) - 2)) 8)) < 1) = false := decide_eq_false c3
      clear c3
      (first | rw [c3b0] | (simp only [i64_w, i32_w]; rw [c3b0]) | skip)
      by_cases c4 : (wrap64 (Int.tdiv (wrap64 ((l0.length : Int) - 2)) 8)) > 6
      · rw [if_pos c4] at H
        have c4b0 : decide (6 < (wrap64 (Int.tdiv (wrap64 ((l0.length : Int) - 2)) 8))) = true := decide_eq_true c4
        clear c4
        have H' := Aside0.mk H
        clear H
        go_wp2
        repeat (go_quiet (fail); try go_wp2)
        go_meet
        case rel => exact ⟨_, (true), (by first | rfl | (simp; done) | (simp [*]; done)), H', ⟨by first | omega | exact Nat.le_refl _⟩, ⟨by repeat (first | (with_reducible first | exact HB.out | apply below_alloc | apply pw_below_drewN | apply below_drew1) | exact HB.out)⟩⟩
      · rw [if_neg c4] at H
        have c4b0 : decide (6 < (wrap64 (Int.tdiv (wrap64 ((l0.length : Int) - 2)) 8))) = false := decide_eq_false c4
        clear c4
        have H' := Aside0.mk H
        clear H
        go_wp2
        repeat (go_quiet (fail); try go_wp2)
        go_meet
        case rel => exact ⟨_, (((l0.length : Int) != (wrap64 (2 + (wrap64 (8 * (wrap64 (Int.tdiv (wrap64 ((l0.length : Int) - 2)) 8)))))))), (by first | rfl | (simp; done) | (simp [*]; done)), H', ⟨by first | omega | exact Nat.le_refl _⟩, ⟨by repeat (first | (with_reducible first | exact HB.out | apply below_alloc | apply pw_below_drewN | apply below_drew1) | exact HB.out)⟩⟩
  case rest =>
    clear HC2
    try clear c1
    try clear p2
    try clear c3
    try clear c3b0
    try clear c4
    try clear c4b0
    obtain ⟨kq, x27_1, rfl, HA, HJ1, HB⟩ := hcut
    cases kq with
    | zero => exact absurd HA.out (by simp [chunk_Get.j0])
    | succ kj1 =>
      have H := HA.out
      clear HA
      simp only [chunk_Get.j0] at H
      by_cases c5 : x27_1 = true
      · subst c5
        have H1 : (some (0, ([] : List Int), false)) = some (r1, r2, r3) := by rw [if_pos rfl] at H; exact H
        clear H
        have H := H1
        clear H1
        simp only [Option.some.injEq, Prod.mk.injEq] at H
        obtain ⟨rfl, rfl, rfl⟩ := H
        go_wp2
        repeat (go_quiet (fail); try go_wp2)
        go_ret3
        exact ⟨_, by first | rfl | (simp [errW_none, errW_some] <;> rfl) | (simp [*, errW_none, errW_some] <;> rfl), by first | exact Kd.R_nil _ _ _ _ _ | exact Kd.N_nil _ _ _ _ _ | exact Kd.V_nil _ _ _ _ _ | exact Kd.Q_nil _ _ _ _ _ | exact Kd.S_nil _ _ _ _ _, by repeat (first | (with_reducible first | exact HB.out | apply below_alloc | apply pw_below_drewN | apply below_drew1) | exact HB.out)⟩
      · replace c5 := Bool.eq_false_iff.mpr c5
        subst c5
        have H1 : (if 0 < (l0.length : Int) then (if 1 < (l0.length : Int) then (if (wrap64 (Int.tdiv (wrap64 ((l0.length : Int) - 2)) 8)) > (wrap64 ((wrap64 (65535 - (Go.bits .or .i64 (wrap64 ((wrap64 (rd l0 0)) * 256)) (wrap64 (rd l0 1))))) + 1)) then (some (0, ([] : List Int), false)) else (if 0 ≤ (wrap64 (Int.tdiv (wrap64 ((l0.length : Int) - 2)) 8)) then (if ((wrap64 (Int.tdiv (wrap64 ((l0.length : Int) - 2)) 8)) : Int).toNat ≤ 35184372088832 then (if 2 ≤ (l0.length : Int) then (chunk_Get.l0 kj1 (Go.bits .or .i64 (wrap64 ((wrap64 (rd l0 0)) * 256)) (wrap64 (rd l0 1))) (List.replicate ((wrap64 (Int.tdiv (wrap64 ((l0.length : Int) - 2)) 8)) : Int).toNat 0) (l0.drop 2) ((l0.drop 2).length : Int) 0) else (none)) else (none)) else (none))) else (none)) else (none)) = some (r1, r2, r3) := by rw [if_neg (show ¬ (false = true) by decide)] at H; exact H
        clear H
        have H := H1
        clear H1
        by_cases c6 : 0 < (l0.length : Int)
        · rw [if_pos c6] at H
          have c6b0 : decide (0 < (l0.length : Int)) = true := decide_eq_true c6
          have c6b1 : decide (0 < l0.length) = true := decide_eq_true (by omega)
          clear c6
          by_cases c7 : 1 < (l0.length : Int)
          · rw [if_pos c7] at H
            have c7b0 : decide (1 < (l0.length : Int)) = true := decide_eq_true c7
            have c7b1 : decide (1 < l0.length) = true := decide_eq_true (by omega)
            clear c7
            by_cases c8 : (wrap64 (Int.tdiv (wrap64 ((l0.length : Int) - 2)) 8)) > (wrap64 ((wrap64 (65535 - (Go.bits .or .i64 (wrap64 ((wrap64 (rd l0 0)) * 256)) (wrap64 (rd l0 1))))) + 1))
            · rw [if_pos c8] at H
              have c8b0 : decide ((wrap64 ((wrap64 (65535 - (Go.bits .or .i64 (wrap64 ((wrap64 (rd l0 0)) * 256)) (wrap64 (rd l0 1))))) + 1)) < (wrap64 (Int.tdiv (wrap64 ((l0.length : Int) - 2)) 8))) = true := decide_eq_true c8
              clear c8
              simp only [Option.some.injEq, Prod.mk.injEq] at H
              obtain ⟨rfl, rfl, rfl⟩ := H
              have p101 : 0 ≤ (0 : Int) := (by omega)
              have q101 : 0 < (l0.length : Int) := of_decide_eq_true (by first | (with_reducible assumption) | assumption)
              obtain ⟨ad101, e101, hx101_0⟩ := Kd.at_int HR0.out 0 p101 q101
              cases e101
              have qi101 : (0 < l0.length) = True := eq_true (by omega)
              (try rw [show ((0 : Int)).toNat = 0 from rfl] at hx101_0)
              (try rw [Addr.add_zero'] at hx101_0)
              replace hx101_0 := (HB.out.cell (World.block_lt_of_cell? w _ hx101_0)).trans hx101_0
              replace p101 := eq_true p101
              replace q101 := eq_true q101
              have p102 : 0 ≤ (1 : Int) := (by omega)
              have q102 : 1 < (l0.length : Int) := of_decide_eq_true (by first | (with_reducible assumption) | assumption)
              obtain ⟨ad102, e102, hx102_0⟩ := Kd.at_int HR0.out 1 p102 q102
              obtain rfl : ad101 = ad102 := (by injection e102)
              (try simp only [show (1 : Int).toNat = 1 from rfl, Nat.reduceMul, Nat.reduceEqDiff, Go.Addr.add, ↓reduceIte] at hx102_0)
              have qi102 : (1 < l0.length) = True := eq_true (by omega)
              (try rw [show ((1 : Int)).toNat = 1 from rfl] at hx102_0)
              replace hx102_0 := (HB.out.cell (World.block_lt_of_cell? w _ hx102_0)).trans hx102_0
              replace p102 := eq_true p102
              replace q102 := eq_true q102
              go_wp2
              repeat (go_quiet (fail); try go_wp2)
              go_ret3
              exact ⟨_, by first | rfl | (simp [errW_none, errW_some] <;> rfl) | (simp [*, errW_none, errW_some] <;> rfl), by first | exact Kd.R_nil _ _ _ _ _ | exact Kd.N_nil _ _ _ _ _ | exact Kd.V_nil _ _ _ _ _ | exact Kd.Q_nil _ _ _ _ _ | exact Kd.S_nil _ _ _ _ _, by repeat (first | (with_reducible first | exact HB.out | apply below_alloc | apply pw_below_drewN | apply below_drew1) | exact HB.out)⟩
            · rw [if_neg c8] at H
              have c8b0 : decide ((wrap64 ((wrap64 (65535 - (Go.bits .or .i64 (wrap64 ((wrap64 (rd l0 0)) * 256)) (wrap64 (rd l0 1))))) + 1)) < (wrap64 (Int.tdiv (wrap64 ((l0.length : Int) - 2)) 8))) = false := decide_eq_false c8
              clear c8
              obtain ⟨ji9, hji9⟩ : ∃ j_ : Int, (wrap64 (Int.tdiv (wrap64 ((l0.length : Int) - 2)) 8)) = j_ := ⟨_, rfl⟩
              replace H : (if 0 ≤ (ji9) then (if ((ji9) : Int).toNat ≤ 35184372088832 then (if 2 ≤ (l0.length : Int) then (chunk_Get.l0 kj1 (Go.bits .or .i64 (wrap64 ((wrap64 (rd l0 0)) * 256)) (wrap64 (rd l0 1))) (List.replicate ((ji9) : Int).toNat 0) (l0.drop 2) ((l0.drop 2).length : Int) 0) else (none)) else (none)) else (none)) = some (r1, r2, r3) := by first | (rw [hji9] at H; exact H) | (simp only [hji9] at H ⊢; exact H)
              (try rw [hji9] at c8b0)
              have hji9w : (IntKind.i64.wrap (Int.tdiv (wrap64 ((l0.length : Int) - 2)) 8)) = ji9 := (i64_w _).trans hji9
              by_cases c10 : 0 ≤ (ji9)
              · rw [if_pos c10] at H
                have c10b0 := eq_true c10
                have c10b1 : decide (0 ≤ (ji9)) = true := decide_eq_true c10
                clear c10
                by_cases c11 : ((ji9) : Int).toNat ≤ 35184372088832
                · rw [if_pos c11] at H
                  have c11b0 := eq_true c11
                  have c11b1 : decide (((ji9) : Int).toNat ≤ 35184372088832) = true := decide_eq_true c11
                  clear c11
                  obtain ⟨y103, hy103⟩ : ∃ y_ : List Int, y_ = (List.replicate ((ji9) : Int).toNat 0) := ⟨_, rfl⟩
                  replace H : (if 2 ≤ (l0.length : Int) then (chunk_Get.l0 kj1 (Go.bits .or .i64 (wrap64 ((wrap64 (rd l0 0)) * 256)) (wrap64 (rd l0 1))) y103 (l0.drop 2) ((l0.drop 2).length : Int) 0) else (none)) = some (r1, r2, r3) := by first | (rw [hy103]; with_reducible exact H) | (have H2_ := (Option.bind_some _ _).symm.trans H; rw [hy103]; with_reducible exact H2_) | (have H2_ := (Option.bind_some _ _).symm.trans H; with_reducible exact H2_) | with_reducible exact H | (rw [hy103]; exact H) | exact H
                  have Ny103 := Aside0.mk hy103
                  clear hy103
                  by_cases c12 : 2 ≤ (l0.length : Int)
                  · rw [if_pos c12] at H
                    have c12b0 := eq_true c12
                    have c12b1 : decide (2 ≤ (l0.length : Int)) = true := decide_eq_true c12
                    clear c12
                    have H' := Aside0.mk H
                    clear H
                    have p101 : 0 ≤ (0 : Int) := (by omega)
                    have q101 : 0 < (l0.length : Int) := of_decide_eq_true (by first | (with_reducible assumption) | assumption)
                    obtain ⟨ad101, e101, hx101_0⟩ := Kd.at_int HR0.out 0 p101 q101
                    cases e101
                    have qi101 : (0 < l0.length) = True := eq_true (by omega)
                    (try rw [show ((0 : Int)).toNat = 0 from rfl] at hx101_0)
                    (try rw [Addr.add_zero'] at hx101_0)
                    replace hx101_0 := (HB.out.cell (World.block_lt_of_cell? w _ hx101_0)).trans hx101_0
                    replace p101 := eq_true p101
                    replace q101 := eq_true q101
                    have p102 : 0 ≤ (1 : Int) := (by omega)
                    have q102 : 1 < (l0.length : Int) := of_decide_eq_true (by first | (with_reducible assumption) | assumption)
                    obtain ⟨ad102, e102, hx102_0⟩ := Kd.at_int HR0.out 1 p102 q102
                    obtain rfl : ad101 = ad102 := (by injection e102)
                    (try simp only [show (1 : Int).toNat = 1 from rfl, Nat.reduceMul, Nat.reduceEqDiff, Go.Addr.add, ↓reduceIte] at hx102_0)
                    have qi102 : (1 < l0.length) = True := eq_true (by omega)
                    (try rw [show ((1 : Int)).toNat = 1 from rfl] at hx102_0)
                    replace hx102_0 := (HB.out.cell (World.block_lt_of_cell? w _ hx102_0)).trans hx102_0
                    replace p102 := eq_true p102
                    replace q102 := eq_true q102
                    go_wp2_with (first | ((with_reducible refine gate_dst (N := 44) rfl ?_); (try (refine gate_guard (by rfl) ?_; dsimp only)); refine Kd.R_make (Kd.int .u64) _ 40 rfl (N := 44) rfl 22 _ _ rfl (ji9) rfl rfl Try.underlying22 (.int .u64 0) 8 info40 rfl (by decide) (by omega) 0 (ok := fun _ => True) (okp := fun _ => True) rfl (fun _ hk => hk) trivial (of_decide_eq_true (by first | (with_reducible assumption) | assumption)) (Nat.le_trans (Nat.mul_le_mul_right _ (of_decide_eq_true (by first | (with_reducible assumption) | assumption) : (ji9).toNat ≤ 35184372088832)) (by omega)) (Below.refl _ _) (Nat.le_refl _) ?_; intro v104 w13 ho14 hb hg_ hnew_; clear hg_ hnew_; (first | rw [← Ny103.out] at ho14 | (simp only [Int.reduceToNat] at ho14; rw [← Ny103.out] at ho14)); have n0_ := Aside0.mk (Kd.R_lower ho14 (below_size (by repeat (first | (with_reducible first | exact HB.out | apply below_alloc | apply pw_below_drewN | apply below_drew1) | exact HB.out)))); have n1_ := Aside0.mk (below_step (by repeat (first | (with_reducible first | exact HB.out | apply below_alloc | apply pw_below_drewN | apply below_drew1) | exact HB.out)) hb); clear HB; have HO105 := n0_; have HB := n1_; clear n0_ n1_; clear hb ho14; obtain ⟨i015, hi015, _, hsz15, _⟩ := info_parts info5; obtain ⟨A15, hcut15, hA15, hC15⟩ := print_drop_of (P := Try.prog) (Value.int .u8) 0 23 5 .i64 Try.underlying23 hi015 hsz15 (some ad101) c0 l0 2 (by omega) (of_decide_eq_true (by first | (with_reducible assumption) | assumption)) HC0.out; have HR106 := Aside0.mk (Kd.C_of_reads (h1 := fun _ => rfl) (hA15 _ (Kd.reads_of_C HR0.out))); have HC106 := Aside0.mk hC15; clear hA15 hC15 hi015 hsz15))
                    repeat (go_quiet (first | ((with_reducible refine gate_dst (N := 44) rfl ?_); (try (refine gate_guard (by rfl) ?_; dsimp only)); refine Kd.R_make (Kd.int .u64) _ 40 rfl (N := 44) rfl 22 _ _ rfl (ji9) rfl rfl Try.underlying22 (.int .u64 0) 8 info40 rfl (by decide) (by omega) 0 (ok := fun _ => True) (okp := fun _ => True) rfl (fun _ hk => hk) trivial (of_decide_eq_true (by first | (with_reducible assumption) | assumption)) (Nat.le_trans (Nat.mul_le_mul_right _ (of_decide_eq_true (by first | (with_reducible assumption) | assumption) : (ji9).toNat ≤ 35184372088832)) (by omega)) (Below.refl _ _) (Nat.le_refl _) ?_; intro v104 w13 ho14 hb hg_ hnew_; clear hg_ hnew_; (first | rw [← Ny103.out] at ho14 | (simp only [Int.reduceToNat] at ho14; rw [← Ny103.out] at ho14)); have n0_ := Aside0.mk (Kd.R_lower ho14 (below_size (by repeat (first | (with_reducible first | exact HB.out | apply below_alloc | apply pw_below_drewN | apply below_drew1) | exact HB.out)))); have n1_ := Aside0.mk (below_step (by repeat (first | (with_reducible first | exact HB.out | apply below_alloc | apply pw_below_drewN | apply below_drew1) | exact HB.out)) hb); clear HB; have HO105 := n0_; have HB := n1_; clear n0_ n1_; clear hb ho14; obtain ⟨i015, hi015, _, hsz15, _⟩ := info_parts info5; obtain ⟨A15, hcut15, hA15, hC15⟩ := print_drop_of (P := Try.prog) (Value.int .u8) 0 23 5 .i64 Try.underlying23 hi015 hsz15 (some ad101) c0 l0 2 (by omega) (of_decide_eq_true (by first | (with_reducible assumption) | assumption)) HC0.out; have HR106 := Aside0.mk (Kd.C_of_reads (h1 := fun _ => rfl) (hA15 _ (Kd.reads_of_C HR0.out))); have HC106 := Aside0.mk hC15; clear hA15 hC15 hi015 hsz15)); try go_wp2_with (first | ((with_reducible refine gate_dst (N := 44) rfl ?_); (try (refine gate_guard (by rfl) ?_; dsimp only)); refine Kd.R_make (Kd.int .u64) _ 40 rfl (N := 44) rfl 22 _ _ rfl (ji9) rfl rfl Try.underlying22 (.int .u64 0) 8 info40 rfl (by decide) (by omega) 0 (ok := fun _ => True) (okp := fun _ => True) rfl (fun _ hk => hk) trivial (of_decide_eq_true (by first | (with_reducible assumption) | assumption)) (Nat.le_trans (Nat.mul_le_mul_right _ (of_decide_eq_true (by first | (with_reducible assumption) | assumption) : (ji9).toNat ≤ 35184372088832)) (by omega)) (Below.refl _ _) (Nat.le_refl _) ?_; intro v104 w13 ho14 hb hg_ hnew_; clear hg_ hnew_; (first | rw [← Ny103.out] at ho14 | (simp only [Int.reduceToNat] at ho14; rw [← Ny103.out] at ho14)); have n0_ := Aside0.mk (Kd.R_lower ho14 (below_size (by repeat (first | (with_reducible first | exact HB.out | apply below_alloc | apply pw_below_drewN | apply below_drew1) | exact HB.out)))); have n1_ := Aside0.mk (below_step (by repeat (first | (with_reducible first | exact HB.out | apply below_alloc | apply pw_below_drewN | apply below_drew1) | exact HB.out)) hb); clear HB; have HO105 := n0_; have HB := n1_; clear n0_ n1_; clear hb ho14; obtain ⟨i015, hi015, _, hsz15, _⟩ := info_parts info5; obtain ⟨A15, hcut15, hA15, hC15⟩ := print_drop_of (P := Try.prog) (Value.int .u8) 0 23 5 .i64 Try.underlying23 hi015 hsz15 (some ad101) c0 l0 2 (by omega) (of_decide_eq_true (by first | (with_reducible assumption) | assumption)) HC0.out; have HR106 := Aside0.mk (Kd.C_of_reads (h1 := fun _ => rfl) (hA15 _ (Kd.reads_of_C HR0.out))); have HC106 := Aside0.mk hC15; clear hA15 hC15 hi015 hsz15)))
                    go_loopg [48] kj1 (fun kq v48 w' => ∃ (x7_2 : List Int) (x48_2 : Int), v48 = .int .i64 x48_2 ∧ Aside0 (chunk_Get.l0 kq (Go.bits .or .i64 (wrap64 ((wrap64 (rd l0 0)) * 256)) (wrap64 (rd l0 1))) x7_2 (l0.drop 2) ((l0.drop 2).length : Int) x48_2 = some (r1, r2, r3)) ∧ Aside0 (kq ≤ kj1) ∧ Aside0 (Kd.R (Kd.int .u64) 40 w' w.heap.size (fun _ => True) v104 x7_2) ∧ Aside0 (Below w.heap.size w w'))
                    case atStart => exact ⟨(y103), (0), (by first | rfl | (simp; done) | (simp [*]; done)), H', ⟨Nat.le_refl _⟩, ⟨by (with_reducible repeat (first | apply Kd.R_alloc | apply Kd.R_drewN | apply Kd.R_drew)); exact HO105.out⟩, ⟨by repeat (first | (with_reducible first | exact HB.out | apply below_alloc | apply pw_below_drewN | apply below_drew1) | exact HB.out)⟩⟩
                    case round =>
                      clear H'
                      try clear c1
                      try clear p1
                      try clear q1
                      try clear hx1
                      try clear qi1
                      try clear p2
                      try clear c3
                      try clear c3b0
                      try clear c4
                      try clear c4b0
                      try clear c5
                      try clear c6
                      try clear c6b0
                      try clear c6b1
                      try clear p6
                      try clear c7
                      try clear c7b0
                      try clear c7b1
                      try clear c8
                      try clear c8b0
                      try clear c10
                      try clear c10b0
                      try clear c10b1
                      try clear p10
                      try clear q10
                      try clear hx10
                      try clear qi10
                      try clear c11
                      try clear c11b0
                      try clear c11b1
                      try clear c12
                      try clear c12b0
                      try clear c12b1
                      try clear hx101_0
                      try clear hx102_0
                      try clear p101
                      try clear p102
                      try clear p2
                      try clear q101
                      try clear q102
                      obtain ⟨x7_2, x48_2, rfl, HA, HK2, HO_7, HB⟩ := hrel
                      cases gk with
                      | zero => exact absurd HA.out (by simp [chunk_Get.l0])
                      | succ k2 =>
                        have H := HA.out
                        clear HA
                        simp only [chunk_Get.l0] at H
                        by_cases c16 : x48_2 < ((l0.drop 2).length : Int)
                        · rw [if_pos c16] at H
                          have c16b0 : decide (x48_2 < ((l0.drop 2).length : Int)) = true := decide_eq_true c16
                          have c16d0 : decide (x48_2 < ((l0.length - 2 : Nat) : Int)) = true := by rw [← List.length_drop]; exact c16b0
                          clear c16
                          by_cases c17 : 0 ≤ x48_2
                          · rw [if_pos c17] at H
                            have c17b0 : decide (0 ≤ x48_2) = true := decide_eq_true c17
                            clear c17
                            by_cases c18 : x48_2 < ((l0.drop 2).length : Int)
                            · rw [if_pos c18] at H
                              have c18b0 : decide (x48_2 < ((l0.drop 2).length : Int)) = true := decide_eq_true c18
                              have c18d0 : decide (x48_2 < ((l0.length - 2 : Nat) : Int)) = true := by rw [← List.length_drop]; exact c18b0
                              clear c18
                              obtain ⟨ji19, hji19⟩ : ∃ j_ : Int, (wrap64 (Int.tdiv x48_2 8)) = j_ := ⟨_, rfl⟩
                              replace H : (if 0 ≤ (ji19) then (if (ji19) < (x7_2.length : Int) then (chunk_Get.l0 k2 (Go.bits .or .i64 (wrap64 ((wrap64 (rd l0 0)) * 256)) (wrap64 (rd l0 1))) (x7_2.set ((ji19) : Int).toNat (Go.bits .or .u64 (IntKind.u64.wrap ((rd x7_2 (ji19)) * 256)) (IntKind.u64.wrap (rd (l0.drop 2) x48_2)))) (l0.drop 2) ((l0.drop 2).length : Int) (wrap64 (x48_2 + 1))) else (none)) else (none)) = some (r1, r2, r3) := by first | (rw [hji19] at H; exact H) | (simp only [hji19] at H ⊢; exact H)
                              have hji19w : (IntKind.i64.wrap (Int.tdiv x48_2 8)) = ji19 := (i64_w _).trans hji19
                              by_cases c20 : 0 ≤ (ji19)
                              · rw [if_pos c20] at H
                                have c20b0 : decide (0 ≤ (ji19)) = true := decide_eq_true c20
                                clear c20
                                by_cases c21 : (ji19) < (x7_2.length : Int)
                                · rw [if_pos c21] at H
                                  have c21b0 : decide ((ji19) < (x7_2.length : Int)) = true := decide_eq_true c21
                                  clear c21
                                  obtain ⟨y109, hy109⟩ : ∃ y_ : List Int, y_ = (x7_2.set ((ji19) : Int).toNat (Go.bits .or .u64 (IntKind.u64.wrap ((rd x7_2 (ji19)) * 256)) (IntKind.u64.wrap (rd (l0.drop 2) x48_2)))) := ⟨_, rfl⟩
                                  replace H : (chunk_Get.l0 k2 (Go.bits .or .i64 (wrap64 ((wrap64 (rd l0 0)) * 256)) (wrap64 (rd l0 1))) y109 (l0.drop 2) ((l0.drop 2).length : Int) (wrap64 (x48_2 + 1))) = some (r1, r2, r3) := by first | (rw [hy109]; with_reducible exact H) | (have H2_ := (Option.bind_some _ _).symm.trans H; rw [hy109]; with_reducible exact H2_) | (have H2_ := (Option.bind_some _ _).symm.trans H; with_reducible exact H2_) | with_reducible exact H | (rw [hy109]; exact H) | exact H
                                  have Ny109 := Aside0.mk hy109
                                  clear hy109
                                  have H' := Aside0.mk H
                                  clear H
                                  have p107 : 0 ≤ (x48_2 : Int) := of_decide_eq_true (by first | (with_reducible assumption) | assumption)
                                  have q107 : x48_2 < ((l0.drop 2).length : Int) := of_decide_eq_true (by first | (with_reducible assumption) | assumption)
                                  obtain ⟨ad107, e107, hx107_0⟩ := Kd.at_int HR106.out x48_2 p107 q107
                                  cases e107
                                  replace hx107_0 := (HB.out.cell (World.block_lt_of_cell? w _ hx107_0)).trans hx107_0
                                  replace p107 := eq_true p107
                                  replace q107 := eq_true q107
                                  have q107d0 : (x48_2 < ((l0.length - 2 : Nat) : Int)) = True := by rw [← List.length_drop]; exact q107
                                  obtain ⟨Ao23, co23, eo23⟩ := Kd.R_slice HO_7.out
                                  subst eo23
                                  have p108 : 0 ≤ ((ji19) : Int) := of_decide_eq_true (by first | (with_reducible assumption) | assumption)
                                  have q108 : (ji19) < (x7_2.length : Int) := of_decide_eq_true (by first | (with_reducible assumption) | assumption)
                                  obtain ⟨ad108, e108, hx108_0⟩ := Kd.at_int (Kd.R_reads' HO_7.out).2.2 (ji19) p108 q108
                                  cases e108
                                  replace p108 := eq_true p108
                                  replace q108 := eq_true q108
                                  have p22 : 0 ≤ ((ji19) : Int) := of_decide_eq_true (by first | (with_reducible assumption) | assumption)
                                  have q22 : ((ji19) : Int) < ((x7_2.length : Int) : Int) := of_decide_eq_true (by first | (with_reducible assumption) | assumption)
                                  obtain ⟨go22, co22, eo22, gb22, gl22, cl22, HG22⟩ := Kd.R_form HO_7.out (by omega)
                                  (first | cases eo22 | (injection eo22 with ea_ en_ ec_; (first | subst ea_ | (injection ea_ with ea_; subst ea_)); subst ec_; clear en_))
                                  have GB22 := Aside0.mk gb22
                                  have GG22 := Aside0.mk HG22
                                  clear gb22 gl22 HG22
                                  (first | simp only [add_plain] at hx108_0 | skip)
                                  obtain ⟨hx22_0, hf22_0⟩ := Kd.R_celln 0 HO_7.out ((ji19) : Int) p22 q22
                                  replace p22 := eq_true p22
                                  replace q22 := eq_true q22
                                  have HP24 := Kd.R_putg HO_7.out ((ji19) : Int) (Go.bits .or .u64 (IntKind.u64.wrap ((rd x7_2 (ji19)) * 256)) (IntKind.u64.wrap (rd (l0.drop 2) x48_2)))
                                  go_wp2_with (first | ((with_reducible refine gate_store (t := 40) (p := 65) rfl ?_); (try (rw [drewN_self wr]; generalize hq_ : World.drewN wr _ = wr; have n0_ := Aside0.mk (Kd.R_at hq_ HO_7.out); have n1_ := Aside0.mk (below_at hq_ HB.out); clear hq_ HO_7 HB; have HO_7 := n0_; have HB := n1_; clear n0_ n1_; (try (have HP24 := Kd.R_putg HO_7.out ((ji19) : Int) (Go.bits .or .u64 (IntKind.u64.wrap ((rd x7_2 (ji19)) * 256)) (IntKind.u64.wrap (rd (l0.drop 2) x48_2))))))); refine store_event (t := 40) (p := 65) (v := ?vo_w25) (w1 := (wr.setCell ⟨go22, ((ji19) : Int).toNat, none⟩ (.int .u64 (Go.bits .or .u64 (IntKind.u64.wrap ((rd x7_2 (ji19)) * 256)) (IntKind.u64.wrap (rd (l0.drop 2) x48_2)))))) ?hg ?ho ?hn ?hr ?_; (case ho => rfl); (case hg => rfl); (case hn => rfl); (case hr => first | (go_simp; done) | (go_simp; rfl)); intro w25 hw; have hg : wr.grownBy w25 (some go22) := (by rw [hw]; exact HP24.2); have hp_ : Kd.R (Kd.int .u64) 40 w25 w.heap.size (fun _ => True) (.slice (some ⟨go22, 0, none⟩) x7_2.length co23) y109 := (by rw [hw, Ny109.out]; exact HP24.1); clear HP24; have n0_ := Aside0.mk (hp_); have n1_ := Aside0.mk ((by rw [hw]; exact below_set (HB.out) GB22.out : Below w.heap.size w w25)); clear HO_7; clear HB; have HO_7 := n0_; have HB := n1_; clear n0_ n1_; clear hg hw hp_))
                                  repeat (go_quiet (first | ((with_reducible refine gate_store (t := 40) (p := 65) rfl ?_); (try (rw [drewN_self wr]; generalize hq_ : World.drewN wr _ = wr; have n0_ := Aside0.mk (Kd.R_at hq_ HO_7.out); have n1_ := Aside0.mk (below_at hq_ HB.out); clear hq_ HO_7 HB; have HO_7 := n0_; have HB := n1_; clear n0_ n1_; (try (have HP24 := Kd.R_putg HO_7.out ((ji19) : Int) (Go.bits .or .u64 (IntKind.u64.wrap ((rd x7_2 (ji19)) * 256)) (IntKind.u64.wrap (rd (l0.drop 2) x48_2))))))); refine store_event (t := 40) (p := 65) (v := ?vo_w25) (w1 := (wr.setCell ⟨go22, ((ji19) : Int).toNat, none⟩ (.int .u64 (Go.bits .or .u64 (IntKind.u64.wrap ((rd x7_2 (ji19)) * 256)) (IntKind.u64.wrap (rd (l0.drop 2) x48_2)))))) ?hg ?ho ?hn ?hr ?_; (case ho => rfl); (case hg => rfl); (case hn => rfl); (case hr => first | (go_simp; done) | (go_simp; rfl)); intro w25 hw; have hg : wr.grownBy w25 (some go22) := (by rw [hw]; exact HP24.2); have hp_ : Kd.R (Kd.int .u64) 40 w25 w.heap.size (fun _ => True) (.slice (some ⟨go22, 0, none⟩) x7_2.length co23) y109 := (by rw [hw, Ny109.out]; exact HP24.1); clear HP24; have n0_ := Aside0.mk (hp_); have n1_ := Aside0.mk ((by rw [hw]; exact below_set (HB.out) GB22.out : Below w.heap.size w w25)); clear HO_7; clear HB; have HO_7 := n0_; have HB := n1_; clear n0_ n1_; clear hg hw hp_)); try go_wp2_with (first | ((with_reducible refine gate_store (t := 40) (p := 65) rfl ?_); (try (rw [drewN_self wr]; generalize hq_ : World.drewN wr _ = wr; have n0_ := Aside0.mk (Kd.R_at hq_ HO_7.out); have n1_ := Aside0.mk (below_at hq_ HB.out); clear hq_ HO_7 HB; have HO_7 := n0_; have HB := n1_; clear n0_ n1_; (try (have HP24 := Kd.R_putg HO_7.out ((ji19) : Int) (Go.bits .or .u64 (IntKind.u64.wrap ((rd x7_2 (ji19)) * 256)) (IntKind.u64.wrap (rd (l0.drop 2) x48_2))))))); refine store_event (t := 40) (p := 65) (v := ?vo_w25) (w1 := (wr.setCell ⟨go22, ((ji19) : Int).toNat, none⟩ (.int .u64 (Go.bits .or .u64 (IntKind.u64.wrap ((rd x7_2 (ji19)) * 256)) (IntKind.u64.wrap (rd (l0.drop 2) x48_2)))))) ?hg ?ho ?hn ?hr ?_; (case ho => rfl); (case hg => rfl); (case hn => rfl); (case hr => first | (go_simp; done) | (go_simp; rfl)); intro w25 hw; have hg : wr.grownBy w25 (some go22) := (by rw [hw]; exact HP24.2); have hp_ : Kd.R (Kd.int .u64) 40 w25 w.heap.size (fun _ => True) (.slice (some ⟨go22, 0, none⟩) x7_2.length co23) y109 := (by rw [hw, Ny109.out]; exact HP24.1); clear HP24; have n0_ := Aside0.mk (hp_); have n1_ := Aside0.mk ((by rw [hw]; exact below_set (HB.out) GB22.out : Below w.heap.size w w25)); clear HO_7; clear HB; have HO_7 := n0_; have HB := n1_; clear n0_ n1_; clear hg hw hp_)))
                                  go_roundg k2
                                  case measure => have := HJ1.out; have := HK2.out; omega
                                  case rel => exact ⟨(y109), (wrap64 (x48_2 + 1)), (by first | rfl | (simp; done) | (simp [*]; done)), H', ⟨by have := HJ1.out; have := HK2.out; omega⟩, ⟨by (with_reducible repeat (first | apply Kd.R_alloc | apply Kd.R_drewN | apply Kd.R_drew)); exact HO_7.out⟩, ⟨by repeat (first | (with_reducible first | exact HB.out | apply below_alloc | apply pw_below_drewN | apply below_drew1) | exact HB.out)⟩⟩
                                · rw [if_neg c21] at H
                                  exact absurd H (by simp)
                              · rw [if_neg c20] at H
                                exact absurd H (by simp)
                            · rw [if_neg c18] at H
                              exact absurd H (by simp)
                          · rw [if_neg c17] at H
                            exact absurd H (by simp)
                        · rw [if_neg c16] at H
                          have c16b0 : decide (x48_2 < ((l0.drop 2).length : Int)) = false := decide_eq_false c16
                          have c16d0 : decide (x48_2 < ((l0.length - 2 : Nat) : Int)) = false := by rw [← List.length_drop]; exact c16b0
                          clear c16
                          simp only [Option.some.injEq, Prod.mk.injEq] at H
                          obtain ⟨rfl, rfl, rfl⟩ := H
                          go_wp2
                          repeat (go_quiet (fail); try go_wp2)
                          go_ret3
                          exact ⟨_, by first | rfl | (simp [errW_none, errW_some] <;> rfl) | (simp only [← hji9]; first | rfl | (simp [errW_none, errW_some] <;> rfl)) | (simp [*, errW_none, errW_some] <;> rfl), by (with_reducible repeat (first | apply Kd.R_alloc | apply Kd.R_drewN | apply Kd.R_drew)); exact HO_7.out, by repeat (first | (with_reducible first | exact HB.out | apply below_alloc | apply pw_below_drewN | apply below_drew1) | exact HB.out)⟩
                  · rw [if_neg c12] at H
                    exact absurd H (by simp)
                · rw [if_neg c11] at H
                  exact absurd H (by simp)
              · rw [if_neg c10] at H
                exact absurd H (by simp)
          · rw [if_neg c7] at H
            exact absurd H (by simp)
        · rw [if_neg c6] at H
          exact absurd H (by simp)

end Go.Proofs.Ytfkgacjiccgdfaa.Q
