-- Laid by a program of this session (wip/myprint.py) in the form of the kit's print; a text of this claim, checked by Lean like any other.
import Derived.Test.YtfkgacjiccgdfaaQ0
import Derived.Test.YtfkgacjiccgdfaaQ1
import Derived.Test.YtfkgacjiccgdfaaQ3
import Derived.Test.YtfkgacjiccgdfaaQ4
import Derived.Test.YtfkgacjiccgdfaaQ7
namespace Go.Proofs.Ytfkgacjiccgdfaa.Q
open Go.RowKit Go.Proofs.YtfkgacjiccgdfaaW.PrintWords Go.Proofs.YtfkgacjiccgdfaaW.PrintLast Go.Proofs.YtfkgacjiccgdfaaW.PrintMore
attribute [local go_sem] max2_int min2_int max_two min_two max_three min_three max_four min_four   -- for this text's walks alone
set_option linter.unusedVariables false
set_option linter.unusedSimpArgs false

/-! ### symbolonlaw14_ChunkCuts: function 8 -/
mutual
def symbolonlaw14_ChunkCuts.j0 : Nat → List Int → Int → Bool → Int → Bool → Option (Bool)
  | 0, _, _, _, _, _ => none
  | k + 1, x1, x2, x7, x8, x26 => if x26 = true then (some x7) else ((chunk_Put.f x8 x1).bind fun t370 => (if t370.length + 60 < 140737488355328 then ((some (t370 ++ List.replicate 60 0 : List Int)).bind fun y373 => (if (y373.length : Int) < (Int.tmod (wrap64 (x2)) 60) then (none) else (if 0 ≤ (Int.tmod (wrap64 (x2)) 60) then (if (Int.tmod (wrap64 (x2)) 60) ≤ (y373.length : Int) then ((chunk_Get.f k (y373.take ((Int.tmod (wrap64 (x2)) 60) : Int).toNat)).bind fun bt380 => (if (Int.tmod (wrap64 (x2)) 60) ≥ 10 then (if (Int.tmod (wrap64 (x2)) 60) ≤ 50 then (symbolonlaw14_ChunkCuts.j1 k x1 x7 x8 (Int.tmod (wrap64 (x2)) 60) bt380.1 bt380.2.1 bt380.2.2 (bt380.2.2 != ((Int.tmod (Int.tmod (wrap64 (x2)) 60) 8) == 2))) else (symbolonlaw14_ChunkCuts.j1 k x1 x7 x8 (Int.tmod (wrap64 (x2)) 60) bt380.1 bt380.2.1 bt380.2.2 (bt380.2.2 != false))) else (symbolonlaw14_ChunkCuts.j1 k x1 x7 x8 (Int.tmod (wrap64 (x2)) 60) bt380.1 bt380.2.1 bt380.2.2 (bt380.2.2 != false)))) else (none)) else (none)))) else (none)))
def symbolonlaw14_ChunkCuts.j1 : Nat → List Int → Bool → Int → Int → Int → List Int → Bool → Bool → Option (Bool)
  | 0, _, _, _, _, _, _, _, _ => none
  | k + 1, x1, x7, x8, x10, x11, x12, x13, x59 => if x59 = true then (none) else (if x13 = true then (if x7 = true then (if x11 = x8 then (if (x12.length : Int) = (wrap64 (Int.tdiv (wrap64 (x10 - 2)) 8)) then (if 0 ≤ (mn (wrap64 (Int.tdiv (wrap64 (x10 - 2)) 8)) (x1.length : Int)) then (if (mn (wrap64 (Int.tdiv (wrap64 (x10 - 2)) 8)) (x1.length : Int)) ≤ (x12.length : Int) then (if (mn (wrap64 (Int.tdiv (wrap64 (x10 - 2)) 8)) (x1.length : Int)) ≤ (x1.length : Int) then ((symbolonref01_Same.f k (x12.take ((mn (wrap64 (Int.tdiv (wrap64 (x10 - 2)) 8)) (x1.length : Int)) : Int).toNat) (x1.take ((mn (wrap64 (Int.tdiv (wrap64 (x10 - 2)) 8)) (x1.length : Int)) : Int).toNat)).bind fun t390 => (some t390)) else (none)) else (none)) else (none)) else (none)) else (none)) else (none)) else (if x7 = true then (if x11 = 0 then (some ((x12.length : Int) == 0)) else (none)) else (none)))
end
def symbolonlaw14_ChunkCuts.f (k : Nat) (a0 : Int) (l1 : List Int) (a2 : Int) : Option (Bool) := (symbolonlaw14_head.f k).bind fun t369 => (if (l1.length : Int) < 1 then (symbolonlaw14_ChunkCuts.j0 k l1 a2 t369 (Int.tmod (wrap64 (a0)) 60000) true) else (symbolonlaw14_ChunkCuts.j0 k l1 a2 t369 (Int.tmod (wrap64 (a0)) 60000) (decide ((l1.length : Int) > 6))))
theorem symbolonlaw14_ChunkCuts.mono_l : ∀ k, (∀ y0 y1 y2 y3 y4, LeO (symbolonlaw14_ChunkCuts.j0 k y0 y1 y2 y3 y4) (symbolonlaw14_ChunkCuts.j0 (k + 1) y0 y1 y2 y3 y4)) ∧ (∀ y0 y1 y2 y3 y4 y5 y6 y7, LeO (symbolonlaw14_ChunkCuts.j1 k y0 y1 y2 y3 y4 y5 y6 y7) (symbolonlaw14_ChunkCuts.j1 (k + 1) y0 y1 y2 y3 y4 y5 y6 y7))
  | 0 => ⟨fun _ _ _ _ _ r h => by simp [symbolonlaw14_ChunkCuts.j0] at h, fun _ _ _ _ _ _ _ _ r h => by simp [symbolonlaw14_ChunkCuts.j1] at h⟩
  | k + 1 => by
    obtain ⟨ih0, ih1⟩ := symbolonlaw14_ChunkCuts.mono_l k
    refine ⟨?_, ?_⟩
    · intro y0 y1 y2 y3 y4
      unfold symbolonlaw14_ChunkCuts.j0
      repeat' first
      | (with_reducible exact ih0 _ _ _ _ _)
      | (with_reducible exact ih1 _ _ _ _ _ _ _ _)
      | (with_reducible exact chunk_Get.mono _ _)
      | (with_reducible exact symbolonlaw14_head.mono _)
      | (with_reducible exact symbolonref01_Same.mono _ _ _)
      | (with_reducible exact LeO.refl _)
      | (with_reducible exact LeO.none _)
      | (with_reducible refine LeO.ite ?_ ?_)
      | (with_reducible refine LeO.bind ?_ (fun _ => ?_))
      | exact ih0 _ _ _ _ _
      | exact ih1 _ _ _ _ _ _ _ _
      | exact chunk_Get.mono _ _
      | exact symbolonlaw14_head.mono _
      | exact symbolonref01_Same.mono _ _ _
      | exact LeO.none _
      | refine LeO.ite ?_ ?_
      | refine LeO.bind ?_ (fun _ => ?_)
    · intro y0 y1 y2 y3 y4 y5 y6 y7
      unfold symbolonlaw14_ChunkCuts.j1
      repeat' first
      | (with_reducible exact ih0 _ _ _ _ _)
      | (with_reducible exact ih1 _ _ _ _ _ _ _ _)
      | (with_reducible exact chunk_Get.mono _ _)
      | (with_reducible exact symbolonlaw14_head.mono _)
      | (with_reducible exact symbolonref01_Same.mono _ _ _)
      | (with_reducible exact LeO.refl _)
      | (with_reducible exact LeO.none _)
      | (with_reducible refine LeO.ite ?_ ?_)
      | (with_reducible refine LeO.bind ?_ (fun _ => ?_))
      | exact ih0 _ _ _ _ _
      | exact ih1 _ _ _ _ _ _ _ _
      | exact chunk_Get.mono _ _
      | exact symbolonlaw14_head.mono _
      | exact symbolonref01_Same.mono _ _ _
      | exact LeO.none _
      | refine LeO.ite ?_ ?_
      | refine LeO.bind ?_ (fun _ => ?_)
theorem symbolonlaw14_ChunkCuts.mono : ∀ a0 a1 a2 k, LeO (symbolonlaw14_ChunkCuts.f k a0 a1 a2) (symbolonlaw14_ChunkCuts.f (k + 1) a0 a1 a2) := by
  intro a0 a1 a2 k
  obtain ⟨ih0, ih1⟩ := symbolonlaw14_ChunkCuts.mono_l k
  unfold symbolonlaw14_ChunkCuts.f
  repeat' first
      | (with_reducible exact ih0 _ _ _ _ _)
      | (with_reducible exact ih1 _ _ _ _ _ _ _ _)
      | (with_reducible exact chunk_Get.mono _ _)
      | (with_reducible exact symbolonlaw14_head.mono _)
      | (with_reducible exact symbolonref01_Same.mono _ _ _)
      | (with_reducible exact LeO.refl _)
      | (with_reducible exact LeO.none _)
      | (with_reducible refine LeO.ite ?_ ?_)
      | (with_reducible refine LeO.bind ?_ (fun _ => ?_))
      | exact ih0 _ _ _ _ _
      | exact ih1 _ _ _ _ _ _ _ _
      | exact chunk_Get.mono _ _
      | exact symbolonlaw14_head.mono _
      | exact symbolonref01_Same.mono _ _ _
      | exact LeO.none _
      | refine LeO.ite ?_ ?_
      | refine LeO.bind ?_ (fun _ => ?_)
set_option maxHeartbeats 8000000 in
set_option maxRecDepth 100000 in
theorem symbolonlaw14_ChunkCuts.calls (k : Nat) (a0 : Int) (A1 : Option Addr) (c1 : Nat) (l1 : List Int) (a2 : Int) (r : Bool) (w : World) (hr1 : Kd.C (Kd.int .u64) w A1 l1.length l1) (hc1 : l1.length ≤ c1) (h : symbolonlaw14_ChunkCuts.f k a0 l1 a2 = some r) :
    Calls Try.prog 8 #[.int .u16 a0, .slice A1 l1.length c1, .int .u8 a2] w fun e w' => e = .returned (.bool r) ∧ Below w.heap.size w w' := by
  have HR1 := Aside0.mk hr1
  have HC1 := Aside0.mk hc1
  clear hr1 hc1
  have HB := Aside0.mk (Below.refl w.heap.size w)
  have H : ((symbolonlaw14_head.f k).bind fun t369 => (if (l1.length : Int) < 1 then (symbolonlaw14_ChunkCuts.j0 k l1 a2 t369 (Int.tmod (wrap64 (a0)) 60000) true) else (symbolonlaw14_ChunkCuts.j0 k l1 a2 t369 (Int.tmod (wrap64 (a0)) 60000) (decide ((l1.length : Int) > 6))))) = some r := h
  clear h
  replace H := Option.bind_eq_some_iff.mp H
  obtain ⟨t369, A40, H⟩ := H
  replace H : (if (l1.length : Int) < 1 then (symbolonlaw14_ChunkCuts.j0 k l1 a2 t369 (Int.tmod (wrap64 (a0)) 60000) true) else (symbolonlaw14_ChunkCuts.j0 k l1 a2 t369 (Int.tmod (wrap64 (a0)) 60000) (decide ((l1.length : Int) > 6)))) = some r := H
  have A4 := Aside0.mk A40
  clear A40
  have HC5 := Aside0.mk H
  clear H
  go_enter Try.func8, Try.ntmps8
  go_upto_region 3 with (first | (go_at_call 10; (with_reducible refine (symbolonlaw14_head.calls k  t369 _ A4.out).mono ?_); rintro e w6 ⟨rfl, hb⟩; have n0_ := Aside0.mk (below_step (by repeat (first | (with_reducible first | exact HB.out | apply below_alloc | apply pw_below_drewN | apply below_drew1) | exact HB.out)) hb); clear HB; have HB := n0_; clear n0_; (try clear hb); (try clear hb2); (try clear hk); (try clear hi)))
  repeat (go_quiet (first | (go_at_call 10; (with_reducible refine (symbolonlaw14_head.calls k  t369 _ A4.out).mono ?_); rintro e w6 ⟨rfl, hb⟩; have n0_ := Aside0.mk (below_step (by repeat (first | (with_reducible first | exact HB.out | apply below_alloc | apply pw_below_drewN | apply below_drew1) | exact HB.out)) hb); clear HB; have HB := n0_; clear n0_; (try clear hb); (try clear hb2); (try clear hk); (try clear hi))); go_upto_region 3 with (first | (go_at_call 10; (with_reducible refine (symbolonlaw14_head.calls k  t369 _ A4.out).mono ?_); rintro e w6 ⟨rfl, hb⟩; have n0_ := Aside0.mk (below_step (by repeat (first | (with_reducible first | exact HB.out | apply below_alloc | apply pw_below_drewN | apply below_drew1) | exact HB.out)) hb); clear HB; have HB := n0_; clear n0_; (try clear hb); (try clear hb2); (try clear hk); (try clear hi))))
  (try simp only [Act.put, List.setIfInBounds_toArray, List.set_cons_zero, List.set_cons_succ])
  go_cut [26] (fun v26 wc => ∃ (kq : Nat) (x26_4 : Bool), v26 = .bool x26_4 ∧ Aside0 (symbolonlaw14_ChunkCuts.j0 kq l1 a2 t369 (Int.tmod (wrap64 (a0)) 60000) x26_4 = some r) ∧ Aside0 (kq ≤ k) ∧ Aside0 (Below w.heap.size w wc))
  case first =>
    have H := HC5.out
    clear HC5
    by_cases c7 : (l1.length : Int) < 1
    · rw [if_pos c7] at H
      have c7b0 : decide ((l1.length : Int) < 1) = true := decide_eq_true c7
      have c7b1 : decide (l1.length < 1) = true := decide_eq_true (by omega)
      clear c7
      (first | rw [c7b0] | (simp only [i64_w, i32_w]; rw [c7b0]) | skip)
      have H' := Aside0.mk H
      clear H
      go_wp2
      repeat (go_quiet (fail); try go_wp2)
      go_meet
      case rel => exact ⟨_, (true), (by first | rfl | (simp; done) | (simp [*]; done)), H', ⟨by first | omega | exact Nat.le_refl _⟩, ⟨by repeat (first | (with_reducible first | exact HB.out | apply below_alloc | apply pw_below_drewN | apply below_drew1) | exact HB.out)⟩⟩
    · rw [if_neg c7] at H
      have c7b0 : decide ((l1.length : Int) < 1) = false := decide_eq_false c7
      have c7b1 : decide (l1.length < 1) = false := decide_eq_false (by omega)
      clear c7
      (first | rw [c7b0] | (simp only [i64_w, i32_w]; rw [c7b0]) | skip)
      have H' := Aside0.mk H
      clear H
      go_wp2
      repeat (go_quiet (fail); try go_wp2)
      go_meet
      case rel => exact ⟨_, (decide ((l1.length : Int) > 6)), (by first | rfl | (simp; done) | (simp [*]; done)), H', ⟨by first | omega | exact Nat.le_refl _⟩, ⟨by repeat (first | (with_reducible first | exact HB.out | apply below_alloc | apply pw_below_drewN | apply below_drew1) | exact HB.out)⟩⟩
  case rest =>
    clear HC5
    try clear c1
    try clear p2
    try clear p6
    try clear c7
    try clear c7b0
    try clear c7b1
    obtain ⟨kq, x26_4, rfl, HA, HJ4, HB⟩ := hcut
    cases kq with
    | zero => exact absurd HA.out (by simp [symbolonlaw14_ChunkCuts.j0])
    | succ kj4 =>
      have H := HA.out
      clear HA
      simp only [symbolonlaw14_ChunkCuts.j0] at H
      by_cases c8 : x26_4 = true
      · subst c8
        have H1 : (some t369) = some r := by rw [if_pos rfl] at H; exact H
        clear H
        have H := H1
        clear H1
        obtain rfl := Option.some.inj H
        go_wp2
        repeat (go_quiet (fail); try go_wp2)
        go_ret
        exact ⟨by first | rfl | (simp [errW_none, errW_some] <;> rfl) | (simp [*, errW_none, errW_some] <;> rfl), by repeat (first | (with_reducible first | exact HB.out | apply below_alloc | apply pw_below_drewN | apply below_drew1) | exact HB.out)⟩
      · replace c8 := Bool.eq_false_iff.mpr c8
        subst c8
        have H1 : ((chunk_Put.f (Int.tmod (wrap64 (a0)) 60000) l1).bind fun t370 => (if t370.length + 60 < 140737488355328 then ((some (t370 ++ List.replicate 60 0 : List Int)).bind fun y373 => (if (y373.length : Int) < (Int.tmod (wrap64 (a2)) 60) then (none) else (if 0 ≤ (Int.tmod (wrap64 (a2)) 60) then (if (Int.tmod (wrap64 (a2)) 60) ≤ (y373.length : Int) then ((chunk_Get.f kj4 (y373.take ((Int.tmod (wrap64 (a2)) 60) : Int).toNat)).bind fun bt380 => (if (Int.tmod (wrap64 (a2)) 60) ≥ 10 then (if (Int.tmod (wrap64 (a2)) 60) ≤ 50 then (symbolonlaw14_ChunkCuts.j1 kj4 l1 t369 (Int.tmod (wrap64 (a0)) 60000) (Int.tmod (wrap64 (a2)) 60) bt380.1 bt380.2.1 bt380.2.2 (bt380.2.2 != ((Int.tmod (Int.tmod (wrap64 (a2)) 60) 8) == 2))) else (symbolonlaw14_ChunkCuts.j1 kj4 l1 t369 (Int.tmod (wrap64 (a0)) 60000) (Int.tmod (wrap64 (a2)) 60) bt380.1 bt380.2.1 bt380.2.2 (bt380.2.2 != false))) else (symbolonlaw14_ChunkCuts.j1 kj4 l1 t369 (Int.tmod (wrap64 (a0)) 60000) (Int.tmod (wrap64 (a2)) 60) bt380.1 bt380.2.1 bt380.2.2 (bt380.2.2 != false)))) else (none)) else (none)))) else (none))) = some r := by rw [if_neg (show ¬ (false = true) by decide)] at H; exact H
        clear H
        have H := H1
        clear H1
        replace H := Option.bind_eq_some_iff.mp H
        obtain ⟨t370, A90, H⟩ := H
        replace H : (if t370.length + 60 < 140737488355328 then ((some (t370 ++ List.replicate 60 0 : List Int)).bind fun y373 => (if (y373.length : Int) < (Int.tmod (wrap64 (a2)) 60) then (none) else (if 0 ≤ (Int.tmod (wrap64 (a2)) 60) then (if (Int.tmod (wrap64 (a2)) 60) ≤ (y373.length : Int) then ((chunk_Get.f kj4 (y373.take ((Int.tmod (wrap64 (a2)) 60) : Int).toNat)).bind fun bt380 => (if (Int.tmod (wrap64 (a2)) 60) ≥ 10 then (if (Int.tmod (wrap64 (a2)) 60) ≤ 50 then (symbolonlaw14_ChunkCuts.j1 kj4 l1 t369 (Int.tmod (wrap64 (a0)) 60000) (Int.tmod (wrap64 (a2)) 60) bt380.1 bt380.2.1 bt380.2.2 (bt380.2.2 != ((Int.tmod (Int.tmod (wrap64 (a2)) 60) 8) == 2))) else (symbolonlaw14_ChunkCuts.j1 kj4 l1 t369 (Int.tmod (wrap64 (a0)) 60000) (Int.tmod (wrap64 (a2)) 60) bt380.1 bt380.2.1 bt380.2.2 (bt380.2.2 != false))) else (symbolonlaw14_ChunkCuts.j1 kj4 l1 t369 (Int.tmod (wrap64 (a0)) 60000) (Int.tmod (wrap64 (a2)) 60) bt380.1 bt380.2.1 bt380.2.2 (bt380.2.2 != false)))) else (none)) else (none)))) else (none)) = some r := H
        have A9 := Aside0.mk A90
        clear A90
        by_cases c10 : t370.length + 60 < 140737488355328
        · rw [if_pos c10] at H
          have LMc10 := Aside0.mk c10
          clear c10
          obtain ⟨y373, hy373⟩ : ∃ y_ : List Int, y_ = (t370 ++ List.replicate 60 0) := ⟨_, rfl⟩
          replace H : (if (y373.length : Int) < (Int.tmod (wrap64 (a2)) 60) then (none) else (if 0 ≤ (Int.tmod (wrap64 (a2)) 60) then (if (Int.tmod (wrap64 (a2)) 60) ≤ (y373.length : Int) then ((chunk_Get.f kj4 (y373.take ((Int.tmod (wrap64 (a2)) 60) : Int).toNat)).bind fun bt380 => (if (Int.tmod (wrap64 (a2)) 60) ≥ 10 then (if (Int.tmod (wrap64 (a2)) 60) ≤ 50 then (symbolonlaw14_ChunkCuts.j1 kj4 l1 t369 (Int.tmod (wrap64 (a0)) 60000) (Int.tmod (wrap64 (a2)) 60) bt380.1 bt380.2.1 bt380.2.2 (bt380.2.2 != ((Int.tmod (Int.tmod (wrap64 (a2)) 60) 8) == 2))) else (symbolonlaw14_ChunkCuts.j1 kj4 l1 t369 (Int.tmod (wrap64 (a0)) 60000) (Int.tmod (wrap64 (a2)) 60) bt380.1 bt380.2.1 bt380.2.2 (bt380.2.2 != false))) else (symbolonlaw14_ChunkCuts.j1 kj4 l1 t369 (Int.tmod (wrap64 (a0)) 60000) (Int.tmod (wrap64 (a2)) 60) bt380.1 bt380.2.1 bt380.2.2 (bt380.2.2 != false)))) else (none)) else (none))) = some r := by first | (rw [hy373]; with_reducible exact H) | (have H2_ := (Option.bind_some _ _).symm.trans H; rw [hy373]; with_reducible exact H2_) | (have H2_ := (Option.bind_some _ _).symm.trans H; with_reducible exact H2_) | with_reducible exact H | (rw [hy373]; exact H) | exact H
          have Ny373 := Aside0.mk hy373
          clear hy373
          by_cases c11 : (y373.length : Int) < (Int.tmod (wrap64 (a2)) 60)
          · rw [if_pos c11] at H
            exact absurd H (by simp)
          · rw [if_neg c11] at H
            have c11b0 : decide ((y373.length : Int) < (Int.tmod (wrap64 (a2)) 60)) = false := decide_eq_false c11
            clear c11
            obtain ⟨ji12, hji12⟩ : ∃ j_ : Int, (Int.tmod (wrap64 (a2)) 60) = j_ := ⟨_, rfl⟩
            replace H : (if 0 ≤ (ji12) then (if (ji12) ≤ (y373.length : Int) then ((chunk_Get.f kj4 (y373.take ((ji12) : Int).toNat)).bind fun bt380 => (if (ji12) ≥ 10 then (if (ji12) ≤ 50 then (symbolonlaw14_ChunkCuts.j1 kj4 l1 t369 (Int.tmod (wrap64 (a0)) 60000) ji12 bt380.1 bt380.2.1 bt380.2.2 (bt380.2.2 != ((Int.tmod (ji12) 8) == 2))) else (symbolonlaw14_ChunkCuts.j1 kj4 l1 t369 (Int.tmod (wrap64 (a0)) 60000) ji12 bt380.1 bt380.2.1 bt380.2.2 (bt380.2.2 != false))) else (symbolonlaw14_ChunkCuts.j1 kj4 l1 t369 (Int.tmod (wrap64 (a0)) 60000) ji12 bt380.1 bt380.2.1 bt380.2.2 (bt380.2.2 != false)))) else (none)) else (none)) = some r := by first | (rw [hji12] at H; exact H) | (simp only [hji12] at H ⊢; exact H)
            (try rw [hji12] at c11b0)
            (try rw [hji12] at A9)
            by_cases c13 : 0 ≤ (ji12)
            · rw [if_pos c13] at H
              have c13b0 := eq_true c13
              have c13b1 : decide (0 ≤ (ji12)) = true := decide_eq_true c13
              clear c13
              by_cases c14 : (ji12) ≤ (y373.length : Int)
              · rw [if_pos c14] at H
                have c14b0 := eq_true c14
                have c14b1 : decide ((ji12) ≤ (y373.length : Int)) = true := decide_eq_true c14
                clear c14
                obtain ⟨y376, hy376⟩ : ∃ y_ : List Int, y_ = (y373.take ((ji12) : Int).toNat) := ⟨_, rfl⟩
                replace H : ((chunk_Get.f kj4 y376).bind fun bt380 => (if (ji12) ≥ 10 then (if (ji12) ≤ 50 then (symbolonlaw14_ChunkCuts.j1 kj4 l1 t369 (Int.tmod (wrap64 (a0)) 60000) ji12 bt380.1 bt380.2.1 bt380.2.2 (bt380.2.2 != ((Int.tmod (ji12) 8) == 2))) else (symbolonlaw14_ChunkCuts.j1 kj4 l1 t369 (Int.tmod (wrap64 (a0)) 60000) ji12 bt380.1 bt380.2.1 bt380.2.2 (bt380.2.2 != false))) else (symbolonlaw14_ChunkCuts.j1 kj4 l1 t369 (Int.tmod (wrap64 (a0)) 60000) ji12 bt380.1 bt380.2.1 bt380.2.2 (bt380.2.2 != false)))) = some r := by first | (rw [hy376]; with_reducible exact H) | (have H2_ := (Option.bind_some _ _).symm.trans H; rw [hy376]; with_reducible exact H2_) | (have H2_ := (Option.bind_some _ _).symm.trans H; with_reducible exact H2_) | with_reducible exact H | (rw [hy376]; exact H) | exact H
                have Ny376 := Aside0.mk hy376
                clear hy376
                replace H := Option.bind_eq_some_iff.mp H
                obtain ⟨⟨t380, t381, t382⟩, A150, H⟩ := H
                replace H : (if (ji12) ≥ 10 then (if (ji12) ≤ 50 then (symbolonlaw14_ChunkCuts.j1 kj4 l1 t369 (Int.tmod (wrap64 (a0)) 60000) ji12 t380 t381 t382 (t382 != ((Int.tmod (ji12) 8) == 2))) else (symbolonlaw14_ChunkCuts.j1 kj4 l1 t369 (Int.tmod (wrap64 (a0)) 60000) ji12 t380 t381 t382 (t382 != false))) else (symbolonlaw14_ChunkCuts.j1 kj4 l1 t369 (Int.tmod (wrap64 (a0)) 60000) ji12 t380 t381 t382 (t382 != false))) = some r := H
                have A15 := Aside0.mk A150
                clear A150
                have HC16 := Aside0.mk H
                clear H
                go_upto_region 10 with (first | (go_at_call 16; (with_reducible refine (chunk_Put.calls (Int.tmod (wrap64 (a0)) 60000) _ _ l1 t370 _ ?side1 ?side2 A9.out).mono ?_); (case side1 => repeat (first | exact (Kd.C_below HR1.out HB.out) | (with_reducible refine Kd.C_alloc ?_ _) | (with_reducible refine Kd.C_drewN ?_ _) | (with_reducible refine Kd.C_drew ?_))); (case side2 => exact HC1.out); rintro e w17 ⟨v371, rfl, ho0, hb⟩; have n0_ := Aside0.mk (Kd.R_lower ho0 (below_size (by repeat (first | (with_reducible first | exact HB.out | apply below_alloc | apply pw_below_drewN | apply below_drew1) | exact HB.out)))); have n1_ := Aside0.mk (below_step (by repeat (first | (with_reducible first | exact HB.out | apply below_alloc | apply pw_below_drewN | apply below_drew1) | exact HB.out)) hb); clear HB; have HO372 := n0_; have HB := n1_; clear n0_ n1_; (try clear hb); (try clear hb2); (try clear hk); (try clear hi); (try clear ho0)) | (at_builtin; refine Kd.R_append_zeros (Kd.int .u8) (w0 := w) w.heap.size rfl (.tmp 30) (.const (.int .i64 60)) 23 3 5 (.int .u8 0) 1 rfl Try.underlying23 Try.underlying3 info5 rfl (by decide) (by omega) v371 t370 0 (60 : Int) (fun _ => True) rfl rfl rfl ?aF ?aO (by omega) ?aB ?aS ?aL ?_; (case aB => exact (by repeat (first | (with_reducible first | exact HB.out | apply below_alloc | apply pw_below_drewN | apply below_drew1) | exact HB.out))); (case aF => exact (fun _ _ => trivial)); (case aO => exact (by (with_reducible repeat (first | apply Kd.R_alloc | apply Kd.R_drewN | apply Kd.R_drew)); exact HO372.out)); (case aS => exact (below_size (by repeat (first | (with_reducible first | exact HB.out | apply below_alloc | apply pw_below_drewN | apply below_drew1) | exact HB.out)))); (case aL => have := LMc10.out; omega); intro v374 w18 ho hb hg hat; rw [show ((60 : Int).toNat : Nat) = 60 from rfl, ← Ny373.out] at ho; have n0_ := Aside0.mk (hb); have n1_ := Aside0.mk (ho); clear HB; clear HO372; have HB := n0_; have HO375 := n1_; clear n0_ n1_; clear ho hb hg hat; obtain ⟨Ao19, co19, eo19⟩ := Kd.R_slice HO375.out; subst eo19; have q20 : ((ji12) : Int) ≤ ((y373.length : Int) : Int) := of_decide_eq_true (by first | (with_reducible assumption) | assumption); obtain ⟨i020, hi020, _, hsz20, _⟩ := info_parts info5; have hroom20 : y373.length ≤ co19 := (Kd.R_reads' HO375.out).2.1; have hC20 : Kd.C (Kd.int .u8) _ Ao19 y373.length y373 := (Kd.R_reads' HO375.out).2.2; have hcut20 := cut_to (P := Try.prog) 23 5 .i64 Try.underlying23 hi020 Ao19 y373.length co19 (ji12) (of_decide_eq_true (by first | (with_reducible assumption) | assumption)) q20 hroom20; have hr20 := Kd.C_take (m := ((ji12) : Int).toNat) hC20 (by omega); have hy20 : y376.length = ((ji12) : Int).toNat := (by rw [Ny376.out, List.length_take]; omega); rw [← Ny376.out] at hr20; rw [← hy20] at hcut20; have HR379 := Aside0.mk hr20; have HC379 := Aside0.mk (show y376.length ≤ co19 from by omega); clear hr20 hC20 hroom20 hi020 hsz20; have KY20 := Aside0.mk hy20; clear hy20; have KL20 := Aside0.mk (show ((ji12) : Int).toNat ≤ y373.length from by omega); replace q20 := eq_true q20) | (go_at_call 12; (with_reducible refine (chunk_Get.calls kj4 _ _ y376 t380 t381 t382 _ ?side1 ?side2 A15.out).mono ?_); (case side1 => repeat (first | exact (by repeat (first | (with_reducible exact HR379.out) | (with_reducible refine Kd.C_alloc ?_ _) | (with_reducible refine Kd.C_drewN ?_ _) | (with_reducible refine Kd.C_drew ?_) | exact HR379.out)) | (with_reducible refine Kd.C_alloc ?_ _) | (with_reducible refine Kd.C_drewN ?_ _) | (with_reducible refine Kd.C_drew ?_))); (case side2 => exact HC379.out); rintro e w21 ⟨v383, rfl, ho0, hb⟩; have n0_ := Aside0.mk (Kd.R_below (by (with_reducible repeat (first | apply Kd.R_alloc | apply Kd.R_drewN | apply Kd.R_drew)); exact HO375.out) hb); have n1_ := Aside0.mk (Kd.R_lower ho0 (below_size (by repeat (first | (with_reducible first | exact HB.out | apply below_alloc | apply pw_below_drewN | apply below_drew1) | exact HB.out)))); have n2_ := Aside0.mk (Kd.C_below (by repeat (first | (with_reducible exact HR379.out) | (with_reducible refine Kd.C_alloc ?_ _) | (with_reducible refine Kd.C_drewN ?_ _) | (with_reducible refine Kd.C_drew ?_) | exact HR379.out)) hb); have n3_ := Aside0.mk (below_step (by repeat (first | (with_reducible first | exact HB.out | apply below_alloc | apply pw_below_drewN | apply below_drew1) | exact HB.out)) hb); clear HO375; clear HR379; clear HB; have HO375 := n0_; have HO384 := n1_; have HR379 := n2_; have HB := n3_; clear n0_ n1_ n2_ n3_; (try clear hb); (try clear hb2); (try clear hk); (try clear hi); (try clear ho0)))
                repeat (go_quiet (first | (go_at_call 16; (with_reducible refine (chunk_Put.calls (Int.tmod (wrap64 (a0)) 60000) _ _ l1 t370 _ ?side1 ?side2 A9.out).mono ?_); (case side1 => repeat (first | exact (Kd.C_below HR1.out HB.out) | (with_reducible refine Kd.C_alloc ?_ _) | (with_reducible refine Kd.C_drewN ?_ _) | (with_reducible refine Kd.C_drew ?_))); (case side2 => exact HC1.out); rintro e w17 ⟨v371, rfl, ho0, hb⟩; have n0_ := Aside0.mk (Kd.R_lower ho0 (below_size (by repeat (first | (with_reducible first | exact HB.out | apply below_alloc | apply pw_below_drewN | apply below_drew1) | exact HB.out)))); have n1_ := Aside0.mk (below_step (by repeat (first | (with_reducible first | exact HB.out | apply below_alloc | apply pw_below_drewN | apply below_drew1) | exact HB.out)) hb); clear HB; have HO372 := n0_; have HB := n1_; clear n0_ n1_; (try clear hb); (try clear hb2); (try clear hk); (try clear hi); (try clear ho0)) | (at_builtin; refine Kd.R_append_zeros (Kd.int .u8) (w0 := w) w.heap.size rfl (.tmp 30) (.const (.int .i64 60)) 23 3 5 (.int .u8 0) 1 rfl Try.underlying23 Try.underlying3 info5 rfl (by decide) (by omega) v371 t370 0 (60 : Int) (fun _ => True) rfl rfl rfl ?aF ?aO (by omega) ?aB ?aS ?aL ?_; (case aB => exact (by repeat (first | (with_reducible first | exact HB.out | apply below_alloc | apply pw_below_drewN | apply below_drew1) | exact HB.out))); (case aF => exact (fun _ _ => trivial)); (case aO => exact (by (with_reducible repeat (first | apply Kd.R_alloc | apply Kd.R_drewN | apply Kd.R_drew)); exact HO372.out)); (case aS => exact (below_size (by repeat (first | (with_reducible first | exact HB.out | apply below_alloc | apply pw_below_drewN | apply below_drew1) | exact HB.out)))); (case aL => have := LMc10.out; omega); intro v374 w18 ho hb hg hat; rw [show ((60 : Int).toNat : Nat) = 60 from rfl, ← Ny373.out] at ho; have n0_ := Aside0.mk (hb); have n1_ := Aside0.mk (ho); clear HB; clear HO372; have HB := n0_; have HO375 := n1_; clear n0_ n1_; clear ho hb hg hat; obtain ⟨Ao19, co19, eo19⟩ := Kd.R_slice HO375.out; subst eo19; have q20 : ((ji12) : Int) ≤ ((y373.length : Int) : Int) := of_decide_eq_true (by first | (with_reducible assumption) | assumption); obtain ⟨i020, hi020, _, hsz20, _⟩ := info_parts info5; have hroom20 : y373.length ≤ co19 := (Kd.R_reads' HO375.out).2.1; have hC20 : Kd.C (Kd.int .u8) _ Ao19 y373.length y373 := (Kd.R_reads' HO375.out).2.2; have hcut20 := cut_to (P := Try.prog) 23 5 .i64 Try.underlying23 hi020 Ao19 y373.length co19 (ji12) (of_decide_eq_true (by first | (with_reducible assumption) | assumption)) q20 hroom20; have hr20 := Kd.C_take (m := ((ji12) : Int).toNat) hC20 (by omega); have hy20 : y376.length = ((ji12) : Int).toNat := (by rw [Ny376.out, List.length_take]; omega); rw [← Ny376.out] at hr20; rw [← hy20] at hcut20; have HR379 := Aside0.mk hr20; have HC379 := Aside0.mk (show y376.length ≤ co19 from by omega); clear hr20 hC20 hroom20 hi020 hsz20; have KY20 := Aside0.mk hy20; clear hy20; have KL20 := Aside0.mk (show ((ji12) : Int).toNat ≤ y373.length from by omega); replace q20 := eq_true q20) | (go_at_call 12; (with_reducible refine (chunk_Get.calls kj4 _ _ y376 t380 t381 t382 _ ?side1 ?side2 A15.out).mono ?_); (case side1 => repeat (first | exact (by repeat (first | (with_reducible exact HR379.out) | (with_reducible refine Kd.C_alloc ?_ _) | (with_reducible refine Kd.C_drewN ?_ _) | (with_reducible refine Kd.C_drew ?_) | exact HR379.out)) | (with_reducible refine Kd.C_alloc ?_ _) | (with_reducible refine Kd.C_drewN ?_ _) | (with_reducible refine Kd.C_drew ?_))); (case side2 => exact HC379.out); rintro e w21 ⟨v383, rfl, ho0, hb⟩; have n0_ := Aside0.mk (Kd.R_below (by (with_reducible repeat (first | apply Kd.R_alloc | apply Kd.R_drewN | apply Kd.R_drew)); exact HO375.out) hb); have n1_ := Aside0.mk (Kd.R_lower ho0 (below_size (by repeat (first | (with_reducible first | exact HB.out | apply below_alloc | apply pw_below_drewN | apply below_drew1) | exact HB.out)))); have n2_ := Aside0.mk (Kd.C_below (by repeat (first | (with_reducible exact HR379.out) | (with_reducible refine Kd.C_alloc ?_ _) | (with_reducible refine Kd.C_drewN ?_ _) | (with_reducible refine Kd.C_drew ?_) | exact HR379.out)) hb); have n3_ := Aside0.mk (below_step (by repeat (first | (with_reducible first | exact HB.out | apply below_alloc | apply pw_below_drewN | apply below_drew1) | exact HB.out)) hb); clear HO375; clear HR379; clear HB; have HO375 := n0_; have HO384 := n1_; have HR379 := n2_; have HB := n3_; clear n0_ n1_ n2_ n3_; (try clear hb); (try clear hb2); (try clear hk); (try clear hi); (try clear ho0))); go_upto_region 10 with (first | (go_at_call 16; (with_reducible refine (chunk_Put.calls (Int.tmod (wrap64 (a0)) 60000) _ _ l1 t370 _ ?side1 ?side2 A9.out).mono ?_); (case side1 => repeat (first | exact (Kd.C_below HR1.out HB.out) | (with_reducible refine Kd.C_alloc ?_ _) | (with_reducible refine Kd.C_drewN ?_ _) | (with_reducible refine Kd.C_drew ?_))); (case side2 => exact HC1.out); rintro e w17 ⟨v371, rfl, ho0, hb⟩; have n0_ := Aside0.mk (Kd.R_lower ho0 (below_size (by repeat (first | (with_reducible first | exact HB.out | apply below_alloc | apply pw_below_drewN | apply below_drew1) | exact HB.out)))); have n1_ := Aside0.mk (below_step (by repeat (first | (with_reducible first | exact HB.out | apply below_alloc | apply pw_below_drewN | apply below_drew1) | exact HB.out)) hb); clear HB; have HO372 := n0_; have HB := n1_; clear n0_ n1_; (try clear hb); (try clear hb2); (try clear hk); (try clear hi); (try clear ho0)) | (at_builtin; refine Kd.R_append_zeros (Kd.int .u8) (w0 := w) w.heap.size rfl (.tmp 30) (.const (.int .i64 60)) 23 3 5 (.int .u8 0) 1 rfl Try.underlying23 Try.underlying3 info5 rfl (by decide) (by omega) v371 t370 0 (60 : Int) (fun _ => True) rfl rfl rfl ?aF ?aO (by omega) ?aB ?aS ?aL ?_; (case aB => exact (by repeat (first | (with_reducible first | exact HB.out | apply below_alloc | apply pw_below_drewN | apply below_drew1) | exact HB.out))); (case aF => exact (fun _ _ => trivial)); (case aO => exact (by (with_reducible repeat (first | apply Kd.R_alloc | apply Kd.R_drewN | apply Kd.R_drew)); exact HO372.out)); (case aS => exact (below_size (by repeat (first | (with_reducible first | exact HB.out | apply below_alloc | apply pw_below_drewN | apply below_drew1) | exact HB.out)))); (case aL => have := LMc10.out; omega); intro v374 w18 ho hb hg hat; rw [show ((60 : Int).toNat : Nat) = 60 from rfl, ← Ny373.out] at ho; have n0_ := Aside0.mk (hb); have n1_ := Aside0.mk (ho); clear HB; clear HO372; have HB := n0_; have HO375 := n1_; clear n0_ n1_; clear ho hb hg hat; obtain ⟨Ao19, co19, eo19⟩ := Kd.R_slice HO375.out; subst eo19; have q20 : ((ji12) : Int) ≤ ((y373.length : Int) : Int) := of_decide_eq_true (by first | (with_reducible assumption) | assumption); obtain ⟨i020, hi020, _, hsz20, _⟩ := info_parts info5; have hroom20 : y373.length ≤ co19 := (Kd.R_reads' HO375.out).2.1; have hC20 : Kd.C (Kd.int .u8) _ Ao19 y373.length y373 := (Kd.R_reads' HO375.out).2.2; have hcut20 := cut_to (P := Try.prog) 23 5 .i64 Try.underlying23 hi020 Ao19 y373.length co19 (ji12) (of_decide_eq_true (by first | (with_reducible assumption) | assumption)) q20 hroom20; have hr20 := Kd.C_take (m := ((ji12) : Int).toNat) hC20 (by omega); have hy20 : y376.length = ((ji12) : Int).toNat := (by rw [Ny376.out, List.length_take]; omega); rw [← Ny376.out] at hr20; rw [← hy20] at hcut20; have HR379 := Aside0.mk hr20; have HC379 := Aside0.mk (show y376.length ≤ co19 from by omega); clear hr20 hC20 hroom20 hi020 hsz20; have KY20 := Aside0.mk hy20; clear hy20; have KL20 := Aside0.mk (show ((ji12) : Int).toNat ≤ y373.length from by omega); replace q20 := eq_true q20) | (go_at_call 12; (with_reducible refine (chunk_Get.calls kj4 _ _ y376 t380 t381 t382 _ ?side1 ?side2 A15.out).mono ?_); (case side1 => repeat (first | exact (by repeat (first | (with_reducible exact HR379.out) | (with_reducible refine Kd.C_alloc ?_ _) | (with_reducible refine Kd.C_drewN ?_ _) | (with_reducible refine Kd.C_drew ?_) | exact HR379.out)) | (with_reducible refine Kd.C_alloc ?_ _) | (with_reducible refine Kd.C_drewN ?_ _) | (with_reducible refine Kd.C_drew ?_))); (case side2 => exact HC379.out); rintro e w21 ⟨v383, rfl, ho0, hb⟩; have n0_ := Aside0.mk (Kd.R_below (by (with_reducible repeat (first | apply Kd.R_alloc | apply Kd.R_drewN | apply Kd.R_drew)); exact HO375.out) hb); have n1_ := Aside0.mk (Kd.R_lower ho0 (below_size (by repeat (first | (with_reducible first | exact HB.out | apply below_alloc | apply pw_below_drewN | apply below_drew1) | exact HB.out)))); have n2_ := Aside0.mk (Kd.C_below (by repeat (first | (with_reducible exact HR379.out) | (with_reducible refine Kd.C_alloc ?_ _) | (with_reducible refine Kd.C_drewN ?_ _) | (with_reducible refine Kd.C_drew ?_) | exact HR379.out)) hb); have n3_ := Aside0.mk (below_step (by repeat (first | (with_reducible first | exact HB.out | apply below_alloc | apply pw_below_drewN | apply below_drew1) | exact HB.out)) hb); clear HO375; clear HR379; clear HB; have HO375 := n0_; have HO384 := n1_; have HR379 := n2_; have HB := n3_; clear n0_ n1_ n2_ n3_; (try clear hb); (try clear hb2); (try clear hk); (try clear hi); (try clear ho0))))
                (try simp only [Act.put, List.setIfInBounds_toArray, List.set_cons_zero, List.set_cons_succ])
                go_cut [59] (fun v59 wc => ∃ (kq : Nat) (x59_15 : Bool), v59 = .bool x59_15 ∧ Aside0 (symbolonlaw14_ChunkCuts.j1 kq l1 t369 (Int.tmod (wrap64 (a0)) 60000) ji12 t380 t381 t382 x59_15 = some r) ∧ Aside0 (kq ≤ kj4) ∧ Aside0 (Kd.R (Kd.int .u64) 40 wc w.heap.size (fun _ => True) v383 t381) ∧ Aside0 (Kd.C (Kd.int .u8) wc Ao19 y376.length y376) ∧ Aside0 (Below w.heap.size w wc))
                case first =>
                  have H := HC16.out
                  clear HC16
                  by_cases c22 : (ji12) ≥ 10
                  · rw [if_pos c22] at H
                    have c22b0 : decide (10 ≤ (ji12)) = true := decide_eq_true c22
                    clear c22
                    (first | rw [c22b0] | (simp only [i64_w, i32_w]; rw [c22b0]) | skip)
                    by_cases c23 : (ji12) ≤ 50
                    · rw [if_pos c23] at H
                      have c23b0 : decide ((ji12) ≤ 50) = true := decide_eq_true c23
                      clear c23
                      have H' := Aside0.mk H
                      clear H
                      go_wp2
                      repeat (go_quiet (fail); try go_wp2)
                      go_meet
                      case rel => exact ⟨_, ((t382 != ((Int.tmod (ji12) 8) == 2))), (by first | rfl | (simp; done) | (simp only [← hji12] <;> (first | rfl | simp)) | (simp [*]; done)), H', ⟨by have := HJ4.out; first | omega | exact Nat.le_refl _⟩, ⟨by (with_reducible repeat (first | apply Kd.R_alloc | apply Kd.R_drewN | apply Kd.R_drew)); exact HO384.out⟩, ⟨by repeat (first | (with_reducible exact HR379.out) | (with_reducible refine Kd.C_alloc ?_ _) | (with_reducible refine Kd.C_drewN ?_ _) | (with_reducible refine Kd.C_drew ?_) | exact HR379.out)⟩, ⟨by repeat (first | (with_reducible first | exact HB.out | apply below_alloc | apply pw_below_drewN | apply below_drew1) | exact HB.out)⟩⟩
                    · rw [if_neg c23] at H
                      have c23b0 : decide ((ji12) ≤ 50) = false := decide_eq_false c23
                      clear c23
                      have H' := Aside0.mk H
                      clear H
                      go_wp2
                      repeat (go_quiet (fail); try go_wp2)
                      go_meet
                      case rel => exact ⟨_, ((t382 != false)), (by first | rfl | (simp; done) | (simp [*]; done)), H', ⟨by have := HJ4.out; first | omega | exact Nat.le_refl _⟩, ⟨by (with_reducible repeat (first | apply Kd.R_alloc | apply Kd.R_drewN | apply Kd.R_drew)); exact HO384.out⟩, ⟨by repeat (first | (with_reducible exact HR379.out) | (with_reducible refine Kd.C_alloc ?_ _) | (with_reducible refine Kd.C_drewN ?_ _) | (with_reducible refine Kd.C_drew ?_) | exact HR379.out)⟩, ⟨by repeat (first | (with_reducible first | exact HB.out | apply below_alloc | apply pw_below_drewN | apply below_drew1) | exact HB.out)⟩⟩
                  · rw [if_neg c22] at H
                    have c22b0 : decide (10 ≤ (ji12)) = false := decide_eq_false c22
                    clear c22
                    (first | rw [c22b0] | (simp only [i64_w, i32_w]; rw [c22b0]) | skip)
                    have H' := Aside0.mk H
                    clear H
                    go_wp2
                    repeat (go_quiet (fail); try go_wp2)
                    go_meet
                    case rel => exact ⟨_, ((t382 != false)), (by first | rfl | (simp; done) | (simp [*]; done)), H', ⟨by have := HJ4.out; first | omega | exact Nat.le_refl _⟩, ⟨by (with_reducible repeat (first | apply Kd.R_alloc | apply Kd.R_drewN | apply Kd.R_drew)); exact HO384.out⟩, ⟨by repeat (first | (with_reducible exact HR379.out) | (with_reducible refine Kd.C_alloc ?_ _) | (with_reducible refine Kd.C_drewN ?_ _) | (with_reducible refine Kd.C_drew ?_) | exact HR379.out)⟩, ⟨by repeat (first | (with_reducible first | exact HB.out | apply below_alloc | apply pw_below_drewN | apply below_drew1) | exact HB.out)⟩⟩
                case rest =>
                  clear HC16
                  try clear c1
                  try clear c2
                  try clear p2
                  try clear q2
                  try clear p6
                  try clear c7
                  try clear c7b0
                  try clear c7b1
                  try clear c8
                  try clear c10
                  try clear c11
                  try clear c11b0
                  try clear c13
                  try clear c13b0
                  try clear c13b1
                  try clear c14
                  try clear c14b0
                  try clear c14b1
                  try clear q20
                  try clear c22
                  try clear c22b0
                  try clear c23
                  try clear c23b0
                  try clear p2
                  try clear p6
                  try clear q20
                  obtain ⟨kq, x59_15, rfl, HA, HJ15, HO_12, HR379, HB⟩ := hcut
                  cases kq with
                  | zero => exact absurd HA.out (by simp [symbolonlaw14_ChunkCuts.j1])
                  | succ kj15 =>
                    have H := HA.out
                    clear HA
                    simp only [symbolonlaw14_ChunkCuts.j1] at H
                    by_cases c24 : x59_15 = true
                    · subst c24
                      have H1 : (none) = some r := by rw [if_pos rfl] at H; exact H
                      clear H
                      have H := H1
                      clear H1
                      exact absurd H (by simp)
                    · replace c24 := Bool.eq_false_iff.mpr c24
                      subst c24
                      have H1 : (if t382 = true then (if t369 = true then (if t380 = (Int.tmod (wrap64 (a0)) 60000) then (if (t381.length : Int) = (wrap64 (Int.tdiv (wrap64 (ji12 - 2)) 8)) then (if 0 ≤ (mn (wrap64 (Int.tdiv (wrap64 (ji12 - 2)) 8)) (l1.length : Int)) then (if (mn (wrap64 (Int.tdiv (wrap64 (ji12 - 2)) 8)) (l1.length : Int)) ≤ (t381.length : Int) then (if (mn (wrap64 (Int.tdiv (wrap64 (ji12 - 2)) 8)) (l1.length : Int)) ≤ (l1.length : Int) then ((symbolonref01_Same.f kj15 (t381.take ((mn (wrap64 (Int.tdiv (wrap64 (ji12 - 2)) 8)) (l1.length : Int)) : Int).toNat) (l1.take ((mn (wrap64 (Int.tdiv (wrap64 (ji12 - 2)) 8)) (l1.length : Int)) : Int).toNat)).bind fun t390 => (some t390)) else (none)) else (none)) else (none)) else (none)) else (none)) else (none)) else (if t369 = true then (if t380 = 0 then (some ((t381.length : Int) == 0)) else (none)) else (none))) = some r := by rw [if_neg (show ¬ (false = true) by decide)] at H; exact H
                      clear H
                      have H := H1
                      clear H1
                      by_cases c25 : t382 = true
                      · subst c25
                        have H1 : (if t369 = true then (if t380 = (Int.tmod (wrap64 (a0)) 60000) then (if (t381.length : Int) = (wrap64 (Int.tdiv (wrap64 (ji12 - 2)) 8)) then (if 0 ≤ (mn (wrap64 (Int.tdiv (wrap64 (ji12 - 2)) 8)) (l1.length : Int)) then (if (mn (wrap64 (Int.tdiv (wrap64 (ji12 - 2)) 8)) (l1.length : Int)) ≤ (t381.length : Int) then (if (mn (wrap64 (Int.tdiv (wrap64 (ji12 - 2)) 8)) (l1.length : Int)) ≤ (l1.length : Int) then ((symbolonref01_Same.f kj15 (t381.take ((mn (wrap64 (Int.tdiv (wrap64 (ji12 - 2)) 8)) (l1.length : Int)) : Int).toNat) (l1.take ((mn (wrap64 (Int.tdiv (wrap64 (ji12 - 2)) 8)) (l1.length : Int)) : Int).toNat)).bind fun t390 => (some t390)) else (none)) else (none)) else (none)) else (none)) else (none)) else (none)) = some r := by rw [if_pos rfl] at H; exact H
                        clear H
                        have H := H1
                        clear H1
                        by_cases c26 : t369 = true
                        · subst c26
                          have H1 : (if t380 = (Int.tmod (wrap64 (a0)) 60000) then (if (t381.length : Int) = (wrap64 (Int.tdiv (wrap64 (ji12 - 2)) 8)) then (if 0 ≤ (mn (wrap64 (Int.tdiv (wrap64 (ji12 - 2)) 8)) (l1.length : Int)) then (if (mn (wrap64 (Int.tdiv (wrap64 (ji12 - 2)) 8)) (l1.length : Int)) ≤ (t381.length : Int) then (if (mn (wrap64 (Int.tdiv (wrap64 (ji12 - 2)) 8)) (l1.length : Int)) ≤ (l1.length : Int) then ((symbolonref01_Same.f kj15 (t381.take ((mn (wrap64 (Int.tdiv (wrap64 (ji12 - 2)) 8)) (l1.length : Int)) : Int).toNat) (l1.take ((mn (wrap64 (Int.tdiv (wrap64 (ji12 - 2)) 8)) (l1.length : Int)) : Int).toNat)).bind fun t390 => (some t390)) else (none)) else (none)) else (none)) else (none)) else (none)) = some r := by rw [if_pos rfl] at H; exact H
                          clear H
                          have H := H1
                          clear H1
                          by_cases c27 : t380 = (Int.tmod (wrap64 (a0)) 60000)
                          · rw [if_pos c27] at H
                            have c27b0 : (t380 == (Int.tmod (wrap64 (a0)) 60000)) = true := beq_iff_eq.mpr c27
                            have c27b1 : (t380 != (Int.tmod (wrap64 (a0)) 60000)) = false := bne_eq_false_iff_eq.mpr c27
                            clear c27
                            by_cases c28 : (t381.length : Int) = (wrap64 (Int.tdiv (wrap64 (ji12 - 2)) 8))
                            · rw [if_pos c28] at H
                              have c28b0 : ((t381.length : Int) == (wrap64 (Int.tdiv (wrap64 (ji12 - 2)) 8))) = true := beq_iff_eq.mpr c28
                              have c28b1 : ((t381.length : Int) != (wrap64 (Int.tdiv (wrap64 (ji12 - 2)) 8))) = false := bne_eq_false_iff_eq.mpr c28
                              clear c28
                              obtain ⟨ji29, hji29⟩ : ∃ j_ : Int, (mn (wrap64 (Int.tdiv (wrap64 (ji12 - 2)) 8)) (l1.length : Int)) = j_ := ⟨_, rfl⟩
                              replace H : (if 0 ≤ (ji29) then (if (ji29) ≤ (t381.length : Int) then (if (ji29) ≤ (l1.length : Int) then ((symbolonref01_Same.f kj15 (t381.take ((ji29) : Int).toNat) (l1.take ((ji29) : Int).toNat)).bind fun t390 => (some t390)) else (none)) else (none)) else (none)) = some r := by first | (rw [hji29] at H; exact H) | (simp only [hji29] at H ⊢; exact H)
                              have hji29_ : (if (l1.length : Int) < (wrap64 (Int.tdiv (wrap64 (ji12 - 2)) 8)) then (l1.length : Int) else (wrap64 (Int.tdiv (wrap64 (ji12 - 2)) 8))) = ji29 := hji29
                              by_cases c30 : 0 ≤ (ji29)
                              · rw [if_pos c30] at H
                                have c30b0 := eq_true c30
                                have c30b1 : decide (0 ≤ (ji29)) = true := decide_eq_true c30
                                clear c30
                                by_cases c31 : (ji29) ≤ (t381.length : Int)
                                · rw [if_pos c31] at H
                                  have c31b0 := eq_true c31
                                  have c31b1 : decide ((ji29) ≤ (t381.length : Int)) = true := decide_eq_true c31
                                  clear c31
                                  obtain ⟨y385, hy385⟩ : ∃ y_ : List Int, y_ = (t381.take ((ji29) : Int).toNat) := ⟨_, rfl⟩
                                  replace H : (if (ji29) ≤ (l1.length : Int) then ((symbolonref01_Same.f kj15 y385 (l1.take ((ji29) : Int).toNat)).bind fun t390 => (some t390)) else (none)) = some r := by first | (rw [hy385]; with_reducible exact H) | (have H2_ := (Option.bind_some _ _).symm.trans H; rw [hy385]; with_reducible exact H2_) | (have H2_ := (Option.bind_some _ _).symm.trans H; with_reducible exact H2_) | with_reducible exact H | (rw [hy385]; exact H) | exact H
                                  have Ny385 := Aside0.mk hy385
                                  clear hy385
                                  have c33b0 := eq_true (of_decide_eq_true (by first | (with_reducible assumption) | assumption) : 0 ≤ (ji29))
                                  by_cases c34 : (ji29) ≤ (l1.length : Int)
                                  · rw [if_pos c34] at H
                                    have c34b0 := eq_true c34
                                    have c34b1 : decide ((ji29) ≤ (l1.length : Int)) = true := decide_eq_true c34
                                    clear c34
                                    replace H := Option.bind_eq_some_iff.mp H
                                    obtain ⟨t390, A350, H⟩ := H
                                    replace H : (some t390) = some r := H
                                    have A35 := Aside0.mk A350
                                    clear A350
                                    obtain rfl := Option.some.inj H
                                    obtain ⟨Ao36, co36, eo36⟩ := Kd.R_slice HO_12.out
                                    subst eo36
                                    have q37 : ((ji29) : Int) ≤ ((t381.length : Int) : Int) := of_decide_eq_true (by first | (with_reducible assumption) | assumption)
                                    obtain ⟨i037, hi037, _, hsz37, _⟩ := info_parts info40
                                    have hroom37 : t381.length ≤ co36 := (Kd.R_reads' HO_12.out).2.1
                                    have hC37 : Kd.C (Kd.int .u64) _ Ao36 t381.length t381 := (Kd.R_reads' HO_12.out).2.2
                                    have hcut37 := cut_to (P := Try.prog) 22 40 .i64 Try.underlying22 hi037 Ao36 t381.length co36 (ji29) (of_decide_eq_true (by first | (with_reducible assumption) | assumption)) q37 hroom37
                                    have hr37 := Kd.C_take (m := ((ji29) : Int).toNat) hC37 (by omega)
                                    have hy37 : y385.length = ((ji29) : Int).toNat := (by rw [Ny385.out, List.length_take]; omega)
                                    rw [← Ny385.out] at hr37
                                    rw [← hy37] at hcut37
                                    have HR388 := Aside0.mk hr37
                                    have HC388 := Aside0.mk (show y385.length ≤ co36 from by omega)
                                    clear hr37 hC37 hroom37 hi037 hsz37
                                    have KY37 := Aside0.mk hy37
                                    clear hy37
                                    have KL37 := Aside0.mk (show ((ji29) : Int).toNat ≤ t381.length from by omega)
                                    replace q37 := eq_true q37
                                    obtain ⟨i038, hi038, _, hsz38, _⟩ := info_parts info40
                                    obtain ⟨hcut38, hA38, hC38⟩ := print_take_of (P := Try.prog) (Value.int .u64) 0 22 40 .i64 Try.underlying22 hi038 hsz38 A1 c1 l1 (ji29) (of_decide_eq_true (by first | (with_reducible assumption) | assumption)) (of_decide_eq_true (by first | (with_reducible assumption) | assumption)) HC1.out
                                    have HR389 := Aside0.mk (Kd.C_of_reads (h1 := fun _ => rfl) (hA38 _ (Kd.reads_of_C HR1.out)))
                                    have HC389 := Aside0.mk hC38
                                    clear hA38 hC38 hi038 hsz38
                                    go_wp2_with (first | (go_at_call 18; (try rw [show (Value.slice A1 ((ji29) : Int).toNat c1 : Value) = .slice A1 (l1.take ((ji29) : Int).toNat).length c1 from by rw [List.length_take, Nat.min_eq_left (by have h_ : (ji29 : Int) ≤ (l1.length : Int) := of_decide_eq_true (by first | (with_reducible assumption) | assumption); omega)]]); (with_reducible refine (symbolonref01_Same.calls kj15 _ _ y385 _ _ (l1.take ((ji29) : Int).toNat) t390 _ ?side1 ?side2 ?side3 ?side4 A35.out).mono ?_); (case side1 => repeat (first | exact (by repeat (first | (with_reducible exact HR388.out) | (with_reducible refine Kd.C_alloc ?_ _) | (with_reducible refine Kd.C_drewN ?_ _) | (with_reducible refine Kd.C_drew ?_) | exact HR388.out)) | (with_reducible refine Kd.C_alloc ?_ _) | (with_reducible refine Kd.C_drewN ?_ _) | (with_reducible refine Kd.C_drew ?_))); (case side2 => exact HC388.out); (case side3 => repeat (first | exact (Kd.C_below HR389.out HB.out) | (with_reducible refine Kd.C_alloc ?_ _) | (with_reducible refine Kd.C_drewN ?_ _) | (with_reducible refine Kd.C_drew ?_))); (case side4 => exact HC389.out); rintro e w' ⟨rfl, ⟨nd, rfl⟩⟩; (try first | exact ⟨rfl, _, World.drewN_drewN _ _ _⟩ | exact ⟨rfl, _, Eq.trans (World.drewN_drewN _ _ _) (congrArg (World.drewN _) (Nat.add_assoc _ _ _))⟩)))
                                    repeat (go_quiet (first | (go_at_call 18; (try rw [show (Value.slice A1 ((ji29) : Int).toNat c1 : Value) = .slice A1 (l1.take ((ji29) : Int).toNat).length c1 from by rw [List.length_take, Nat.min_eq_left (by have h_ : (ji29 : Int) ≤ (l1.length : Int) := of_decide_eq_true (by first | (with_reducible assumption) | assumption); omega)]]); (with_reducible refine (symbolonref01_Same.calls kj15 _ _ y385 _ _ (l1.take ((ji29) : Int).toNat) t390 _ ?side1 ?side2 ?side3 ?side4 A35.out).mono ?_); (case side1 => repeat (first | exact (by repeat (first | (with_reducible exact HR388.out) | (with_reducible refine Kd.C_alloc ?_ _) | (with_reducible refine Kd.C_drewN ?_ _) | (with_reducible refine Kd.C_drew ?_) | exact HR388.out)) | (with_reducible refine Kd.C_alloc ?_ _) | (with_reducible refine Kd.C_drewN ?_ _) | (with_reducible refine Kd.C_drew ?_))); (case side2 => exact HC388.out); (case side3 => repeat (first | exact (Kd.C_below HR389.out HB.out) | (with_reducible refine Kd.C_alloc ?_ _) | (with_reducible refine Kd.C_drewN ?_ _) | (with_reducible refine Kd.C_drew ?_))); (case side4 => exact HC389.out); rintro e w' ⟨rfl, ⟨nd, rfl⟩⟩; (try first | exact ⟨rfl, _, World.drewN_drewN _ _ _⟩ | exact ⟨rfl, _, Eq.trans (World.drewN_drewN _ _ _) (congrArg (World.drewN _) (Nat.add_assoc _ _ _))⟩))); try go_wp2_with (first | (go_at_call 18; (try rw [show (Value.slice A1 ((ji29) : Int).toNat c1 : Value) = .slice A1 (l1.take ((ji29) : Int).toNat).length c1 from by rw [List.length_take, Nat.min_eq_left (by have h_ : (ji29 : Int) ≤ (l1.length : Int) := of_decide_eq_true (by first | (with_reducible assumption) | assumption); omega)]]); (with_reducible refine (symbolonref01_Same.calls kj15 _ _ y385 _ _ (l1.take ((ji29) : Int).toNat) t390 _ ?side1 ?side2 ?side3 ?side4 A35.out).mono ?_); (case side1 => repeat (first | exact (by repeat (first | (with_reducible exact HR388.out) | (with_reducible refine Kd.C_alloc ?_ _) | (with_reducible refine Kd.C_drewN ?_ _) | (with_reducible refine Kd.C_drew ?_) | exact HR388.out)) | (with_reducible refine Kd.C_alloc ?_ _) | (with_reducible refine Kd.C_drewN ?_ _) | (with_reducible refine Kd.C_drew ?_))); (case side2 => exact HC388.out); (case side3 => repeat (first | exact (Kd.C_below HR389.out HB.out) | (with_reducible refine Kd.C_alloc ?_ _) | (with_reducible refine Kd.C_drewN ?_ _) | (with_reducible refine Kd.C_drew ?_))); (case side4 => exact HC389.out); rintro e w' ⟨rfl, ⟨nd, rfl⟩⟩; (try first | exact ⟨rfl, _, World.drewN_drewN _ _ _⟩ | exact ⟨rfl, _, Eq.trans (World.drewN_drewN _ _ _) (congrArg (World.drewN _) (Nat.add_assoc _ _ _))⟩))))
                                    go_ret
                                    exact ⟨by first | rfl | (simp [errW_none, errW_some] <;> rfl) | (simp only [← hji12, ← hji29]; first | rfl | (simp [errW_none, errW_some] <;> rfl)) | (simp [*, errW_none, errW_some] <;> rfl), by repeat (first | (with_reducible first | exact HB.out | apply below_alloc | apply pw_below_drewN | apply below_drew1) | exact HB.out)⟩
                                  · rw [if_neg c34] at H
                                    exact absurd H (by simp)
                                · rw [if_neg c31] at H
                                  exact absurd H (by simp)
                              · rw [if_neg c30] at H
                                exact absurd H (by simp)
                            · rw [if_neg c28] at H
                              exact absurd H (by simp)
                          · rw [if_neg c27] at H
                            exact absurd H (by simp)
                        · replace c26 := Bool.eq_false_iff.mpr c26
                          subst c26
                          have H1 : (none) = some r := by rw [if_neg (show ¬ (false = true) by decide)] at H; exact H
                          clear H
                          have H := H1
                          clear H1
                          exact absurd H (by simp)
                      · replace c25 := Bool.eq_false_iff.mpr c25
                        subst c25
                        have H1 : (if t369 = true then (if t380 = 0 then (some ((t381.length : Int) == 0)) else (none)) else (none)) = some r := by rw [if_neg (show ¬ (false = true) by decide)] at H; exact H
                        clear H
                        have H := H1
                        clear H1
                        by_cases c39 : t369 = true
                        · subst c39
                          have H1 : (if t380 = 0 then (some ((t381.length : Int) == 0)) else (none)) = some r := by rw [if_pos rfl] at H; exact H
                          clear H
                          have H := H1
                          clear H1
                          by_cases c40 : t380 = 0
                          · rw [if_pos c40] at H
                            have c40b0 : (t380 == 0) = true := beq_iff_eq.mpr c40
                            have c40b1 : (t380 != 0) = false := bne_eq_false_iff_eq.mpr c40
                            clear c40
                            obtain rfl := Option.some.inj H
                            obtain ⟨Ao41, co41, eo41⟩ := Kd.R_slice HO_12.out
                            subst eo41
                            go_wp2
                            repeat (go_quiet (fail); try go_wp2)
                            go_ret
                            exact ⟨by first | rfl | (simp [errW_none, errW_some] <;> rfl) | (simp only [← hji12]; first | rfl | (simp [errW_none, errW_some] <;> rfl)) | (simp [*, errW_none, errW_some] <;> rfl), by repeat (first | (with_reducible first | exact HB.out | apply below_alloc | apply pw_below_drewN | apply below_drew1) | exact HB.out)⟩
                          · rw [if_neg c40] at H
                            exact absurd H (by simp)
                        · replace c39 := Bool.eq_false_iff.mpr c39
                          subst c39
                          have H1 : (none) = some r := by rw [if_neg (show ¬ (false = true) by decide)] at H; exact H
                          clear H
                          have H := H1
                          clear H1
                          exact absurd H (by simp)
              · rw [if_neg c14] at H
                exact absurd H (by simp)
            · rw [if_neg c13] at H
              exact absurd H (by simp)
        · rw [if_neg c10] at H
          exact absurd H (by simp)

/-- THE ONE PURE STATEMENT of symbolonlaw14_ChunkCuts. -/
def symbolonlaw14_ChunkCuts.Pure : Prop := ∀ (a0 : Int) (l1 : List Int) (a2 : Int), ((Lit.int .u16 a0).wf = true) → (l1.length ≤ maxLen) → (l1.length * 8 ≤ 140737488351232) → (∀ b ∈ l1, (Lit.int .u64 b).wf = true) → ((Lit.int .u8 a2).wf = true) → ∃ k, symbolonlaw14_ChunkCuts.f k a0 l1 a2 = some true
theorem symbolonlaw14_ChunkCuts.walk (P : symbolonlaw14_ChunkCuts.Pure) (a0 : Int) (A1 : Option Addr) (c1 : Nat) (l1 : List Int) (a2 : Int) (w : World) (hr1 : Kd.C (Kd.int .u64) w A1 l1.length l1) (hc1 : l1.length ≤ c1) (w0 : (Lit.int .u16 a0).wf = true) (m1 : l1.length ≤ maxLen) (y1 : l1.length * 8 ≤ 140737488351232) (v1 : ∀ b ∈ l1, (Lit.int .u64 b).wf = true) (w2 : (Lit.int .u8 a2).wf = true) :
    Calls Try.prog 8 #[.int .u16 a0, .slice A1 l1.length c1, .int .u8 a2] w fun e w' => e = .returned (.bool true) ∧ Below w.heap.size w w' := by
  obtain ⟨k, h⟩ := P a0 l1 a2 w0 m1 y1 v1 w2
  refine (symbolonlaw14_ChunkCuts.calls k a0 A1 c1 l1 a2 true w hr1 hc1 h).mono ?_
  rintro e w' ⟨rfl, hd⟩
  exact ⟨rfl, hd⟩

end Go.Proofs.Ytfkgacjiccgdfaa.Q
