-- Laid by a program of this session (wip/myprint.py) in the form of the kit's print; a text of this claim, checked by Lean like any other.
import Derived.Test.YtfkgacjiccgdfaaQ0
import Derived.Test.YtfkgacjiccgdfaaQ1
namespace Go.Proofs.Ytfkgacjiccgdfaa.Q
open Go.RowKit Go.Proofs.YtfkgacjiccgdfaaW.PrintWords Go.Proofs.YtfkgacjiccgdfaaW.PrintLast Go.Proofs.YtfkgacjiccgdfaaW.PrintMore
attribute [local go_sem] max2_int min2_int max_two min_two max_three min_three max_four min_four   -- for this text's walks alone
set_option linter.unusedVariables false
set_option linter.unusedSimpArgs false

/-! ### chunk_Gather: function 14 -/
mutual
def chunk_Gather.j0 : Nat → Int → Int → List (List Int) → Bool → Option (List Int × Bool)
  | 0, _, _, _, _ => none
  | k + 1, x0, x1, x2, x36 => if x36 = true then (some (([] : List Int), false)) else (if 0 ≤ x1 then (if (x1 : Int).toNat ≤ 35184372088832 then (if (x1 : Int).toNat ≤ 281474976710656 then (chunk_Gather.l0 k x0 x1 (List.replicate (x1 : Int).toNat 0) (List.replicate (x1 : Int).toNat false) x1 x2 (x2.length : Int) 0) else (none)) else (none)) else (none))
def chunk_Gather.l0 : Nat → Int → Int → List Int → List Bool → Int → List (List Int) → Int → Int → Option (List Int × Bool)
  | 0, _, _, _, _, _, _, _, _ => none
  | k + 1, x0, x1, x8, x9, x10, x42, x43, x44 => if x44 < x43 then (if 0 ≤ x44 then (if x44 < (x42.length : Int) then ((chunk_Get.f k (rd_L2 x42 x44)).bind fun bt117 => (chunk_Gather.l1 k x0 x1 x8 x9 x10 bt117.1 x42 x43 x44 bt117.2.1 (bt117.2.1.length : Int) 0)) else (none)) else (none)) else (if x10 > 0 then (some (([] : List Int), false)) else (some (x8, true)))
def chunk_Gather.l1 : Nat → Int → Int → List Int → List Bool → Int → Int → List (List Int) → Int → Int → List Int → Int → Int → Option (List Int × Bool)
  | 0, _, _, _, _, _, _, _, _, _, _, _, _ => none
  | k + 1, x0, x1, x8, x9, x10, x13, x42, x43, x44, x54, x55, x56 => if x56 < x55 then (if 0 ≤ x56 then (if x56 < (x54.length : Int) then (if (wrap64 ((wrap64 (x13 + x56)) - x0)) ≥ 0 then (if (wrap64 ((wrap64 (x13 + x56)) - x0)) < x1 then (if 0 ≤ (wrap64 ((wrap64 (x13 + x56)) - x0)) then (if (wrap64 ((wrap64 (x13 + x56)) - x0)) < (x9.length : Int) then (if (rdOf false x9 (wrap64 ((wrap64 (x13 + x56)) - x0)) = true) then (chunk_Gather.l1 k x0 x1 x8 x9 x10 x13 x42 x43 x44 x54 x55 (wrap64 (x56 + 1))) else (if (wrap64 ((wrap64 (x13 + x56)) - x0)) < (x8.length : Int) then (chunk_Gather.l1 k x0 x1 (x8.set ((wrap64 ((wrap64 (x13 + x56)) - x0)) : Int).toNat (rd x54 x56)) (x9.set ((wrap64 ((wrap64 (x13 + x56)) - x0)) : Int).toNat true) (wrap64 (x10 - 1)) x13 x42 x43 x44 x54 x55 (wrap64 (x56 + 1))) else (none))) else (none)) else (none)) else (chunk_Gather.l1 k x0 x1 x8 x9 x10 x13 x42 x43 x44 x54 x55 (wrap64 (x56 + 1)))) else (chunk_Gather.l1 k x0 x1 x8 x9 x10 x13 x42 x43 x44 x54 x55 (wrap64 (x56 + 1)))) else (none)) else (none)) else (chunk_Gather.l0 k x0 x1 x8 x9 x10 x42 x43 (wrap64 (x44 + 1)))
end
def chunk_Gather.f (k : Nat) (a0 : Int) (a1 : Int) (l2 : List (List Int)) : Option (List Int × Bool) := if a1 < 0 then (chunk_Gather.j0 k a0 a1 l2 true) else (if a1 > 4096 then (chunk_Gather.j0 k a0 a1 l2 true) else (if a1 > 0 then (if a0 < 0 then (chunk_Gather.j0 k a0 a1 l2 true) else (chunk_Gather.j0 k a0 a1 l2 (decide (a0 > 65535)))) else (chunk_Gather.j0 k a0 a1 l2 false)))
theorem chunk_Gather.mono_l : ∀ k, (∀ y0 y1 y2 y3, LeO (chunk_Gather.j0 k y0 y1 y2 y3) (chunk_Gather.j0 (k + 1) y0 y1 y2 y3)) ∧ (∀ y0 y1 y2 y3 y4 y5 y6 y7, LeO (chunk_Gather.l0 k y0 y1 y2 y3 y4 y5 y6 y7) (chunk_Gather.l0 (k + 1) y0 y1 y2 y3 y4 y5 y6 y7)) ∧ (∀ y0 y1 y2 y3 y4 y5 y6 y7 y8 y9 y10 y11, LeO (chunk_Gather.l1 k y0 y1 y2 y3 y4 y5 y6 y7 y8 y9 y10 y11) (chunk_Gather.l1 (k + 1) y0 y1 y2 y3 y4 y5 y6 y7 y8 y9 y10 y11))
  | 0 => ⟨fun _ _ _ _ r h => by simp [chunk_Gather.j0] at h, fun _ _ _ _ _ _ _ _ r h => by simp [chunk_Gather.l0] at h, fun _ _ _ _ _ _ _ _ _ _ _ _ r h => by simp [chunk_Gather.l1] at h⟩
  | k + 1 => by
    obtain ⟨ih0, ih1, ih2⟩ := chunk_Gather.mono_l k
    refine ⟨?_, ?_, ?_⟩
    · intro y0 y1 y2 y3
      unfold chunk_Gather.j0
      repeat' first
      | (with_reducible exact ih0 _ _ _ _)
      | (with_reducible exact ih1 _ _ _ _ _ _ _ _)
      | (with_reducible exact ih2 _ _ _ _ _ _ _ _ _ _ _ _)
      | (with_reducible exact chunk_Get.mono _ _)
      | (with_reducible exact LeO.refl _)
      | (with_reducible exact LeO.none _)
      | (with_reducible refine LeO.ite ?_ ?_)
      | (with_reducible refine LeO.bind ?_ (fun _ => ?_))
      | exact ih0 _ _ _ _
      | exact ih1 _ _ _ _ _ _ _ _
      | exact ih2 _ _ _ _ _ _ _ _ _ _ _ _
      | exact chunk_Get.mono _ _
      | exact LeO.none _
      | refine LeO.ite ?_ ?_
      | refine LeO.bind ?_ (fun _ => ?_)
    · intro y0 y1 y2 y3 y4 y5 y6 y7
      unfold chunk_Gather.l0
      repeat' first
      | (with_reducible exact ih0 _ _ _ _)
      | (with_reducible exact ih1 _ _ _ _ _ _ _ _)
      | (with_reducible exact ih2 _ _ _ _ _ _ _ _ _ _ _ _)
      | (with_reducible exact chunk_Get.mono _ _)
      | (with_reducible exact LeO.refl _)
      | (with_reducible exact LeO.none _)
      | (with_reducible refine LeO.ite ?_ ?_)
      | (with_reducible refine LeO.bind ?_ (fun _ => ?_))
      | exact ih0 _ _ _ _
      | exact ih1 _ _ _ _ _ _ _ _
      | exact ih2 _ _ _ _ _ _ _ _ _ _ _ _
      | exact chunk_Get.mono _ _
      | exact LeO.none _
      | refine LeO.ite ?_ ?_
      | refine LeO.bind ?_ (fun _ => ?_)
    · intro y0 y1 y2 y3 y4 y5 y6 y7 y8 y9 y10 y11
      unfold chunk_Gather.l1
      repeat' first
      | (with_reducible exact ih0 _ _ _ _)
      | (with_reducible exact ih1 _ _ _ _ _ _ _ _)
      | (with_reducible exact ih2 _ _ _ _ _ _ _ _ _ _ _ _)
      | (with_reducible exact chunk_Get.mono _ _)
      | (with_reducible exact LeO.refl _)
      | (with_reducible exact LeO.none _)
      | (with_reducible refine LeO.ite ?_ ?_)
      | (with_reducible refine LeO.bind ?_ (fun _ => ?_))
      | exact ih0 _ _ _ _
      | exact ih1 _ _ _ _ _ _ _ _
      | exact ih2 _ _ _ _ _ _ _ _ _ _ _ _
      | exact chunk_Get.mono _ _
      | exact LeO.none _
      | refine LeO.ite ?_ ?_
      | refine LeO.bind ?_ (fun _ => ?_)
theorem chunk_Gather.mono : ∀ a0 a1 a2 k, LeO (chunk_Gather.f k a0 a1 a2) (chunk_Gather.f (k + 1) a0 a1 a2) := by
  intro a0 a1 a2 k
  obtain ⟨ih0, ih1, ih2⟩ := chunk_Gather.mono_l k
  unfold chunk_Gather.f
  repeat' first
      | (with_reducible exact ih0 _ _ _ _)
      | (with_reducible exact ih1 _ _ _ _ _ _ _ _)
      | (with_reducible exact ih2 _ _ _ _ _ _ _ _ _ _ _ _)
      | (with_reducible exact chunk_Get.mono _ _)
      | (with_reducible exact LeO.refl _)
      | (with_reducible exact LeO.none _)
      | (with_reducible refine LeO.ite ?_ ?_)
      | (with_reducible refine LeO.bind ?_ (fun _ => ?_))
      | exact ih0 _ _ _ _
      | exact ih1 _ _ _ _ _ _ _ _
      | exact ih2 _ _ _ _ _ _ _ _ _ _ _ _
      | exact chunk_Get.mono _ _
      | exact LeO.none _
      | refine LeO.ite ?_ ?_
      | refine LeO.bind ?_ (fun _ => ?_)
set_option maxHeartbeats 8000000 in
set_option maxRecDepth 100000 in
theorem chunk_Gather.calls (k : Nat) (a0 : Int) (a1 : Int) (A2 : Option Addr) (c2 : Nat) (l2 : List (List Int)) (r1 : List Int) (r2 : Bool) (w : World) (hr2 : Kd.C (Kd.slice 5 (Kd.int .u8)) w A2 l2.length l2) (hc2 : l2.length ≤ c2) (h : chunk_Gather.f k a0 a1 l2 = some (r1, r2)) :
    Calls Try.prog 14 #[.int .i64 a0, .int .i64 a1, .slice A2 l2.length c2] w fun e w' => ∃ v0_ : Value, e = .returned (.tuple #[v0_, .bool r2]) ∧ Kd.R (Kd.int .u64) 40 w' w.heap.size (fun _ => True) v0_ r1 ∧ Below w.heap.size w w' := by
  have HR2 := Aside0.mk hr2
  have HC2 := Aside0.mk hc2
  clear hr2 hc2
  have HB := Aside0.mk (Below.refl w.heap.size w)
  have H : (if a1 < 0 then (chunk_Gather.j0 k a0 a1 l2 true) else (if a1 > 4096 then (chunk_Gather.j0 k a0 a1 l2 true) else (if a1 > 0 then (if a0 < 0 then (chunk_Gather.j0 k a0 a1 l2 true) else (chunk_Gather.j0 k a0 a1 l2 (decide (a0 > 65535)))) else (chunk_Gather.j0 k a0 a1 l2 false)))) = some (r1, r2) := h
  clear h
  have HC4 := Aside0.mk H
  clear H
  go_enter Try.func14, Try.ntmps14
  go_upto_region 1 with (fail)
  go_cut [36] (fun v36 wc => ∃ (kq : Nat) (x36_3 : Bool), v36 = .bool x36_3 ∧ Aside0 (chunk_Gather.j0 kq a0 a1 l2 x36_3 = some (r1, r2)) ∧ Aside0 (kq ≤ k) ∧ Aside0 (Below w.heap.size w wc))
  case first =>
    have H := HC4.out
    clear HC4
    by_cases c5 : a1 < 0
    · rw [if_pos c5] at H
      have c5b0 : decide (a1 < 0) = true := decide_eq_true c5
      clear c5
      (first | rw [c5b0] | (simp only [i64_w, i32_w]; rw [c5b0]) | skip)
      have H' := Aside0.mk H
      clear H
      go_wp2
      go_meet
      case rel => exact ⟨_, (true), (by first | rfl | (simp; done) | (simp [*]; done)), H', ⟨by first | omega | exact Nat.le_refl _⟩, ⟨by repeat (first | (with_reducible first | exact HB.out | apply below_alloc | apply pw_below_drewN | apply below_drew1) | exact HB.out)⟩⟩
    · rw [if_neg c5] at H
      have c5b0 : decide (a1 < 0) = false := decide_eq_false c5
      clear c5
      (first | rw [c5b0] | (simp only [i64_w, i32_w]; rw [c5b0]) | skip)
      by_cases c6 : a1 > 4096
      · rw [if_pos c6] at H
        have c6b0 : decide (4096 < a1) = true := decide_eq_true c6
        clear c6
        have H' := Aside0.mk H
        clear H
        go_wp2
        go_meet
        case rel => exact ⟨_, (true), (by first | rfl | (simp; done) | (simp [*]; done)), H', ⟨by first | omega | exact Nat.le_refl _⟩, ⟨by repeat (first | (with_reducible first | exact HB.out | apply below_alloc | apply pw_below_drewN | apply below_drew1) | exact HB.out)⟩⟩
      · rw [if_neg c6] at H
        have c6b0 : decide (4096 < a1) = false := decide_eq_false c6
        clear c6
        by_cases c7 : a1 > 0
        · rw [if_pos c7] at H
          have c7b0 : decide (0 < a1) = true := decide_eq_true c7
          clear c7
          by_cases c8 : a0 < 0
          · rw [if_pos c8] at H
            have c8b0 : decide (a0 < 0) = true := decide_eq_true c8
            clear c8
            have H' := Aside0.mk H
            clear H
            go_wp2
            go_meet
            case rel => exact ⟨_, (true), (by first | rfl | (simp; done) | (simp [*]; done)), H', ⟨by first | omega | exact Nat.le_refl _⟩, ⟨by repeat (first | (with_reducible first | exact HB.out | apply below_alloc | apply pw_below_drewN | apply below_drew1) | exact HB.out)⟩⟩
          · rw [if_neg c8] at H
            have c8b0 : decide (a0 < 0) = false := decide_eq_false c8
            clear c8
            have H' := Aside0.mk H
            clear H
            go_wp2
            go_meet
            case rel => exact ⟨_, (decide (a0 > 65535)), (by first | rfl | (simp; done) | (simp [*]; done)), H', ⟨by first | omega | exact Nat.le_refl _⟩, ⟨by repeat (first | (with_reducible first | exact HB.out | apply below_alloc | apply pw_below_drewN | apply below_drew1) | exact HB.out)⟩⟩
        · rw [if_neg c7] at H
          have c7b0 : decide (0 < a1) = false := decide_eq_false c7
          clear c7
          have H' := Aside0.mk H
          clear H
          go_wp2
          go_meet
          case rel => exact ⟨_, (false), (by first | rfl | (simp; done) | (simp [*]; done)), H', ⟨by first | omega | exact Nat.le_refl _⟩, ⟨by repeat (first | (with_reducible first | exact HB.out | apply below_alloc | apply pw_below_drewN | apply below_drew1) | exact HB.out)⟩⟩
  case rest =>
    clear HC4
    try clear c1
    try clear c2
    try clear p2
    try clear c5
    try clear c5b0
    try clear c6
    try clear c6b0
    try clear c7
    try clear c7b0
    try clear c8
    try clear c8b0
    obtain ⟨kq, x36_3, rfl, HA, HJ3, HB⟩ := hcut
    cases kq with
    | zero => exact absurd HA.out (by simp [chunk_Gather.j0])
    | succ kj3 =>
      have H := HA.out
      clear HA
      simp only [chunk_Gather.j0] at H
      by_cases c9 : x36_3 = true
      · subst c9
        have H1 : (some (([] : List Int), false)) = some (r1, r2) := by rw [if_pos rfl] at H; exact H
        clear H
        have H := H1
        clear H1
        simp only [Option.some.injEq, Prod.mk.injEq] at H
        obtain ⟨rfl, rfl⟩ := H
        go_wp2
        go_ret2
        exact ⟨_, by first | rfl | (simp [errW_none, errW_some] <;> rfl) | (simp [*, errW_none, errW_some] <;> rfl), by first | exact Kd.R_nil _ _ _ _ _ | exact Kd.N_nil _ _ _ _ _ | exact Kd.V_nil _ _ _ _ _ | exact Kd.Q_nil _ _ _ _ _ | exact Kd.S_nil _ _ _ _ _, by repeat (first | (with_reducible first | exact HB.out | apply below_alloc | apply pw_below_drewN | apply below_drew1) | exact HB.out)⟩
      · replace c9 := Bool.eq_false_iff.mpr c9
        subst c9
        have H1 : (if 0 ≤ a1 then (if (a1 : Int).toNat ≤ 35184372088832 then (if (a1 : Int).toNat ≤ 281474976710656 then (chunk_Gather.l0 kj3 a0 a1 (List.replicate (a1 : Int).toNat 0) (List.replicate (a1 : Int).toNat false) a1 l2 (l2.length : Int) 0) else (none)) else (none)) else (none)) = some (r1, r2) := by rw [if_neg (show ¬ (false = true) by decide)] at H; exact H
        clear H
        have H := H1
        clear H1
        by_cases c10 : 0 ≤ a1
        · rw [if_pos c10] at H
          have c10b0 := eq_true c10
          have c10b1 : decide (0 ≤ a1) = true := decide_eq_true c10
          clear c10
          by_cases c11 : (a1 : Int).toNat ≤ 35184372088832
          · rw [if_pos c11] at H
            have c11b0 := eq_true c11
            have c11b1 : decide ((a1 : Int).toNat ≤ 35184372088832) = true := decide_eq_true c11
            clear c11
            obtain ⟨y110, hy110⟩ : ∃ y_ : List Int, y_ = (List.replicate (a1 : Int).toNat 0) := ⟨_, rfl⟩
            replace H : (if (a1 : Int).toNat ≤ 281474976710656 then (chunk_Gather.l0 kj3 a0 a1 y110 (List.replicate (a1 : Int).toNat false) a1 l2 (l2.length : Int) 0) else (none)) = some (r1, r2) := by first | (rw [hy110]; with_reducible exact H) | (have H2_ := (Option.bind_some _ _).symm.trans H; rw [hy110]; with_reducible exact H2_) | (have H2_ := (Option.bind_some _ _).symm.trans H; with_reducible exact H2_) | with_reducible exact H | (rw [hy110]; exact H) | exact H
            have Ny110 := Aside0.mk hy110
            clear hy110
            by_cases c12 : (a1 : Int).toNat ≤ 281474976710656
            · rw [if_pos c12] at H
              have c12b0 := eq_true c12
              have c12b1 : decide ((a1 : Int).toNat ≤ 281474976710656) = true := decide_eq_true c12
              clear c12
              obtain ⟨y113, hy113⟩ : ∃ y_ : List Bool, y_ = (List.replicate (a1 : Int).toNat false) := ⟨_, rfl⟩
              replace H : (chunk_Gather.l0 kj3 a0 a1 y110 y113 a1 l2 (l2.length : Int) 0) = some (r1, r2) := by first | (rw [hy113]; with_reducible exact H) | (have H2_ := (Option.bind_some _ _).symm.trans H; rw [hy113]; with_reducible exact H2_) | (have H2_ := (Option.bind_some _ _).symm.trans H; with_reducible exact H2_) | with_reducible exact H | (rw [hy113]; exact H) | exact H
              have Ny113 := Aside0.mk hy113
              clear hy113
              have H' := Aside0.mk H
              clear H
              try go_wp2
              have n0_ := Aside0.mk (below_drew1 HB.out)
              clear HB
              have HB := n0_
              clear n0_
              refine start_ (n := 6) (S := fun w' => True) (ds := []) #[false, false, false, false, false, false] (by kernel_rfl) rfl rfl trivial (fun hHeld => ?_)
              generalize wc.drew = w13 at HB hHeld ⊢
              refine pure_ (i := 0) (N := some 37) (v := ?_) (a' := ?_) #[true, false, false, false, false, false] rfl rfl (by kernel_rfl) (fun _ _ _ h => h) (Or.inl ⟨by rfl, ?_⟩) ?_ ?_
              rotate_left
              · intro w'
                go_simp
                with_reducible rfl
              rotate_left
              · simp only [Act.put, List.setIfInBounds_toArray, List.set_cons_zero, List.set_cons_succ, i64_w, i32_w]
                rfl
              refine pure_ (i := 2) (N := some 39) (v := ?_) (a' := ?_) #[true, false, true, false, false, false] rfl rfl (by kernel_rfl) (fun _ _ _ h => h) (Or.inl ⟨by rfl, ?_⟩) ?_ ?_
              rotate_left
              · intro w'
                go_simp
                with_reducible rfl
              rotate_left
              · simp only [Act.put, List.setIfInBounds_toArray, List.set_cons_zero, List.set_cons_succ, i64_w, i32_w]
                rfl
              refine join_ (σ := Value × Value) 1 #[true, true, true, true, true, false] (fun s_ => [(38, s_.1), (40, s_.2), (8, s_.1)]) (fun s_ w' => (Kd.R (Kd.int .u64) 40 w' w.heap.size (fun _ => True) s_.1 y110) ∧ (Kd.R Kd.bool 4 w' w.heap.size (fun _ => True) s_.2 y113) ∧ (Below w.heap.size w w')) ?_ ?_
              rotate_left
              · intro hCont
                refine two_ (i := 1) (j := 3) (Ni := some 38) (Nj := some 40) #[true, true, true, false, false, false] #[true, false, true, true, false, false] rfl rfl rfl rfl (by kernel_rfl) (by decide) (by decide) (fun K hK => ?_) (fun K hK => ?_)
                · skip
                  refine Kd.R_make_step (Kd.int .u64) _ 40 (by rfl) (N := 38) rfl 22 _ _ rfl a1 rfl rfl Try.underlying22 (.int .u64 0) 8 info40 rfl (by decide) (by omega) 0 (ok := fun _ => True) (okp := fun _ => True) rfl (fun _ hk => hk) trivial (of_decide_eq_true (by first | (with_reducible assumption) | assumption)) (Nat.le_trans (Nat.mul_le_mul_right _ (of_decide_eq_true (by first | (with_reducible assumption) | assumption) : a1.toNat ≤ 35184372088832)) (by omega)) (Below.refl _ _) (Nat.le_refl _) ?_
                  intro v111 w14 ho15 hb hg_ hnew_
                  clear hg_ hnew_
                  (first | rw [← Ny110.out] at ho15 | (simp only [Int.reduceToNat] at ho15; rw [← Ny110.out] at ho15))
                  have n0_ := Aside0.mk (Kd.R_lower ho15 (below_size (by repeat (first | (with_reducible first | exact HB.out | apply below_alloc | apply pw_below_drewN | apply below_drew1) | exact HB.out))))
                  have n1_ := Aside0.mk (below_step (by repeat (first | (with_reducible first | exact HB.out | apply below_alloc | apply pw_below_drewN | apply below_drew1) | exact HB.out)) hb)
                  clear HB
                  have HO112 := n0_
                  have HB := n1_
                  clear n0_ n1_
                  clear hb ho15
                  refine hK.out _ _ trivial (fun hHeld => ?_)
                  clear hK K
                  refine norm_ (a' := ?_) ?_ ?_
                  rotate_left
                  · show Act.put _ (some 38) _ = _
                    simp only [Act.put, List.setIfInBounds_toArray, List.set_cons_zero, List.set_cons_succ, i64_w, i32_w]
                    rfl
                  refine pure_ (i := 4) (N := some 8) (v := ?_) (a' := ?_) #[true, true, true, false, true, false] rfl rfl (by kernel_rfl) (fun _ _ _ h => h) (Or.inl ⟨by rfl, ?_⟩) ?_ ?_
                  rotate_left
                  · intro w'
                    go_simp
                    with_reducible rfl
                  rotate_left
                  · simp only [Act.put, List.setIfInBounds_toArray, List.set_cons_zero, List.set_cons_succ, i64_w, i32_w]
                    rfl
                  refine one_ (i := 3) (N := some 40) #[true, true, true, true, true, false] rfl rfl (by kernel_rfl) (by decide) (fun K hK => ?_)
                  refine Kd.R_make_step Kd.bool _ 4 (by rfl) (N := 40) rfl 44 _ _ rfl a1 rfl rfl Try.underlying44 (.bool false) 1 info4 rfl (by decide) (by omega) false (ok := fun _ => True) (okp := fun _ => True) rfl (fun _ hk => hk) trivial (of_decide_eq_true (by first | (with_reducible assumption) | assumption)) (Nat.le_trans (Nat.mul_le_mul_right _ (of_decide_eq_true (by first | (with_reducible assumption) | assumption) : a1.toNat ≤ 281474976710656)) (by omega)) (Below.refl _ _) (Nat.le_refl _) ?_
                  intro v114 w16 ho17 hb hg_ hnew_
                  clear hg_ hnew_
                  (first | rw [← Ny113.out] at ho17 | (simp only [Int.reduceToNat] at ho17; rw [← Ny113.out] at ho17))
                  have n0_ := Aside0.mk (Kd.R_below (by (with_reducible repeat (first | apply Kd.R_alloc | apply Kd.R_drewN | apply Kd.R_drew)); exact HO112.out) hb)
                  have n1_ := Aside0.mk (Kd.R_lower ho17 (below_size (by repeat (first | (with_reducible first | exact HB.out | apply below_alloc | apply pw_below_drewN | apply below_drew1) | exact HB.out))))
                  have n2_ := Aside0.mk (below_step (by repeat (first | (with_reducible first | exact HB.out | apply below_alloc | apply pw_below_drewN | apply below_drew1) | exact HB.out)) hb)
                  clear HO112
                  clear HB
                  have HO112 := n0_
                  have HO115 := n1_
                  have HB := n2_
                  clear n0_ n1_ n2_
                  clear hb ho17
                  refine hK.out _ _ trivial (fun hHeld => ?_)
                  clear hK K
                  refine norm_ (a' := ?_) ?_ ?_
                  rotate_left
                  · show Act.put _ (some 40) _ = _
                    simp only [Act.put, List.setIfInBounds_toArray, List.set_cons_zero, List.set_cons_succ, i64_w, i32_w]
                    rfl
                  exact norm_ (by simp only [putAll, Act.put, List.setIfInBounds_toArray, List.set_cons_zero, List.set_cons_succ]) (hCont (v111, v114) _ ⟨(by (with_reducible repeat (first | apply Kd.R_alloc | apply Kd.R_drewN | apply Kd.R_drew)); exact HO112.out), (by (with_reducible repeat (first | apply Kd.R_alloc | apply Kd.R_drewN | apply Kd.R_drew)); exact HO115.out), (by repeat (first | (with_reducible first | exact HB.out | apply below_alloc | apply pw_below_drewN | apply below_drew1) | exact HB.out))⟩)
                · skip
                  refine Kd.R_make_step Kd.bool _ 4 (by rfl) (N := 40) rfl 44 _ _ rfl a1 rfl rfl Try.underlying44 (.bool false) 1 info4 rfl (by decide) (by omega) false (ok := fun _ => True) (okp := fun _ => True) rfl (fun _ hk => hk) trivial (of_decide_eq_true (by first | (with_reducible assumption) | assumption)) (Nat.le_trans (Nat.mul_le_mul_right _ (of_decide_eq_true (by first | (with_reducible assumption) | assumption) : a1.toNat ≤ 281474976710656)) (by omega)) (Below.refl _ _) (Nat.le_refl _) ?_
                  intro v114 w14 ho15 hb hg_ hnew_
                  clear hg_ hnew_
                  (first | rw [← Ny113.out] at ho15 | (simp only [Int.reduceToNat] at ho15; rw [← Ny113.out] at ho15))
                  have n0_ := Aside0.mk (Kd.R_lower ho15 (below_size (by repeat (first | (with_reducible first | exact HB.out | apply below_alloc | apply pw_below_drewN | apply below_drew1) | exact HB.out))))
                  have n1_ := Aside0.mk (below_step (by repeat (first | (with_reducible first | exact HB.out | apply below_alloc | apply pw_below_drewN | apply below_drew1) | exact HB.out)) hb)
                  clear HB
                  have HO115 := n0_
                  have HB := n1_
                  clear n0_ n1_
                  clear hb ho15
                  refine hK.out _ _ trivial (fun hHeld => ?_)
                  clear hK K
                  refine norm_ (a' := ?_) ?_ ?_
                  rotate_left
                  · show Act.put _ (some 40) _ = _
                    simp only [Act.put, List.setIfInBounds_toArray, List.set_cons_zero, List.set_cons_succ, i64_w, i32_w]
                    rfl
                  refine one_ (i := 1) (N := some 38) #[true, true, true, true, false, false] rfl rfl (by kernel_rfl) (by decide) (fun K hK => ?_)
                  refine Kd.R_make_step (Kd.int .u64) _ 40 (by rfl) (N := 38) rfl 22 _ _ rfl a1 rfl rfl Try.underlying22 (.int .u64 0) 8 info40 rfl (by decide) (by omega) 0 (ok := fun _ => True) (okp := fun _ => True) rfl (fun _ hk => hk) trivial (of_decide_eq_true (by first | (with_reducible assumption) | assumption)) (Nat.le_trans (Nat.mul_le_mul_right _ (of_decide_eq_true (by first | (with_reducible assumption) | assumption) : a1.toNat ≤ 35184372088832)) (by omega)) (Below.refl _ _) (Nat.le_refl _) ?_
                  intro v111 w16 ho17 hb hg_ hnew_
                  clear hg_ hnew_
                  (first | rw [← Ny110.out] at ho17 | (simp only [Int.reduceToNat] at ho17; rw [← Ny110.out] at ho17))
                  have n0_ := Aside0.mk (Kd.R_below (by (with_reducible repeat (first | apply Kd.R_alloc | apply Kd.R_drewN | apply Kd.R_drew)); exact HO115.out) hb)
                  have n1_ := Aside0.mk (Kd.R_lower ho17 (below_size (by repeat (first | (with_reducible first | exact HB.out | apply below_alloc | apply pw_below_drewN | apply below_drew1) | exact HB.out))))
                  have n2_ := Aside0.mk (below_step (by repeat (first | (with_reducible first | exact HB.out | apply below_alloc | apply pw_below_drewN | apply below_drew1) | exact HB.out)) hb)
                  clear HO115
                  clear HB
                  have HO115 := n0_
                  have HO112 := n1_
                  have HB := n2_
                  clear n0_ n1_ n2_
                  clear hb ho17
                  refine hK.out _ _ trivial (fun hHeld => ?_)
                  clear hK K
                  refine norm_ (a' := ?_) ?_ ?_
                  rotate_left
                  · show Act.put _ (some 38) _ = _
                    simp only [Act.put, List.setIfInBounds_toArray, List.set_cons_zero, List.set_cons_succ, i64_w, i32_w]
                    rfl
                  refine pure_ (i := 4) (N := some 8) (v := ?_) (a' := ?_) #[true, true, true, true, true, false] rfl rfl (by kernel_rfl) (fun _ _ _ h => h) (Or.inl ⟨by rfl, ?_⟩) ?_ ?_
                  rotate_left
                  · intro w'
                    go_simp
                    with_reducible rfl
                  rotate_left
                  · simp only [Act.put, List.setIfInBounds_toArray, List.set_cons_zero, List.set_cons_succ, i64_w, i32_w]
                    rfl
                  exact norm_ (by simp only [putAll, Act.put, List.setIfInBounds_toArray, List.set_cons_zero, List.set_cons_succ]) (hCont (v111, v114) _ ⟨(by (with_reducible repeat (first | apply Kd.R_alloc | apply Kd.R_drewN | apply Kd.R_drew)); exact HO112.out), (by (with_reducible repeat (first | apply Kd.R_alloc | apply Kd.R_drewN | apply Kd.R_drew)); exact HO115.out), (by repeat (first | (with_reducible first | exact HB.out | apply below_alloc | apply pw_below_drewN | apply below_drew1) | exact HB.out))⟩)
              rintro ⟨v111, v114⟩ w18 ⟨h0_, h1_, h2_⟩
              have n0_ : Aside0 (Kd.R (Kd.int .u64) 40 w18 w.heap.size (fun _ => True) v111 y110) := ⟨h0_⟩
              have n1_ : Aside0 (Kd.R Kd.bool 4 w18 w.heap.size (fun _ => True) v114 y113) := ⟨h1_⟩
              have n2_ : Aside0 (Below w.heap.size w w18) := ⟨h2_⟩
              clear HB
              clear h0_ h1_ h2_
              have HO112 := n0_
              have HO115 := n1_
              have HB := n2_
              clear n0_ n1_ n2_
              have hHeld := trivial
              refine norm_ (a' := ?_) ?_ ?_
              rotate_left
              · simp only [putAll, Act.put, List.setIfInBounds_toArray, List.set_cons_zero, List.set_cons_succ]
                rfl
              refine pure_ (i := 5) (N := some 9) (v := ?_) (a' := ?_) #[true, true, true, true, true, true] rfl rfl (by kernel_rfl) (fun _ _ _ h => h) (Or.inl ⟨by rfl, ?_⟩) ?_ ?_
              rotate_left
              · intro w'
                go_simp
                with_reducible rfl
              rotate_left
              · simp only [Act.put, List.setIfInBounds_toArray, List.set_cons_zero, List.set_cons_succ, i64_w, i32_w]
                rfl
              refine done_ (by kernel_rfl) ?_
              try go_wp2
              go_loopg [10, 44] kj3 (fun kq v10 v44 w' => ∃ (x8_2 : List Int) (x9_2 : List Bool) (x10_2 : Int) (x44_2 : Int), v10 = .int .i64 x10_2 ∧ v44 = .int .i64 x44_2 ∧ Aside0 (chunk_Gather.l0 kq a0 a1 x8_2 x9_2 x10_2 l2 (l2.length : Int) x44_2 = some (r1, r2)) ∧ Aside0 (kq ≤ kj3) ∧ Aside0 (Kd.R (Kd.int .u64) 40 w' w.heap.size (fun _ => True) v111 x8_2) ∧ Aside0 (Kd.R Kd.bool 4 w' w.heap.size (fun _ => True) v114 x9_2) ∧ Aside0 (Below w.heap.size w w'))
              case atStart => exact ⟨(y110), (y113), (a1), (0), (by first | rfl | (simp; done) | (simp [*]; done)), (by first | rfl | (simp; done) | (simp [*]; done)), H', ⟨Nat.le_refl _⟩, ⟨by (with_reducible repeat (first | apply Kd.R_alloc | apply Kd.R_drewN | apply Kd.R_drew)); exact HO112.out⟩, ⟨by (with_reducible repeat (first | apply Kd.R_alloc | apply Kd.R_drewN | apply Kd.R_drew)); exact HO115.out⟩, ⟨by repeat (first | (with_reducible first | exact HB.out | apply below_alloc | apply pw_below_drewN | apply below_drew1) | exact HB.out)⟩⟩
              case round =>
                clear H'
                try clear c1
                try clear c2
                try clear p2
                try clear c5
                try clear c5b0
                try clear c6
                try clear c6b0
                try clear c7
                try clear c7b0
                try clear c8
                try clear c8b0
                try clear c9
                try clear c10
                try clear c10b0
                try clear c10b1
                try clear c11
                try clear c11b0
                try clear c11b1
                try clear c12
                try clear c12b0
                try clear c12b1
                try clear c14
                try clear p2
                obtain ⟨x8_2, x9_2, x10_2, x44_2, rfl, rfl, HA, HK2, HO_8, HO_9, HB⟩ := hrel
                cases gk with
                | zero => exact absurd HA.out (by simp [chunk_Gather.l0])
                | succ k2 =>
                  have H := HA.out
                  clear HA
                  simp only [chunk_Gather.l0] at H
                  by_cases c19 : x44_2 < (l2.length : Int)
                  · rw [if_pos c19] at H
                    have c19b0 : decide (x44_2 < (l2.length : Int)) = true := decide_eq_true c19
                    clear c19
                    by_cases c20 : 0 ≤ x44_2
                    · rw [if_pos c20] at H
                      have c20b0 : decide (0 ≤ x44_2) = true := decide_eq_true c20
                      clear c20
                      by_cases c21 : x44_2 < (l2.length : Int)
                      · rw [if_pos c21] at H
                        have c21b0 : decide (x44_2 < (l2.length : Int)) = true := decide_eq_true c21
                        clear c21
                        replace H := Option.bind_eq_some_iff.mp H
                        obtain ⟨⟨t117, t118, t119⟩, A220, H⟩ := H
                        replace H : (chunk_Gather.l1 k2 a0 a1 x8_2 x9_2 x10_2 t117 l2 (l2.length : Int) x44_2 t118 (t118.length : Int) 0) = some (r1, r2) := H
                        have A22 := Aside0.mk A220
                        clear A220
                        have H' := Aside0.mk H
                        clear H
                        have p116 : 0 ≤ (x44_2 : Int) := of_decide_eq_true (by first | (with_reducible assumption) | assumption)
                        have q116 : x44_2 < (l2.length : Int) := of_decide_eq_true (by first | (with_reducible assumption) | assumption)
                        obtain ⟨ad116, A116_0, c116_0, e116, hx116_0, hl116_0, hi116_0⟩ := at_L2 HR2.out x44_2 p116 q116
                        cases e116
                        replace hx116_0 := (HB.out.cell (World.block_lt_of_cell? w _ hx116_0)).trans hx116_0
                        have HR116_0 := Aside0.mk hi116_0
                        have HC116_0 := Aside0.mk hl116_0
                        clear hi116_0 hl116_0
                        replace p116 := eq_true p116
                        replace q116 := eq_true q116
                        go_wp2_with (first | ((with_reducible refine gate_callee (f := 12) rfl ?_); refine goesL_ (some 50) rfl rfl Try.func12 (by kernel_rfl) rfl #[.slice A116_0 (rd_L2 l2 x44_2).length c116_0] rfl (by (try simp only [List.map_toArray, List.map_cons, List.map_nil]); first | done | rfl | (simp only [List.length_drop, List.length_take]; rfl)) ?_; (with_reducible refine (chunk_Get.calls k2 _ _ (rd_L2 l2 x44_2) t117 t118 t119 _ ?side1 ?side2 A22.out).mono ?_); (case side1 => repeat (first | exact (Kd.C_below HR116_0.out HB.out) | (with_reducible refine Kd.C_alloc ?_ _) | (with_reducible refine Kd.C_drewN ?_ _) | (with_reducible refine Kd.C_drew ?_))); (case side2 => exact HC116_0.out); rintro e w23 ⟨v120, rfl, ho0, hb⟩; refine ⟨_, rfl, ?_⟩; have n0_ := Aside0.mk (Kd.R_elder' (by (with_reducible repeat (first | apply Kd.R_alloc | apply Kd.R_drewN | apply Kd.R_drew)); exact HO_8.out) (Kd.R_base ho0) hb); have n1_ := Aside0.mk (Kd.R_below (by (with_reducible repeat (first | apply Kd.R_alloc | apply Kd.R_drewN | apply Kd.R_drew)); exact HO_9.out) hb); have n2_ := Aside0.mk (Kd.R_lower (Kd.R_new' ho0 (Kd.R_lt (by (with_reducible repeat (first | apply Kd.R_alloc | apply Kd.R_drewN | apply Kd.R_drew)); exact HO_8.out))) (below_size (by repeat (first | (with_reducible first | exact HB.out | apply below_alloc | apply pw_below_drewN | apply below_drew1) | exact HB.out)))); have n3_ := Aside0.mk (below_step (by repeat (first | (with_reducible first | exact HB.out | apply below_alloc | apply pw_below_drewN | apply below_drew1) | exact HB.out)) hb); clear HO_8; clear HO_9; clear HB; have HO_8 := n0_; have HO_9 := n1_; have HO121 := n2_; have HB := n3_; clear n0_ n1_ n2_ n3_; (try clear hb); (try clear hb2); (try clear hk); (try clear hi); (try clear ho0); obtain ⟨Ao24, co24, eo24⟩ := Kd.R_slice HO121.out; subst eo24))
                        go_loopg [10, 56] k2 (fun kq v10 v56 w' => ∃ (x8_3 : List Int) (x9_3 : List Bool) (x10_3 : Int) (x56_3 : Int), v10 = .int .i64 x10_3 ∧ v56 = .int .i64 x56_3 ∧ Aside0 (chunk_Gather.l1 kq a0 a1 x8_3 x9_3 x10_3 t117 l2 (l2.length : Int) x44_2 t118 (t118.length : Int) x56_3 = some (r1, r2)) ∧ Aside0 (kq ≤ k2) ∧ Aside0 (Kd.R (Kd.int .u64) 40 w' w.heap.size (fun k_ => some k_ ≠ ((.slice Ao24 t118.length co24) : Value).ownBlock) v111 x8_3) ∧ Aside0 (Kd.R Kd.bool 4 w' w.heap.size (fun _ => True) v114 x9_3) ∧ Aside0 (Kd.R (Kd.int .u64) 40 w' w.heap.size (fun k_ => some k_ ≠ (v111 : Value).ownBlock) (.slice Ao24 t118.length co24) t118) ∧ Aside0 (Below w.heap.size w w'))
                        case atStart => exact ⟨(x8_2), (x9_2), (x10_2), (0), (by first | rfl | (simp; done) | (simp [*]; done)), (by first | rfl | (simp; done) | (simp [*]; done)), H', ⟨Nat.le_refl _⟩, ⟨by (with_reducible repeat (first | apply Kd.R_alloc | apply Kd.R_drewN | apply Kd.R_drew)); exact Kd.R_mono HO_8.out (fun _ hk => hk.2)⟩, ⟨by (with_reducible repeat (first | apply Kd.R_alloc | apply Kd.R_drewN | apply Kd.R_drew)); exact HO_9.out⟩, ⟨by (with_reducible repeat (first | apply Kd.R_alloc | apply Kd.R_drewN | apply Kd.R_drew)); exact Kd.R_mono HO121.out (fun _ hk => hk.2)⟩, ⟨by repeat (first | (with_reducible first | exact HB.out | apply below_alloc | apply pw_below_drewN | apply below_drew1) | exact HB.out)⟩⟩
                        case round =>
                          clear H'
                          try clear c1
                          try clear p1
                          try clear q1
                          try clear hx1
                          try clear c2
                          try clear p2
                          try clear c5
                          try clear c5b0
                          try clear c6
                          try clear c6b0
                          try clear c7
                          try clear c7b0
                          try clear c8
                          try clear c8b0
                          try clear c9
                          try clear c10
                          try clear c10b0
                          try clear c10b1
                          try clear c11
                          try clear c11b0
                          try clear c11b1
                          try clear p11
                          try clear q11
                          try clear hx11
                          try clear c12
                          try clear c12b0
                          try clear c12b1
                          try clear c14
                          try clear c19
                          try clear c19b0
                          try clear c20
                          try clear c20b0
                          try clear c21
                          try clear c21b0
                          try clear hx116_0
                          try clear p116
                          try clear p2
                          try clear q116
                          obtain ⟨x8_3, x9_3, x10_3, x56_3, rfl, rfl, HA, HK3, HO_8, HO_9, HO_54, HB⟩ := hrel
                          cases gk with
                          | zero => exact absurd HA.out (by simp [chunk_Gather.l1])
                          | succ k3 =>
                            have H := HA.out
                            clear HA
                            simp only [chunk_Gather.l1] at H
                            by_cases c25 : x56_3 < (t118.length : Int)
                            · rw [if_pos c25] at H
                              have c25b0 : decide (x56_3 < (t118.length : Int)) = true := decide_eq_true c25
                              clear c25
                              by_cases c26 : 0 ≤ x56_3
                              · rw [if_pos c26] at H
                                have c26b0 : decide (0 ≤ x56_3) = true := decide_eq_true c26
                                clear c26
                                by_cases c27 : x56_3 < (t118.length : Int)
                                · rw [if_pos c27] at H
                                  have c27b0 : decide (x56_3 < (t118.length : Int)) = true := decide_eq_true c27
                                  clear c27
                                  by_cases c28 : (wrap64 ((wrap64 (t117 + x56_3)) - a0)) ≥ 0
                                  · rw [if_pos c28] at H
                                    have c28b0 : decide (0 ≤ (wrap64 ((wrap64 (t117 + x56_3)) - a0))) = true := decide_eq_true c28
                                    clear c28
                                    by_cases c29 : (wrap64 ((wrap64 (t117 + x56_3)) - a0)) < a1
                                    · rw [if_pos c29] at H
                                      have c29b0 : decide ((wrap64 ((wrap64 (t117 + x56_3)) - a0)) < a1) = true := decide_eq_true c29
                                      clear c29
                                      obtain ⟨ji30, hji30⟩ : ∃ j_ : Int, (wrap64 ((wrap64 (t117 + x56_3)) - a0)) = j_ := ⟨_, rfl⟩
                                      replace H : (if 0 ≤ (ji30) then (if (ji30) < (x9_3.length : Int) then (if (rdOf false x9_3 (ji30) = true) then (chunk_Gather.l1 k3 a0 a1 x8_3 x9_3 x10_3 t117 l2 (l2.length : Int) x44_2 t118 (t118.length : Int) (wrap64 (x56_3 + 1))) else (if (ji30) < (x8_3.length : Int) then (chunk_Gather.l1 k3 a0 a1 (x8_3.set ((ji30) : Int).toNat (rd t118 x56_3)) (x9_3.set ((ji30) : Int).toNat true) (wrap64 (x10_3 - 1)) t117 l2 (l2.length : Int) x44_2 t118 (t118.length : Int) (wrap64 (x56_3 + 1))) else (none))) else (none)) else (none)) = some (r1, r2) := by first | (rw [hji30] at H; exact H) | (simp only [hji30] at H ⊢; exact H)
                                      (try rw [hji30] at c28b0)
                                      (try rw [hji30] at c29b0)
                                      have hji30w : (IntKind.i64.wrap ((wrap64 (t117 + x56_3)) - a0)) = ji30 := (i64_w _).trans hji30
                                      by_cases c31 : 0 ≤ (ji30)
                                      · rw [if_pos c31] at H
                                        have c31b0 : decide (0 ≤ (ji30)) = true := decide_eq_true c31
                                        clear c31
                                        by_cases c32 : (ji30) < (x9_3.length : Int)
                                        · rw [if_pos c32] at H
                                          have c32b0 : decide ((ji30) < (x9_3.length : Int)) = true := decide_eq_true c32
                                          clear c32
                                          obtain ⟨bq33, hbq33⟩ : ∃ b_ : Bool, b_ = (rdOf false x9_3 (ji30)) := ⟨_, rfl⟩
                                          replace H : (if (bq33 = true) then (chunk_Gather.l1 k3 a0 a1 x8_3 x9_3 x10_3 t117 l2 (l2.length : Int) x44_2 t118 (t118.length : Int) (wrap64 (x56_3 + 1))) else (if (ji30) < (x8_3.length : Int) then (chunk_Gather.l1 k3 a0 a1 (x8_3.set ((ji30) : Int).toNat (rd t118 x56_3)) (x9_3.set ((ji30) : Int).toNat true) (wrap64 (x10_3 - 1)) t117 l2 (l2.length : Int) x44_2 t118 (t118.length : Int) (wrap64 (x56_3 + 1))) else (none))) = some (r1, r2) := by rw [← hbq33] at H; exact H
                                          have Nbq33 := Aside0.mk hbq33
                                          clear hbq33
                                          by_cases c34 : (bq33 = true)
                                          · subst c34
                                            have H1 : (chunk_Gather.l1 k3 a0 a1 x8_3 x9_3 x10_3 t117 l2 (l2.length : Int) x44_2 t118 (t118.length : Int) (wrap64 (x56_3 + 1))) = some (r1, r2) := by rw [if_pos rfl] at H; exact H
                                            clear H
                                            have H := H1
                                            clear H1
                                            have H' := Aside0.mk H
                                            clear H
                                            have p122 : 0 ≤ (x56_3 : Int) := of_decide_eq_true (by first | (with_reducible assumption) | assumption)
                                            have q122 : x56_3 < (t118.length : Int) := of_decide_eq_true (by first | (with_reducible assumption) | assumption)
                                            obtain ⟨ad122, e122, hx122_0⟩ := Kd.at_int (Kd.R_reads' HO_54.out).2.2 x56_3 p122 q122
                                            cases e122
                                            replace p122 := eq_true p122
                                            replace q122 := eq_true q122
                                            obtain ⟨Ao35, co35, eo35⟩ := Kd.R_slice HO_9.out
                                            subst eo35
                                            have p123 : 0 ≤ ((ji30) : Int) := of_decide_eq_true (by first | (with_reducible assumption) | assumption)
                                            have q123 : (ji30) < (x9_3.length : Int) := of_decide_eq_true (by first | (with_reducible assumption) | assumption)
                                            obtain ⟨ad123, e123, hx123_0⟩ := Kd.at_bool (Kd.R_reads' HO_9.out).2.2 (ji30) p123 q123
                                            (try rw [← Nbq33.out] at hx123_0)
                                            cases e123
                                            replace p123 := eq_true p123
                                            replace q123 := eq_true q123
                                            go_wp2
                                            go_roundg k3
                                            case measure => have := HJ3.out; have := HK2.out; have := HK3.out; omega
                                            case rel => exact ⟨(x8_3), (x9_3), (x10_3), (wrap64 (x56_3 + 1)), (by first | rfl | (simp; done) | (simp [*]; done)), (by first | rfl | (simp; done) | (simp [*]; done)), H', ⟨by have := HJ3.out; have := HK2.out; have := HK3.out; omega⟩, ⟨by (with_reducible repeat (first | apply Kd.R_alloc | apply Kd.R_drewN | apply Kd.R_drew)); exact HO_8.out⟩, ⟨by (with_reducible repeat (first | apply Kd.R_alloc | apply Kd.R_drewN | apply Kd.R_drew)); exact HO_9.out⟩, ⟨by (with_reducible repeat (first | apply Kd.R_alloc | apply Kd.R_drewN | apply Kd.R_drew)); exact HO_54.out⟩, ⟨by repeat (first | (with_reducible first | exact HB.out | apply below_alloc | apply pw_below_drewN | apply below_drew1) | exact HB.out)⟩⟩
                                          · replace c34 := Bool.eq_false_iff.mpr c34
                                            subst c34
                                            have H1 : (if (ji30) < (x8_3.length : Int) then (chunk_Gather.l1 k3 a0 a1 (x8_3.set ((ji30) : Int).toNat (rd t118 x56_3)) (x9_3.set ((ji30) : Int).toNat true) (wrap64 (x10_3 - 1)) t117 l2 (l2.length : Int) x44_2 t118 (t118.length : Int) (wrap64 (x56_3 + 1))) else (none)) = some (r1, r2) := by rw [if_neg (show ¬ (false = true) by decide)] at H; exact H
                                            clear H
                                            have H := H1
                                            clear H1
                                            by_cases c36 : (ji30) < (x8_3.length : Int)
                                            · rw [if_pos c36] at H
                                              have c36b0 : decide ((ji30) < (x8_3.length : Int)) = true := decide_eq_true c36
                                              clear c36
                                              obtain ⟨y124, hy124⟩ : ∃ y_ : List Int, y_ = (x8_3.set ((ji30) : Int).toNat (rd t118 x56_3)) := ⟨_, rfl⟩
                                              replace H : (chunk_Gather.l1 k3 a0 a1 y124 (x9_3.set ((ji30) : Int).toNat true) (wrap64 (x10_3 - 1)) t117 l2 (l2.length : Int) x44_2 t118 (t118.length : Int) (wrap64 (x56_3 + 1))) = some (r1, r2) := by first | (rw [hy124]; with_reducible exact H) | (have H2_ := (Option.bind_some _ _).symm.trans H; rw [hy124]; with_reducible exact H2_) | (have H2_ := (Option.bind_some _ _).symm.trans H; with_reducible exact H2_) | with_reducible exact H | (rw [hy124]; exact H) | exact H
                                              have Ny124 := Aside0.mk hy124
                                              clear hy124
                                              obtain ⟨y125, hy125⟩ : ∃ y_ : List Bool, y_ = (x9_3.set ((ji30) : Int).toNat true) := ⟨_, rfl⟩
                                              replace H : (chunk_Gather.l1 k3 a0 a1 y124 y125 (wrap64 (x10_3 - 1)) t117 l2 (l2.length : Int) x44_2 t118 (t118.length : Int) (wrap64 (x56_3 + 1))) = some (r1, r2) := by first | (rw [hy125]; with_reducible exact H) | (have H2_ := (Option.bind_some _ _).symm.trans H; rw [hy125]; with_reducible exact H2_) | (have H2_ := (Option.bind_some _ _).symm.trans H; with_reducible exact H2_) | with_reducible exact H | (rw [hy125]; exact H) | exact H
                                              have Ny125 := Aside0.mk hy125
                                              clear hy125
                                              have H' := Aside0.mk H
                                              clear H
                                              have p122 : 0 ≤ (x56_3 : Int) := of_decide_eq_true (by first | (with_reducible assumption) | assumption)
                                              have q122 : x56_3 < (t118.length : Int) := of_decide_eq_true (by first | (with_reducible assumption) | assumption)
                                              obtain ⟨ad122, e122, hx122_0⟩ := Kd.at_int (Kd.R_reads' HO_54.out).2.2 x56_3 p122 q122
                                              cases e122
                                              replace p122 := eq_true p122
                                              replace q122 := eq_true q122
                                              obtain ⟨Ao39, co39, eo39⟩ := Kd.R_slice HO_9.out
                                              subst eo39
                                              have p123 : 0 ≤ ((ji30) : Int) := of_decide_eq_true (by first | (with_reducible assumption) | assumption)
                                              have q123 : (ji30) < (x9_3.length : Int) := of_decide_eq_true (by first | (with_reducible assumption) | assumption)
                                              obtain ⟨ad123, e123, hx123_0⟩ := Kd.at_bool (Kd.R_reads' HO_9.out).2.2 (ji30) p123 q123
                                              (try rw [← Nbq33.out] at hx123_0)
                                              cases e123
                                              replace p123 := eq_true p123
                                              replace q123 := eq_true q123
                                              have p37 : 0 ≤ ((ji30) : Int) := of_decide_eq_true (by first | (with_reducible assumption) | assumption)
                                              have q37 : ((ji30) : Int) < ((x8_3.length : Int) : Int) := of_decide_eq_true (by first | (with_reducible assumption) | assumption)
                                              obtain ⟨go37, co37, eo37, gb37, gl37, cl37, HG37⟩ := Kd.R_form HO_8.out (by omega)
                                              (first | cases eo37 | (injection eo37 with ea_ en_ ec_; (first | subst ea_ | (injection ea_ with ea_; subst ea_)); subst ec_; clear en_))
                                              have GB37 := Aside0.mk gb37
                                              have GG37 := Aside0.mk HG37
                                              clear gb37 gl37 HG37
                                              obtain ⟨hx37_0, hf37_0⟩ := Kd.R_celln 0 HO_8.out ((ji30) : Int) p37 q37
                                              replace p37 := eq_true p37
                                              replace q37 := eq_true q37
                                              have HP40 := Kd.R_putg HO_8.out ((ji30) : Int) (rd t118 x56_3)
                                              go_wp2_with (first | ((with_reducible refine gate_store (t := 40) (p := 85) rfl ?_); refine store_event (t := 40) (p := 85) (v := ?vo_w41) (w1 := (wr.setCell ⟨go37, ((ji30) : Int).toNat, none⟩ (.int .u64 (rd t118 x56_3)))) ?hg ?ho ?hn ?hr ?_; (case ho => rfl); (case hg => rfl); (case hn => rfl); (case hr => first | (go_simp; done) | (go_simp; rfl)); intro w41 hw; have hg : wr.grownBy w41 (some go37) := (by rw [hw]; exact HP40.2); have hp_ : Kd.R (Kd.int .u64) 40 w41 w.heap.size (fun k_ => some k_ ≠ (.slice (some ad122) t118.length co24 : Value).ownBlock) (.slice (some ⟨go37, 0, none⟩) x8_3.length co37) y124 := (by rw [hw, Ny124.out]; exact HP40.1); clear HP40; have n0_ := Aside0.mk (hp_); have n1_ := Aside0.mk (Kd.R_over' (v := (.slice (some ⟨go37, 0, none⟩) x8_3.length co37)) (by (with_reducible repeat (first | apply Kd.R_alloc | apply Kd.R_drewN | apply Kd.R_drew)); exact HO_9.out) (Kd.R_typed HO_8.out) (by decide) hg); have n2_ := Aside0.mk (Kd.R_after (v := (.slice (some ⟨go37, 0, none⟩) x8_3.length co37)) (v1 := (.slice (some ⟨go37, 0, none⟩) x8_3.length co37)) (ok := (fun _ => True)) (by (with_reducible repeat (first | apply Kd.R_alloc | apply Kd.R_drewN | apply Kd.R_drew)); exact Kd.R_mono HO_54.out (fun _ hk => ⟨trivial, hk⟩)) hg (.inl rfl)); have n3_ := Aside0.mk ((by rw [hw]; exact below_set (HB.out) GB37.out : Below w.heap.size w w41)); clear HO_8; clear HO_9; clear HO_54; clear HB; have HO_8 := n0_; have HO_9 := n1_; have HO_54 := n2_; have HB := n3_; clear n0_ n1_ n2_ n3_; clear hg hw hp_; have p38 : 0 ≤ ((ji30) : Int) := of_decide_eq_true (by first | (with_reducible assumption) | assumption); have q38 : ((ji30) : Int) < ((x9_3.length : Int) : Int) := of_decide_eq_true (by first | (with_reducible assumption) | assumption); obtain ⟨go38, co38, eo38, gb38, gl38, cl38, HG38⟩ := Kd.R_form HO_9.out (by omega); (first | cases eo38 | (injection eo38 with ea_ en_ ec_; (first | subst ea_ | (injection ea_ with ea_; subst ea_)); subst ec_; clear en_)); have GB38 := Aside0.mk gb38; have GG38 := Aside0.mk HG38; clear gb38 gl38 HG38; (first | simp only [add_plain] at hx123_0 | skip); obtain ⟨hx38_0, hf38_0⟩ := Kd.R_celln false HO_9.out ((ji30) : Int) p38 q38; replace p38 := eq_true p38; replace q38 := eq_true q38; obtain ⟨hy42_, hz42_⟩ := Kd.R_celln false HO_9.out ((ji30) : Int) (of_decide_eq_true (by first | (with_reducible assumption) | assumption)) (of_decide_eq_true (by first | (with_reducible assumption) | assumption)); have HP42 := Kd.R_putg HO_9.out ((ji30) : Int) true) | ((with_reducible refine gate_store (t := 4) (p := 86) rfl ?_); refine store_event (t := 4) (p := 86) (v := ?vo_w43) (w1 := (w41.setCell ⟨go38, ((ji30) : Int).toNat, none⟩ (.bool true))) ?hg ?ho ?hn ?hr ?_; (case ho => rfl); (case hg => rfl); (case hn => rfl); (case hr => first | (go_simp; done) | (go_simp; rfl)); intro w43 hw; have hg : w41.grownBy w43 (some go38) := (by rw [hw]; exact HP42.2); have hp_ : Kd.R Kd.bool 4 w43 w.heap.size (fun _ => True) (.slice (some ⟨go38, 0, none⟩) x9_3.length co39) y125 := (by rw [hw, Ny125.out]; exact HP42.1); clear HP42; have n0_ := Aside0.mk (Kd.R_over' (v := (.slice (some ⟨go38, 0, none⟩) x9_3.length co39)) (by (with_reducible repeat (first | apply Kd.R_alloc | apply Kd.R_drewN | apply Kd.R_drew)); exact HO_8.out) (Kd.R_typed HO_9.out) (by decide) hg); have n1_ := Aside0.mk (hp_); have n2_ := Aside0.mk (Kd.R_over' (v := (.slice (some ⟨go38, 0, none⟩) x9_3.length co39)) (by (with_reducible repeat (first | apply Kd.R_alloc | apply Kd.R_drewN | apply Kd.R_drew)); exact HO_54.out) (Kd.R_typed HO_9.out) (by decide) hg); have n3_ := Aside0.mk ((by rw [hw]; exact below_set (HB.out) GB38.out : Below w.heap.size w w43)); clear HO_8; clear HO_9; clear HO_54; clear HB; have HO_8 := n0_; have HO_9 := n1_; have HO_54 := n2_; have HB := n3_; clear n0_ n1_ n2_ n3_; clear hg hw hp_))
                                              go_roundg k3
                                              case measure => have := HJ3.out; have := HK2.out; have := HK3.out; omega
                                              case rel => exact ⟨(y124), (y125), (wrap64 (x10_3 - 1)), (wrap64 (x56_3 + 1)), (by first | rfl | (simp; done) | (simp [*]; done)), (by first | rfl | (simp; done) | (simp [*]; done)), H', ⟨by have := HJ3.out; have := HK2.out; have := HK3.out; omega⟩, ⟨by (with_reducible repeat (first | apply Kd.R_alloc | apply Kd.R_drewN | apply Kd.R_drew)); exact HO_8.out⟩, ⟨by (with_reducible repeat (first | apply Kd.R_alloc | apply Kd.R_drewN | apply Kd.R_drew)); exact HO_9.out⟩, ⟨by (with_reducible repeat (first | apply Kd.R_alloc | apply Kd.R_drewN | apply Kd.R_drew)); exact Kd.R_mono HO_54.out (fun _ hk => hk.2)⟩, ⟨by repeat (first | (with_reducible first | exact HB.out | apply below_alloc | apply pw_below_drewN | apply below_drew1) | exact HB.out)⟩⟩
                                            · rw [if_neg c36] at H
                                              exact absurd H (by simp)
                                        · rw [if_neg c32] at H
                                          exact absurd H (by simp)
                                      · rw [if_neg c31] at H
                                        exact absurd H (by simp)
                                    · rw [if_neg c29] at H
                                      have c29b0 : decide ((wrap64 ((wrap64 (t117 + x56_3)) - a0)) < a1) = false := decide_eq_false c29
                                      clear c29
                                      have H' := Aside0.mk H
                                      clear H
                                      have p122 : 0 ≤ (x56_3 : Int) := of_decide_eq_true (by first | (with_reducible assumption) | assumption)
                                      have q122 : x56_3 < (t118.length : Int) := of_decide_eq_true (by first | (with_reducible assumption) | assumption)
                                      obtain ⟨ad122, e122, hx122_0⟩ := Kd.at_int (Kd.R_reads' HO_54.out).2.2 x56_3 p122 q122
                                      cases e122
                                      replace p122 := eq_true p122
                                      replace q122 := eq_true q122
                                      go_wp2
                                      go_roundg k3
                                      case measure => have := HJ3.out; have := HK2.out; have := HK3.out; omega
                                      case rel => exact ⟨(x8_3), (x9_3), (x10_3), (wrap64 (x56_3 + 1)), (by first | rfl | (simp; done) | (simp [*]; done)), (by first | rfl | (simp; done) | (simp [*]; done)), H', ⟨by have := HJ3.out; have := HK2.out; have := HK3.out; omega⟩, ⟨by (with_reducible repeat (first | apply Kd.R_alloc | apply Kd.R_drewN | apply Kd.R_drew)); exact HO_8.out⟩, ⟨by (with_reducible repeat (first | apply Kd.R_alloc | apply Kd.R_drewN | apply Kd.R_drew)); exact HO_9.out⟩, ⟨by (with_reducible repeat (first | apply Kd.R_alloc | apply Kd.R_drewN | apply Kd.R_drew)); exact HO_54.out⟩, ⟨by repeat (first | (with_reducible first | exact HB.out | apply below_alloc | apply pw_below_drewN | apply below_drew1) | exact HB.out)⟩⟩
                                  · rw [if_neg c28] at H
                                    have c28b0 : decide (0 ≤ (wrap64 ((wrap64 (t117 + x56_3)) - a0))) = false := decide_eq_false c28
                                    clear c28
                                    have H' := Aside0.mk H
                                    clear H
                                    have p122 : 0 ≤ (x56_3 : Int) := of_decide_eq_true (by first | (with_reducible assumption) | assumption)
                                    have q122 : x56_3 < (t118.length : Int) := of_decide_eq_true (by first | (with_reducible assumption) | assumption)
                                    obtain ⟨ad122, e122, hx122_0⟩ := Kd.at_int (Kd.R_reads' HO_54.out).2.2 x56_3 p122 q122
                                    cases e122
                                    replace p122 := eq_true p122
                                    replace q122 := eq_true q122
                                    go_wp2
                                    go_roundg k3
                                    case measure => have := HJ3.out; have := HK2.out; have := HK3.out; omega
                                    case rel => exact ⟨(x8_3), (x9_3), (x10_3), (wrap64 (x56_3 + 1)), (by first | rfl | (simp; done) | (simp [*]; done)), (by first | rfl | (simp; done) | (simp [*]; done)), H', ⟨by have := HJ3.out; have := HK2.out; have := HK3.out; omega⟩, ⟨by (with_reducible repeat (first | apply Kd.R_alloc | apply Kd.R_drewN | apply Kd.R_drew)); exact HO_8.out⟩, ⟨by (with_reducible repeat (first | apply Kd.R_alloc | apply Kd.R_drewN | apply Kd.R_drew)); exact HO_9.out⟩, ⟨by (with_reducible repeat (first | apply Kd.R_alloc | apply Kd.R_drewN | apply Kd.R_drew)); exact HO_54.out⟩, ⟨by repeat (first | (with_reducible first | exact HB.out | apply below_alloc | apply pw_below_drewN | apply below_drew1) | exact HB.out)⟩⟩
                                · rw [if_neg c27] at H
                                  exact absurd H (by simp)
                              · rw [if_neg c26] at H
                                exact absurd H (by simp)
                            · rw [if_neg c25] at H
                              have c25b0 : decide (x56_3 < (t118.length : Int)) = false := decide_eq_false c25
                              clear c25
                              have H' := Aside0.mk H
                              clear H
                              go_wp2
                              go_roundg k3
                              case measure => have := HJ3.out; have := HK2.out; have := HK3.out; omega
                              case rel => exact ⟨(x8_3), (x9_3), (x10_3), (wrap64 (x44_2 + 1)), (by first | rfl | (simp; done) | (simp [*]; done)), (by first | rfl | (simp; done) | (simp [*]; done)), H', ⟨by have := HJ3.out; have := HK2.out; have := HK3.out; omega⟩, ⟨by (with_reducible repeat (first | apply Kd.R_alloc | apply Kd.R_drewN | apply Kd.R_drew)); exact Kd.R_mono HO_8.out (fun _ hk => trivial)⟩, ⟨by (with_reducible repeat (first | apply Kd.R_alloc | apply Kd.R_drewN | apply Kd.R_drew)); exact HO_9.out⟩, ⟨by repeat (first | (with_reducible first | exact HB.out | apply below_alloc | apply pw_below_drewN | apply below_drew1) | exact HB.out)⟩⟩
                      · rw [if_neg c21] at H
                        exact absurd H (by simp)
                    · rw [if_neg c20] at H
                      exact absurd H (by simp)
                  · rw [if_neg c19] at H
                    have c19b0 : decide (x44_2 < (l2.length : Int)) = false := decide_eq_false c19
                    clear c19
                    by_cases c44 : x10_2 > 0
                    · rw [if_pos c44] at H
                      have c44b0 : decide (0 < x10_2) = true := decide_eq_true c44
                      clear c44
                      simp only [Option.some.injEq, Prod.mk.injEq] at H
                      obtain ⟨rfl, rfl⟩ := H
                      go_wp2
                      go_ret2
                      exact ⟨_, by first | rfl | (simp [errW_none, errW_some] <;> rfl) | (simp [*, errW_none, errW_some] <;> rfl), by first | exact Kd.R_nil _ _ _ _ _ | exact Kd.N_nil _ _ _ _ _ | exact Kd.V_nil _ _ _ _ _ | exact Kd.Q_nil _ _ _ _ _ | exact Kd.S_nil _ _ _ _ _, by repeat (first | (with_reducible first | exact HB.out | apply below_alloc | apply pw_below_drewN | apply below_drew1) | exact HB.out)⟩
                    · rw [if_neg c44] at H
                      have c44b0 : decide (0 < x10_2) = false := decide_eq_false c44
                      clear c44
                      simp only [Option.some.injEq, Prod.mk.injEq] at H
                      obtain ⟨rfl, rfl⟩ := H
                      go_wp2
                      go_ret2
                      exact ⟨_, by first | rfl | (simp [errW_none, errW_some] <;> rfl) | (simp [*, errW_none, errW_some] <;> rfl), by (with_reducible repeat (first | apply Kd.R_alloc | apply Kd.R_drewN | apply Kd.R_drew)); exact HO_8.out, by repeat (first | (with_reducible first | exact HB.out | apply below_alloc | apply pw_below_drewN | apply below_drew1) | exact HB.out)⟩
            · rw [if_neg c12] at H
              exact absurd H (by simp)
          · rw [if_neg c11] at H
            exact absurd H (by simp)
        · rw [if_neg c10] at H
          exact absurd H (by simp)

end Go.Proofs.Ytfkgacjiccgdfaa.Q
