-- Laid by a program of this session (wip/myprint.py) in the form of the kit's print; a text of this claim, checked by Lean like any other.
import Derived.Test.YtfkgacjiccgdfaaQ0
import Derived.Test.YtfkgacjiccgdfaaQ1
import Derived.Test.YtfkgacjiccgdfaaQ3
import Derived.Test.YtfkgacjiccgdfaaQ4
import Derived.Test.YtfkgacjiccgdfaaQ7
namespace Go.Proofs.Ytfkgacjiccgdfaa.Q
open Go.RowKit Go.Proofs.YtfkgacjiccgdfaaW.PrintWords Go.Proofs.YtfkgacjiccgdfaaW.PrintLast Go.Proofs.YtfkgacjiccgdfaaW.PrintMore
attribute [local go_sem] max2_int min2_int max_two min_two max_three min_three max_four min_four   -- for this text's walks alone
set_option linter.unusedVariables false
set_option linter.unusedSimpArgs false

/-! ### symbolonlaw14_ChunkBack: function 4 -/
mutual
def symbolonlaw14_ChunkBack.j0 : Nat → Int → List Int → List Int → Bool → Bool → Option (Bool)
  | 0, _, _, _, _, _ => none
  | k + 1, x0, x1, x2, x7, x24 => if x24 = true then (some x7) else ((chunk_Put.f x0 x1).bind fun t248 => (if x0 ≥ 0 then (if x0 ≤ 65535 then (if (x1.length : Int) ≥ 1 then (if (x1.length : Int) ≤ 6 then (symbolonlaw14_ChunkBack.j1 k x0 x1 x2 x7 t248 (decide ((x1.length : Int) ≤ (wrap64 (65536 - x0))))) else (symbolonlaw14_ChunkBack.j1 k x0 x1 x2 x7 t248 false)) else (symbolonlaw14_ChunkBack.j1 k x0 x1 x2 x7 t248 false)) else (symbolonlaw14_ChunkBack.j1 k x0 x1 x2 x7 t248 false)) else (symbolonlaw14_ChunkBack.j1 k x0 x1 x2 x7 t248 false)))
def symbolonlaw14_ChunkBack.j1 : Nat → Int → List Int → List Int → Bool → List Int → Bool → Option (Bool)
  | 0, _, _, _, _, _, _ => none
  | k + 1, x0, x1, x2, x7, x8, x9 => (chunk_Get.f k x8).bind fun bt251 => (if ((decide ((x8.length : Int) > 0)) != x9) = true then (symbolonlaw14_ChunkBack.j2 k x2 x7 true) else (if (bt251.2.2 != x9) = true then (symbolonlaw14_ChunkBack.j2 k x2 x7 true) else (if x9 = true then (if bt251.1 = x0 then ((symbolonref01_Same.f k bt251.2.1 x1).bind fun t256 => (if t256 = true then (symbolonlaw14_ChunkBack.j2 k x2 x7 ((x8.length : Int) != (wrap64 (2 + (wrap64 (8 * (x1.length : Int))))))) else (symbolonlaw14_ChunkBack.j2 k x2 x7 true))) else (symbolonlaw14_ChunkBack.j2 k x2 x7 true)) else (symbolonlaw14_ChunkBack.j2 k x2 x7 false))))
def symbolonlaw14_ChunkBack.j2 : Nat → List Int → Bool → Bool → Option (Bool)
  | 0, _, _, _ => none
  | k + 1, x2, x7, x90 => if x90 = true then (none) else ((chunk_Get.f k x2).bind fun bt257 => (if bt257.2.2 = true then (if x7 = true then ((chunk_Put.f bt257.1 bt257.2.1).bind fun t262 => (some ((strOfNums t262).toList == (strOfNums x2).toList))) else (none)) else (if x7 = true then (if bt257.1 = 0 then (some ((bt257.2.1.length : Int) == 0)) else (none)) else (none))))
end
def symbolonlaw14_ChunkBack.f (k : Nat) (a0 : Int) (l1 : List Int) (l2 : List Int) : Option (Bool) := (symbolonlaw14_head.f k).bind fun t247 => (if (l1.length : Int) > 900 then (symbolonlaw14_ChunkBack.j0 k a0 l1 l2 t247 true) else (symbolonlaw14_ChunkBack.j0 k a0 l1 l2 t247 (decide ((l2.length : Int) > 900))))
theorem symbolonlaw14_ChunkBack.mono_l : ∀ k, (∀ y0 y1 y2 y3 y4, LeO (symbolonlaw14_ChunkBack.j0 k y0 y1 y2 y3 y4) (symbolonlaw14_ChunkBack.j0 (k + 1) y0 y1 y2 y3 y4)) ∧ (∀ y0 y1 y2 y3 y4 y5, LeO (symbolonlaw14_ChunkBack.j1 k y0 y1 y2 y3 y4 y5) (symbolonlaw14_ChunkBack.j1 (k + 1) y0 y1 y2 y3 y4 y5)) ∧ (∀ y0 y1 y2, LeO (symbolonlaw14_ChunkBack.j2 k y0 y1 y2) (symbolonlaw14_ChunkBack.j2 (k + 1) y0 y1 y2))
  | 0 => ⟨fun _ _ _ _ _ r h => by simp [symbolonlaw14_ChunkBack.j0] at h, fun _ _ _ _ _ _ r h => by simp [symbolonlaw14_ChunkBack.j1] at h, fun _ _ _ r h => by simp [symbolonlaw14_ChunkBack.j2] at h⟩
  | k + 1 => by
    obtain ⟨ih0, ih1, ih2⟩ := symbolonlaw14_ChunkBack.mono_l k
    refine ⟨?_, ?_, ?_⟩
    · intro y0 y1 y2 y3 y4
      unfold symbolonlaw14_ChunkBack.j0
      repeat' first
      | (with_reducible exact ih0 _ _ _ _ _)
      | (with_reducible exact ih1 _ _ _ _ _ _)
      | (with_reducible exact ih2 _ _ _)
      | (with_reducible exact chunk_Get.mono _ _)
      | (with_reducible exact symbolonlaw14_head.mono _)
      | (with_reducible exact symbolonref01_Same.mono _ _ _)
      | (with_reducible exact LeO.refl _)
      | (with_reducible exact LeO.none _)
      | (with_reducible refine LeO.ite ?_ ?_)
      | (with_reducible refine LeO.bind ?_ (fun _ => ?_))
      | exact ih0 _ _ _ _ _
      | exact ih1 _ _ _ _ _ _
      | exact ih2 _ _ _
      | exact chunk_Get.mono _ _
      | exact symbolonlaw14_head.mono _
      | exact symbolonref01_Same.mono _ _ _
      | exact LeO.none _
      | refine LeO.ite ?_ ?_
      | refine LeO.bind ?_ (fun _ => ?_)
    · intro y0 y1 y2 y3 y4 y5
      unfold symbolonlaw14_ChunkBack.j1
      repeat' first
      | (with_reducible exact ih0 _ _ _ _ _)
      | (with_reducible exact ih1 _ _ _ _ _ _)
      | (with_reducible exact ih2 _ _ _)
      | (with_reducible exact chunk_Get.mono _ _)
      | (with_reducible exact symbolonlaw14_head.mono _)
      | (with_reducible exact symbolonref01_Same.mono _ _ _)
      | (with_reducible exact LeO.refl _)
      | (with_reducible exact LeO.none _)
      | (with_reducible refine LeO.ite ?_ ?_)
      | (with_reducible refine LeO.bind ?_ (fun _ => ?_))
      | exact ih0 _ _ _ _ _
      | exact ih1 _ _ _ _ _ _
      | exact ih2 _ _ _
      | exact chunk_Get.mono _ _
      | exact symbolonlaw14_head.mono _
      | exact symbolonref01_Same.mono _ _ _
      | exact LeO.none _
      | refine LeO.ite ?_ ?_
      | refine LeO.bind ?_ (fun _ => ?_)
    · intro y0 y1 y2
      unfold symbolonlaw14_ChunkBack.j2
      repeat' first
      | (with_reducible exact ih0 _ _ _ _ _)
      | (with_reducible exact ih1 _ _ _ _ _ _)
      | (with_reducible exact ih2 _ _ _)
      | (with_reducible exact chunk_Get.mono _ _)
      | (with_reducible exact symbolonlaw14_head.mono _)
      | (with_reducible exact symbolonref01_Same.mono _ _ _)
      | (with_reducible exact LeO.refl _)
      | (with_reducible exact LeO.none _)
      | (with_reducible refine LeO.ite ?_ ?_)
      | (with_reducible refine LeO.bind ?_ (fun _ => ?_))
      | exact ih0 _ _ _ _ _
      | exact ih1 _ _ _ _ _ _
      | exact ih2 _ _ _
      | exact chunk_Get.mono _ _
      | exact symbolonlaw14_head.mono _
      | exact symbolonref01_Same.mono _ _ _
      | exact LeO.none _
      | refine LeO.ite ?_ ?_
      | refine LeO.bind ?_ (fun _ => ?_)
theorem symbolonlaw14_ChunkBack.mono : ∀ a0 a1 a2 k, LeO (symbolonlaw14_ChunkBack.f k a0 a1 a2) (symbolonlaw14_ChunkBack.f (k + 1) a0 a1 a2) := by
  intro a0 a1 a2 k
  obtain ⟨ih0, ih1, ih2⟩ := symbolonlaw14_ChunkBack.mono_l k
  unfold symbolonlaw14_ChunkBack.f
  repeat' first
      | (with_reducible exact ih0 _ _ _ _ _)
      | (with_reducible exact ih1 _ _ _ _ _ _)
      | (with_reducible exact ih2 _ _ _)
      | (with_reducible exact chunk_Get.mono _ _)
      | (with_reducible exact symbolonlaw14_head.mono _)
      | (with_reducible exact symbolonref01_Same.mono _ _ _)
      | (with_reducible exact LeO.refl _)
      | (with_reducible exact LeO.none _)
      | (with_reducible refine LeO.ite ?_ ?_)
      | (with_reducible refine LeO.bind ?_ (fun _ => ?_))
      | exact ih0 _ _ _ _ _
      | exact ih1 _ _ _ _ _ _
      | exact ih2 _ _ _
      | exact chunk_Get.mono _ _
      | exact symbolonlaw14_head.mono _
      | exact symbolonref01_Same.mono _ _ _
      | exact LeO.none _
      | refine LeO.ite ?_ ?_
      | refine LeO.bind ?_ (fun _ => ?_)
def symbolonlaw14_ChunkBack.T12 : Bool × List (List Nat × List Nat) := (true, [([], []), ([0], [0]), ([1], [1]), ([1], [1]), ([2, 3, 1, 1], [1, 2, 3]), ([4, 1], [1, 4]), ([1], [1]), ([6, 1], [1, 6]), ([5, 7, 1], [1, 5, 7]), ([1, 8], [1, 8]), ([9, 4, 0, 1, 2, 3, 4, 5, 6, 7, 8, 9], [9])])
def symbolonlaw14_ChunkBack.B12 : List Nat := [0, 1, 3, 3, 15, 31, 3, 67, 255, 511, 1023]
theorem symbolonlaw14_ChunkBack.tab12 : rtab .any (opsOf Try.f4 12) = symbolonlaw14_ChunkBack.T12 := by kernel_rfl
theorem symbolonlaw14_ChunkBack.bits12 : waitsOk symbolonlaw14_ChunkBack.T12.2 symbolonlaw14_ChunkBack.B12 = true := by kernel_rfl
set_option maxHeartbeats 8000000 in
set_option maxRecDepth 100000 in
theorem symbolonlaw14_ChunkBack.calls (k : Nat) (a0 : Int) (A1 : Option Addr) (c1 : Nat) (l1 : List Int) (A2 : Option Addr) (c2 : Nat) (l2 : List Int) (r : Bool) (w : World) (hr1 : Kd.C (Kd.int .u64) w A1 l1.length l1) (hc1 : l1.length ≤ c1) (hr2 : Kd.C (Kd.int .u8) w A2 l2.length l2) (hc2 : l2.length ≤ c2) (h : symbolonlaw14_ChunkBack.f k a0 l1 l2 = some r) :
    Calls Try.prog 4 #[.int .i64 a0, .slice A1 l1.length c1, .slice A2 l2.length c2] w fun e w' => e = .returned (.bool r) ∧ Below w.heap.size w w' := by
  have HR1 := Aside0.mk hr1
  have HC1 := Aside0.mk hc1
  clear hr1 hc1
  have HR2 := Aside0.mk hr2
  have HC2 := Aside0.mk hc2
  clear hr2 hc2
  have HB := Aside0.mk (Below.refl w.heap.size w)
  have H : ((symbolonlaw14_head.f k).bind fun t247 => (if (l1.length : Int) > 900 then (symbolonlaw14_ChunkBack.j0 k a0 l1 l2 t247 true) else (symbolonlaw14_ChunkBack.j0 k a0 l1 l2 t247 (decide ((l2.length : Int) > 900))))) = some r := h
  clear h
  replace H := Option.bind_eq_some_iff.mp H
  obtain ⟨t247, A40, H⟩ := H
  replace H : (if (l1.length : Int) > 900 then (symbolonlaw14_ChunkBack.j0 k a0 l1 l2 t247 true) else (symbolonlaw14_ChunkBack.j0 k a0 l1 l2 t247 (decide ((l2.length : Int) > 900)))) = some r := H
  have A4 := Aside0.mk A40
  clear A40
  have HC5 := Aside0.mk H
  clear H
  go_enter Try.func4, Try.ntmps4
  go_upto_region 2 with (first | ((with_reducible refine gate_callee (f := 10) rfl ?_); refine goesL_ (some 16) rfl rfl Try.func10 (by kernel_rfl) rfl #[] rfl (by (try simp only [List.map_toArray, List.map_cons, List.map_nil]); first | done | rfl | (simp only [List.length_drop, List.length_take]; rfl)) ?_; (with_reducible refine (symbolonlaw14_head.calls k  t247 _ A4.out).mono ?_); rintro e w6 ⟨rfl, hb⟩; refine ⟨_, rfl, ?_⟩; have n0_ := Aside0.mk (below_step (by repeat (first | (with_reducible first | exact HB.out | apply below_alloc | apply pw_below_drewN | apply below_drew1) | exact HB.out)) hb); clear HB; have HB := n0_; clear n0_; (try clear hb); (try clear hb2); (try clear hk); (try clear hi)))
  (try simp only [Act.put, List.setIfInBounds_toArray, List.set_cons_zero, List.set_cons_succ])
  go_cut [24] (fun v24 wc => ∃ (kq : Nat) (x24_4 : Bool), v24 = .bool x24_4 ∧ Aside0 (symbolonlaw14_ChunkBack.j0 kq a0 l1 l2 t247 x24_4 = some r) ∧ Aside0 (kq ≤ k) ∧ Aside0 (Below w.heap.size w wc))
  case first =>
    have H := HC5.out
    clear HC5
    by_cases c7 : (l1.length : Int) > 900
    · rw [if_pos c7] at H
      have c7b0 : decide (900 < (l1.length : Int)) = true := decide_eq_true c7
      have c7b1 : decide (900 < l1.length) = true := decide_eq_true (by omega)
      clear c7
      (first | rw [c7b0] | (simp only [i64_w, i32_w]; rw [c7b0]) | skip)
      have H' := Aside0.mk H
      clear H
      go_wp2
      go_meet
      case rel => exact ⟨_, (true), (by first | rfl | (simp; done) | (simp [*]; done)), H', ⟨by first | omega | exact Nat.le_refl _⟩, ⟨by repeat (first | (with_reducible first | exact HB.out | apply below_alloc | apply pw_below_drewN | apply below_drew1) | exact HB.out)⟩⟩
    · rw [if_neg c7] at H
      have c7b0 : decide (900 < (l1.length : Int)) = false := decide_eq_false c7
      have c7b1 : decide (900 < l1.length) = false := decide_eq_false (by omega)
      clear c7
      (first | rw [c7b0] | (simp only [i64_w, i32_w]; rw [c7b0]) | skip)
      have H' := Aside0.mk H
      clear H
      go_wp2
      go_meet
      case rel => exact ⟨_, (decide ((l2.length : Int) > 900)), (by first | rfl | (simp; done) | (simp [*]; done)), H', ⟨by first | omega | exact Nat.le_refl _⟩, ⟨by repeat (first | (with_reducible first | exact HB.out | apply below_alloc | apply pw_below_drewN | apply below_drew1) | exact HB.out)⟩⟩
  case rest =>
    clear HC5
    try clear c1
    try clear c2
    try clear p2
    try clear c4
    try clear c7
    try clear c7b0
    try clear c7b1
    obtain ⟨kq, x24_4, rfl, HA, HJ4, HB⟩ := hcut
    cases kq with
    | zero => exact absurd HA.out (by simp [symbolonlaw14_ChunkBack.j0])
    | succ kj4 =>
      have H := HA.out
      clear HA
      simp only [symbolonlaw14_ChunkBack.j0] at H
      by_cases c8 : x24_4 = true
      · subst c8
        have H1 : (some t247) = some r := by rw [if_pos rfl] at H; exact H
        clear H
        have H := H1
        clear H1
        obtain rfl := Option.some.inj H
        go_wp2
        go_ret
        exact ⟨by first | rfl | (simp [errW_none, errW_some] <;> rfl) | (simp [*, errW_none, errW_some] <;> rfl), by repeat (first | (with_reducible first | exact HB.out | apply below_alloc | apply pw_below_drewN | apply below_drew1) | exact HB.out)⟩
      · replace c8 := Bool.eq_false_iff.mpr c8
        subst c8
        have H1 : ((chunk_Put.f a0 l1).bind fun t248 => (if a0 ≥ 0 then (if a0 ≤ 65535 then (if (l1.length : Int) ≥ 1 then (if (l1.length : Int) ≤ 6 then (symbolonlaw14_ChunkBack.j1 kj4 a0 l1 l2 t247 t248 (decide ((l1.length : Int) ≤ (wrap64 (65536 - a0))))) else (symbolonlaw14_ChunkBack.j1 kj4 a0 l1 l2 t247 t248 false)) else (symbolonlaw14_ChunkBack.j1 kj4 a0 l1 l2 t247 t248 false)) else (symbolonlaw14_ChunkBack.j1 kj4 a0 l1 l2 t247 t248 false)) else (symbolonlaw14_ChunkBack.j1 kj4 a0 l1 l2 t247 t248 false))) = some r := by rw [if_neg (show ¬ (false = true) by decide)] at H; exact H
        clear H
        have H := H1
        clear H1
        replace H := Option.bind_eq_some_iff.mp H
        obtain ⟨t248, A90, H⟩ := H
        replace H : (if a0 ≥ 0 then (if a0 ≤ 65535 then (if (l1.length : Int) ≥ 1 then (if (l1.length : Int) ≤ 6 then (symbolonlaw14_ChunkBack.j1 kj4 a0 l1 l2 t247 t248 (decide ((l1.length : Int) ≤ (wrap64 (65536 - a0))))) else (symbolonlaw14_ChunkBack.j1 kj4 a0 l1 l2 t247 t248 false)) else (symbolonlaw14_ChunkBack.j1 kj4 a0 l1 l2 t247 t248 false)) else (symbolonlaw14_ChunkBack.j1 kj4 a0 l1 l2 t247 t248 false)) else (symbolonlaw14_ChunkBack.j1 kj4 a0 l1 l2 t247 t248 false)) = some r := H
        have A9 := Aside0.mk A90
        clear A90
        have HC10 := Aside0.mk H
        clear H
        go_upto_region 5 with (first | ((with_reducible refine gate_callee (f := 16) rfl ?_); refine goesL_ (some 28) rfl rfl Try.func16 (by kernel_rfl) rfl #[.int .i64 a0, .slice A1 l1.length c1] rfl (by (try simp only [List.map_toArray, List.map_cons, List.map_nil]); first | done | rfl | (simp only [List.length_drop, List.length_take]; rfl)) ?_; (with_reducible refine (chunk_Put.calls a0 _ _ l1 t248 _ ?side1 ?side2 A9.out).mono ?_); (case side1 => repeat (first | exact (Kd.C_below HR1.out HB.out) | (with_reducible refine Kd.C_alloc ?_ _) | (with_reducible refine Kd.C_drewN ?_ _) | (with_reducible refine Kd.C_drew ?_))); (case side2 => exact HC1.out); rintro e w11 ⟨v249, rfl, ho0, hb⟩; refine ⟨_, rfl, ?_⟩; have n0_ := Aside0.mk (Kd.R_lower ho0 (below_size (by repeat (first | (with_reducible first | exact HB.out | apply below_alloc | apply pw_below_drewN | apply below_drew1) | exact HB.out)))); have n1_ := Aside0.mk (below_step (by repeat (first | (with_reducible first | exact HB.out | apply below_alloc | apply pw_below_drewN | apply below_drew1) | exact HB.out)) hb); clear HB; have HO250 := n0_; have HB := n1_; clear n0_ n1_; (try clear hb); (try clear hb2); (try clear hk); (try clear hi); (try clear ho0)))
        (try simp only [Act.put, List.setIfInBounds_toArray, List.set_cons_zero, List.set_cons_succ])
        go_cut [9] (fun v9 wc => ∃ (kq : Nat) (x9_9 : Bool), v9 = .bool x9_9 ∧ Aside0 (symbolonlaw14_ChunkBack.j1 kq a0 l1 l2 t247 t248 x9_9 = some r) ∧ Aside0 (kq ≤ kj4) ∧ Aside0 (Kd.R (Kd.int .u8) 5 wc w.heap.size (fun _ => True) v249 t248) ∧ Aside0 (Below w.heap.size w wc))
        case first =>
          have H := HC10.out
          clear HC10
          by_cases c12 : a0 ≥ 0
          · rw [if_pos c12] at H
            have c12b0 : decide (0 ≤ a0) = true := decide_eq_true c12
            clear c12
            (first | rw [c12b0] | (simp only [i64_w, i32_w]; rw [c12b0]) | skip)
            by_cases c13 : a0 ≤ 65535
            · rw [if_pos c13] at H
              have c13b0 : decide (a0 ≤ 65535) = true := decide_eq_true c13
              clear c13
              by_cases c14 : (l1.length : Int) ≥ 1
              · rw [if_pos c14] at H
                have c14b0 : decide (1 ≤ (l1.length : Int)) = true := decide_eq_true c14
                have c14b1 : decide (1 ≤ l1.length) = true := decide_eq_true (by omega)
                clear c14
                by_cases c15 : (l1.length : Int) ≤ 6
                · rw [if_pos c15] at H
                  have c15b0 : decide ((l1.length : Int) ≤ 6) = true := decide_eq_true c15
                  have c15b1 : decide (l1.length ≤ 6) = true := decide_eq_true (by omega)
                  clear c15
                  have H' := Aside0.mk H
                  clear H
                  go_wp2
                  go_meet
                  case rel => exact ⟨_, (decide ((l1.length : Int) ≤ (wrap64 (65536 - a0)))), (by first | rfl | (simp; done) | (simp [*]; done)), H', ⟨by have := HJ4.out; first | omega | exact Nat.le_refl _⟩, ⟨by (with_reducible repeat (first | apply Kd.R_alloc | apply Kd.R_drewN | apply Kd.R_drew)); exact HO250.out⟩, ⟨by repeat (first | (with_reducible first | exact HB.out | apply below_alloc | apply pw_below_drewN | apply below_drew1) | exact HB.out)⟩⟩
                · rw [if_neg c15] at H
                  have c15b0 : decide ((l1.length : Int) ≤ 6) = false := decide_eq_false c15
                  have c15b1 : decide (l1.length ≤ 6) = false := decide_eq_false (by omega)
                  clear c15
                  have H' := Aside0.mk H
                  clear H
                  go_wp2
                  go_meet
                  case rel => exact ⟨_, (false), (by first | rfl | (simp; done) | (simp [*]; done)), H', ⟨by have := HJ4.out; first | omega | exact Nat.le_refl _⟩, ⟨by (with_reducible repeat (first | apply Kd.R_alloc | apply Kd.R_drewN | apply Kd.R_drew)); exact HO250.out⟩, ⟨by repeat (first | (with_reducible first | exact HB.out | apply below_alloc | apply pw_below_drewN | apply below_drew1) | exact HB.out)⟩⟩
              · rw [if_neg c14] at H
                have c14b0 : decide (1 ≤ (l1.length : Int)) = false := decide_eq_false c14
                have c14b1 : decide (1 ≤ l1.length) = false := decide_eq_false (by omega)
                clear c14
                have H' := Aside0.mk H
                clear H
                go_wp2
                go_meet
                case rel => exact ⟨_, (false), (by first | rfl | (simp; done) | (simp [*]; done)), H', ⟨by have := HJ4.out; first | omega | exact Nat.le_refl _⟩, ⟨by (with_reducible repeat (first | apply Kd.R_alloc | apply Kd.R_drewN | apply Kd.R_drew)); exact HO250.out⟩, ⟨by repeat (first | (with_reducible first | exact HB.out | apply below_alloc | apply pw_below_drewN | apply below_drew1) | exact HB.out)⟩⟩
            · rw [if_neg c13] at H
              have c13b0 : decide (a0 ≤ 65535) = false := decide_eq_false c13
              clear c13
              have H' := Aside0.mk H
              clear H
              go_wp2
              go_meet
              case rel => exact ⟨_, (false), (by first | rfl | (simp; done) | (simp [*]; done)), H', ⟨by have := HJ4.out; first | omega | exact Nat.le_refl _⟩, ⟨by (with_reducible repeat (first | apply Kd.R_alloc | apply Kd.R_drewN | apply Kd.R_drew)); exact HO250.out⟩, ⟨by repeat (first | (with_reducible first | exact HB.out | apply below_alloc | apply pw_below_drewN | apply below_drew1) | exact HB.out)⟩⟩
          · rw [if_neg c12] at H
            have c12b0 : decide (0 ≤ a0) = false := decide_eq_false c12
            clear c12
            (first | rw [c12b0] | (simp only [i64_w, i32_w]; rw [c12b0]) | skip)
            have H' := Aside0.mk H
            clear H
            go_wp2
            go_meet
            case rel => exact ⟨_, (false), (by first | rfl | (simp; done) | (simp [*]; done)), H', ⟨by have := HJ4.out; first | omega | exact Nat.le_refl _⟩, ⟨by (with_reducible repeat (first | apply Kd.R_alloc | apply Kd.R_drewN | apply Kd.R_drew)); exact HO250.out⟩, ⟨by repeat (first | (with_reducible first | exact HB.out | apply below_alloc | apply pw_below_drewN | apply below_drew1) | exact HB.out)⟩⟩
        case rest =>
          clear HC10
          try clear c1
          try clear c2
          try clear p2
          try clear c4
          try clear p6
          try clear c7
          try clear c7b0
          try clear c7b1
          try clear c8
          try clear c10
          try clear c12
          try clear c12b0
          try clear c13
          try clear c13b0
          try clear c14
          try clear c14b0
          try clear c14b1
          try clear c15
          try clear c15b0
          try clear c15b1
          try clear p2
          obtain ⟨kq, x9_9, rfl, HA, HJ9, HO_8, HB⟩ := hcut
          cases kq with
          | zero => exact absurd HA.out (by simp [symbolonlaw14_ChunkBack.j1])
          | succ kj9 =>
            have H := HA.out
            clear HA
            simp only [symbolonlaw14_ChunkBack.j1] at H
            replace H := Option.bind_eq_some_iff.mp H
            obtain ⟨⟨t251, t252, t253⟩, A160, H⟩ := H
            replace H : (if ((decide ((t248.length : Int) > 0)) != x9_9) = true then (symbolonlaw14_ChunkBack.j2 kj9 l2 t247 true) else (if (t253 != x9_9) = true then (symbolonlaw14_ChunkBack.j2 kj9 l2 t247 true) else (if x9_9 = true then (if t251 = a0 then ((symbolonref01_Same.f kj9 t252 l1).bind fun t256 => (if t256 = true then (symbolonlaw14_ChunkBack.j2 kj9 l2 t247 ((t248.length : Int) != (wrap64 (2 + (wrap64 (8 * (l1.length : Int))))))) else (symbolonlaw14_ChunkBack.j2 kj9 l2 t247 true))) else (symbolonlaw14_ChunkBack.j2 kj9 l2 t247 true)) else (symbolonlaw14_ChunkBack.j2 kj9 l2 t247 false)))) = some r := H
            have A16 := Aside0.mk A160
            clear A160
            have HC17 := Aside0.mk H
            clear H
            obtain ⟨Ao18, co18, eo18⟩ := Kd.R_slice HO_8.out
            subst eo18
            go_upto_region 7 with (first | ((with_reducible refine gate_callee (f := 12) rfl ?_); refine goesL_ (some 54) rfl rfl Try.func12 (by kernel_rfl) rfl #[.slice Ao18 t248.length co18] rfl (by (try simp only [List.map_toArray, List.map_cons, List.map_nil]); first | done | rfl | (simp only [List.length_drop, List.length_take]; rfl)) ?_; (with_reducible refine (chunk_Get.calls kj9 _ _ t248 t251 t252 t253 _ ?side1 ?side2 A16.out).mono ?_); (case side1 => repeat (first | exact (Kd.R_reads' HO_8.out).2.2 | (with_reducible refine Kd.C_alloc ?_ _) | (with_reducible refine Kd.C_drewN ?_ _) | (with_reducible refine Kd.C_drew ?_))); (case side2 => exact (Kd.R_reads' HO_8.out).2.1); rintro e w19 ⟨v254, rfl, ho0, hb⟩; refine ⟨_, rfl, ?_⟩; have n0_ := Aside0.mk (Kd.R_below (by (with_reducible repeat (first | apply Kd.R_alloc | apply Kd.R_drewN | apply Kd.R_drew)); exact HO_8.out) hb); have n1_ := Aside0.mk (Kd.R_lower ho0 (below_size (by repeat (first | (with_reducible first | exact HB.out | apply below_alloc | apply pw_below_drewN | apply below_drew1) | exact HB.out)))); have n2_ := Aside0.mk (below_step (by repeat (first | (with_reducible first | exact HB.out | apply below_alloc | apply pw_below_drewN | apply below_drew1) | exact HB.out)) hb); clear HO_8; clear HB; have HO_8 := n0_; have HO255 := n1_; have HB := n2_; clear n0_ n1_ n2_; (try clear hb); (try clear hb2); (try clear hk); (try clear hi); (try clear ho0)))
            (try simp only [Act.put, List.setIfInBounds_toArray, List.set_cons_zero, List.set_cons_succ])
            go_cut [90] (fun v90 wc => ∃ (kq : Nat) (x90_16 : Bool), v90 = .bool x90_16 ∧ Aside0 (symbolonlaw14_ChunkBack.j2 kq l2 t247 x90_16 = some r) ∧ Aside0 (kq ≤ kj9) ∧ Aside0 (Below w.heap.size w wc))
            case first =>
              have H := HC17.out
              clear HC17
              by_cases c20 : ((decide ((t248.length : Int) > 0)) != x9_9) = true
              · rw [if_pos c20] at H
                have c20b0 : ((decide ((t248.length : Int) > 0)) != x9_9) = true := c20
                have c20n : ¬ (decide (0 < t248.length) = x9_9) := by simpa using c20
                (try (have c20b1 : decide ((decide ((t248.length : Int) > 0)) = x9_9) = false := by simpa using c20))
                (try (have c20b2 : ((decide ((t248.length : Int) > 0)) == x9_9) = false := by simpa using c20))
                (try (have c20b3 : ¬ ((decide ((t248.length : Int) > 0)) = x9_9) := by simpa using c20))
                clear c20
                (first | rw [c20b0] | (simp only [i64_w, i32_w]; rw [c20b0]) | skip)
                have H' := Aside0.mk H
                clear H
                (try (have c20m : 0 < t248.length := by simpa using c20n))
                go_wp2
                go_meet
                case rel => exact ⟨_, (true), (by first | rfl | (simp; done) | (simp [*]; done)), H', ⟨by have := HJ4.out; have := HJ9.out; first | omega | exact Nat.le_refl _⟩, ⟨by repeat (first | (with_reducible first | exact HB.out | apply below_alloc | apply pw_below_drewN | apply below_drew1) | exact HB.out)⟩⟩
              · rw [if_neg c20] at H
                have c20b0 : ((decide ((t248.length : Int) > 0)) != x9_9) = false := by simpa using c20
                have c20n : decide (0 < t248.length) = x9_9 := by simpa using c20
                (try (have c20b1 : decide ((decide ((t248.length : Int) > 0)) = x9_9) = true := by simpa using c20))
                (try (have c20b2 : ((decide ((t248.length : Int) > 0)) == x9_9) = true := by simpa using c20))
                clear c20
                (first | rw [c20b0] | (simp only [i64_w, i32_w]; rw [c20b0]) | skip)
                by_cases c21 : (t253 != x9_9) = true
                · rw [if_pos c21] at H
                  have c21b0 : (t253 != x9_9) = true := c21
                  (try (have c21b1 : decide (t253 = x9_9) = false := by simpa using c21))
                  (try (have c21b2 : (t253 == x9_9) = false := by simpa using c21))
                  (try (have c21b3 : ¬ (t253 = x9_9) := by simpa using c21))
                  clear c21
                  have H' := Aside0.mk H
                  clear H
                  (try (have c20m : 0 < t248.length := by simpa using c20n))
                  go_wp2
                  go_meet
                  case rel => exact ⟨_, (true), (by first | rfl | (simp; done) | (simp [*]; done)), H', ⟨by have := HJ4.out; have := HJ9.out; first | omega | exact Nat.le_refl _⟩, ⟨by repeat (first | (with_reducible first | exact HB.out | apply below_alloc | apply pw_below_drewN | apply below_drew1) | exact HB.out)⟩⟩
                · rw [if_neg c21] at H
                  have c21b0 : (t253 != x9_9) = false := by simpa using c21
                  (try (have c21b1 : decide (t253 = x9_9) = true := by simpa using c21))
                  (try (have c21b2 : (t253 == x9_9) = true := by simpa using c21))
                  clear c21
                  by_cases c22 : x9_9 = true
                  · subst c22
                    have H1 : (if t251 = a0 then ((symbolonref01_Same.f kj9 t252 l1).bind fun t256 => (if t256 = true then (symbolonlaw14_ChunkBack.j2 kj9 l2 t247 ((t248.length : Int) != (wrap64 (2 + (wrap64 (8 * (l1.length : Int))))))) else (symbolonlaw14_ChunkBack.j2 kj9 l2 t247 true))) else (symbolonlaw14_ChunkBack.j2 kj9 l2 t247 true)) = some r := by rw [if_pos rfl] at H; exact H
                    clear H
                    have H := H1
                    clear H1
                    by_cases c23 : t251 = a0
                    · rw [if_pos c23] at H
                      have c23b0 : (t251 == a0) = true := beq_iff_eq.mpr c23
                      have c23b1 : (t251 != a0) = false := bne_eq_false_iff_eq.mpr c23
                      clear c23
                      replace H := Option.bind_eq_some_iff.mp H
                      obtain ⟨t256, A240, H⟩ := H
                      replace H : (if t256 = true then (symbolonlaw14_ChunkBack.j2 kj9 l2 t247 ((t248.length : Int) != (wrap64 (2 + (wrap64 (8 * (l1.length : Int))))))) else (symbolonlaw14_ChunkBack.j2 kj9 l2 t247 true)) = some r := H
                      have A24 := Aside0.mk A240
                      clear A240
                      by_cases c25 : t256 = true
                      · subst c25
                        have H1 : (symbolonlaw14_ChunkBack.j2 kj9 l2 t247 ((t248.length : Int) != (wrap64 (2 + (wrap64 (8 * (l1.length : Int))))))) = some r := by rw [if_pos rfl] at H; exact H
                        clear H
                        have H := H1
                        clear H1
                        have H' := Aside0.mk H
                        clear H
                        obtain ⟨Ao26, co26, eo26⟩ := Kd.R_slice HO255.out
                        subst eo26
                        (try (have c20m : 0 < t248.length := by simpa using c20n))
                        go_wp2_with (first | (go_at_call 18; (with_reducible refine (symbolonref01_Same.calls kj9 _ _ t252 _ _ l1 true _ ?side1 ?side2 ?side3 ?side4 A24.out).mono ?_); (case side1 => repeat (first | exact (Kd.R_reads' HO255.out).2.2 | (with_reducible refine Kd.C_alloc ?_ _) | (with_reducible refine Kd.C_drewN ?_ _) | (with_reducible refine Kd.C_drew ?_))); (case side2 => exact (Kd.R_reads' HO255.out).2.1); (case side3 => repeat (first | exact (Kd.C_below HR1.out HB.out) | (with_reducible refine Kd.C_alloc ?_ _) | (with_reducible refine Kd.C_drewN ?_ _) | (with_reducible refine Kd.C_drew ?_))); (case side4 => exact HC1.out); rintro e w' ⟨rfl, ⟨nd, rfl⟩⟩))
                        go_meet
                        case rel => exact ⟨_, (((t248.length : Int) != (wrap64 (2 + (wrap64 (8 * (l1.length : Int))))))), (by first | rfl | (simp; done) | (simp [*]; done)), H', ⟨by have := HJ4.out; have := HJ9.out; first | omega | exact Nat.le_refl _⟩, ⟨by repeat (first | (with_reducible first | exact HB.out | apply below_alloc | apply pw_below_drewN | apply below_drew1) | exact HB.out)⟩⟩
                      · replace c25 := Bool.eq_false_iff.mpr c25
                        subst c25
                        have H1 : (symbolonlaw14_ChunkBack.j2 kj9 l2 t247 true) = some r := by rw [if_neg (show ¬ (false = true) by decide)] at H; exact H
                        clear H
                        have H := H1
                        clear H1
                        have H' := Aside0.mk H
                        clear H
                        obtain ⟨Ao27, co27, eo27⟩ := Kd.R_slice HO255.out
                        subst eo27
                        (try (have c20m : 0 < t248.length := by simpa using c20n))
                        go_wp2_with (first | (go_at_call 18; (with_reducible refine (symbolonref01_Same.calls kj9 _ _ t252 _ _ l1 false _ ?side1 ?side2 ?side3 ?side4 A24.out).mono ?_); (case side1 => repeat (first | exact (Kd.R_reads' HO255.out).2.2 | (with_reducible refine Kd.C_alloc ?_ _) | (with_reducible refine Kd.C_drewN ?_ _) | (with_reducible refine Kd.C_drew ?_))); (case side2 => exact (Kd.R_reads' HO255.out).2.1); (case side3 => repeat (first | exact (Kd.C_below HR1.out HB.out) | (with_reducible refine Kd.C_alloc ?_ _) | (with_reducible refine Kd.C_drewN ?_ _) | (with_reducible refine Kd.C_drew ?_))); (case side4 => exact HC1.out); rintro e w' ⟨rfl, ⟨nd, rfl⟩⟩))
                        go_meet
                        case rel => exact ⟨_, (true), (by first | rfl | (simp; done) | (simp [*]; done)), H', ⟨by have := HJ4.out; have := HJ9.out; first | omega | exact Nat.le_refl _⟩, ⟨by repeat (first | (with_reducible first | exact HB.out | apply below_alloc | apply pw_below_drewN | apply below_drew1) | exact HB.out)⟩⟩
                    · rw [if_neg c23] at H
                      have c23b0 : (t251 == a0) = false := beq_eq_false_iff_ne.mpr c23
                      have c23b1 : (t251 != a0) = true := bne_iff_ne.mpr c23
                      have H' := Aside0.mk H
                      clear H
                      (try (have c20m : 0 < t248.length := by simpa using c20n))
                      go_wp2
                      go_meet
                      case rel => exact ⟨_, (true), (by first | rfl | (simp; done) | (simp [*]; done)), H', ⟨by have := HJ4.out; have := HJ9.out; first | omega | exact Nat.le_refl _⟩, ⟨by repeat (first | (with_reducible first | exact HB.out | apply below_alloc | apply pw_below_drewN | apply below_drew1) | exact HB.out)⟩⟩
                  · replace c22 := Bool.eq_false_iff.mpr c22
                    subst c22
                    have H1 : (symbolonlaw14_ChunkBack.j2 kj9 l2 t247 false) = some r := by rw [if_neg (show ¬ (false = true) by decide)] at H; exact H
                    clear H
                    have H := H1
                    clear H1
                    have H' := Aside0.mk H
                    clear H
                    (try (have c20m : 0 < t248.length := by simpa using c20n))
                    go_wp2
                    go_meet
                    case rel => exact ⟨_, (false), (by first | rfl | (simp; done) | (simp [*]; done)), H', ⟨by have := HJ4.out; have := HJ9.out; first | omega | exact Nat.le_refl _⟩, ⟨by repeat (first | (with_reducible first | exact HB.out | apply below_alloc | apply pw_below_drewN | apply below_drew1) | exact HB.out)⟩⟩
            case rest =>
              clear HC17
              try clear c1
              try clear c2
              try clear p2
              try clear c4
              try clear p6
              try clear c7
              try clear c7b0
              try clear c7b1
              try clear c8
              try clear c10
              try clear c12
              try clear c12b0
              try clear c13
              try clear c13b0
              try clear c14
              try clear c14b0
              try clear c14b1
              try clear c15
              try clear c15b0
              try clear c15b1
              try clear c16
              try clear c20
              try clear c20b0
              try clear c20b1
              try clear c20b2
              try clear c21
              try clear c21b0
              try clear c21b1
              try clear c21b2
              try clear c22
              try clear c23
              try clear c23b0
              try clear c23b1
              try clear c25
              try clear p2
              try clear p6
              obtain ⟨kq, x90_16, rfl, HA, HJ16, HB⟩ := hcut
              cases kq with
              | zero => exact absurd HA.out (by simp [symbolonlaw14_ChunkBack.j2])
              | succ kj16 =>
                have H := HA.out
                clear HA
                simp only [symbolonlaw14_ChunkBack.j2] at H
                by_cases c28 : x90_16 = true
                · subst c28
                  have H1 : (none) = some r := by rw [if_pos rfl] at H; exact H
                  clear H
                  have H := H1
                  clear H1
                  exact absurd H (by simp)
                · replace c28 := Bool.eq_false_iff.mpr c28
                  subst c28
                  have H1 : ((chunk_Get.f kj16 l2).bind fun bt257 => (if bt257.2.2 = true then (if t247 = true then ((chunk_Put.f bt257.1 bt257.2.1).bind fun t262 => (some ((strOfNums t262).toList == (strOfNums l2).toList))) else (none)) else (if t247 = true then (if bt257.1 = 0 then (some ((bt257.2.1.length : Int) == 0)) else (none)) else (none)))) = some r := by rw [if_neg (show ¬ (false = true) by decide)] at H; exact H
                  clear H
                  have H := H1
                  clear H1
                  replace H := Option.bind_eq_some_iff.mp H
                  obtain ⟨⟨t257, t258, t259⟩, A290, H⟩ := H
                  replace H : (if t259 = true then (if t247 = true then ((chunk_Put.f t257 t258).bind fun t262 => (some ((strOfNums t262).toList == (strOfNums l2).toList))) else (none)) else (if t247 = true then (if t257 = 0 then (some ((t258.length : Int) == 0)) else (none)) else (none))) = some r := H
                  have A29 := Aside0.mk A290
                  clear A290
                  by_cases c30 : t259 = true
                  · subst c30
                    have H1 : (if t247 = true then ((chunk_Put.f t257 t258).bind fun t262 => (some ((strOfNums t262).toList == (strOfNums l2).toList))) else (none)) = some r := by rw [if_pos rfl] at H; exact H
                    clear H
                    have H := H1
                    clear H1
                    by_cases c31 : t247 = true
                    · subst c31
                      have H1 : ((chunk_Put.f t257 t258).bind fun t262 => (some ((strOfNums t262).toList == (strOfNums l2).toList))) = some r := by rw [if_pos rfl] at H; exact H
                      clear H
                      have H := H1
                      clear H1
                      replace H := Option.bind_eq_some_iff.mp H
                      obtain ⟨t262, A320, H⟩ := H
                      replace H : (some ((strOfNums t262).toList == (strOfNums l2).toList)) = some r := H
                      have A32 := Aside0.mk A320
                      clear A320
                      obtain rfl := Option.some.inj H
                      try go_wp2_with (first | ((with_reducible refine gate_callee (f := 12) rfl ?_); refine goesL_ (some 93) rfl rfl Try.func12 (by kernel_rfl) rfl #[.slice A2 l2.length c2] rfl (by (try simp only [List.map_toArray, List.map_cons, List.map_nil]); first | done | rfl | (simp only [List.length_drop, List.length_take]; rfl)) ?_; (with_reducible refine (chunk_Get.calls kj16 _ _ l2 t257 t258 true _ ?side1 ?side2 A29.out).mono ?_); (case side1 => repeat (first | exact (Kd.C_below HR2.out HB.out) | (with_reducible refine Kd.C_alloc ?_ _) | (with_reducible refine Kd.C_drewN ?_ _) | (with_reducible refine Kd.C_drew ?_))); (case side2 => exact HC2.out); rintro e w33 ⟨v260, rfl, ho0, hb⟩; refine ⟨_, rfl, ?_⟩; have n0_ := Aside0.mk (Kd.R_lower ho0 (below_size (by repeat (first | (with_reducible first | exact HB.out | apply below_alloc | apply pw_below_drewN | apply below_drew1) | exact HB.out)))); have n1_ := Aside0.mk (below_step (by repeat (first | (with_reducible first | exact HB.out | apply below_alloc | apply pw_below_drewN | apply below_drew1) | exact HB.out)) hb); clear HB; have HO261 := n0_; have HB := n1_; clear n0_ n1_; (try clear hb); (try clear hb2); (try clear hk); (try clear hi); (try clear ho0); obtain ⟨Ao34, co34, eo34⟩ := Kd.R_slice HO261.out; subst eo34))
                      have n0_ := Aside0.mk (Kd.R_drew HO261.out)
                      have n1_ := Aside0.mk (below_drew1 HB.out)
                      clear HO261
                      clear HB
                      have HO261 := n0_
                      have HB := n1_
                      clear n0_ n1_
                      refine start_ (n := 11) (S := fun w' => Kd.C (Kd.int .u8) w' A2 l2.length l2) (ds := []) #[false, false, false, false, false, false, false, false, false, false, false] (by kernel_rfl) rfl rfl (by repeat (first | exact (Kd.C_below HR2.out HB.out) | (with_reducible refine Kd.C_alloc ?_ _) | (with_reducible refine Kd.C_drewN ?_ _) | (with_reducible refine Kd.C_drew ?_))) (fun hHeld => ?_); refine with_tabW symbolonlaw14_ChunkBack.tab12 symbolonlaw14_ChunkBack.bits12 (fun HT_ HW_ => ?_)
                      generalize w33.drew = w35 at HO261 HB hHeld ⊢
                      refine pure_ (i := 0) (N := some 109) (v := ?_) (a' := ?_) #[true, false, false, false, false, false, false, false, false, false, false] rfl rfl (any_of HT_.out (by kernel_rfl)) (fun _ _ _ h => h) (Or.inl ⟨by rfl, ?_⟩) ?_ ?_
                      rotate_left
                      · intro w'
                        go_simp
                        with_reducible rfl
                      rotate_left
                      · simp only [Act.put, List.setIfInBounds_toArray, List.set_cons_zero, List.set_cons_succ, i64_w, i32_w]
                        rfl
                      refine pure_ (i := 1) (N := some 110) (v := ?_) (a' := ?_) #[true, true, false, false, false, false, false, false, false, false, false] rfl rfl (any_of HT_.out (by kernel_rfl)) (fun _ _ _ h => h) (Or.inl ⟨by rfl, ?_⟩) ?_ ?_
                      rotate_left
                      · intro w'
                        go_simp
                        with_reducible rfl
                      rotate_left
                      · simp only [Act.put, List.setIfInBounds_toArray, List.set_cons_zero, List.set_cons_succ, i64_w, i32_w]
                        rfl
                      refine pure_ (i := 2) (N := some 111) (v := ?_) (a' := ?_) #[true, true, true, false, false, false, false, false, false, false, false] rfl rfl (any_of HT_.out (by kernel_rfl)) (fun _ _ _ h => h) (Or.inl ⟨by rfl, ?_⟩) ?_ ?_
                      rotate_left
                      · intro w'
                        go_simp
                        with_reducible rfl
                      rotate_left
                      · simp only [Act.put, List.setIfInBounds_toArray, List.set_cons_zero, List.set_cons_succ, i64_w, i32_w]
                        rfl
                      refine pure_ (i := 3) (N := some 112) (v := ?_) (a' := ?_) #[true, true, true, true, false, false, false, false, false, false, false] rfl rfl (any_of HT_.out (by kernel_rfl)) (fun _ _ _ h => h) (Or.inl ⟨by rfl, ?_⟩) ?_ ?_
                      rotate_left
                      · intro w'
                        go_simp
                        with_reducible rfl
                      rotate_left
                      · simp only [Act.put, List.setIfInBounds_toArray, List.set_cons_zero, List.set_cons_succ, i64_w, i32_w]
                        rfl
                      refine pure_ (i := 6) (N := some 115) (v := ?_) (a' := ?_) #[true, true, true, true, false, false, true, false, false, false, false] rfl rfl (any_of HT_.out (by kernel_rfl)) (fun _ _ _ h => h) (Or.inl ⟨by rfl, ?_⟩) ?_ ?_
                      rotate_left
                      · intro w'
                        go_simp
                        with_reducible rfl
                      rotate_left
                      · simp only [Act.put, List.setIfInBounds_toArray, List.set_cons_zero, List.set_cons_succ, i64_w, i32_w]
                        rfl
                      refine take_ (i := 7) (N := some 116) (v := ?_) (a' := ?_) #[true, true, true, true, false, false, true, true, false, false, false] rfl rfl (by kernel_rfl) (fun _ _ _ h => h) (Or.inl ⟨by rfl, ?_⟩) hHeld ?_ ?_
                      rotate_left
                      · intro w' s0
                        have hcvs := Kd.C_string (P := Try.prog) (A := A2) (c := c2) Try.underlying23 Try.underlying5 Try.underlying9 s0
                        go_simp
                        with_reducible rfl
                      rotate_left
                      · simp only [Act.put, List.setIfInBounds_toArray, List.set_cons_zero, List.set_cons_succ, i64_w, i32_w]
                        rfl
                      refine one_ (i := 4) (N := some 113) #[true, true, true, true, true, false, true, true, false, false, false] rfl rfl (one_of HT_.out (by kernel_rfl)) (by decide) (fun K hK => ?_)
                      refine goes_ Try.func16 (by kernel_rfl) rfl #[.int .i64 t257, .slice Ao34 t258.length co34] (by rfl) rfl rfl (by (try simp only [List.map_toArray, List.map_cons, List.map_nil]); first | done | rfl | (simp only [List.length_drop, List.length_take]; rfl)) ?_
                      with_reducible refine (chunk_Put.calls t257 _ _ t258 t262 _ ?side1 ?side2 A32.out).mono ?_
                      (case side1 => repeat (first | exact (Kd.R_reads' HO261.out).2.2 | (with_reducible refine Kd.C_alloc ?_ _) | (with_reducible refine Kd.C_drewN ?_ _) | (with_reducible refine Kd.C_drew ?_)))
                      (case side2 => exact (Kd.R_reads' HO261.out).2.1)
                      rintro e w36 ⟨v263, rfl, ho0, hb⟩
                      refine ⟨_, rfl, ?_⟩
                      have n0_ := Aside0.mk (Kd.R_below (by (with_reducible repeat (first | apply Kd.R_alloc | apply Kd.R_drewN | apply Kd.R_drew)); exact HO261.out) hb)
                      have n1_ := Aside0.mk (Kd.R_lower ho0 (below_size (by repeat (first | (with_reducible first | exact HB.out | apply below_alloc | apply pw_below_drewN | apply below_drew1) | exact HB.out))))
                      have n2_ := Aside0.mk (below_step (by repeat (first | (with_reducible first | exact HB.out | apply below_alloc | apply pw_below_drewN | apply below_drew1) | exact HB.out)) hb)
                      clear HO261
                      clear HB
                      have HO261 := n0_
                      have HO264 := n1_
                      have HB := n2_
                      clear n0_ n1_ n2_
                      (try clear hb)
                      (try clear hb2)
                      (try clear hk)
                      (try clear hi)
                      (try clear ho0)
                      have hcv38 := Kd.C_string (P := Try.prog) (A := A2) (c := c2) Try.underlying23 Try.underlying5 Try.underlying9 (Kd.C_below HR2.out HB.out)
                      refine hK.out _ _ (by repeat (first | exact (Kd.C_below HR2.out HB.out) | (with_reducible refine Kd.C_alloc ?_ _) | (with_reducible refine Kd.C_drewN ?_ _) | (with_reducible refine Kd.C_drew ?_))) (fun hHeld => ?_)
                      clear hK K
                      refine norm_ (a' := ?_) ?_ ?_
                      rotate_left
                      · show Act.put _ (some 113) _ = _
                        simp only [Act.put, List.setIfInBounds_toArray, List.set_cons_zero, List.set_cons_succ, i64_w, i32_w]
                        rfl
                      refine one_ (i := 5) (N := some 114) #[true, true, true, true, true, true, true, true, false, false, false] rfl rfl (one_of HT_.out (by kernel_rfl)) (by decide) (fun K hK => ?_)
                      have hcv37 := own_string (P := Try.prog) Try.underlying23 Try.underlying5 Try.underlying9 (Kd.own_of_R HO264.out)
                      refine value_ (w1 := ?_) (v := ?_) (by rfl) rfl ?_ ?_
                      rotate_left 2
                      · go_simp
                        constructor
                        · rfl
                        · rfl
                      clear hcv37
                      refine hK.out _ _ (by repeat (first | exact (Kd.C_below HR2.out HB.out) | (with_reducible refine Kd.C_alloc ?_ _) | (with_reducible refine Kd.C_drewN ?_ _) | (with_reducible refine Kd.C_drew ?_))) (fun hHeld => ?_)
                      clear hK K
                      refine norm_ (a' := ?_) ?_ ?_
                      rotate_left
                      · show Act.put _ (some 114) _ = _
                        simp only [Act.put, List.setIfInBounds_toArray, List.set_cons_zero, List.set_cons_succ, i64_w, i32_w]
                        rfl
                      refine pure_ (i := 8) (N := some 117) (v := ?_) (a' := ?_) #[true, true, true, true, true, true, true, true, true, false, false] rfl rfl (any_of HT_.out (by kernel_rfl)) (fun _ _ _ h => h) (Or.inl ⟨by rfl, ?_⟩) ?_ ?_
                      rotate_left
                      · intro w'
                        go_simp
                        with_reducible rfl
                      rotate_left
                      · simp only [Act.put, List.setIfInBounds_toArray, List.set_cons_zero, List.set_cons_succ, i64_w, i32_w]
                        rfl
                      refine pure_ (i := 9) (N := some 118) (v := ?_) (a' := ?_) #[true, true, true, true, true, true, true, true, true, true, false] rfl rfl (any_of HT_.out (by kernel_rfl)) (fun _ _ _ h => h) (Or.inl ⟨by rfl, ?_⟩) ?_ ?_
                      rotate_left
                      · intro w'
                        go_simp
                        with_reducible rfl
                      rotate_left
                      · simp only [Act.put, List.setIfInBounds_toArray, List.set_cons_zero, List.set_cons_succ, i64_w, i32_w]
                        rfl
                      refine pure_ (i := 10) (N := some 6) (v := ?_) (a' := ?_) #[true, true, true, true, true, true, true, true, true, true, true] rfl rfl (any_of HT_.out (by kernel_rfl)) (fun _ _ _ h => h) (Or.inl ⟨by rfl, ?_⟩) ?_ ?_
                      rotate_left
                      · intro w'
                        go_simp
                        with_reducible rfl
                      rotate_left
                      · simp only [Act.put, List.setIfInBounds_toArray, List.set_cons_zero, List.set_cons_succ, i64_w, i32_w]
                        rfl
                      refine done_ (done_of HT_.out (by kernel_rfl)) ?_
                      try go_wp2
                      go_ret
                      exact ⟨by first | rfl | (simp [errW_none, errW_some] <;> rfl) | (simp [*, errW_none, errW_some] <;> rfl), by repeat (first | (with_reducible first | exact HB.out | apply below_alloc | apply pw_below_drewN | apply below_drew1) | exact HB.out)⟩
                    · replace c31 := Bool.eq_false_iff.mpr c31
                      subst c31
                      have H1 : (none) = some r := by rw [if_neg (show ¬ (false = true) by decide)] at H; exact H
                      clear H
                      have H := H1
                      clear H1
                      exact absurd H (by simp)
                  · replace c30 := Bool.eq_false_iff.mpr c30
                    subst c30
                    have H1 : (if t247 = true then (if t257 = 0 then (some ((t258.length : Int) == 0)) else (none)) else (none)) = some r := by rw [if_neg (show ¬ (false = true) by decide)] at H; exact H
                    clear H
                    have H := H1
                    clear H1
                    by_cases c40 : t247 = true
                    · subst c40
                      have H1 : (if t257 = 0 then (some ((t258.length : Int) == 0)) else (none)) = some r := by rw [if_pos rfl] at H; exact H
                      clear H
                      have H := H1
                      clear H1
                      by_cases c41 : t257 = 0
                      · rw [if_pos c41] at H
                        have c41b0 : (t257 == 0) = true := beq_iff_eq.mpr c41
                        have c41b1 : (t257 != 0) = false := bne_eq_false_iff_eq.mpr c41
                        clear c41
                        obtain rfl := Option.some.inj H
                        (try (have c20m : 0 < t248.length := by simpa using c20n))
                        go_wp2_with (first | ((with_reducible refine gate_callee (f := 12) rfl ?_); refine goesL_ (some 93) rfl rfl Try.func12 (by kernel_rfl) rfl #[.slice A2 l2.length c2] rfl (by (try simp only [List.map_toArray, List.map_cons, List.map_nil]); first | done | rfl | (simp only [List.length_drop, List.length_take]; rfl)) ?_; (with_reducible refine (chunk_Get.calls kj16 _ _ l2 t257 t258 false _ ?side1 ?side2 A29.out).mono ?_); (case side1 => repeat (first | exact (Kd.C_below HR2.out HB.out) | (with_reducible refine Kd.C_alloc ?_ _) | (with_reducible refine Kd.C_drewN ?_ _) | (with_reducible refine Kd.C_drew ?_))); (case side2 => exact HC2.out); rintro e w42 ⟨v260, rfl, ho0, hb⟩; refine ⟨_, rfl, ?_⟩; have n0_ := Aside0.mk (Kd.R_lower ho0 (below_size (by repeat (first | (with_reducible first | exact HB.out | apply below_alloc | apply pw_below_drewN | apply below_drew1) | exact HB.out)))); have n1_ := Aside0.mk (below_step (by repeat (first | (with_reducible first | exact HB.out | apply below_alloc | apply pw_below_drewN | apply below_drew1) | exact HB.out)) hb); clear HB; have HO261 := n0_; have HB := n1_; clear n0_ n1_; (try clear hb); (try clear hb2); (try clear hk); (try clear hi); (try clear ho0); obtain ⟨Ao43, co43, eo43⟩ := Kd.R_slice HO261.out; subst eo43))
                        go_ret
                        exact ⟨by first | rfl | (simp [errW_none, errW_some] <;> rfl) | (simp [*, errW_none, errW_some] <;> rfl), by repeat (first | (with_reducible first | exact HB.out | apply below_alloc | apply pw_below_drewN | apply below_drew1) | exact HB.out)⟩
                      · rw [if_neg c41] at H
                        exact absurd H (by simp)
                    · replace c40 := Bool.eq_false_iff.mpr c40
                      subst c40
                      have H1 : (none) = some r := by rw [if_neg (show ¬ (false = true) by decide)] at H; exact H
                      clear H
                      have H := H1
                      clear H1
                      exact absurd H (by simp)

/-- THE ONE PURE STATEMENT of symbolonlaw14_ChunkBack. -/
def symbolonlaw14_ChunkBack.Pure : Prop := ∀ (a0 : Int) (l1 : List Int) (l2 : List Int), ((Lit.int .i64 a0).wf = true) → (l1.length ≤ maxLen) → (l1.length * 8 ≤ 140737488351232) → (∀ b ∈ l1, (Lit.int .u64 b).wf = true) → (l2.length ≤ maxLen) → (l2.length * 1 ≤ 140737488351232) → (∀ b ∈ l2, (Lit.int .u8 b).wf = true) → ∃ k, symbolonlaw14_ChunkBack.f k a0 l1 l2 = some true
theorem symbolonlaw14_ChunkBack.walk (P : symbolonlaw14_ChunkBack.Pure) (a0 : Int) (A1 : Option Addr) (c1 : Nat) (l1 : List Int) (A2 : Option Addr) (c2 : Nat) (l2 : List Int) (w : World) (hr1 : Kd.C (Kd.int .u64) w A1 l1.length l1) (hc1 : l1.length ≤ c1) (hr2 : Kd.C (Kd.int .u8) w A2 l2.length l2) (hc2 : l2.length ≤ c2) (w0 : (Lit.int .i64 a0).wf = true) (m1 : l1.length ≤ maxLen) (y1 : l1.length * 8 ≤ 140737488351232) (v1 : ∀ b ∈ l1, (Lit.int .u64 b).wf = true) (m2 : l2.length ≤ maxLen) (y2 : l2.length * 1 ≤ 140737488351232) (v2 : ∀ b ∈ l2, (Lit.int .u8 b).wf = true) :
    Calls Try.prog 4 #[.int .i64 a0, .slice A1 l1.length c1, .slice A2 l2.length c2] w fun e w' => e = .returned (.bool true) ∧ Below w.heap.size w w' := by
  obtain ⟨k, h⟩ := P a0 l1 l2 w0 m1 y1 v1 m2 y2 v2
  refine (symbolonlaw14_ChunkBack.calls k a0 A1 c1 l1 A2 c2 l2 true w hr1 hc1 hr2 hc2 h).mono ?_
  rintro e w' ⟨rfl, hd⟩
  exact ⟨rfl, hd⟩

end Go.Proofs.Ytfkgacjiccgdfaa.Q
