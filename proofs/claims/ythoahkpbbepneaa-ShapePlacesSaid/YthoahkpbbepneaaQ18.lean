-- Laid by a program of this session (wip/myprint.py) in the form of the kit's print; a text of this claim, checked by Lean like any other.
import Derived.Test.YthoahkpbbepneaaQ0
import Derived.Test.YthoahkpbbepneaaQ4
import Derived.Test.YthoahkpbbepneaaQ5
import Derived.Test.YthoahkpbbepneaaQ9
import Derived.Test.YthoahkpbbepneaaQ10
namespace Go.Proofs.Ythoahkpbbepneaa.Q
open Go.RowKit Go.Proofs.YthoahkpbbepneaaW.PrintWords Go.Proofs.YthoahkpbbepneaaW.PrintLast Go.Proofs.YthoahkpbbepneaaW.PrintMore
attribute [local go_sem] max2_int min2_int max_two min_two max_three min_three max_four min_four   -- for this text's walks alone
set_option linter.unusedVariables false
set_option linter.unusedSimpArgs false

/-! ### symbolonlaw02_ShapePlaces: function 4 -/
mutual
def symbolonlaw02_ShapePlaces.j0 : Nat → Int → Int → Int → Int → Bool → Int → Int → Bool → Int → Int → Int → Option (Bool)
  | 0, _, _, _, _, _, _, _, _, _, _, _ => none
  | k + 1, x1, x2, x3, x4, x11, x12, x13, x45, x202000, x202001, x202002 => if x45 = true then (none) else ((shape_Of.f x202000 x202001 x202002 x12).bind fun bt205 => (if (bt205.2.2.2 != (decide (x12 ≥ 0))) = true then (symbolonlaw02_ShapePlaces.j1 k x4 x11 x13 true x202000 x202001 x202002) else (if bt205.2.2.2 = true then (if bt205.1 = x1 then (if bt205.2.1 = x2 then (symbolonlaw02_ShapePlaces.j1 k x4 x11 x13 (bt205.2.2.1 != x3) x202000 x202001 x202002) else (symbolonlaw02_ShapePlaces.j1 k x4 x11 x13 true x202000 x202001 x202002)) else (symbolonlaw02_ShapePlaces.j1 k x4 x11 x13 true x202000 x202001 x202002)) else (symbolonlaw02_ShapePlaces.j1 k x4 x11 x13 false x202000 x202001 x202002))))
def symbolonlaw02_ShapePlaces.j1 : Nat → Int → Bool → Int → Bool → Int → Int → Int → Option (Bool)
  | 0, _, _, _, _, _, _, _ => none
  | k + 1, x4, x11, x13, x75, x202000, x202001, x202002 => if x75 = true then (none) else ((shape_Of.f x202000 x202001 x202002 x4).bind fun bt209 => (if x11 = true then (if x4 ≥ 0 then (if (bt209.2.2.2 == (decide (x4 < x13))) = true then (if bt209.2.2.2 = true then ((shape_At.f x202000 x202001 x202002 bt209.1 bt209.2.1 bt209.2.2.1).bind fun t213 => (some (t213 == x4))) else (some true)) else (none)) else (if (bt209.2.2.2 == false) = true then (if bt209.2.2.2 = true then ((shape_At.f x202000 x202001 x202002 bt209.1 bt209.2.1 bt209.2.2.1).bind fun t214 => (some (t214 == x4))) else (some true)) else (none))) else (none)))
end
def symbolonlaw02_ShapePlaces.f (k : Nat) (a0_0 : Int) (a0_1 : Int) (a0_2 : Int) (a1 : Int) (a2 : Int) (a3 : Int) (a4 : Int) : Option (Bool) := (symbolonlaw02_head.f).bind fun t202 => ((shape_At.f a0_0 a0_1 a0_2 a1 a2 a3).bind fun t203 => ((shape_Size.f a0_0 a0_1 a0_2).bind fun t204 => (if t203 < (-1) then (symbolonlaw02_ShapePlaces.j0 k a1 a2 a3 a4 t202 t203 t204 true a0_0 a0_1 a0_2) else (if t203 ≥ (mx t204 1) then (symbolonlaw02_ShapePlaces.j0 k a1 a2 a3 a4 t202 t203 t204 true a0_0 a0_1 a0_2) else (if t203 ≥ 0 then (symbolonlaw02_ShapePlaces.j0 k a1 a2 a3 a4 t202 t203 t204 (t204 == 0) a0_0 a0_1 a0_2) else (symbolonlaw02_ShapePlaces.j0 k a1 a2 a3 a4 t202 t203 t204 false a0_0 a0_1 a0_2))))))
theorem symbolonlaw02_ShapePlaces.mono_l : ∀ k, (∀ y0 y1 y2 y3 y4 y5 y6 y7 y8 y9 y10, LeO (symbolonlaw02_ShapePlaces.j0 k y0 y1 y2 y3 y4 y5 y6 y7 y8 y9 y10) (symbolonlaw02_ShapePlaces.j0 (k + 1) y0 y1 y2 y3 y4 y5 y6 y7 y8 y9 y10)) ∧ (∀ y0 y1 y2 y3 y4 y5 y6, LeO (symbolonlaw02_ShapePlaces.j1 k y0 y1 y2 y3 y4 y5 y6) (symbolonlaw02_ShapePlaces.j1 (k + 1) y0 y1 y2 y3 y4 y5 y6))
  | 0 => ⟨fun _ _ _ _ _ _ _ _ _ _ _ r h => by simp [symbolonlaw02_ShapePlaces.j0] at h, fun _ _ _ _ _ _ _ r h => by simp [symbolonlaw02_ShapePlaces.j1] at h⟩
  | k + 1 => by
    obtain ⟨ih0, ih1⟩ := symbolonlaw02_ShapePlaces.mono_l k
    refine ⟨?_, ?_⟩
    · intro y0 y1 y2 y3 y4 y5 y6 y7 y8 y9 y10
      unfold symbolonlaw02_ShapePlaces.j0
      repeat' first
      | (with_reducible exact ih0 _ _ _ _ _ _ _ _ _ _ _)
      | (with_reducible exact ih1 _ _ _ _ _ _ _)
      | (with_reducible exact LeO.refl _)
      | (with_reducible exact LeO.none _)
      | (with_reducible refine LeO.ite ?_ ?_)
      | (with_reducible refine LeO.bind ?_ (fun _ => ?_))
      | exact ih0 _ _ _ _ _ _ _ _ _ _ _
      | exact ih1 _ _ _ _ _ _ _
      | exact LeO.none _
      | refine LeO.ite ?_ ?_
      | refine LeO.bind ?_ (fun _ => ?_)
    · intro y0 y1 y2 y3 y4 y5 y6
      unfold symbolonlaw02_ShapePlaces.j1
      repeat' first
      | (with_reducible exact ih0 _ _ _ _ _ _ _ _ _ _ _)
      | (with_reducible exact ih1 _ _ _ _ _ _ _)
      | (with_reducible exact LeO.refl _)
      | (with_reducible exact LeO.none _)
      | (with_reducible refine LeO.ite ?_ ?_)
      | (with_reducible refine LeO.bind ?_ (fun _ => ?_))
      | exact ih0 _ _ _ _ _ _ _ _ _ _ _
      | exact ih1 _ _ _ _ _ _ _
      | exact LeO.none _
      | refine LeO.ite ?_ ?_
      | refine LeO.bind ?_ (fun _ => ?_)
theorem symbolonlaw02_ShapePlaces.mono : ∀ a0 a1 a2 a3 a4 a5 a6 k, LeO (symbolonlaw02_ShapePlaces.f k a0 a1 a2 a3 a4 a5 a6) (symbolonlaw02_ShapePlaces.f (k + 1) a0 a1 a2 a3 a4 a5 a6) := by
  intro a0 a1 a2 a3 a4 a5 a6 k
  obtain ⟨ih0, ih1⟩ := symbolonlaw02_ShapePlaces.mono_l k
  unfold symbolonlaw02_ShapePlaces.f
  repeat' first
      | (with_reducible exact ih0 _ _ _ _ _ _ _ _ _ _ _)
      | (with_reducible exact ih1 _ _ _ _ _ _ _)
      | (with_reducible exact LeO.refl _)
      | (with_reducible exact LeO.none _)
      | (with_reducible refine LeO.ite ?_ ?_)
      | (with_reducible refine LeO.bind ?_ (fun _ => ?_))
      | exact ih0 _ _ _ _ _ _ _ _ _ _ _
      | exact ih1 _ _ _ _ _ _ _
      | exact LeO.none _
      | refine LeO.ite ?_ ?_
      | refine LeO.bind ?_ (fun _ => ?_)
set_option maxHeartbeats 8000000 in
set_option maxRecDepth 100000 in
theorem symbolonlaw02_ShapePlaces.calls (k : Nat) (a0_0 : Int) (a0_1 : Int) (a0_2 : Int) (a1 : Int) (a2 : Int) (a3 : Int) (a4 : Int) (r : Bool) (w : World) (h : symbolonlaw02_ShapePlaces.f k a0_0 a0_1 a0_2 a1 a2 a3 a4 = some r) :
    Calls Try.prog 4 #[.agg #[.int .i64 a0_0, .int .i64 a0_1, .int .i64 a0_2], .int .i64 a1, .int .i64 a2, .int .i64 a3, .int .i64 a4] w fun e w' => e = .returned (.bool r) ∧ Below w.heap.size w w' := by
  have hu23 := Try.underlying23
  have HB := Aside0.mk (Below.refl w.heap.size w)
  have H : ((symbolonlaw02_head.f).bind fun t202 => ((shape_At.f a0_0 a0_1 a0_2 a1 a2 a3).bind fun t203 => ((shape_Size.f a0_0 a0_1 a0_2).bind fun t204 => (if t203 < (-1) then (symbolonlaw02_ShapePlaces.j0 k a1 a2 a3 a4 t202 t203 t204 true a0_0 a0_1 a0_2) else (if t203 ≥ (mx t204 1) then (symbolonlaw02_ShapePlaces.j0 k a1 a2 a3 a4 t202 t203 t204 true a0_0 a0_1 a0_2) else (if t203 ≥ 0 then (symbolonlaw02_ShapePlaces.j0 k a1 a2 a3 a4 t202 t203 t204 (t204 == 0) a0_0 a0_1 a0_2) else (symbolonlaw02_ShapePlaces.j0 k a1 a2 a3 a4 t202 t203 t204 false a0_0 a0_1 a0_2))))))) = some r := h
  clear h
  replace H := Option.bind_eq_some_iff.mp H
  obtain ⟨t202, A60, H⟩ := H
  replace H : ((shape_At.f a0_0 a0_1 a0_2 a1 a2 a3).bind fun t203 => ((shape_Size.f a0_0 a0_1 a0_2).bind fun t204 => (if t203 < (-1) then (symbolonlaw02_ShapePlaces.j0 k a1 a2 a3 a4 t202 t203 t204 true a0_0 a0_1 a0_2) else (if t203 ≥ (mx t204 1) then (symbolonlaw02_ShapePlaces.j0 k a1 a2 a3 a4 t202 t203 t204 true a0_0 a0_1 a0_2) else (if t203 ≥ 0 then (symbolonlaw02_ShapePlaces.j0 k a1 a2 a3 a4 t202 t203 t204 (t204 == 0) a0_0 a0_1 a0_2) else (symbolonlaw02_ShapePlaces.j0 k a1 a2 a3 a4 t202 t203 t204 false a0_0 a0_1 a0_2)))))) = some r := H
  have A6 := Aside0.mk A60
  clear A60
  replace H := Option.bind_eq_some_iff.mp H
  obtain ⟨t203, A70, H⟩ := H
  replace H : ((shape_Size.f a0_0 a0_1 a0_2).bind fun t204 => (if t203 < (-1) then (symbolonlaw02_ShapePlaces.j0 k a1 a2 a3 a4 t202 t203 t204 true a0_0 a0_1 a0_2) else (if t203 ≥ (mx t204 1) then (symbolonlaw02_ShapePlaces.j0 k a1 a2 a3 a4 t202 t203 t204 true a0_0 a0_1 a0_2) else (if t203 ≥ 0 then (symbolonlaw02_ShapePlaces.j0 k a1 a2 a3 a4 t202 t203 t204 (t204 == 0) a0_0 a0_1 a0_2) else (symbolonlaw02_ShapePlaces.j0 k a1 a2 a3 a4 t202 t203 t204 false a0_0 a0_1 a0_2))))) = some r := H
  have A7 := Aside0.mk A70
  clear A70
  replace H := Option.bind_eq_some_iff.mp H
  obtain ⟨t204, A80, H⟩ := H
  replace H : (if t203 < (-1) then (symbolonlaw02_ShapePlaces.j0 k a1 a2 a3 a4 t202 t203 t204 true a0_0 a0_1 a0_2) else (if t203 ≥ (mx t204 1) then (symbolonlaw02_ShapePlaces.j0 k a1 a2 a3 a4 t202 t203 t204 true a0_0 a0_1 a0_2) else (if t203 ≥ 0 then (symbolonlaw02_ShapePlaces.j0 k a1 a2 a3 a4 t202 t203 t204 (t204 == 0) a0_0 a0_1 a0_2) else (symbolonlaw02_ShapePlaces.j0 k a1 a2 a3 a4 t202 t203 t204 false a0_0 a0_1 a0_2)))) = some r := H
  have A8 := Aside0.mk A80
  clear A80
  have HC9 := Aside0.mk H
  clear H
  go_enter Try.func4, Try.ntmps4
  go_upto_region 4 with (first | ((with_reducible refine gate_dst (N := 5) rfl ?_); (try (refine gate_guard (by rfl) ?_; dsimp only)); refine box_event ?hg (N := 5) ?hd (cs := #[.int .i64 a0_0, .int .i64 a0_1, .int .i64 a0_2]) (t := 23) ?hr ?_; (case hd => rfl); (case hg => rfl); (case hr => first | (go_simp; done) | (go_simp; rfl)); intro gb201 hg w10 hbox hb; have n0_ := Aside0.mk (below_step (by repeat (first | (with_reducible first | exact HB.out | apply below_alloc | apply pw_below_drewN | apply below_drew1) | exact HB.out)) hb); have n1_ := Aside0.mk (hbox); have n2_ := Aside0.mk ((by rw [hg]; exact (below_size (by repeat (first | (with_reducible first | exact HB.out | apply below_alloc | apply pw_below_drewN | apply below_drew1) | exact HB.out))) : w.heap.size ≤ gb201)); have n3_ := Aside0.mk ((by rw [hg]; exact (below_size (by repeat (first | (with_reducible first | exact HB.out | apply below_alloc | apply pw_below_drewN | apply below_drew1) | exact HB.out))) : w.heap.size ≤ gb201)); clear HB; have HB := n0_; have BK201 := n1_; have GW201 := n2_; have GE201 := n3_; clear n0_ n1_ n2_ n3_; clear hb hbox hg) | ((with_reducible refine gate_callee (f := 10) rfl ?_); refine goesL_ (some 22) rfl rfl Try.func10 (by kernel_rfl) rfl #[] rfl (by (try simp only [List.map_toArray, List.map_cons, List.map_nil]); first | done | rfl | (simp only [List.length_drop, List.length_take]; rfl)) ?_; (with_reducible refine (symbolonlaw02_head.calls  t202 _ A6.out).mono ?_); rintro e w11 ⟨rfl, hb⟩; refine ⟨_, rfl, ?_⟩; have n0_ := Aside0.mk (blk_below (g := gb201) (o := .cells #[.int .i64 a0_0, .int .i64 a0_1, .int .i64 a0_2] 23 (0, 0)) (by (with_reducible repeat (first | refine blk_drewN ?_ _ | refine blk_drew ?_ | refine blk_alloc ?_ _)); exact BK201.out) hb); have n1_ := Aside0.mk (below_step (by repeat (first | (with_reducible first | exact HB.out | apply below_alloc | apply pw_below_drewN | apply below_drew1 | refine below_set ?_ GE201.out) | exact HB.out)) hb); clear BK201; clear HB; have BK201 := n0_; have HB := n1_; clear n0_ n1_; (try clear hb); (try clear hb2); (try clear hk); (try clear hi); have hcz12_0 : w11.cell? ⟨gb201, 0, none⟩ = some (.int .i64 a0_0) := (blk_cell BK201.out 0).trans rfl; have hcz12_1 : w11.cell? ⟨gb201, 1, none⟩ = some (.int .i64 a0_1) := (blk_cell BK201.out 1).trans rfl; have hcz12_2 : w11.cell? ⟨gb201, 2, none⟩ = some (.int .i64 a0_2) := (blk_cell BK201.out 2).trans rfl; have hfz12_0 := blk_frozen BK201.out 0; have hfz12_1 := blk_frozen BK201.out 1; have hfz12_2 := blk_frozen BK201.out 2) | ((with_reducible refine gate_callee (f := 21) rfl ?_); refine goesL_ (some 27) rfl rfl Try.func21 (by kernel_rfl) rfl #[.agg #[.int .i64 a0_0, .int .i64 a0_1, .int .i64 a0_2], .int .i64 a1, .int .i64 a2, .int .i64 a3] rfl (by (try simp only [List.map_toArray, List.map_cons, List.map_nil]); first | done | rfl | (simp only [List.length_drop, List.length_take]; rfl)) ?_; (with_reducible refine (shape_At.calls a0_0 a0_1 a0_2 a1 a2 a3 t203 _ A7.out).mono ?_); rintro e w13 ⟨rfl, hb⟩; refine ⟨_, rfl, ?_⟩; have n0_ := Aside0.mk (blk_below (g := gb201) (o := .cells #[.int .i64 a0_0, .int .i64 a0_1, .int .i64 a0_2] 23 (0, 0)) (by (with_reducible repeat (first | refine blk_drewN ?_ _ | refine blk_drew ?_ | refine blk_alloc ?_ _)); exact BK201.out) hb); have n1_ := Aside0.mk (below_step (by repeat (first | (with_reducible first | exact HB.out | apply below_alloc | apply pw_below_drewN | apply below_drew1 | refine below_set ?_ GE201.out) | exact HB.out)) hb); clear BK201; clear HB; have BK201 := n0_; have HB := n1_; clear n0_ n1_; (try clear hb); (try clear hb2); (try clear hk); (try clear hi); have hcz14_0 : w13.cell? ⟨gb201, 0, none⟩ = some (.int .i64 a0_0) := (blk_cell BK201.out 0).trans rfl; have hcz14_1 : w13.cell? ⟨gb201, 1, none⟩ = some (.int .i64 a0_1) := (blk_cell BK201.out 1).trans rfl; have hcz14_2 : w13.cell? ⟨gb201, 2, none⟩ = some (.int .i64 a0_2) := (blk_cell BK201.out 2).trans rfl; have hfz14_0 := blk_frozen BK201.out 0; have hfz14_1 := blk_frozen BK201.out 1; have hfz14_2 := blk_frozen BK201.out 2) | ((with_reducible refine gate_callee (f := 19) rfl ?_); refine goesL_ (some 29) rfl rfl Try.func19 (by kernel_rfl) rfl #[.agg #[.int .i64 a0_0, .int .i64 a0_1, .int .i64 a0_2]] rfl (by (try simp only [List.map_toArray, List.map_cons, List.map_nil]); first | done | rfl | (simp only [List.length_drop, List.length_take]; rfl)) ?_; (with_reducible refine (shape_Size.calls a0_0 a0_1 a0_2 t204 _ A8.out).mono ?_); rintro e w15 ⟨rfl, hb⟩; refine ⟨_, rfl, ?_⟩; have n0_ := Aside0.mk (blk_below (g := gb201) (o := .cells #[.int .i64 a0_0, .int .i64 a0_1, .int .i64 a0_2] 23 (0, 0)) (by (with_reducible repeat (first | refine blk_drewN ?_ _ | refine blk_drew ?_ | refine blk_alloc ?_ _)); exact BK201.out) hb); have n1_ := Aside0.mk (below_step (by repeat (first | (with_reducible first | exact HB.out | apply below_alloc | apply pw_below_drewN | apply below_drew1 | refine below_set ?_ GE201.out) | exact HB.out)) hb); clear BK201; clear HB; have BK201 := n0_; have HB := n1_; clear n0_ n1_; (try clear hb); (try clear hb2); (try clear hk); (try clear hi)))
  (try simp only [Act.put, List.setIfInBounds_toArray, List.set_cons_zero, List.set_cons_succ])
  go_cut [45] (fun v45 wc => ∃ (kq : Nat) (x45_8 : Bool), v45 = .bool x45_8 ∧ Aside0 (symbolonlaw02_ShapePlaces.j0 kq a1 a2 a3 a4 t202 t203 t204 x45_8 a0_0 a0_1 a0_2 = some r) ∧ Aside0 (kq ≤ k) ∧ Aside0 (wc.heap[gb201]? = some (.cells #[.int .i64 a0_0, .int .i64 a0_1, .int .i64 a0_2] 23 (0, 0))) ∧ Aside0 (Below w.heap.size w wc))
  case first =>
    have H := HC9.out
    clear HC9
    by_cases c16 : t203 < (-1)
    · rw [if_pos c16] at H
      have c16b0 : decide (t203 < (-1)) = true := decide_eq_true c16
      clear c16
      (first | rw [c16b0] | (simp only [i64_w, i32_w]; rw [c16b0]) | skip)
      have H' := Aside0.mk H
      clear H
      go_wp2
      go_meet
      case rel => exact ⟨_, (true), (by first | rfl | (simp; done) | (simp [*]; done)), H', ⟨by first | omega | exact Nat.le_refl _⟩, ⟨by (with_reducible repeat (first | refine blk_drewN ?_ _ | refine blk_drew ?_ | refine blk_alloc ?_ _)); exact BK201.out⟩, ⟨by repeat (first | (with_reducible first | exact HB.out | apply below_alloc | apply pw_below_drewN | apply below_drew1 | refine below_set ?_ GE201.out) | exact HB.out)⟩⟩
    · rw [if_neg c16] at H
      have c16b0 : decide (t203 < (-1)) = false := decide_eq_false c16
      clear c16
      (first | rw [c16b0] | (simp only [i64_w, i32_w]; rw [c16b0]) | skip)
      obtain ⟨ji17, hji17⟩ : ∃ j_ : Int, (mx t204 1) = j_ := ⟨_, rfl⟩
      replace H : (if t203 ≥ (ji17) then (symbolonlaw02_ShapePlaces.j0 k a1 a2 a3 a4 t202 t203 t204 true a0_0 a0_1 a0_2) else (if t203 ≥ 0 then (symbolonlaw02_ShapePlaces.j0 k a1 a2 a3 a4 t202 t203 t204 (t204 == 0) a0_0 a0_1 a0_2) else (symbolonlaw02_ShapePlaces.j0 k a1 a2 a3 a4 t202 t203 t204 false a0_0 a0_1 a0_2))) = some r := by first | (rw [hji17] at H; exact H) | (simp only [hji17] at H ⊢; exact H)
      (try (have hji17l : 1 ≤ ji17 := by (rw [← hji17]; unfold mx; (repeat' split) <;> omega)))
      (try (have hji17m : 0 ≤ ji17 := by omega))
      have hji17_ : (if t204 < 1 then 1 else t204) = ji17 := hji17
      by_cases c18 : t203 ≥ (ji17)
      · rw [if_pos c18] at H
        have c18b0 : decide ((ji17) ≤ t203) = true := decide_eq_true c18
        clear c18
        have H' := Aside0.mk H
        clear H
        go_wp2
        go_meet
        case rel => exact ⟨_, (true), (by first | rfl | (simp; done) | (simp [*]; done)), H', ⟨by first | omega | exact Nat.le_refl _⟩, ⟨by (with_reducible repeat (first | refine blk_drewN ?_ _ | refine blk_drew ?_ | refine blk_alloc ?_ _)); exact BK201.out⟩, ⟨by repeat (first | (with_reducible first | exact HB.out | apply below_alloc | apply pw_below_drewN | apply below_drew1 | refine below_set ?_ GE201.out) | exact HB.out)⟩⟩
      · rw [if_neg c18] at H
        have c18b0 : decide ((ji17) ≤ t203) = false := decide_eq_false c18
        clear c18
        by_cases c19 : t203 ≥ 0
        · rw [if_pos c19] at H
          have c19b0 : decide (0 ≤ t203) = true := decide_eq_true c19
          clear c19
          have H' := Aside0.mk H
          clear H
          go_wp2
          go_meet
          case rel => exact ⟨_, ((t204 == 0)), (by first | rfl | (simp; done) | (simp [*]; done)), H', ⟨by first | omega | exact Nat.le_refl _⟩, ⟨by (with_reducible repeat (first | refine blk_drewN ?_ _ | refine blk_drew ?_ | refine blk_alloc ?_ _)); exact BK201.out⟩, ⟨by repeat (first | (with_reducible first | exact HB.out | apply below_alloc | apply pw_below_drewN | apply below_drew1 | refine below_set ?_ GE201.out) | exact HB.out)⟩⟩
        · rw [if_neg c19] at H
          have c19b0 : decide (0 ≤ t203) = false := decide_eq_false c19
          clear c19
          have H' := Aside0.mk H
          clear H
          go_wp2
          go_meet
          case rel => exact ⟨_, (false), (by first | rfl | (simp; done) | (simp [*]; done)), H', ⟨by first | omega | exact Nat.le_refl _⟩, ⟨by (with_reducible repeat (first | refine blk_drewN ?_ _ | refine blk_drew ?_ | refine blk_alloc ?_ _)); exact BK201.out⟩, ⟨by repeat (first | (with_reducible first | exact HB.out | apply below_alloc | apply pw_below_drewN | apply below_drew1 | refine below_set ?_ GE201.out) | exact HB.out)⟩⟩
  case rest =>
    clear HC9
    try clear c1
    try clear c2
    try clear p2
    try clear c4
    try clear c10
    try clear c16
    try clear c16b0
    try clear c18
    try clear c18b0
    try clear c19
    try clear c19b0
    try clear hcz12_0
    try clear hcz12_1
    try clear hcz12_2
    try clear hcz14_0
    try clear hcz14_1
    try clear hcz14_2
    try clear hfz12_0
    try clear hfz12_1
    try clear hfz12_2
    try clear hfz14_0
    try clear hfz14_1
    try clear hfz14_2
    obtain ⟨kq, x45_8, rfl, HA, HJ8, BK201, HB⟩ := hcut
    cases kq with
    | zero => exact absurd HA.out (by simp [symbolonlaw02_ShapePlaces.j0])
    | succ kj8 =>
      have H := HA.out
      clear HA
      simp only [symbolonlaw02_ShapePlaces.j0] at H
      by_cases c20 : x45_8 = true
      · subst c20
        have H1 : (none) = some r := by rw [if_pos rfl] at H; exact H
        clear H
        have H := H1
        clear H1
        exact absurd H (by simp)
      · replace c20 := Bool.eq_false_iff.mpr c20
        subst c20
        have H1 : ((shape_Of.f a0_0 a0_1 a0_2 t203).bind fun bt205 => (if (bt205.2.2.2 != (decide (t203 ≥ 0))) = true then (symbolonlaw02_ShapePlaces.j1 kj8 a4 t202 t204 true a0_0 a0_1 a0_2) else (if bt205.2.2.2 = true then (if bt205.1 = a1 then (if bt205.2.1 = a2 then (symbolonlaw02_ShapePlaces.j1 kj8 a4 t202 t204 (bt205.2.2.1 != a3) a0_0 a0_1 a0_2) else (symbolonlaw02_ShapePlaces.j1 kj8 a4 t202 t204 true a0_0 a0_1 a0_2)) else (symbolonlaw02_ShapePlaces.j1 kj8 a4 t202 t204 true a0_0 a0_1 a0_2)) else (symbolonlaw02_ShapePlaces.j1 kj8 a4 t202 t204 false a0_0 a0_1 a0_2)))) = some r := by rw [if_neg (show ¬ (false = true) by decide)] at H; exact H
        clear H
        have H := H1
        clear H1
        replace H := Option.bind_eq_some_iff.mp H
        obtain ⟨⟨t205, t206, t207, t208⟩, A210, H⟩ := H
        replace H : (if (t208 != (decide (t203 ≥ 0))) = true then (symbolonlaw02_ShapePlaces.j1 kj8 a4 t202 t204 true a0_0 a0_1 a0_2) else (if t208 = true then (if t205 = a1 then (if t206 = a2 then (symbolonlaw02_ShapePlaces.j1 kj8 a4 t202 t204 (t207 != a3) a0_0 a0_1 a0_2) else (symbolonlaw02_ShapePlaces.j1 kj8 a4 t202 t204 true a0_0 a0_1 a0_2)) else (symbolonlaw02_ShapePlaces.j1 kj8 a4 t202 t204 true a0_0 a0_1 a0_2)) else (symbolonlaw02_ShapePlaces.j1 kj8 a4 t202 t204 false a0_0 a0_1 a0_2))) = some r := H
        have A21 := Aside0.mk A210
        clear A210
        have HC22 := Aside0.mk H
        clear H
        have hcz23_0 : wc.cell? ⟨gb201, 0, none⟩ = some (.int .i64 a0_0) := (blk_cell BK201.out 0).trans rfl
        have hcz23_1 : wc.cell? ⟨gb201, 1, none⟩ = some (.int .i64 a0_1) := (blk_cell BK201.out 1).trans rfl
        have hcz23_2 : wc.cell? ⟨gb201, 2, none⟩ = some (.int .i64 a0_2) := (blk_cell BK201.out 2).trans rfl
        have hfz23_0 := blk_frozen BK201.out 0
        have hfz23_1 := blk_frozen BK201.out 1
        have hfz23_2 := blk_frozen BK201.out 2
        go_upto_region 7 with (first | ((with_reducible refine gate_callee (f := 11) rfl ?_); refine goesL_ (some 49) rfl rfl Try.func11 (by kernel_rfl) rfl #[.agg #[.int .i64 a0_0, .int .i64 a0_1, .int .i64 a0_2], .int .i64 t203] rfl (by (try simp only [List.map_toArray, List.map_cons, List.map_nil]); first | done | rfl | (simp only [List.length_drop, List.length_take]; rfl)) ?_; (with_reducible refine (shape_Of.calls a0_0 a0_1 a0_2 t203 t205 t206 t207 t208 _ A21.out).mono ?_); rintro e w24 ⟨rfl, hb⟩; refine ⟨_, rfl, ?_⟩; have n0_ := Aside0.mk (blk_below (g := gb201) (o := .cells #[.int .i64 a0_0, .int .i64 a0_1, .int .i64 a0_2] 23 (0, 0)) (by (with_reducible repeat (first | refine blk_drewN ?_ _ | refine blk_drew ?_ | refine blk_alloc ?_ _)); exact BK201.out) hb); have n1_ := Aside0.mk (below_step (by repeat (first | (with_reducible first | exact HB.out | apply below_alloc | apply pw_below_drewN | apply below_drew1 | refine below_set ?_ GE201.out) | exact HB.out)) hb); clear BK201; clear HB; have BK201 := n0_; have HB := n1_; clear n0_ n1_; (try clear hb); (try clear hb2); (try clear hk); (try clear hi)))
        (try simp only [Act.put, List.setIfInBounds_toArray, List.set_cons_zero, List.set_cons_succ])
        go_cut [75] (fun v75 wc => ∃ (kq : Nat) (x75_21 : Bool), v75 = .bool x75_21 ∧ Aside0 (symbolonlaw02_ShapePlaces.j1 kq a4 t202 t204 x75_21 a0_0 a0_1 a0_2 = some r) ∧ Aside0 (kq ≤ kj8) ∧ Aside0 (wc.heap[gb201]? = some (.cells #[.int .i64 a0_0, .int .i64 a0_1, .int .i64 a0_2] 23 (0, 0))) ∧ Aside0 (Below w.heap.size w wc))
        case first =>
          have H := HC22.out
          clear HC22
          by_cases c25 : (t208 != (decide (t203 ≥ 0))) = true
          · rw [if_pos c25] at H
            have c25b0 : (t208 != (decide (t203 ≥ 0))) = true := c25
            (try (have c25b1 : decide (t208 = (decide (t203 ≥ 0))) = false := by simpa using c25))
            (try (have c25b2 : (t208 == (decide (t203 ≥ 0))) = false := by simpa using c25))
            (try (have c25b3 : ¬ (t208 = (decide (t203 ≥ 0))) := by simpa using c25))
            clear c25
            (first | rw [c25b0] | (simp only [i64_w, i32_w]; rw [c25b0]) | skip)
            have H' := Aside0.mk H
            clear H
            go_wp2
            go_meet
            case rel => exact ⟨_, (true), (by first | rfl | (simp; done) | (simp [*]; done)), H', ⟨by have := HJ8.out; first | omega | exact Nat.le_refl _⟩, ⟨by (with_reducible repeat (first | refine blk_drewN ?_ _ | refine blk_drew ?_ | refine blk_alloc ?_ _)); exact BK201.out⟩, ⟨by repeat (first | (with_reducible first | exact HB.out | apply below_alloc | apply pw_below_drewN | apply below_drew1 | refine below_set ?_ GE201.out) | exact HB.out)⟩⟩
          · rw [if_neg c25] at H
            have c25b0 : (t208 != (decide (t203 ≥ 0))) = false := by simpa using c25
            (try (have c25b1 : decide (t208 = (decide (t203 ≥ 0))) = true := by simpa using c25))
            (try (have c25b2 : (t208 == (decide (t203 ≥ 0))) = true := by simpa using c25))
            clear c25
            (first | rw [c25b0] | (simp only [i64_w, i32_w]; rw [c25b0]) | skip)
            by_cases c26 : t208 = true
            · subst c26
              have H1 : (if t205 = a1 then (if t206 = a2 then (symbolonlaw02_ShapePlaces.j1 kj8 a4 t202 t204 (t207 != a3) a0_0 a0_1 a0_2) else (symbolonlaw02_ShapePlaces.j1 kj8 a4 t202 t204 true a0_0 a0_1 a0_2)) else (symbolonlaw02_ShapePlaces.j1 kj8 a4 t202 t204 true a0_0 a0_1 a0_2)) = some r := by rw [if_pos rfl] at H; exact H
              clear H
              have H := H1
              clear H1
              by_cases c27 : t205 = a1
              · rw [if_pos c27] at H
                have c27b0 : (t205 == a1) = true := beq_iff_eq.mpr c27
                have c27b1 : (t205 != a1) = false := bne_eq_false_iff_eq.mpr c27
                clear c27
                by_cases c28 : t206 = a2
                · rw [if_pos c28] at H
                  have c28b0 : (t206 == a2) = true := beq_iff_eq.mpr c28
                  have c28b1 : (t206 != a2) = false := bne_eq_false_iff_eq.mpr c28
                  clear c28
                  have H' := Aside0.mk H
                  clear H
                  go_wp2
                  go_meet
                  case rel => exact ⟨_, ((t207 != a3)), (by first | rfl | (simp; done) | (simp [*]; done)), H', ⟨by have := HJ8.out; first | omega | exact Nat.le_refl _⟩, ⟨by (with_reducible repeat (first | refine blk_drewN ?_ _ | refine blk_drew ?_ | refine blk_alloc ?_ _)); exact BK201.out⟩, ⟨by repeat (first | (with_reducible first | exact HB.out | apply below_alloc | apply pw_below_drewN | apply below_drew1 | refine below_set ?_ GE201.out) | exact HB.out)⟩⟩
                · rw [if_neg c28] at H
                  have c28b0 : (t206 == a2) = false := beq_eq_false_iff_ne.mpr c28
                  have c28b1 : (t206 != a2) = true := bne_iff_ne.mpr c28
                  have H' := Aside0.mk H
                  clear H
                  go_wp2
                  go_meet
                  case rel => exact ⟨_, (true), (by first | rfl | (simp; done) | (simp [*]; done)), H', ⟨by have := HJ8.out; first | omega | exact Nat.le_refl _⟩, ⟨by (with_reducible repeat (first | refine blk_drewN ?_ _ | refine blk_drew ?_ | refine blk_alloc ?_ _)); exact BK201.out⟩, ⟨by repeat (first | (with_reducible first | exact HB.out | apply below_alloc | apply pw_below_drewN | apply below_drew1 | refine below_set ?_ GE201.out) | exact HB.out)⟩⟩
              · rw [if_neg c27] at H
                have c27b0 : (t205 == a1) = false := beq_eq_false_iff_ne.mpr c27
                have c27b1 : (t205 != a1) = true := bne_iff_ne.mpr c27
                have H' := Aside0.mk H
                clear H
                go_wp2
                go_meet
                case rel => exact ⟨_, (true), (by first | rfl | (simp; done) | (simp [*]; done)), H', ⟨by have := HJ8.out; first | omega | exact Nat.le_refl _⟩, ⟨by (with_reducible repeat (first | refine blk_drewN ?_ _ | refine blk_drew ?_ | refine blk_alloc ?_ _)); exact BK201.out⟩, ⟨by repeat (first | (with_reducible first | exact HB.out | apply below_alloc | apply pw_below_drewN | apply below_drew1 | refine below_set ?_ GE201.out) | exact HB.out)⟩⟩
            · replace c26 := Bool.eq_false_iff.mpr c26
              subst c26
              have H1 : (symbolonlaw02_ShapePlaces.j1 kj8 a4 t202 t204 false a0_0 a0_1 a0_2) = some r := by rw [if_neg (show ¬ (false = true) by decide)] at H; exact H
              clear H
              have H := H1
              clear H1
              have H' := Aside0.mk H
              clear H
              go_wp2
              go_meet
              case rel => exact ⟨_, (false), (by first | rfl | (simp; done) | (simp [*]; done)), H', ⟨by have := HJ8.out; first | omega | exact Nat.le_refl _⟩, ⟨by (with_reducible repeat (first | refine blk_drewN ?_ _ | refine blk_drew ?_ | refine blk_alloc ?_ _)); exact BK201.out⟩, ⟨by repeat (first | (with_reducible first | exact HB.out | apply below_alloc | apply pw_below_drewN | apply below_drew1 | refine below_set ?_ GE201.out) | exact HB.out)⟩⟩
        case rest =>
          clear HC22
          try clear c1
          try clear c2
          try clear p2
          try clear c4
          try clear c10
          try clear c11
          try clear c16
          try clear c16b0
          try clear c18
          try clear c18b0
          try clear c19
          try clear c19b0
          try clear c20
          try clear c21
          try clear c25
          try clear c25b0
          try clear c25b1
          try clear c25b2
          try clear c26
          try clear c27
          try clear c27b0
          try clear c27b1
          try clear c28
          try clear c28b0
          try clear c28b1
          try clear hcz12_0
          try clear hcz12_1
          try clear hcz12_2
          try clear hcz14_0
          try clear hcz14_1
          try clear hcz14_2
          try clear hcz23_0
          try clear hcz23_1
          try clear hcz23_2
          try clear hfz12_0
          try clear hfz12_1
          try clear hfz12_2
          try clear hfz14_0
          try clear hfz14_1
          try clear hfz14_2
          try clear hfz23_0
          try clear hfz23_1
          try clear hfz23_2
          try clear p2
          obtain ⟨kq, x75_21, rfl, HA, HJ21, BK201, HB⟩ := hcut
          cases kq with
          | zero => exact absurd HA.out (by simp [symbolonlaw02_ShapePlaces.j1])
          | succ kj21 =>
            have H := HA.out
            clear HA
            simp only [symbolonlaw02_ShapePlaces.j1] at H
            by_cases c29 : x75_21 = true
            · subst c29
              have H1 : (none) = some r := by rw [if_pos rfl] at H; exact H
              clear H
              have H := H1
              clear H1
              exact absurd H (by simp)
            · replace c29 := Bool.eq_false_iff.mpr c29
              subst c29
              have H1 : ((shape_Of.f a0_0 a0_1 a0_2 a4).bind fun bt209 => (if t202 = true then (if a4 ≥ 0 then (if (bt209.2.2.2 == (decide (a4 < t204))) = true then (if bt209.2.2.2 = true then ((shape_At.f a0_0 a0_1 a0_2 bt209.1 bt209.2.1 bt209.2.2.1).bind fun t213 => (some (t213 == a4))) else (some true)) else (none)) else (if (bt209.2.2.2 == false) = true then (if bt209.2.2.2 = true then ((shape_At.f a0_0 a0_1 a0_2 bt209.1 bt209.2.1 bt209.2.2.1).bind fun t214 => (some (t214 == a4))) else (some true)) else (none))) else (none))) = some r := by rw [if_neg (show ¬ (false = true) by decide)] at H; exact H
              clear H
              have H := H1
              clear H1
              replace H := Option.bind_eq_some_iff.mp H
              obtain ⟨⟨t209, t210, t211, t212⟩, A300, H⟩ := H
              replace H : (if t202 = true then (if a4 ≥ 0 then (if (t212 == (decide (a4 < t204))) = true then (if t212 = true then ((shape_At.f a0_0 a0_1 a0_2 t209 t210 t211).bind fun t213 => (some (t213 == a4))) else (some true)) else (none)) else (if (t212 == false) = true then (if t212 = true then ((shape_At.f a0_0 a0_1 a0_2 t209 t210 t211).bind fun t214 => (some (t214 == a4))) else (some true)) else (none))) else (none)) = some r := H
              have A30 := Aside0.mk A300
              clear A300
              by_cases c31 : t202 = true
              · subst c31
                have H1 : (if a4 ≥ 0 then (if (t212 == (decide (a4 < t204))) = true then (if t212 = true then ((shape_At.f a0_0 a0_1 a0_2 t209 t210 t211).bind fun t213 => (some (t213 == a4))) else (some true)) else (none)) else (if (t212 == false) = true then (if t212 = true then ((shape_At.f a0_0 a0_1 a0_2 t209 t210 t211).bind fun t214 => (some (t214 == a4))) else (some true)) else (none))) = some r := by rw [if_pos rfl] at H; exact H
                clear H
                have H := H1
                clear H1
                by_cases c32 : a4 ≥ 0
                · rw [if_pos c32] at H
                  have c32b0 : decide (0 ≤ a4) = true := decide_eq_true c32
                  clear c32
                  by_cases c33 : (t212 == (decide (a4 < t204))) = true
                  · rw [if_pos c33] at H
                    have c33b0 : (t212 == (decide (a4 < t204))) = true := c33
                    (try (have c33b1 : decide (t212 = (decide (a4 < t204))) = true := by simpa using c33))
                    (try (have c33b2 : (t212 == (decide (a4 < t204))) = true := by simpa using c33))
                    clear c33
                    by_cases c34 : t212 = true
                    · subst c34
                      have H1 : ((shape_At.f a0_0 a0_1 a0_2 t209 t210 t211).bind fun t213 => (some (t213 == a4))) = some r := by rw [if_pos rfl] at H; exact H
                      clear H
                      have H := H1
                      clear H1
                      replace H := Option.bind_eq_some_iff.mp H
                      obtain ⟨t213, A350, H⟩ := H
                      replace H : (some (t213 == a4)) = some r := H
                      have A35 := Aside0.mk A350
                      clear A350
                      obtain rfl := Option.some.inj H
                      have hcz36_0 : wc.cell? ⟨gb201, 0, none⟩ = some (.int .i64 a0_0) := (blk_cell BK201.out 0).trans rfl
                      have hcz36_1 : wc.cell? ⟨gb201, 1, none⟩ = some (.int .i64 a0_1) := (blk_cell BK201.out 1).trans rfl
                      have hcz36_2 : wc.cell? ⟨gb201, 2, none⟩ = some (.int .i64 a0_2) := (blk_cell BK201.out 2).trans rfl
                      have hfz36_0 := blk_frozen BK201.out 0
                      have hfz36_1 := blk_frozen BK201.out 1
                      have hfz36_2 := blk_frozen BK201.out 2
                      go_wp2_with (first | ((with_reducible refine gate_callee (f := 11) rfl ?_); refine goesL_ (some 79) rfl rfl Try.func11 (by kernel_rfl) rfl #[.agg #[.int .i64 a0_0, .int .i64 a0_1, .int .i64 a0_2], .int .i64 a4] rfl (by (try simp only [List.map_toArray, List.map_cons, List.map_nil]); first | done | rfl | (simp only [List.length_drop, List.length_take]; rfl)) ?_; (with_reducible refine (shape_Of.calls a0_0 a0_1 a0_2 a4 t209 t210 t211 true _ A30.out).mono ?_); rintro e w37 ⟨rfl, hb⟩; refine ⟨_, rfl, ?_⟩; have n0_ := Aside0.mk (blk_below (g := gb201) (o := .cells #[.int .i64 a0_0, .int .i64 a0_1, .int .i64 a0_2] 23 (0, 0)) (by (with_reducible repeat (first | refine blk_drewN ?_ _ | refine blk_drew ?_ | refine blk_alloc ?_ _)); exact BK201.out) hb); have n1_ := Aside0.mk (below_step (by repeat (first | (with_reducible first | exact HB.out | apply below_alloc | apply pw_below_drewN | apply below_drew1 | refine below_set ?_ GE201.out) | exact HB.out)) hb); clear BK201; clear HB; have BK201 := n0_; have HB := n1_; clear n0_ n1_; (try clear hb); (try clear hb2); (try clear hk); (try clear hi); have hcz38_0 : w37.cell? ⟨gb201, 0, none⟩ = some (.int .i64 a0_0) := (blk_cell BK201.out 0).trans rfl; have hcz38_1 : w37.cell? ⟨gb201, 1, none⟩ = some (.int .i64 a0_1) := (blk_cell BK201.out 1).trans rfl; have hcz38_2 : w37.cell? ⟨gb201, 2, none⟩ = some (.int .i64 a0_2) := (blk_cell BK201.out 2).trans rfl; have hfz38_0 := blk_frozen BK201.out 0; have hfz38_1 := blk_frozen BK201.out 1; have hfz38_2 := blk_frozen BK201.out 2) | (go_at_call 21; (with_reducible refine (shape_At.calls a0_0 a0_1 a0_2 t209 t210 t211 t213 _ A35.out).mono ?_); rintro e w39 ⟨rfl, hb⟩; have n0_ := Aside0.mk (blk_below (g := gb201) (o := .cells #[.int .i64 a0_0, .int .i64 a0_1, .int .i64 a0_2] 23 (0, 0)) (by (with_reducible repeat (first | refine blk_drewN ?_ _ | refine blk_drew ?_ | refine blk_alloc ?_ _)); exact BK201.out) hb); have n1_ := Aside0.mk (below_step (by repeat (first | (with_reducible first | exact HB.out | apply below_alloc | apply pw_below_drewN | apply below_drew1 | refine below_set ?_ GE201.out) | exact HB.out)) hb); clear BK201; clear HB; have BK201 := n0_; have HB := n1_; clear n0_ n1_; (try clear hb); (try clear hb2); (try clear hk); (try clear hi)))
                      go_ret
                      exact ⟨by first | rfl | (simp [errW_none, errW_some] <;> rfl) | (simp [*, errW_none, errW_some] <;> rfl), by repeat (first | (with_reducible first | exact HB.out | apply below_alloc | apply pw_below_drewN | apply below_drew1 | refine below_set ?_ GE201.out) | exact HB.out)⟩
                    · replace c34 := Bool.eq_false_iff.mpr c34
                      subst c34
                      have H1 : (some true) = some r := by rw [if_neg (show ¬ (false = true) by decide)] at H; exact H
                      clear H
                      have H := H1
                      clear H1
                      obtain rfl := Option.some.inj H
                      have hcz40_0 : wc.cell? ⟨gb201, 0, none⟩ = some (.int .i64 a0_0) := (blk_cell BK201.out 0).trans rfl
                      have hcz40_1 : wc.cell? ⟨gb201, 1, none⟩ = some (.int .i64 a0_1) := (blk_cell BK201.out 1).trans rfl
                      have hcz40_2 : wc.cell? ⟨gb201, 2, none⟩ = some (.int .i64 a0_2) := (blk_cell BK201.out 2).trans rfl
                      have hfz40_0 := blk_frozen BK201.out 0
                      have hfz40_1 := blk_frozen BK201.out 1
                      have hfz40_2 := blk_frozen BK201.out 2
                      go_wp2_with (first | ((with_reducible refine gate_callee (f := 11) rfl ?_); refine goesL_ (some 79) rfl rfl Try.func11 (by kernel_rfl) rfl #[.agg #[.int .i64 a0_0, .int .i64 a0_1, .int .i64 a0_2], .int .i64 a4] rfl (by (try simp only [List.map_toArray, List.map_cons, List.map_nil]); first | done | rfl | (simp only [List.length_drop, List.length_take]; rfl)) ?_; (with_reducible refine (shape_Of.calls a0_0 a0_1 a0_2 a4 t209 t210 t211 false _ A30.out).mono ?_); rintro e w41 ⟨rfl, hb⟩; refine ⟨_, rfl, ?_⟩; have n0_ := Aside0.mk (blk_below (g := gb201) (o := .cells #[.int .i64 a0_0, .int .i64 a0_1, .int .i64 a0_2] 23 (0, 0)) (by (with_reducible repeat (first | refine blk_drewN ?_ _ | refine blk_drew ?_ | refine blk_alloc ?_ _)); exact BK201.out) hb); have n1_ := Aside0.mk (below_step (by repeat (first | (with_reducible first | exact HB.out | apply below_alloc | apply pw_below_drewN | apply below_drew1 | refine below_set ?_ GE201.out) | exact HB.out)) hb); clear BK201; clear HB; have BK201 := n0_; have HB := n1_; clear n0_ n1_; (try clear hb); (try clear hb2); (try clear hk); (try clear hi)))
                      go_ret
                      exact ⟨by first | rfl | (simp [errW_none, errW_some] <;> rfl) | (simp [*, errW_none, errW_some] <;> rfl), by repeat (first | (with_reducible first | exact HB.out | apply below_alloc | apply pw_below_drewN | apply below_drew1 | refine below_set ?_ GE201.out) | exact HB.out)⟩
                  · rw [if_neg c33] at H
                    exact absurd H (by simp)
                · rw [if_neg c32] at H
                  have c32b0 : decide (0 ≤ a4) = false := decide_eq_false c32
                  clear c32
                  by_cases c42 : (t212 == false) = true
                  · rw [if_pos c42] at H
                    have c42b0 : (t212 == false) = true := c42
                    (try (have c42b1 : decide (t212 = false) = true := by simpa using c42))
                    (try (have c42b2 : (t212 == false) = true := by simpa using c42))
                    clear c42
                    by_cases c43 : t212 = true
                    · subst c43
                      have H1 : ((shape_At.f a0_0 a0_1 a0_2 t209 t210 t211).bind fun t214 => (some (t214 == a4))) = some r := by rw [if_pos rfl] at H; exact H
                      clear H
                      have H := H1
                      clear H1
                      replace H := Option.bind_eq_some_iff.mp H
                      obtain ⟨t214, A440, H⟩ := H
                      replace H : (some (t214 == a4)) = some r := H
                      have A44 := Aside0.mk A440
                      clear A440
                      obtain rfl := Option.some.inj H
                      have hcz45_0 : wc.cell? ⟨gb201, 0, none⟩ = some (.int .i64 a0_0) := (blk_cell BK201.out 0).trans rfl
                      have hcz45_1 : wc.cell? ⟨gb201, 1, none⟩ = some (.int .i64 a0_1) := (blk_cell BK201.out 1).trans rfl
                      have hcz45_2 : wc.cell? ⟨gb201, 2, none⟩ = some (.int .i64 a0_2) := (blk_cell BK201.out 2).trans rfl
                      have hfz45_0 := blk_frozen BK201.out 0
                      have hfz45_1 := blk_frozen BK201.out 1
                      have hfz45_2 := blk_frozen BK201.out 2
                      go_wp2_with (first | ((with_reducible refine gate_callee (f := 11) rfl ?_); refine goesL_ (some 79) rfl rfl Try.func11 (by kernel_rfl) rfl #[.agg #[.int .i64 a0_0, .int .i64 a0_1, .int .i64 a0_2], .int .i64 a4] rfl (by (try simp only [List.map_toArray, List.map_cons, List.map_nil]); first | done | rfl | (simp only [List.length_drop, List.length_take]; rfl)) ?_; (with_reducible refine (shape_Of.calls a0_0 a0_1 a0_2 a4 t209 t210 t211 true _ A30.out).mono ?_); rintro e w46 ⟨rfl, hb⟩; refine ⟨_, rfl, ?_⟩; have n0_ := Aside0.mk (blk_below (g := gb201) (o := .cells #[.int .i64 a0_0, .int .i64 a0_1, .int .i64 a0_2] 23 (0, 0)) (by (with_reducible repeat (first | refine blk_drewN ?_ _ | refine blk_drew ?_ | refine blk_alloc ?_ _)); exact BK201.out) hb); have n1_ := Aside0.mk (below_step (by repeat (first | (with_reducible first | exact HB.out | apply below_alloc | apply pw_below_drewN | apply below_drew1 | refine below_set ?_ GE201.out) | exact HB.out)) hb); clear BK201; clear HB; have BK201 := n0_; have HB := n1_; clear n0_ n1_; (try clear hb); (try clear hb2); (try clear hk); (try clear hi); have hcz47_0 : w46.cell? ⟨gb201, 0, none⟩ = some (.int .i64 a0_0) := (blk_cell BK201.out 0).trans rfl; have hcz47_1 : w46.cell? ⟨gb201, 1, none⟩ = some (.int .i64 a0_1) := (blk_cell BK201.out 1).trans rfl; have hcz47_2 : w46.cell? ⟨gb201, 2, none⟩ = some (.int .i64 a0_2) := (blk_cell BK201.out 2).trans rfl; have hfz47_0 := blk_frozen BK201.out 0; have hfz47_1 := blk_frozen BK201.out 1; have hfz47_2 := blk_frozen BK201.out 2) | (go_at_call 21; (with_reducible refine (shape_At.calls a0_0 a0_1 a0_2 t209 t210 t211 t214 _ A44.out).mono ?_); rintro e w48 ⟨rfl, hb⟩; have n0_ := Aside0.mk (blk_below (g := gb201) (o := .cells #[.int .i64 a0_0, .int .i64 a0_1, .int .i64 a0_2] 23 (0, 0)) (by (with_reducible repeat (first | refine blk_drewN ?_ _ | refine blk_drew ?_ | refine blk_alloc ?_ _)); exact BK201.out) hb); have n1_ := Aside0.mk (below_step (by repeat (first | (with_reducible first | exact HB.out | apply below_alloc | apply pw_below_drewN | apply below_drew1 | refine below_set ?_ GE201.out) | exact HB.out)) hb); clear BK201; clear HB; have BK201 := n0_; have HB := n1_; clear n0_ n1_; (try clear hb); (try clear hb2); (try clear hk); (try clear hi)))
                      go_ret
                      exact ⟨by first | rfl | (simp [errW_none, errW_some] <;> rfl) | (simp [*, errW_none, errW_some] <;> rfl), by repeat (first | (with_reducible first | exact HB.out | apply below_alloc | apply pw_below_drewN | apply below_drew1 | refine below_set ?_ GE201.out) | exact HB.out)⟩
                    · replace c43 := Bool.eq_false_iff.mpr c43
                      subst c43
                      have H1 : (some true) = some r := by rw [if_neg (show ¬ (false = true) by decide)] at H; exact H
                      clear H
                      have H := H1
                      clear H1
                      obtain rfl := Option.some.inj H
                      have hcz49_0 : wc.cell? ⟨gb201, 0, none⟩ = some (.int .i64 a0_0) := (blk_cell BK201.out 0).trans rfl
                      have hcz49_1 : wc.cell? ⟨gb201, 1, none⟩ = some (.int .i64 a0_1) := (blk_cell BK201.out 1).trans rfl
                      have hcz49_2 : wc.cell? ⟨gb201, 2, none⟩ = some (.int .i64 a0_2) := (blk_cell BK201.out 2).trans rfl
                      have hfz49_0 := blk_frozen BK201.out 0
                      have hfz49_1 := blk_frozen BK201.out 1
                      have hfz49_2 := blk_frozen BK201.out 2
                      go_wp2_with (first | ((with_reducible refine gate_callee (f := 11) rfl ?_); refine goesL_ (some 79) rfl rfl Try.func11 (by kernel_rfl) rfl #[.agg #[.int .i64 a0_0, .int .i64 a0_1, .int .i64 a0_2], .int .i64 a4] rfl (by (try simp only [List.map_toArray, List.map_cons, List.map_nil]); first | done | rfl | (simp only [List.length_drop, List.length_take]; rfl)) ?_; (with_reducible refine (shape_Of.calls a0_0 a0_1 a0_2 a4 t209 t210 t211 false _ A30.out).mono ?_); rintro e w50 ⟨rfl, hb⟩; refine ⟨_, rfl, ?_⟩; have n0_ := Aside0.mk (blk_below (g := gb201) (o := .cells #[.int .i64 a0_0, .int .i64 a0_1, .int .i64 a0_2] 23 (0, 0)) (by (with_reducible repeat (first | refine blk_drewN ?_ _ | refine blk_drew ?_ | refine blk_alloc ?_ _)); exact BK201.out) hb); have n1_ := Aside0.mk (below_step (by repeat (first | (with_reducible first | exact HB.out | apply below_alloc | apply pw_below_drewN | apply below_drew1 | refine below_set ?_ GE201.out) | exact HB.out)) hb); clear BK201; clear HB; have BK201 := n0_; have HB := n1_; clear n0_ n1_; (try clear hb); (try clear hb2); (try clear hk); (try clear hi)))
                      go_ret
                      exact ⟨by first | rfl | (simp [errW_none, errW_some] <;> rfl) | (simp [*, errW_none, errW_some] <;> rfl), by repeat (first | (with_reducible first | exact HB.out | apply below_alloc | apply pw_below_drewN | apply below_drew1 | refine below_set ?_ GE201.out) | exact HB.out)⟩
                  · rw [if_neg c42] at H
                    exact absurd H (by simp)
              · replace c31 := Bool.eq_false_iff.mpr c31
                subst c31
                have H1 : (none) = some r := by rw [if_neg (show ¬ (false = true) by decide)] at H; exact H
                clear H
                have H := H1
                clear H1
                exact absurd H (by simp)

/-- THE ONE PURE STATEMENT of symbolonlaw02_ShapePlaces. -/
def symbolonlaw02_ShapePlaces.Pure : Prop := ∀ (a0_0 : Int) (a0_1 : Int) (a0_2 : Int) (a1 : Int) (a2 : Int) (a3 : Int) (a4 : Int), ((Lit.int .i64 a0_0).wf = true) → ((Lit.int .i64 a0_1).wf = true) → ((Lit.int .i64 a0_2).wf = true) → ((Lit.int .i64 a1).wf = true) → ((Lit.int .i64 a2).wf = true) → ((Lit.int .i64 a3).wf = true) → ((Lit.int .i64 a4).wf = true) → ∃ k, symbolonlaw02_ShapePlaces.f k a0_0 a0_1 a0_2 a1 a2 a3 a4 = some true
theorem symbolonlaw02_ShapePlaces.walk (P : symbolonlaw02_ShapePlaces.Pure) (a0_0 : Int) (a0_1 : Int) (a0_2 : Int) (a1 : Int) (a2 : Int) (a3 : Int) (a4 : Int) (w : World) (w0_0 : (Lit.int .i64 a0_0).wf = true) (w0_1 : (Lit.int .i64 a0_1).wf = true) (w0_2 : (Lit.int .i64 a0_2).wf = true) (w1 : (Lit.int .i64 a1).wf = true) (w2 : (Lit.int .i64 a2).wf = true) (w3 : (Lit.int .i64 a3).wf = true) (w4 : (Lit.int .i64 a4).wf = true) :
    Calls Try.prog 4 #[.agg #[.int .i64 a0_0, .int .i64 a0_1, .int .i64 a0_2], .int .i64 a1, .int .i64 a2, .int .i64 a3, .int .i64 a4] w fun e w' => e = .returned (.bool true) ∧ Below w.heap.size w w' := by
  obtain ⟨k, h⟩ := P a0_0 a0_1 a0_2 a1 a2 a3 a4 w0_0 w0_1 w0_2 w1 w2 w3 w4
  refine (symbolonlaw02_ShapePlaces.calls k a0_0 a0_1 a0_2 a1 a2 a3 a4 true w h).mono ?_
  rintro e w' ⟨rfl, hd⟩
  exact ⟨rfl, hd⟩

end Go.Proofs.Ythoahkpbbepneaa.Q
