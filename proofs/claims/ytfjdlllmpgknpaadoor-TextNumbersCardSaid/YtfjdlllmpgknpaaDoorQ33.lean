-- Laid by a program of this session (wip/myprint.py) in the form of the kit's print; a text of this claim, checked by Lean like any other.
import Derived.Test.YtfjdlllmpgknpaaDoorQ0
import Derived.Test.YtfjdlllmpgknpaaDoorSTabs
import Derived.Test.YtfjdlllmpgknpaaDoorQ2
import Derived.Test.YtfjdlllmpgknpaaDoorQ7
import Derived.Test.YtfjdlllmpgknpaaDoorQ23
namespace Go.Proofs.YtfjdlllmpgknpaaDoor.Q
open Go.RowKit Go.Proofs.YtfjdlllmpgknpaaDoorW.PrintWords Go.Proofs.YtfjdlllmpgknpaaDoorW.PrintLast Go.Proofs.YtfjdlllmpgknpaaDoorW.PrintMore
attribute [local go_sem] max2_int min2_int max_two min_two max_three min_three max_four min_four   -- for this text's walks alone
set_option linter.unusedVariables false
set_option linter.unusedSimpArgs false

/-! ### symbolonlaw03_TextNumbers: function 4 -/
mutual
def symbolonlaw03_TextNumbers.j0 : Nat → Int → ByteArray → Int → Bool → ByteArray → Int → Bool → Int → Bool → Bool → Option (Bool)
  | 0, _, _, _, _, _, _, _, _, _, _ => none
  | k + 1, x0, x1, x2, x7, x8, x9, x10, x11, x12, x13 => if ((x8.toList != ([] : List UInt8)) != x13) = true then (symbolonlaw03_TextNumbers.j1 k x0 x2 x7 x8 true) else (if (x10 != x13) = true then (symbolonlaw03_TextNumbers.j1 k x0 x2 x7 x8 true) else (if x13 = true then (if x9 = x0 then (if x12 = true then ((text_Number.f x11).bind fun t205 => (symbolonlaw03_TextNumbers.j1 k x0 x2 x7 x8 (t205.toList != x1.toList))) else (symbolonlaw03_TextNumbers.j1 k x0 x2 x7 x8 false)) else (symbolonlaw03_TextNumbers.j1 k x0 x2 x7 x8 true)) else (if x12 = true then ((text_Number.f x11).bind fun t206 => (symbolonlaw03_TextNumbers.j1 k x0 x2 x7 x8 (t206.toList != x1.toList))) else (symbolonlaw03_TextNumbers.j1 k x0 x2 x7 x8 false))))
def symbolonlaw03_TextNumbers.j1 : Nat → Int → Int → Bool → ByteArray → Bool → Option (Bool)
  | 0, _, _, _, _, _ => none
  | k + 1, x0, x2, x7, x8, x64 => if x64 = true then (none) else (if x0 < 1 then (some x7) else (if x0 > 99999 then (some x7) else ((some (([(48 + (Int.tmod x2 10)) % 256] : List Int) : List Int)).bind fun y207 => (if x8.size + (strOfNums y207).size ≤ 9223372036854775807 then ((text_Get.f (x8 ++ (strOfNums y207))).bind fun bt210 => (if x7 = true then (if bt210.2 = true then (some (bt210.1 == (wrap64 ((wrap64 (10 * x0)) + (wrap64 (Int.tmod x2 10)))))) else (none)) else (none))) else (none)))))
end
def symbolonlaw03_TextNumbers.f (k : Nat) (a0 : Int) (a1 : ByteArray) (a2 : Int) : Option (Bool) := (symbolonlaw03_head.f k).bind fun t199 => (if (a1.size : Int) > 3000 then (some t199) else ((text_Number.f a0).bind fun t200 => ((text_Get.f t200).bind fun bt201 => ((text_Get.f a1).bind fun bt203 => (if a0 ≥ 0 then (symbolonlaw03_TextNumbers.j0 k a0 a1 a2 t199 t200 bt201.1 bt201.2 bt203.1 bt203.2 (decide (a0 ≤ 999999))) else (symbolonlaw03_TextNumbers.j0 k a0 a1 a2 t199 t200 bt201.1 bt201.2 bt203.1 bt203.2 false))))))
theorem symbolonlaw03_TextNumbers.mono_l : ∀ k, (∀ y0 y1 y2 y3 y4 y5 y6 y7 y8 y9, LeO (symbolonlaw03_TextNumbers.j0 k y0 y1 y2 y3 y4 y5 y6 y7 y8 y9) (symbolonlaw03_TextNumbers.j0 (k + 1) y0 y1 y2 y3 y4 y5 y6 y7 y8 y9)) ∧ (∀ y0 y1 y2 y3 y4, LeO (symbolonlaw03_TextNumbers.j1 k y0 y1 y2 y3 y4) (symbolonlaw03_TextNumbers.j1 (k + 1) y0 y1 y2 y3 y4))
  | 0 => ⟨fun _ _ _ _ _ _ _ _ _ _ r h => by simp [symbolonlaw03_TextNumbers.j0] at h, fun _ _ _ _ _ r h => by simp [symbolonlaw03_TextNumbers.j1] at h⟩
  | k + 1 => by
    obtain ⟨ih0, ih1⟩ := symbolonlaw03_TextNumbers.mono_l k
    refine ⟨?_, ?_⟩
    · intro y0 y1 y2 y3 y4 y5 y6 y7 y8 y9
      unfold symbolonlaw03_TextNumbers.j0
      repeat' first
      | (with_reducible exact ih0 _ _ _ _ _ _ _ _ _ _)
      | (with_reducible exact ih1 _ _ _ _ _)
      | (with_reducible exact symbolonlaw03_head.mono _)
      | (with_reducible exact LeO.refl _)
      | (with_reducible exact LeO.none _)
      | (with_reducible refine LeO.ite ?_ ?_)
      | (with_reducible refine LeO.bind ?_ (fun _ => ?_))
      | exact ih0 _ _ _ _ _ _ _ _ _ _
      | exact ih1 _ _ _ _ _
      | exact symbolonlaw03_head.mono _
      | exact LeO.none _
      | refine LeO.ite ?_ ?_
      | refine LeO.bind ?_ (fun _ => ?_)
    · intro y0 y1 y2 y3 y4
      unfold symbolonlaw03_TextNumbers.j1
      repeat' first
      | (with_reducible exact ih0 _ _ _ _ _ _ _ _ _ _)
      | (with_reducible exact ih1 _ _ _ _ _)
      | (with_reducible exact symbolonlaw03_head.mono _)
      | (with_reducible exact LeO.refl _)
      | (with_reducible exact LeO.none _)
      | (with_reducible refine LeO.ite ?_ ?_)
      | (with_reducible refine LeO.bind ?_ (fun _ => ?_))
      | exact ih0 _ _ _ _ _ _ _ _ _ _
      | exact ih1 _ _ _ _ _
      | exact symbolonlaw03_head.mono _
      | exact LeO.none _
      | refine LeO.ite ?_ ?_
      | refine LeO.bind ?_ (fun _ => ?_)
theorem symbolonlaw03_TextNumbers.mono : ∀ a0 a1 a2 k, LeO (symbolonlaw03_TextNumbers.f k a0 a1 a2) (symbolonlaw03_TextNumbers.f (k + 1) a0 a1 a2) := by
  intro a0 a1 a2 k
  obtain ⟨ih0, ih1⟩ := symbolonlaw03_TextNumbers.mono_l k
  unfold symbolonlaw03_TextNumbers.f
  repeat' first
      | (with_reducible exact ih0 _ _ _ _ _ _ _ _ _ _)
      | (with_reducible exact ih1 _ _ _ _ _)
      | (with_reducible exact symbolonlaw03_head.mono _)
      | (with_reducible exact LeO.refl _)
      | (with_reducible exact LeO.none _)
      | (with_reducible refine LeO.ite ?_ ?_)
      | (with_reducible refine LeO.bind ?_ (fun _ => ?_))
      | exact ih0 _ _ _ _ _ _ _ _ _ _
      | exact ih1 _ _ _ _ _
      | exact symbolonlaw03_head.mono _
      | exact LeO.none _
      | refine LeO.ite ?_ ?_
      | refine LeO.bind ?_ (fun _ => ?_)
set_option maxHeartbeats 8000000 in
set_option maxRecDepth 100000 in
theorem symbolonlaw03_TextNumbers.calls (k : Nat) (a0 : Int) (a1 : ByteArray) (a2 : Int) (r : Bool) (w : World) (h : symbolonlaw03_TextNumbers.f k a0 a1 a2 = some r) (hT : S.Tabs w) :
    Calls Tryd.prog 4 #[.int .i64 a0, .string a1, .int .u8 a2] w fun e w' => e = .returned (.bool r) ∧ Below w.heap.size w w' := by
  have HB := Aside0.mk (Below.refl w.heap.size w)
  have HT := Aside0.mk hT
  clear hT
  have H : ((symbolonlaw03_head.f k).bind fun t199 => (if (a1.size : Int) > 3000 then (some t199) else ((text_Number.f a0).bind fun t200 => ((text_Get.f t200).bind fun bt201 => ((text_Get.f a1).bind fun bt203 => (if a0 ≥ 0 then (symbolonlaw03_TextNumbers.j0 k a0 a1 a2 t199 t200 bt201.1 bt201.2 bt203.1 bt203.2 (decide (a0 ≤ 999999))) else (symbolonlaw03_TextNumbers.j0 k a0 a1 a2 t199 t200 bt201.1 bt201.2 bt203.1 bt203.2 false))))))) = some r := h
  clear h
  replace H := Option.bind_eq_some_iff.mp H
  obtain ⟨t199, A40, H⟩ := H
  replace H : (if (a1.size : Int) > 3000 then (some t199) else ((text_Number.f a0).bind fun t200 => ((text_Get.f t200).bind fun bt201 => ((text_Get.f a1).bind fun bt203 => (if a0 ≥ 0 then (symbolonlaw03_TextNumbers.j0 k a0 a1 a2 t199 t200 bt201.1 bt201.2 bt203.1 bt203.2 (decide (a0 ≤ 999999))) else (symbolonlaw03_TextNumbers.j0 k a0 a1 a2 t199 t200 bt201.1 bt201.2 bt203.1 bt203.2 false)))))) = some r := H
  have A4 := Aside0.mk A40
  clear A40
  by_cases c5 : (a1.size : Int) > 3000
  · rw [if_pos c5] at H
    have c5b0 : decide (3000 < (a1.size : Int)) = true := decide_eq_true c5
    have c5b1 : decide (3000 < a1.size) = true := decide_eq_true (by omega)
    clear c5
    obtain rfl := Option.some.inj H
    go_enter Tryd.func4, Tryd.ntmps4
    go_wp2_with (first | ((with_reducible refine gate_callee (f := 9) rfl ?_); refine goesL_ (some 16) rfl rfl Tryd.func9 (by kernel_rfl) rfl #[] rfl (by (try simp only [List.map_toArray, List.map_cons, List.map_nil]); first | done | rfl | (simp only [List.length_drop, List.length_take]; rfl)) ?_; (with_reducible refine (symbolonlaw03_head.calls k  t199 _ A4.out (S.Tabs.below HT.out (by repeat (first | (with_reducible first | exact HB.out | apply below_alloc | apply pw_below_drewN | apply below_drew1) | exact HB.out)))).mono ?_); rintro e w6 ⟨rfl, hb⟩; refine ⟨_, rfl, ?_⟩; have n0_ := Aside0.mk (below_step (by repeat (first | (with_reducible first | exact HB.out | apply below_alloc | apply pw_below_drewN | apply below_drew1) | exact HB.out)) hb); clear HB; have HB := n0_; clear n0_; (try clear hb); (try clear hb2); (try clear hk); (try clear hi)))
    go_ret
    exact ⟨by first | rfl | (simp [errW_none, errW_some] <;> rfl) | (simp [*, errW_none, errW_some] <;> rfl), by repeat (first | (with_reducible first | exact HB.out | apply below_alloc | apply pw_below_drewN | apply below_drew1) | exact HB.out)⟩
  · rw [if_neg c5] at H
    have c5b0 : decide (3000 < (a1.size : Int)) = false := decide_eq_false c5
    have c5b1 : decide (3000 < a1.size) = false := decide_eq_false (by omega)
    clear c5
    replace H := Option.bind_eq_some_iff.mp H
    obtain ⟨t200, A70, H⟩ := H
    replace H : ((text_Get.f t200).bind fun bt201 => ((text_Get.f a1).bind fun bt203 => (if a0 ≥ 0 then (symbolonlaw03_TextNumbers.j0 k a0 a1 a2 t199 t200 bt201.1 bt201.2 bt203.1 bt203.2 (decide (a0 ≤ 999999))) else (symbolonlaw03_TextNumbers.j0 k a0 a1 a2 t199 t200 bt201.1 bt201.2 bt203.1 bt203.2 false)))) = some r := H
    have A7 := Aside0.mk A70
    clear A70
    replace H := Option.bind_eq_some_iff.mp H
    obtain ⟨⟨t201, t202⟩, A80, H⟩ := H
    replace H : ((text_Get.f a1).bind fun bt203 => (if a0 ≥ 0 then (symbolonlaw03_TextNumbers.j0 k a0 a1 a2 t199 t200 t201 t202 bt203.1 bt203.2 (decide (a0 ≤ 999999))) else (symbolonlaw03_TextNumbers.j0 k a0 a1 a2 t199 t200 t201 t202 bt203.1 bt203.2 false))) = some r := H
    have A8 := Aside0.mk A80
    clear A80
    replace H := Option.bind_eq_some_iff.mp H
    obtain ⟨⟨t203, t204⟩, A90, H⟩ := H
    replace H : (if a0 ≥ 0 then (symbolonlaw03_TextNumbers.j0 k a0 a1 a2 t199 t200 t201 t202 t203 t204 (decide (a0 ≤ 999999))) else (symbolonlaw03_TextNumbers.j0 k a0 a1 a2 t199 t200 t201 t202 t203 t204 false)) = some r := H
    have A9 := Aside0.mk A90
    clear A90
    have HC10 := Aside0.mk H
    clear H
    go_enter Tryd.func4, Tryd.ntmps4
    go_upto_region 7 with (first | ((with_reducible refine gate_callee (f := 9) rfl ?_); refine goesL_ (some 16) rfl rfl Tryd.func9 (by kernel_rfl) rfl #[] rfl (by (try simp only [List.map_toArray, List.map_cons, List.map_nil]); first | done | rfl | (simp only [List.length_drop, List.length_take]; rfl)) ?_; (with_reducible refine (symbolonlaw03_head.calls k  t199 _ A4.out (S.Tabs.below HT.out (by repeat (first | (with_reducible first | exact HB.out | apply below_alloc | apply pw_below_drewN | apply below_drew1) | exact HB.out)))).mono ?_); rintro e w11 ⟨rfl, hb⟩; refine ⟨_, rfl, ?_⟩; have n0_ := Aside0.mk (below_step (by repeat (first | (with_reducible first | exact HB.out | apply below_alloc | apply pw_below_drewN | apply below_drew1) | exact HB.out)) hb); clear HB; have HB := n0_; clear n0_; (try clear hb); (try clear hb2); (try clear hk); (try clear hi)) | ((with_reducible refine gate_callee (f := 17) rfl ?_); refine goesL_ (some 22) rfl rfl Tryd.func17 (by kernel_rfl) rfl #[.int .i64 a0] rfl (by (try simp only [List.map_toArray, List.map_cons, List.map_nil]); first | done | rfl | (simp only [List.length_drop, List.length_take]; rfl)) ?_; (with_reducible refine (text_Number.calls a0 t200 _ A7.out (S.Tabs.below HT.out (by repeat (first | (with_reducible first | exact HB.out | apply below_alloc | apply pw_below_drewN | apply below_drew1) | exact HB.out)))).mono ?_); rintro e w12 ⟨rfl, hb⟩; refine ⟨_, rfl, ?_⟩; have n0_ := Aside0.mk (below_step (by repeat (first | (with_reducible first | exact HB.out | apply below_alloc | apply pw_below_drewN | apply below_drew1) | exact HB.out)) hb); clear HB; have HB := n0_; clear n0_; (try clear hb); (try clear hb2); (try clear hk); (try clear hi)) | ((with_reducible refine gate_callee (f := 11) rfl ?_); refine goesL_ (some 25) rfl rfl Tryd.func11 (by kernel_rfl) rfl #[.string t200] rfl (by (try simp only [List.map_toArray, List.map_cons, List.map_nil]); first | done | rfl | (simp only [List.length_drop, List.length_take]; rfl)) ?_; (with_reducible refine (text_Get.calls t200 t201 t202 _ A8.out (S.Tabs.below HT.out (by repeat (first | (with_reducible first | exact HB.out | apply below_alloc | apply pw_below_drewN | apply below_drew1) | exact HB.out)))).mono ?_); rintro e w13 ⟨rfl, hb⟩; refine ⟨_, rfl, ?_⟩; have n0_ := Aside0.mk (below_step (by repeat (first | (with_reducible first | exact HB.out | apply below_alloc | apply pw_below_drewN | apply below_drew1) | exact HB.out)) hb); clear HB; have HB := n0_; clear n0_; (try clear hb); (try clear hb2); (try clear hk); (try clear hi)) | ((with_reducible refine gate_callee (f := 11) rfl ?_); refine goesL_ (some 30) rfl rfl Tryd.func11 (by kernel_rfl) rfl #[.string a1] rfl (by (try simp only [List.map_toArray, List.map_cons, List.map_nil]); first | done | rfl | (simp only [List.length_drop, List.length_take]; rfl)) ?_; (with_reducible refine (text_Get.calls a1 t203 t204 _ A9.out (S.Tabs.below HT.out (by repeat (first | (with_reducible first | exact HB.out | apply below_alloc | apply pw_below_drewN | apply below_drew1) | exact HB.out)))).mono ?_); rintro e w14 ⟨rfl, hb⟩; refine ⟨_, rfl, ?_⟩; have n0_ := Aside0.mk (below_step (by repeat (first | (with_reducible first | exact HB.out | apply below_alloc | apply pw_below_drewN | apply below_drew1) | exact HB.out)) hb); clear HB; have HB := n0_; clear n0_; (try clear hb); (try clear hb2); (try clear hk); (try clear hi)))
    (try simp only [Act.put, List.setIfInBounds_toArray, List.set_cons_zero, List.set_cons_succ])
    go_cut [13] (fun v13 wc => ∃ (kq : Nat) (x13_9 : Bool), v13 = .bool x13_9 ∧ Aside0 (symbolonlaw03_TextNumbers.j0 kq a0 a1 a2 t199 t200 t201 t202 t203 t204 x13_9 = some r) ∧ Aside0 (kq ≤ k) ∧ Aside0 (Below w.heap.size w wc))
    case first =>
      have H := HC10.out
      clear HC10
      by_cases c15 : a0 ≥ 0
      · rw [if_pos c15] at H
        have c15b0 : decide (0 ≤ a0) = true := decide_eq_true c15
        clear c15
        (first | rw [c15b0] | (simp only [i64_w, i32_w]; rw [c15b0]) | skip)
        have H' := Aside0.mk H
        clear H
        go_wp2
        go_meet
        case rel => exact ⟨_, (decide (a0 ≤ 999999)), (by first | rfl | (simp; done) | (simp [*]; done)), H', ⟨by first | omega | exact Nat.le_refl _⟩, ⟨by repeat (first | (with_reducible first | exact HB.out | apply below_alloc | apply pw_below_drewN | apply below_drew1) | exact HB.out)⟩⟩
      · rw [if_neg c15] at H
        have c15b0 : decide (0 ≤ a0) = false := decide_eq_false c15
        clear c15
        (first | rw [c15b0] | (simp only [i64_w, i32_w]; rw [c15b0]) | skip)
        have H' := Aside0.mk H
        clear H
        go_wp2
        go_meet
        case rel => exact ⟨_, (false), (by first | rfl | (simp; done) | (simp [*]; done)), H', ⟨by first | omega | exact Nat.le_refl _⟩, ⟨by repeat (first | (with_reducible first | exact HB.out | apply below_alloc | apply pw_below_drewN | apply below_drew1) | exact HB.out)⟩⟩
    case rest =>
      clear HC10
      try clear c1
      try clear p2
      try clear c4
      try clear c5
      try clear c5b0
      try clear c5b1
      try clear c9
      try clear c11
      try clear c15
      try clear c15b0
      obtain ⟨kq, x13_9, rfl, HA, HJ9, HB⟩ := hcut
      cases kq with
      | zero => exact absurd HA.out (by simp [symbolonlaw03_TextNumbers.j0])
      | succ kj9 =>
        have H := HA.out
        clear HA
        simp only [symbolonlaw03_TextNumbers.j0] at H
        have HC16 := Aside0.mk H
        clear H
        go_upto_region 8 with (fail)
        go_cut [64] (fun v64 wc => ∃ (kq : Nat) (x64_15 : Bool), v64 = .bool x64_15 ∧ Aside0 (symbolonlaw03_TextNumbers.j1 kq a0 a2 t199 t200 x64_15 = some r) ∧ Aside0 (kq ≤ kj9) ∧ Aside0 (Below w.heap.size w wc))
        case first =>
          have H := HC16.out
          clear HC16
          by_cases c17 : ((t200.toList != ([] : List UInt8)) != x13_9) = true
          · rw [if_pos c17] at H
            have c17b0 : ((t200.toList != ([] : List UInt8)) != x13_9) = true := c17
            have c17e : t200.toList.isEmpty = x13_9 := S.empty_of_ne c17b0
            (try (have c17b1 : decide ((t200.toList != ([] : List UInt8)) = x13_9) = false := by simpa using c17))
            (try (have c17b2 : ((t200.toList != ([] : List UInt8)) == x13_9) = false := by simpa using c17))
            (try (have c17b3 : ¬ ((t200.toList != ([] : List UInt8)) = x13_9) := by simpa using c17))
            clear c17
            (first | rw [c17b0] | (simp only [i64_w, i32_w]; rw [c17b0]) | skip)
            have H' := Aside0.mk H
            clear H
            go_wp2
            go_meet
            case rel => exact ⟨_, (true), (by first | rfl | (simp; done) | (simp [*]; done)), H', ⟨by have := HJ9.out; first | omega | exact Nat.le_refl _⟩, ⟨by repeat (first | (with_reducible first | exact HB.out | apply below_alloc | apply pw_below_drewN | apply below_drew1) | exact HB.out)⟩⟩
          · rw [if_neg c17] at H
            have c17b0 : ((t200.toList != ([] : List UInt8)) != x13_9) = false := by simpa using c17
            have c17e : t200.toList.isEmpty = !x13_9 := S.empty_of_eq c17b0
            (try (have c17b1 : decide ((t200.toList != ([] : List UInt8)) = x13_9) = true := by simpa using c17))
            (try (have c17b2 : ((t200.toList != ([] : List UInt8)) == x13_9) = true := by simpa using c17))
            clear c17
            (first | rw [c17b0] | (simp only [i64_w, i32_w]; rw [c17b0]) | skip)
            by_cases c18 : (t202 != x13_9) = true
            · rw [if_pos c18] at H
              have c18b0 : (t202 != x13_9) = true := c18
              (try (have c18b1 : decide (t202 = x13_9) = false := by simpa using c18))
              (try (have c18b2 : (t202 == x13_9) = false := by simpa using c18))
              (try (have c18b3 : ¬ (t202 = x13_9) := by simpa using c18))
              clear c18
              have H' := Aside0.mk H
              clear H
              go_wp2
              go_meet
              case rel => exact ⟨_, (true), (by first | rfl | (simp; done) | (simp [*]; done)), H', ⟨by have := HJ9.out; first | omega | exact Nat.le_refl _⟩, ⟨by repeat (first | (with_reducible first | exact HB.out | apply below_alloc | apply pw_below_drewN | apply below_drew1) | exact HB.out)⟩⟩
            · rw [if_neg c18] at H
              have c18b0 : (t202 != x13_9) = false := by simpa using c18
              (try (have c18b1 : decide (t202 = x13_9) = true := by simpa using c18))
              (try (have c18b2 : (t202 == x13_9) = true := by simpa using c18))
              clear c18
              by_cases c19 : x13_9 = true
              · subst c19
                have H1 : (if t201 = a0 then (if t204 = true then ((text_Number.f t203).bind fun t205 => (symbolonlaw03_TextNumbers.j1 kj9 a0 a2 t199 t200 (t205.toList != a1.toList))) else (symbolonlaw03_TextNumbers.j1 kj9 a0 a2 t199 t200 false)) else (symbolonlaw03_TextNumbers.j1 kj9 a0 a2 t199 t200 true)) = some r := by rw [if_pos rfl] at H; exact H
                clear H
                have H := H1
                clear H1
                by_cases c20 : t201 = a0
                · rw [if_pos c20] at H
                  have c20b0 : (t201 == a0) = true := beq_iff_eq.mpr c20
                  have c20b1 : (t201 != a0) = false := bne_eq_false_iff_eq.mpr c20
                  have c20s := c20.symm
                  subst c20s
                  by_cases c21 : t204 = true
                  · subst c21
                    have H1 : ((text_Number.f t203).bind fun t205 => (symbolonlaw03_TextNumbers.j1 kj9 a0 a2 t199 t200 (t205.toList != a1.toList))) = some r := by rw [if_pos rfl] at H; exact H
                    clear H
                    have H := H1
                    clear H1
                    replace H := Option.bind_eq_some_iff.mp H
                    obtain ⟨t205, A220, H⟩ := H
                    replace H : (symbolonlaw03_TextNumbers.j1 kj9 a0 a2 t199 t200 (t205.toList != a1.toList)) = some r := H
                    have A22 := Aside0.mk A220
                    clear A220
                    have H' := Aside0.mk H
                    clear H
                    go_wp2_with (first | (go_at_call 17; (with_reducible refine (text_Number.calls t203 t205 _ A22.out (S.Tabs.below HT.out (by repeat (first | (with_reducible first | exact HB.out | apply below_alloc | apply pw_below_drewN | apply below_drew1) | exact HB.out)))).mono ?_); rintro e w23 ⟨rfl, hb⟩; have n0_ := Aside0.mk (below_step (by repeat (first | (with_reducible first | exact HB.out | apply below_alloc | apply pw_below_drewN | apply below_drew1) | exact HB.out)) hb); clear HB; have HB := n0_; clear n0_; (try clear hb); (try clear hb2); (try clear hk); (try clear hi)))
                    go_meet
                    case rel => exact ⟨_, ((t205.toList != a1.toList)), (by first | rfl | (simp; done) | (simp [*]; done)), H', ⟨by have := HJ9.out; first | omega | exact Nat.le_refl _⟩, ⟨by repeat (first | (with_reducible first | exact HB.out | apply below_alloc | apply pw_below_drewN | apply below_drew1) | exact HB.out)⟩⟩
                  · replace c21 := Bool.eq_false_iff.mpr c21
                    subst c21
                    have H1 : (symbolonlaw03_TextNumbers.j1 kj9 a0 a2 t199 t200 false) = some r := by rw [if_neg (show ¬ (false = true) by decide)] at H; exact H
                    clear H
                    have H := H1
                    clear H1
                    have H' := Aside0.mk H
                    clear H
                    go_wp2
                    go_meet
                    case rel => exact ⟨_, (false), (by first | rfl | (simp; done) | (simp [*]; done)), H', ⟨by have := HJ9.out; first | omega | exact Nat.le_refl _⟩, ⟨by repeat (first | (with_reducible first | exact HB.out | apply below_alloc | apply pw_below_drewN | apply below_drew1) | exact HB.out)⟩⟩
                · rw [if_neg c20] at H
                  have c20b0 : (t201 == a0) = false := beq_eq_false_iff_ne.mpr c20
                  have c20b1 : (t201 != a0) = true := bne_iff_ne.mpr c20
                  have H' := Aside0.mk H
                  clear H
                  go_wp2
                  go_meet
                  case rel => exact ⟨_, (true), (by first | rfl | (simp; done) | (simp [*]; done)), H', ⟨by have := HJ9.out; first | omega | exact Nat.le_refl _⟩, ⟨by repeat (first | (with_reducible first | exact HB.out | apply below_alloc | apply pw_below_drewN | apply below_drew1) | exact HB.out)⟩⟩
              · replace c19 := Bool.eq_false_iff.mpr c19
                subst c19
                have H1 : (if t204 = true then ((text_Number.f t203).bind fun t206 => (symbolonlaw03_TextNumbers.j1 kj9 a0 a2 t199 t200 (t206.toList != a1.toList))) else (symbolonlaw03_TextNumbers.j1 kj9 a0 a2 t199 t200 false)) = some r := by rw [if_neg (show ¬ (false = true) by decide)] at H; exact H
                clear H
                have H := H1
                clear H1
                by_cases c24 : t204 = true
                · subst c24
                  have H1 : ((text_Number.f t203).bind fun t206 => (symbolonlaw03_TextNumbers.j1 kj9 a0 a2 t199 t200 (t206.toList != a1.toList))) = some r := by rw [if_pos rfl] at H; exact H
                  clear H
                  have H := H1
                  clear H1
                  replace H := Option.bind_eq_some_iff.mp H
                  obtain ⟨t206, A250, H⟩ := H
                  replace H : (symbolonlaw03_TextNumbers.j1 kj9 a0 a2 t199 t200 (t206.toList != a1.toList)) = some r := H
                  have A25 := Aside0.mk A250
                  clear A250
                  have H' := Aside0.mk H
                  clear H
                  go_wp2_with (first | (go_at_call 17; (with_reducible refine (text_Number.calls t203 t206 _ A25.out (S.Tabs.below HT.out (by repeat (first | (with_reducible first | exact HB.out | apply below_alloc | apply pw_below_drewN | apply below_drew1) | exact HB.out)))).mono ?_); rintro e w26 ⟨rfl, hb⟩; have n0_ := Aside0.mk (below_step (by repeat (first | (with_reducible first | exact HB.out | apply below_alloc | apply pw_below_drewN | apply below_drew1) | exact HB.out)) hb); clear HB; have HB := n0_; clear n0_; (try clear hb); (try clear hb2); (try clear hk); (try clear hi)))
                  go_meet
                  case rel => exact ⟨_, ((t206.toList != a1.toList)), (by first | rfl | (simp; done) | (simp [*]; done)), H', ⟨by have := HJ9.out; first | omega | exact Nat.le_refl _⟩, ⟨by repeat (first | (with_reducible first | exact HB.out | apply below_alloc | apply pw_below_drewN | apply below_drew1) | exact HB.out)⟩⟩
                · replace c24 := Bool.eq_false_iff.mpr c24
                  subst c24
                  have H1 : (symbolonlaw03_TextNumbers.j1 kj9 a0 a2 t199 t200 false) = some r := by rw [if_neg (show ¬ (false = true) by decide)] at H; exact H
                  clear H
                  have H := H1
                  clear H1
                  have H' := Aside0.mk H
                  clear H
                  go_wp2
                  go_meet
                  case rel => exact ⟨_, (false), (by first | rfl | (simp; done) | (simp [*]; done)), H', ⟨by have := HJ9.out; first | omega | exact Nat.le_refl _⟩, ⟨by repeat (first | (with_reducible first | exact HB.out | apply below_alloc | apply pw_below_drewN | apply below_drew1) | exact HB.out)⟩⟩
        case rest =>
          clear HC16
          try clear c1
          try clear c2
          try clear p2
          try clear c4
          try clear c5
          try clear c5b0
          try clear c5b1
          try clear c9
          try clear c11
          try clear c15
          try clear c15b0
          try clear c17
          try clear c17b0
          try clear c17b1
          try clear c17b2
          try clear c18
          try clear c18b0
          try clear c18b1
          try clear c18b2
          try clear c19
          try clear c20
          try clear c20b0
          try clear c20b1
          try clear c21
          try clear c24
          try clear p2
          obtain ⟨kq, x64_15, rfl, HA, HJ15, HB⟩ := hcut
          cases kq with
          | zero => exact absurd HA.out (by simp [symbolonlaw03_TextNumbers.j1])
          | succ kj15 =>
            have H := HA.out
            clear HA
            simp only [symbolonlaw03_TextNumbers.j1] at H
            by_cases c27 : x64_15 = true
            · subst c27
              have H1 : (none) = some r := by rw [if_pos rfl] at H; exact H
              clear H
              have H := H1
              clear H1
              exact absurd H (by simp)
            · replace c27 := Bool.eq_false_iff.mpr c27
              subst c27
              have H1 : (if a0 < 1 then (some t199) else (if a0 > 99999 then (some t199) else ((some (([(48 + (Int.tmod a2 10)) % 256] : List Int) : List Int)).bind fun y207 => (if t200.size + (strOfNums y207).size ≤ 9223372036854775807 then ((text_Get.f (t200 ++ (strOfNums y207))).bind fun bt210 => (if t199 = true then (if bt210.2 = true then (some (bt210.1 == (wrap64 ((wrap64 (10 * a0)) + (wrap64 (Int.tmod a2 10)))))) else (none)) else (none))) else (none))))) = some r := by rw [if_neg (show ¬ (false = true) by decide)] at H; exact H
              clear H
              have H := H1
              clear H1
              by_cases c28 : a0 < 1
              · rw [if_pos c28] at H
                have c28b0 : decide (a0 < 1) = true := decide_eq_true c28
                clear c28
                obtain rfl := Option.some.inj H
                go_wp2
                go_ret
                exact ⟨by first | rfl | (simp [errW_none, errW_some] <;> rfl) | (simp [*, errW_none, errW_some] <;> rfl), by repeat (first | (with_reducible first | exact HB.out | apply below_alloc | apply pw_below_drewN | apply below_drew1) | exact HB.out)⟩
              · rw [if_neg c28] at H
                have c28b0 : decide (a0 < 1) = false := decide_eq_false c28
                clear c28
                by_cases c29 : a0 > 99999
                · rw [if_pos c29] at H
                  have c29b0 : decide (99999 < a0) = true := decide_eq_true c29
                  clear c29
                  obtain rfl := Option.some.inj H
                  go_wp2
                  go_ret
                  exact ⟨by first | rfl | (simp [errW_none, errW_some] <;> rfl) | (simp [*, errW_none, errW_some] <;> rfl), by repeat (first | (with_reducible first | exact HB.out | apply below_alloc | apply pw_below_drewN | apply below_drew1) | exact HB.out)⟩
                · rw [if_neg c29] at H
                  have c29b0 : decide (99999 < a0) = false := decide_eq_false c29
                  clear c29
                  obtain ⟨y207, hy207⟩ : ∃ y_ : List Int, y_ = (([(48 + (Int.tmod a2 10)) % 256] : List Int)) := ⟨_, rfl⟩
                  replace H : (if t200.size + (strOfNums y207).size ≤ 9223372036854775807 then ((text_Get.f (t200 ++ (strOfNums y207))).bind fun bt210 => (if t199 = true then (if bt210.2 = true then (some (bt210.1 == (wrap64 ((wrap64 (10 * a0)) + (wrap64 (Int.tmod a2 10)))))) else (none)) else (none))) else (none)) = some r := by first | (rw [hy207]; with_reducible exact H) | (have H2_ := (Option.bind_some _ _).symm.trans H; rw [hy207]; with_reducible exact H2_) | (have H2_ := (Option.bind_some _ _).symm.trans H; with_reducible exact H2_) | with_reducible exact H | (rw [hy207]; exact H) | exact H
                  have Ny207 := Aside0.mk hy207
                  clear hy207
                  by_cases c30 : t200.size + (strOfNums y207).size ≤ 9223372036854775807
                  · rw [if_pos c30] at H
                    have c30b0 := eq_true c30
                    have c30b1 : decide (t200.size + (strOfNums y207).size ≤ 9223372036854775807) = true := decide_eq_true c30
                    try have c30b2 : (9223372036854775807 < t200.size + (strOfNums y207).size) = False := eq_false (Nat.not_lt.2 c30)
                    replace H := Option.bind_eq_some_iff.mp H
                    obtain ⟨⟨t210, t211⟩, A310, H⟩ := H
                    replace H : (if t199 = true then (if t211 = true then (some (t210 == (wrap64 ((wrap64 (10 * a0)) + (wrap64 (Int.tmod a2 10)))))) else (none)) else (none)) = some r := H
                    have A31 := Aside0.mk A310
                    clear A310
                    by_cases c32 : t199 = true
                    · subst c32
                      have H1 : (if t211 = true then (some (t210 == (wrap64 ((wrap64 (10 * a0)) + (wrap64 (Int.tmod a2 10)))))) else (none)) = some r := by rw [if_pos rfl] at H; exact H
                      clear H
                      have H := H1
                      clear H1
                      by_cases c33 : t211 = true
                      · subst c33
                        have H1 : (some (t210 == (wrap64 ((wrap64 (10 * a0)) + (wrap64 (Int.tmod a2 10)))))) = some r := by rw [if_pos rfl] at H; exact H
                        clear H
                        have H := H1
                        clear H1
                        obtain rfl := Option.some.inj H
                        go_wp2_with (first | ((with_reducible refine gate_dst (N := 77) rfl ?_); refine Kd.R_lit (Kd.int .u8) _ 5 ?hg (N := 77) ?hd (xs := ([(48 + (Int.tmod a2 10)) % 256] : List Int)) (inner := [.int .u8 ((48 + (Int.tmod a2 10)) % 256)]) (ok := fun _ => True) (okp := fun _ => True) ?hr ?hp (fun _ hk => hk) trivial (Below.refl _ _) (Nat.le_refl _) (by simp) ?_; (case hd => rfl); (case hg => rfl); (case hr => first | (go_simp; done) | (go_simp; rfl)); (case hp => exact (Reps.one (show Kd.M (Kd.int .u8) _ _ _ ((48 + (Int.tmod a2 10)) % 256) [.int .u8 ((48 + (Int.tmod a2 10)) % 256)] from rfl) (Reps.none _ _))); intro v208 w34 ho35 hb hg_ hnew_; clear hg_ hnew_; (first | rw [← Ny207.out] at ho35 | (simp only [Int.reduceToNat] at ho35; rw [← Ny207.out] at ho35)); have n0_ := Aside0.mk (Kd.R_lower ho35 (below_size (by repeat (first | (with_reducible first | exact HB.out | apply below_alloc | apply pw_below_drewN | apply below_drew1) | exact HB.out)))); have n1_ := Aside0.mk (below_step (by repeat (first | (with_reducible first | exact HB.out | apply below_alloc | apply pw_below_drewN | apply below_drew1) | exact HB.out)) hb); clear HB; have HO209 := n0_; have HB := n1_; clear n0_ n1_; clear hb ho35; have hcv36 := own_string (P := Tryd.prog) Tryd.underlying35 Tryd.underlying5 Tryd.underlying9 (Kd.own_of_R HO209.out)) | ((with_reducible refine gate_callee (f := 11) rfl ?_); refine goesL_ (some 80) rfl rfl Tryd.func11 (by kernel_rfl) rfl #[.string (t200 ++ (strOfNums y207))] rfl (by (try simp only [List.map_toArray, List.map_cons, List.map_nil]); first | done | rfl | (simp only [List.length_drop, List.length_take]; rfl)) ?_; (with_reducible refine (text_Get.calls (t200 ++ (strOfNums y207)) t210 true _ A31.out (S.Tabs.below HT.out (by repeat (first | (with_reducible first | exact HB.out | apply below_alloc | apply pw_below_drewN | apply below_drew1) | exact HB.out)))).mono ?_); rintro e w37 ⟨rfl, hb⟩; refine ⟨_, rfl, ?_⟩; have n0_ := Aside0.mk (Kd.R_below (by (with_reducible repeat (first | apply Kd.R_alloc | apply Kd.R_drewN | apply Kd.R_drew)); exact HO209.out) hb); have n1_ := Aside0.mk (below_step (by repeat (first | (with_reducible first | exact HB.out | apply below_alloc | apply pw_below_drewN | apply below_drew1) | exact HB.out)) hb); clear HO209; clear HB; have HO209 := n0_; have HB := n1_; clear n0_ n1_; (try clear hb); (try clear hb2); (try clear hk); (try clear hi)))
                        go_ret
                        exact ⟨by first | rfl | (simp [errW_none, errW_some] <;> rfl) | (simp [*, errW_none, errW_some] <;> rfl), by repeat (first | (with_reducible first | exact HB.out | apply below_alloc | apply pw_below_drewN | apply below_drew1) | exact HB.out)⟩
                      · replace c33 := Bool.eq_false_iff.mpr c33
                        subst c33
                        have H1 : (none) = some r := by rw [if_neg (show ¬ (false = true) by decide)] at H; exact H
                        clear H
                        have H := H1
                        clear H1
                        exact absurd H (by simp)
                    · replace c32 := Bool.eq_false_iff.mpr c32
                      subst c32
                      have H1 : (none) = some r := by rw [if_neg (show ¬ (false = true) by decide)] at H; exact H
                      clear H
                      have H := H1
                      clear H1
                      exact absurd H (by simp)
                  · rw [if_neg c30] at H
                    exact absurd H (by simp)

/-- THE ONE PURE STATEMENT of symbolonlaw03_TextNumbers. -/
def symbolonlaw03_TextNumbers.Pure : Prop := ∀ (a0 : Int) (a1 : ByteArray) (a2 : Int), ((Lit.int .i64 a0).wf = true) → (a1.size ≤ 140737488351232) → ((Lit.int .u8 a2).wf = true) → ∃ k, symbolonlaw03_TextNumbers.f k a0 a1 a2 = some true


end Go.Proofs.YtfjdlllmpgknpaaDoor.Q
