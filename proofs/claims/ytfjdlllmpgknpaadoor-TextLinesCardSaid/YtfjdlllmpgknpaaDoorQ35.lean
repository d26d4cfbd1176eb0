-- Laid by a program of this session (wip/myprint.py) in the form of the kit's print; a text of this claim, checked by Lean like any other.
import Derived.Test.YtfjdlllmpgknpaaDoorQ0
import Derived.Test.YtfjdlllmpgknpaaDoorSTabs
import Derived.Test.YtfjdlllmpgknpaaDoorQ12
import Derived.Test.YtfjdlllmpgknpaaDoorQ13
import Derived.Test.YtfjdlllmpgknpaaDoorQ22
import Derived.Test.YtfjdlllmpgknpaaDoorQ23
namespace Go.Proofs.YtfjdlllmpgknpaaDoor.Q
open Go.RowKit Go.Proofs.YtfjdlllmpgknpaaDoorW.PrintWords Go.Proofs.YtfjdlllmpgknpaaDoorW.PrintLast Go.Proofs.YtfjdlllmpgknpaaDoorW.PrintMore
attribute [local go_sem] max2_int min2_int max_two min_two max_three min_three max_four min_four   -- for this text's walks alone
set_option linter.unusedVariables false
set_option linter.unusedSimpArgs false

/-! ### symbolonlaw03_TextLines: function 6 -/
mutual
def symbolonlaw03_TextLines.j0 : Nat → ByteArray → ByteArray → Bool → Bool → Option (Bool)
  | 0, _, _, _, _ => none
  | k + 1, x0, x1, x5, x22 => if x22 = true then (some x5) else ((text_Lines.f x0).bind fun bt226 => ((text_Text.f k bt226.1).bind fun t230 => (if t230.size + bt226.2.size ≤ 9223372036854775807 then (if (t230 ++ bt226.2).toList = x0.toList then (symbolonlaw03_TextLines.l0 k x0 x1 x5 bt226.1 0 0) else (none)) else (none))))
def symbolonlaw03_TextLines.l0 : Nat → ByteArray → ByteArray → Bool → List ByteArray → Int → Int → Option (Bool)
  | 0, _, _, _, _, _, _ => none
  | k + 1, x0, x1, x5, x6, x8, x9 => if x9 < (x0.size : Int) then (if 0 ≤ x9 then (if (bt x0 x9) = 10 then (symbolonlaw03_TextLines.l0 k x0 x1 x5 x6 (wrap64 (x8 + 1)) (wrap64 (x9 + 1))) else (symbolonlaw03_TextLines.l0 k x0 x1 x5 x6 x8 (wrap64 (x9 + 1)))) else (none)) else ((text_Text.f k x6).bind fun t231 => (if t231.size + x1.size ≤ 9223372036854775807 then ((text_Lines.f (t231 ++ x1)).bind fun bt232 => ((text_Lines.f x1).bind fun bt236 => (if x5 = true then (if (x6.length : Int) = x8 then ((some (([] : List ByteArray) : List ByteArray)).bind fun y240 => (if y240.length + x6.length < 8796093022208 then ((some (y240 ++ x6 : List ByteArray)).bind fun y243 => (if y243.length + bt236.1.length < 8796093022208 then ((symbolonref03_Same.f k bt232.1 (y243 ++ bt236.1)).bind fun t249 => (if t249 = true then (some (bt232.2.toList == bt236.2.toList)) else (none))) else (none))) else (none))) else (none)) else (none)))) else (none)))
end
def symbolonlaw03_TextLines.f (k : Nat) (a0 : ByteArray) (a1 : ByteArray) : Option (Bool) := (symbolonlaw03_head.f k).bind fun t225 => (if (a0.size : Int) > 3000 then (symbolonlaw03_TextLines.j0 k a0 a1 t225 true) else (symbolonlaw03_TextLines.j0 k a0 a1 t225 (decide ((a1.size : Int) > 3000))))
theorem symbolonlaw03_TextLines.mono_l : ∀ k, (∀ y0 y1 y2 y3, LeO (symbolonlaw03_TextLines.j0 k y0 y1 y2 y3) (symbolonlaw03_TextLines.j0 (k + 1) y0 y1 y2 y3)) ∧ (∀ y0 y1 y2 y3 y4 y5, LeO (symbolonlaw03_TextLines.l0 k y0 y1 y2 y3 y4 y5) (symbolonlaw03_TextLines.l0 (k + 1) y0 y1 y2 y3 y4 y5))
  | 0 => ⟨fun _ _ _ _ r h => by simp [symbolonlaw03_TextLines.j0] at h, fun _ _ _ _ _ _ r h => by simp [symbolonlaw03_TextLines.l0] at h⟩
  | k + 1 => by
    obtain ⟨ih0, ih1⟩ := symbolonlaw03_TextLines.mono_l k
    refine ⟨?_, ?_⟩
    · intro y0 y1 y2 y3
      unfold symbolonlaw03_TextLines.j0
      repeat' first
      | (with_reducible exact ih0 _ _ _ _)
      | (with_reducible exact ih1 _ _ _ _ _ _)
      | (with_reducible exact symbolonlaw03_head.mono _)
      | (with_reducible exact symbolonref03_Same.mono _ _ _)
      | (with_reducible exact text_Text.mono _ _)
      | (with_reducible exact LeO.refl _)
      | (with_reducible exact LeO.none _)
      | (with_reducible refine LeO.ite ?_ ?_)
      | (with_reducible refine LeO.bind ?_ (fun _ => ?_))
      | exact ih0 _ _ _ _
      | exact ih1 _ _ _ _ _ _
      | exact symbolonlaw03_head.mono _
      | exact symbolonref03_Same.mono _ _ _
      | exact text_Text.mono _ _
      | exact LeO.none _
      | refine LeO.ite ?_ ?_
      | refine LeO.bind ?_ (fun _ => ?_)
    · intro y0 y1 y2 y3 y4 y5
      unfold symbolonlaw03_TextLines.l0
      repeat' first
      | (with_reducible exact ih0 _ _ _ _)
      | (with_reducible exact ih1 _ _ _ _ _ _)
      | (with_reducible exact symbolonlaw03_head.mono _)
      | (with_reducible exact symbolonref03_Same.mono _ _ _)
      | (with_reducible exact text_Text.mono _ _)
      | (with_reducible exact LeO.refl _)
      | (with_reducible exact LeO.none _)
      | (with_reducible refine LeO.ite ?_ ?_)
      | (with_reducible refine LeO.bind ?_ (fun _ => ?_))
      | exact ih0 _ _ _ _
      | exact ih1 _ _ _ _ _ _
      | exact symbolonlaw03_head.mono _
      | exact symbolonref03_Same.mono _ _ _
      | exact text_Text.mono _ _
      | exact LeO.none _
      | refine LeO.ite ?_ ?_
      | refine LeO.bind ?_ (fun _ => ?_)
theorem symbolonlaw03_TextLines.mono : ∀ a0 a1 k, LeO (symbolonlaw03_TextLines.f k a0 a1) (symbolonlaw03_TextLines.f (k + 1) a0 a1) := by
  intro a0 a1 k
  obtain ⟨ih0, ih1⟩ := symbolonlaw03_TextLines.mono_l k
  unfold symbolonlaw03_TextLines.f
  repeat' first
      | (with_reducible exact ih0 _ _ _ _)
      | (with_reducible exact ih1 _ _ _ _ _ _)
      | (with_reducible exact symbolonlaw03_head.mono _)
      | (with_reducible exact symbolonref03_Same.mono _ _ _)
      | (with_reducible exact text_Text.mono _ _)
      | (with_reducible exact LeO.refl _)
      | (with_reducible exact LeO.none _)
      | (with_reducible refine LeO.ite ?_ ?_)
      | (with_reducible refine LeO.bind ?_ (fun _ => ?_))
      | exact ih0 _ _ _ _
      | exact ih1 _ _ _ _ _ _
      | exact symbolonlaw03_head.mono _
      | exact symbolonref03_Same.mono _ _ _
      | exact text_Text.mono _ _
      | exact LeO.none _
      | refine LeO.ite ?_ ?_
      | refine LeO.bind ?_ (fun _ => ?_)
set_option maxHeartbeats 8000000 in
set_option maxRecDepth 100000 in
theorem symbolonlaw03_TextLines.calls (k : Nat) (a0 : ByteArray) (a1 : ByteArray) (r : Bool) (w : World) (h : symbolonlaw03_TextLines.f k a0 a1 = some r) (hT : S.Tabs w) :
    Calls Tryd.prog 6 #[.string a0, .string a1] w fun e w' => e = .returned (.bool r) ∧ Below w.heap.size w w' := by
  have HB := Aside0.mk (Below.refl w.heap.size w)
  have HT := Aside0.mk hT
  clear hT
  have H : ((symbolonlaw03_head.f k).bind fun t225 => (if (a0.size : Int) > 3000 then (symbolonlaw03_TextLines.j0 k a0 a1 t225 true) else (symbolonlaw03_TextLines.j0 k a0 a1 t225 (decide ((a1.size : Int) > 3000))))) = some r := h
  clear h
  replace H := Option.bind_eq_some_iff.mp H
  obtain ⟨t225, A30, H⟩ := H
  replace H : (if (a0.size : Int) > 3000 then (symbolonlaw03_TextLines.j0 k a0 a1 t225 true) else (symbolonlaw03_TextLines.j0 k a0 a1 t225 (decide ((a1.size : Int) > 3000)))) = some r := H
  have A3 := Aside0.mk A30
  clear A30
  have HC4 := Aside0.mk H
  clear H
  go_enter Tryd.func6, Tryd.ntmps6
  go_upto_region 2 with (first | ((with_reducible refine gate_callee (f := 9) rfl ?_); refine goesL_ (some 14) rfl rfl Tryd.func9 (by kernel_rfl) rfl #[] rfl (by (try simp only [List.map_toArray, List.map_cons, List.map_nil]); first | done | rfl | (simp only [List.length_drop, List.length_take]; rfl)) ?_; (with_reducible refine (symbolonlaw03_head.calls k  t225 _ A3.out (S.Tabs.below HT.out (by repeat (first | (with_reducible first | exact HB.out | apply below_alloc | apply pw_below_drewN | apply below_drew1) | exact HB.out)))).mono ?_); rintro e w5 ⟨rfl, hb⟩; refine ⟨_, rfl, ?_⟩; have n0_ := Aside0.mk (below_step (by repeat (first | (with_reducible first | exact HB.out | apply below_alloc | apply pw_below_drewN | apply below_drew1) | exact HB.out)) hb); clear HB; have HB := n0_; clear n0_; (try clear hb); (try clear hb2); (try clear hk); (try clear hi)))
  (try simp only [Act.put, List.setIfInBounds_toArray, List.set_cons_zero, List.set_cons_succ])
  go_cut [22] (fun v22 wc => ∃ (kq : Nat) (x22_3 : Bool), v22 = .bool x22_3 ∧ Aside0 (symbolonlaw03_TextLines.j0 kq a0 a1 t225 x22_3 = some r) ∧ Aside0 (kq ≤ k) ∧ Aside0 (Below w.heap.size w wc))
  case first =>
    have H := HC4.out
    clear HC4
    by_cases c6 : (a0.size : Int) > 3000
    · rw [if_pos c6] at H
      have c6b0 : decide (3000 < (a0.size : Int)) = true := decide_eq_true c6
      have c6b1 : decide (3000 < a0.size) = true := decide_eq_true (by omega)
      clear c6
      (first | rw [c6b0] | (simp only [i64_w, i32_w]; rw [c6b0]) | skip)
      have H' := Aside0.mk H
      clear H
      go_wp2
      go_meet
      case rel => exact ⟨_, (true), (by first | rfl | (simp; done) | (simp [*]; done)), H', ⟨by first | omega | exact Nat.le_refl _⟩, ⟨by repeat (first | (with_reducible first | exact HB.out | apply below_alloc | apply pw_below_drewN | apply below_drew1) | exact HB.out)⟩⟩
    · rw [if_neg c6] at H
      have c6b0 : decide (3000 < (a0.size : Int)) = false := decide_eq_false c6
      have c6b1 : decide (3000 < a0.size) = false := decide_eq_false (by omega)
      clear c6
      (first | rw [c6b0] | (simp only [i64_w, i32_w]; rw [c6b0]) | skip)
      have H' := Aside0.mk H
      clear H
      go_wp2
      go_meet
      case rel => exact ⟨_, (decide ((a1.size : Int) > 3000)), (by first | rfl | (simp; done) | (simp [*]; done)), H', ⟨by first | omega | exact Nat.le_refl _⟩, ⟨by repeat (first | (with_reducible first | exact HB.out | apply below_alloc | apply pw_below_drewN | apply below_drew1) | exact HB.out)⟩⟩
  case rest =>
    clear HC4
    try clear p2
    try clear c6
    try clear c6b0
    try clear c6b1
    obtain ⟨kq, x22_3, rfl, HA, HJ3, HB⟩ := hcut
    cases kq with
    | zero => exact absurd HA.out (by simp [symbolonlaw03_TextLines.j0])
    | succ kj3 =>
      have H := HA.out
      clear HA
      simp only [symbolonlaw03_TextLines.j0] at H
      by_cases c7 : x22_3 = true
      · subst c7
        have H1 : (some t225) = some r := by rw [if_pos rfl] at H; exact H
        clear H
        have H := H1
        clear H1
        obtain rfl := Option.some.inj H
        go_wp2
        go_ret
        exact ⟨by first | rfl | (simp [errW_none, errW_some] <;> rfl) | (simp [*, errW_none, errW_some] <;> rfl), by repeat (first | (with_reducible first | exact HB.out | apply below_alloc | apply pw_below_drewN | apply below_drew1) | exact HB.out)⟩
      · replace c7 := Bool.eq_false_iff.mpr c7
        subst c7
        have H1 : ((text_Lines.f a0).bind fun bt226 => ((text_Text.f kj3 bt226.1).bind fun t230 => (if t230.size + bt226.2.size ≤ 9223372036854775807 then (if (t230 ++ bt226.2).toList = a0.toList then (symbolonlaw03_TextLines.l0 kj3 a0 a1 t225 bt226.1 0 0) else (none)) else (none)))) = some r := by rw [if_neg (show ¬ (false = true) by decide)] at H; exact H
        clear H
        have H := H1
        clear H1
        replace H := Option.bind_eq_some_iff.mp H
        obtain ⟨⟨t226, t227⟩, A80, H⟩ := H
        replace H : ((text_Text.f kj3 t226).bind fun t230 => (if t230.size + t227.size ≤ 9223372036854775807 then (if (t230 ++ t227).toList = a0.toList then (symbolonlaw03_TextLines.l0 kj3 a0 a1 t225 t226 0 0) else (none)) else (none))) = some r := H
        have A8 := Aside0.mk A80
        clear A80
        replace H := Option.bind_eq_some_iff.mp H
        obtain ⟨t230, A90, H⟩ := H
        replace H : (if t230.size + t227.size ≤ 9223372036854775807 then (if (t230 ++ t227).toList = a0.toList then (symbolonlaw03_TextLines.l0 kj3 a0 a1 t225 t226 0 0) else (none)) else (none)) = some r := H
        have A9 := Aside0.mk A90
        clear A90
        by_cases c10 : t230.size + t227.size ≤ 9223372036854775807
        · rw [if_pos c10] at H
          have c10b0 := eq_true c10
          have c10b1 : decide (t230.size + t227.size ≤ 9223372036854775807) = true := decide_eq_true c10
          try have c10b2 : (9223372036854775807 < t230.size + t227.size) = False := eq_false (Nat.not_lt.2 c10)
          by_cases c11 : (t230 ++ t227).toList = a0.toList
          · rw [if_pos c11] at H
            have c11b0 : ((t230 ++ t227).toList == a0.toList) = true := beq_iff_eq.mpr c11
            have c11b1 : ((t230 ++ t227).toList != a0.toList) = false := bne_eq_false_iff_eq.mpr c11
            clear c11
            have H' := Aside0.mk H
            clear H
            go_wp2_with (first | ((with_reducible refine gate_callee (f := 15) rfl ?_); refine goesL_ (some 26) rfl rfl Tryd.func15 (by kernel_rfl) rfl #[.string a0] rfl (by (try simp only [List.map_toArray, List.map_cons, List.map_nil]); first | done | rfl | (simp only [List.length_drop, List.length_take]; rfl)) ?_; (with_reducible refine (text_Lines.calls a0 t226 t227 _ A8.out (S.Tabs.below HT.out (by repeat (first | (with_reducible first | exact HB.out | apply below_alloc | apply pw_below_drewN | apply below_drew1) | exact HB.out)))).mono ?_); rintro e w12 ⟨v228, rfl, ho0, hb⟩; refine ⟨_, rfl, ?_⟩; have n0_ := Aside0.mk (S.Lr.R_lower ho0 (below_size (by repeat (first | (with_reducible first | exact HB.out | apply below_alloc | apply pw_below_drewN | apply below_drew1) | exact HB.out)))); have n1_ := Aside0.mk (below_step (by repeat (first | (with_reducible first | exact HB.out | apply below_alloc | apply pw_below_drewN | apply below_drew1) | exact HB.out)) hb); clear HB; have HO229 := n0_; have HB := n1_; clear n0_ n1_; (try clear hb); (try clear hb2); (try clear hk); (try clear hi); (try clear ho0); obtain ⟨Ao13, co13, eo13⟩ := S.Lr.R_slice HO229.out; subst eo13) | ((with_reducible refine gate_callee (f := 22) rfl ?_); refine goesL_ (some 30) rfl rfl Tryd.func22 (by kernel_rfl) rfl #[.slice Ao13 t226.length co13] rfl (by (try simp only [List.map_toArray, List.map_cons, List.map_nil]); first | done | rfl | (simp only [List.length_drop, List.length_take]; rfl)) ?_; (with_reducible refine (text_Text.calls kj3 _ _ t226 t230 _ ?side1 ?side2 A9.out).mono ?_); (case side1 => repeat (first | exact (S.Lr.R_reads' HO229.out).2.2 | (with_reducible refine Kd.C_alloc ?_ _) | (with_reducible refine Kd.C_drewN ?_ _) | (with_reducible refine Kd.C_drew ?_))); (case side2 => exact (S.Lr.R_reads' HO229.out).2.1); rintro e w' ⟨rfl, ⟨nd, rfl⟩⟩; refine ⟨_, rfl, ?_⟩))
            go_loopg [8, 9] kj3 (fun kq v8 v9 w' => ∃ (x8_2 : Int) (x9_2 : Int), v8 = .int .i64 x8_2 ∧ v9 = .int .i64 x9_2 ∧ Aside0 (symbolonlaw03_TextLines.l0 kq a0 a1 t225 t226 x8_2 x9_2 = some r) ∧ Aside0 (kq ≤ kj3) ∧ Aside0 (S.Lr.R Kd.string 9 w' w.heap.size (fun _ => True) (.slice Ao13 t226.length co13) t226) ∧ Aside0 (Below w.heap.size w w'))
            case atStart => exact ⟨(0), (0), (by first | rfl | (simp; done) | (simp [*]; done)), (by first | rfl | (simp; done) | (simp [*]; done)), H', ⟨Nat.le_refl _⟩, ⟨by (with_reducible repeat (first | apply S.Lr.R_alloc | apply S.Lr.R_drewN | apply S.Lr.R_drew)); exact HO229.out⟩, ⟨by repeat (first | (with_reducible first | exact HB.out | apply below_alloc | apply pw_below_drewN | apply below_drew1) | exact HB.out)⟩⟩
            case round =>
              clear H'
              try clear c1
              try clear c2
              try clear p2
              try clear c6
              try clear c6b0
              try clear c6b1
              try clear c7
              try clear c9
              try clear c10
              try clear c10b0
              try clear c10b1
              try clear c10b2
              try clear c11
              try clear c11b0
              try clear c11b1
              try clear p2
              obtain ⟨x8_2, x9_2, rfl, rfl, HA, HK2, HO_6, HB⟩ := hrel
              cases gk with
              | zero => exact absurd HA.out (by simp [symbolonlaw03_TextLines.l0])
              | succ k2 =>
                have H := HA.out
                clear HA
                simp only [symbolonlaw03_TextLines.l0] at H
                by_cases c14 : x9_2 < (a0.size : Int)
                · rw [if_pos c14] at H
                  have c14b0 : decide (x9_2 < (a0.size : Int)) = true := decide_eq_true c14
                  clear c14
                  by_cases c15 : 0 ≤ x9_2
                  · rw [if_pos c15] at H
                    have c15b0 : decide (0 ≤ x9_2) = true := decide_eq_true c15
                    clear c15
                    by_cases c17 : (bt a0 x9_2) = 10
                    · rw [if_pos c17] at H
                      have c17b0 : ((bt a0 x9_2) == 10) = true := beq_iff_eq.mpr c17
                      have c17b1 : ((bt a0 x9_2) != 10) = false := bne_eq_false_iff_eq.mpr c17
                      clear c17
                      have H' := Aside0.mk H
                      clear H
                      have p16 : 0 ≤ (x9_2 : Int) := of_decide_eq_true (by first | (with_reducible assumption) | assumption)
                      have q16 : x9_2 < (a0.size : Int) := of_decide_eq_true (by first | (with_reducible assumption) | assumption)
                      have hx16 := bt_at a0 x9_2
                      replace p16 := eq_true p16
                      replace q16 := eq_true q16
                      go_wp2
                      go_roundg k2
                      case measure => have := HJ3.out; have := HK2.out; omega
                      case rel => exact ⟨(wrap64 (x8_2 + 1)), (wrap64 (x9_2 + 1)), (by first | rfl | (simp; done) | (simp [*]; done)), (by first | rfl | (simp; done) | (simp [*]; done)), H', ⟨by have := HJ3.out; have := HK2.out; omega⟩, ⟨by (with_reducible repeat (first | apply S.Lr.R_alloc | apply S.Lr.R_drewN | apply S.Lr.R_drew)); exact HO_6.out⟩, ⟨by repeat (first | (with_reducible first | exact HB.out | apply below_alloc | apply pw_below_drewN | apply below_drew1) | exact HB.out)⟩⟩
                    · rw [if_neg c17] at H
                      have c17b0 : ((bt a0 x9_2) == 10) = false := beq_eq_false_iff_ne.mpr c17
                      have c17b1 : ((bt a0 x9_2) != 10) = true := bne_iff_ne.mpr c17
                      have H' := Aside0.mk H
                      clear H
                      have p16 : 0 ≤ (x9_2 : Int) := of_decide_eq_true (by first | (with_reducible assumption) | assumption)
                      have q16 : x9_2 < (a0.size : Int) := of_decide_eq_true (by first | (with_reducible assumption) | assumption)
                      have hx16 := bt_at a0 x9_2
                      replace p16 := eq_true p16
                      replace q16 := eq_true q16
                      go_wp2
                      go_roundg k2
                      case measure => have := HJ3.out; have := HK2.out; omega
                      case rel => exact ⟨(x8_2), (wrap64 (x9_2 + 1)), (by first | rfl | (simp; done) | (simp [*]; done)), (by first | rfl | (simp; done) | (simp [*]; done)), H', ⟨by have := HJ3.out; have := HK2.out; omega⟩, ⟨by (with_reducible repeat (first | apply S.Lr.R_alloc | apply S.Lr.R_drewN | apply S.Lr.R_drew)); exact HO_6.out⟩, ⟨by repeat (first | (with_reducible first | exact HB.out | apply below_alloc | apply pw_below_drewN | apply below_drew1) | exact HB.out)⟩⟩
                  · rw [if_neg c15] at H
                    exact absurd H (by simp)
                · rw [if_neg c14] at H
                  have c14b0 : decide (x9_2 < (a0.size : Int)) = false := decide_eq_false c14
                  clear c14
                  replace H := Option.bind_eq_some_iff.mp H
                  obtain ⟨t231, A180, H⟩ := H
                  replace H : (if t231.size + a1.size ≤ 9223372036854775807 then ((text_Lines.f (t231 ++ a1)).bind fun bt232 => ((text_Lines.f a1).bind fun bt236 => (if t225 = true then (if (t226.length : Int) = x8_2 then ((some (([] : List ByteArray) : List ByteArray)).bind fun y240 => (if y240.length + t226.length < 8796093022208 then ((some (y240 ++ t226 : List ByteArray)).bind fun y243 => (if y243.length + bt236.1.length < 8796093022208 then ((symbolonref03_Same.f k2 bt232.1 (y243 ++ bt236.1)).bind fun t249 => (if t249 = true then (some (bt232.2.toList == bt236.2.toList)) else (none))) else (none))) else (none))) else (none)) else (none)))) else (none)) = some r := H
                  have A18 := Aside0.mk A180
                  clear A180
                  by_cases c19 : t231.size + a1.size ≤ 9223372036854775807
                  · rw [if_pos c19] at H
                    have c19b0 := eq_true c19
                    have c19b1 : decide (t231.size + a1.size ≤ 9223372036854775807) = true := decide_eq_true c19
                    try have c19b2 : (9223372036854775807 < t231.size + a1.size) = False := eq_false (Nat.not_lt.2 c19)
                    replace H := Option.bind_eq_some_iff.mp H
                    obtain ⟨⟨t232, t233⟩, A200, H⟩ := H
                    replace H : ((text_Lines.f a1).bind fun bt236 => (if t225 = true then (if (t226.length : Int) = x8_2 then ((some (([] : List ByteArray) : List ByteArray)).bind fun y240 => (if y240.length + t226.length < 8796093022208 then ((some (y240 ++ t226 : List ByteArray)).bind fun y243 => (if y243.length + bt236.1.length < 8796093022208 then ((symbolonref03_Same.f k2 t232 (y243 ++ bt236.1)).bind fun t249 => (if t249 = true then (some (t233.toList == bt236.2.toList)) else (none))) else (none))) else (none))) else (none)) else (none))) = some r := H
                    have A20 := Aside0.mk A200
                    clear A200
                    replace H := Option.bind_eq_some_iff.mp H
                    obtain ⟨⟨t236, t237⟩, A210, H⟩ := H
                    replace H : (if t225 = true then (if (t226.length : Int) = x8_2 then ((some (([] : List ByteArray) : List ByteArray)).bind fun y240 => (if y240.length + t226.length < 8796093022208 then ((some (y240 ++ t226 : List ByteArray)).bind fun y243 => (if y243.length + t236.length < 8796093022208 then ((symbolonref03_Same.f k2 t232 (y243 ++ t236)).bind fun t249 => (if t249 = true then (some (t233.toList == t237.toList)) else (none))) else (none))) else (none))) else (none)) else (none)) = some r := H
                    have A21 := Aside0.mk A210
                    clear A210
                    by_cases c22 : t225 = true
                    · subst c22
                      have H1 : (if (t226.length : Int) = x8_2 then ((some (([] : List ByteArray) : List ByteArray)).bind fun y240 => (if y240.length + t226.length < 8796093022208 then ((some (y240 ++ t226 : List ByteArray)).bind fun y243 => (if y243.length + t236.length < 8796093022208 then ((symbolonref03_Same.f k2 t232 (y243 ++ t236)).bind fun t249 => (if t249 = true then (some (t233.toList == t237.toList)) else (none))) else (none))) else (none))) else (none)) = some r := by rw [if_pos rfl] at H; exact H
                      clear H
                      have H := H1
                      clear H1
                      by_cases c23 : (t226.length : Int) = x8_2
                      · rw [if_pos c23] at H
                        have c23b0 : ((t226.length : Int) == x8_2) = true := beq_iff_eq.mpr c23
                        have c23b1 : ((t226.length : Int) != x8_2) = false := bne_eq_false_iff_eq.mpr c23
                        clear c23
                        obtain ⟨y240, hy240⟩ : ∃ y_ : List ByteArray, y_ = (([] : List ByteArray)) := ⟨_, rfl⟩
                        replace H : (if y240.length + t226.length < 8796093022208 then ((some (y240 ++ t226 : List ByteArray)).bind fun y243 => (if y243.length + t236.length < 8796093022208 then ((symbolonref03_Same.f k2 t232 (y243 ++ t236)).bind fun t249 => (if t249 = true then (some (t233.toList == t237.toList)) else (none))) else (none))) else (none)) = some r := by first | (rw [hy240]; with_reducible exact H) | (have H2_ := (Option.bind_some _ _).symm.trans H; rw [hy240]; with_reducible exact H2_) | (have H2_ := (Option.bind_some _ _).symm.trans H; with_reducible exact H2_) | with_reducible exact H | (rw [hy240]; exact H) | exact H
                        have Ny240 := Aside0.mk hy240
                        clear hy240
                        by_cases c24 : y240.length + t226.length < 8796093022208
                        · rw [if_pos c24] at H
                          have LMc24 := Aside0.mk c24
                          clear c24
                          obtain ⟨y243, hy243⟩ : ∃ y_ : List ByteArray, y_ = (y240 ++ t226) := ⟨_, rfl⟩
                          replace H : (if y243.length + t236.length < 8796093022208 then ((symbolonref03_Same.f k2 t232 (y243 ++ t236)).bind fun t249 => (if t249 = true then (some (t233.toList == t237.toList)) else (none))) else (none)) = some r := by first | (rw [hy243]; with_reducible exact H) | (have H2_ := (Option.bind_some _ _).symm.trans H; rw [hy243]; with_reducible exact H2_) | (have H2_ := (Option.bind_some _ _).symm.trans H; with_reducible exact H2_) | with_reducible exact H | (rw [hy243]; exact H) | exact H
                          have Ny243 := Aside0.mk hy243
                          clear hy243
                          by_cases c25 : y243.length + t236.length < 8796093022208
                          · rw [if_pos c25] at H
                            have LMc25 := Aside0.mk c25
                            clear c25
                            obtain ⟨y246, hy246⟩ : ∃ y_ : List ByteArray, y_ = (y243 ++ t236) := ⟨_, rfl⟩
                            replace H : ((symbolonref03_Same.f k2 t232 y246).bind fun t249 => (if t249 = true then (some (t233.toList == t237.toList)) else (none))) = some r := by first | (rw [hy246]; with_reducible exact H) | (have H2_ := (Option.bind_some _ _).symm.trans H; rw [hy246]; with_reducible exact H2_) | (have H2_ := (Option.bind_some _ _).symm.trans H; with_reducible exact H2_) | with_reducible exact H | (rw [hy246]; exact H) | exact H
                            have Ny246 := Aside0.mk hy246
                            clear hy246
                            replace H := Option.bind_eq_some_iff.mp H
                            obtain ⟨t249, A260, H⟩ := H
                            replace H : (if t249 = true then (some (t233.toList == t237.toList)) else (none)) = some r := H
                            have A26 := Aside0.mk A260
                            clear A260
                            by_cases c27 : t249 = true
                            · subst c27
                              have H1 : (some (t233.toList == t237.toList)) = some r := by rw [if_pos rfl] at H; exact H
                              clear H
                              have H := H1
                              clear H1
                              obtain rfl := Option.some.inj H
                              go_wp2_with (first | ((with_reducible refine gate_callee (f := 22) rfl ?_); refine goesL_ (some 49) rfl rfl Tryd.func22 (by kernel_rfl) rfl #[.slice Ao13 t226.length co13] rfl (by (try simp only [List.map_toArray, List.map_cons, List.map_nil]); first | done | rfl | (simp only [List.length_drop, List.length_take]; rfl)) ?_; (with_reducible refine (text_Text.calls k2 _ _ t226 t231 _ ?side1 ?side2 A18.out).mono ?_); (case side1 => repeat (first | exact (S.Lr.R_reads' HO_6.out).2.2 | (with_reducible refine Kd.C_alloc ?_ _) | (with_reducible refine Kd.C_drewN ?_ _) | (with_reducible refine Kd.C_drew ?_))); (case side2 => exact (S.Lr.R_reads' HO_6.out).2.1); rintro e w' ⟨rfl, ⟨nd, rfl⟩⟩; refine ⟨_, rfl, ?_⟩) | ((with_reducible refine gate_callee (f := 15) rfl ?_); refine goesL_ (some 52) rfl rfl Tryd.func15 (by kernel_rfl) rfl #[.string (t231 ++ a1)] rfl (by (try simp only [List.map_toArray, List.map_cons, List.map_nil]); first | done | rfl | (simp only [List.length_drop, List.length_take]; rfl)) ?_; (with_reducible refine (text_Lines.calls (t231 ++ a1) t232 t233 _ A20.out (S.Tabs.below HT.out (by repeat (first | (with_reducible first | exact HB.out | apply below_alloc | apply pw_below_drewN | apply below_drew1) | exact HB.out)))).mono ?_); rintro e w28 ⟨v234, rfl, ho0, hb⟩; refine ⟨_, rfl, ?_⟩; have n0_ := Aside0.mk (S.Lr.R_elder' (by (with_reducible repeat (first | apply S.Lr.R_alloc | apply S.Lr.R_drewN | apply S.Lr.R_drew)); exact HO_6.out) (S.Lr.R_base ho0) hb); have n1_ := Aside0.mk (S.Lr.R_lower (S.Lr.R_new' ho0 (S.Lr.R_lt (by (with_reducible repeat (first | apply S.Lr.R_alloc | apply S.Lr.R_drewN | apply S.Lr.R_drew)); exact HO_6.out))) (below_size (by repeat (first | (with_reducible first | exact HB.out | apply below_alloc | apply pw_below_drewN | apply below_drew1) | exact HB.out)))); have n2_ := Aside0.mk (below_step (by repeat (first | (with_reducible first | exact HB.out | apply below_alloc | apply pw_below_drewN | apply below_drew1) | exact HB.out)) hb); clear HO_6; clear HB; have HO_6 := n0_; have HO235 := n1_; have HB := n2_; clear n0_ n1_ n2_; (try clear hb); (try clear hb2); (try clear hk); (try clear hi); (try clear ho0)) | ((with_reducible refine gate_callee (f := 15) rfl ?_); refine goesL_ (some 57) rfl rfl Tryd.func15 (by kernel_rfl) rfl #[.string a1] rfl (by (try simp only [List.map_toArray, List.map_cons, List.map_nil]); first | done | rfl | (simp only [List.length_drop, List.length_take]; rfl)) ?_; (with_reducible refine (text_Lines.calls a1 t236 t237 _ A21.out (S.Tabs.below HT.out (by repeat (first | (with_reducible first | exact HB.out | apply below_alloc | apply pw_below_drewN | apply below_drew1) | exact HB.out)))).mono ?_); rintro e w29 ⟨v238, rfl, ho0, hb⟩; refine ⟨_, rfl, ?_⟩; have n0_ := Aside0.mk (S.Lr.R_elder' (by (with_reducible repeat (first | apply S.Lr.R_alloc | apply S.Lr.R_drewN | apply S.Lr.R_drew)); exact HO_6.out) (S.Lr.R_base ho0) hb); have n1_ := Aside0.mk (S.Lr.R_elder' (by (with_reducible repeat (first | apply S.Lr.R_alloc | apply S.Lr.R_drewN | apply S.Lr.R_drew)); exact HO235.out) (S.Lr.R_base ho0) hb); have n2_ := Aside0.mk (S.Lr.R_lower (S.Lr.R_new' (S.Lr.R_new' ho0 (S.Lr.R_lt (by (with_reducible repeat (first | apply S.Lr.R_alloc | apply S.Lr.R_drewN | apply S.Lr.R_drew)); exact HO_6.out))) (S.Lr.R_lt (by (with_reducible repeat (first | apply S.Lr.R_alloc | apply S.Lr.R_drewN | apply S.Lr.R_drew)); exact HO235.out))) (below_size (by repeat (first | (with_reducible first | exact HB.out | apply below_alloc | apply pw_below_drewN | apply below_drew1) | exact HB.out)))); have n3_ := Aside0.mk (below_step (by repeat (first | (with_reducible first | exact HB.out | apply below_alloc | apply pw_below_drewN | apply below_drew1) | exact HB.out)) hb); clear HO_6; clear HO235; clear HB; have HO_6 := n0_; have HO235 := n1_; have HO239 := n2_; have HB := n3_; clear n0_ n1_ n2_ n3_; (try clear hb); (try clear hb2); (try clear hk); (try clear hi); (try clear ho0)) | ((with_reducible refine gate_dst (N := 69) rfl ?_); (try (refine gate_guard (by rfl) ?_; dsimp only)); refine Kd.R_lit Kd.string _ 9 ?hg (N := 69) ?hd (xs := ([] : List ByteArray)) (inner := []) (ok := fun _ => True) (okp := fun _ => True) ?hr ?hp (fun _ hk => hk) trivial (Below.refl _ _) (Nat.le_refl _) (by simp) ?_; (case hd => rfl); (case hg => rfl); (case hr => first | (go_simp; done) | (go_simp; rfl)); (case hp => exact (Reps.none _ _)); intro v241 w30 ho31 hb hg_ hnew_; clear hg_ hnew_; (first | rw [← Ny240.out] at ho31 | (simp only [Int.reduceToNat] at ho31; rw [← Ny240.out] at ho31)); have n0_ := Aside0.mk (S.Lr.R_elder' (by (with_reducible repeat (first | apply S.Lr.R_alloc | apply S.Lr.R_drewN | apply S.Lr.R_drew)); exact HO_6.out) (Kd.R_base ho31) hb); have n1_ := Aside0.mk (S.Lr.R_elder' (by (with_reducible repeat (first | apply S.Lr.R_alloc | apply S.Lr.R_drewN | apply S.Lr.R_drew)); exact HO235.out) (Kd.R_base ho31) hb); have n2_ := Aside0.mk (S.Lr.R_elder' (by (with_reducible repeat (first | apply S.Lr.R_alloc | apply S.Lr.R_drewN | apply S.Lr.R_drew)); exact HO239.out) (Kd.R_base ho31) hb); have n3_ := Aside0.mk (Kd.R_lower (Kd.R_new' (Kd.R_new' (Kd.R_new' ho31 (S.Lr.R_lt (by (with_reducible repeat (first | apply S.Lr.R_alloc | apply S.Lr.R_drewN | apply S.Lr.R_drew)); exact HO_6.out))) (S.Lr.R_lt (by (with_reducible repeat (first | apply S.Lr.R_alloc | apply S.Lr.R_drewN | apply S.Lr.R_drew)); exact HO235.out))) (S.Lr.R_lt (by (with_reducible repeat (first | apply S.Lr.R_alloc | apply S.Lr.R_drewN | apply S.Lr.R_drew)); exact HO239.out))) (below_size (by repeat (first | (with_reducible first | exact HB.out | apply below_alloc | apply pw_below_drewN | apply below_drew1) | exact HB.out)))); have n4_ := Aside0.mk (below_step (by repeat (first | (with_reducible first | exact HB.out | apply below_alloc | apply pw_below_drewN | apply below_drew1) | exact HB.out)) hb); clear HO_6; clear HO235; clear HO239; clear HB; have HO_6 := n0_; have HO235 := n1_; have HO239 := n2_; have HO242 := n3_; have HB := n4_; clear n0_ n1_ n2_ n3_ n4_; clear hb ho31) | ((with_reducible refine gate_builtin (b := .append) (xs := #[.tmp 69, .tmp 70]) rfl ?_); (try (refine gate_guard (by rfl) ?_; dsimp only)); at_builtin; refine Kd.R_append_rows Kd.string (w0 := w) w.heap.size rfl (.tmp 69) (.tmp 70) 22 9 (.string ⟨#[]⟩) 16 rfl Tryd.underlying22 info9 rfl (by decide) (by omega) v241 y240 t226 _ _ _ (fun k_ => some k_ ≠ (.slice Ao13 t226.length co13 : Value).ownBlock ∧ some k_ ≠ (v234 : Value).ownBlock ∧ some k_ ≠ (v238 : Value).ownBlock) (fun _ => False) rfl rfl ?aO ?aR (fun _ _ h => h) (fun _ h => h.elim) ?aF ?aB ?aS ?aL ?_; (case aR => repeat (first | exact (S.Lr.R_reads' HO_6.out).2.2 | (with_reducible refine Kd.C_alloc ?_ _) | (with_reducible refine Kd.C_drewN ?_ _) | (with_reducible refine Kd.C_drew ?_))); (case aB => exact (by repeat (first | (with_reducible first | exact HB.out | apply below_alloc | apply pw_below_drewN | apply below_drew1) | exact HB.out))); (case aF => exact (fun k_ hk => ⟨Kd.fresh' (S.Lr.R_lt (by (with_reducible repeat (first | apply S.Lr.R_alloc | apply S.Lr.R_drewN | apply S.Lr.R_drew)); exact HO_6.out)) k_ hk, Kd.fresh' (S.Lr.R_lt (by (with_reducible repeat (first | apply S.Lr.R_alloc | apply S.Lr.R_drewN | apply S.Lr.R_drew)); exact HO235.out)) k_ hk, Kd.fresh' (S.Lr.R_lt (by (with_reducible repeat (first | apply S.Lr.R_alloc | apply S.Lr.R_drewN | apply S.Lr.R_drew)); exact HO239.out)) k_ hk⟩)); (case aO => exact (by (with_reducible repeat (first | apply Kd.R_alloc | apply Kd.R_drewN | apply Kd.R_drew)); exact Kd.R_mono HO242.out (fun _ hk => ⟨hk.1.1.2, ⟨hk.1.2, hk.2⟩⟩))); (case aS => exact (below_size (by repeat (first | (with_reducible first | exact HB.out | apply below_alloc | apply pw_below_drewN | apply below_drew1) | exact HB.out)))); (case aL => have := LMc24.out; omega); intro v244 w32 ho hb hg hat; rw [← Ny243.out] at ho; have n0_ := Aside0.mk (S.Lr.R_after (ok := (fun k_ => some k_ ≠ (v234 : Value).ownBlock ∧ some k_ ≠ (v238 : Value).ownBlock)) (by (with_reducible repeat (first | apply S.Lr.R_alloc | apply S.Lr.R_drewN | apply S.Lr.R_drew)); exact S.Lr.R_mono HO_6.out (fun _ hk => ⟨⟨hk.1.1.2, hk.1.2⟩, hk.2⟩)) hg hat); have n1_ := Aside0.mk (S.Lr.R_after (ok := (fun k_ => some k_ ≠ (.slice Ao13 t226.length co13 : Value).ownBlock ∧ some k_ ≠ (v238 : Value).ownBlock)) (by (with_reducible repeat (first | apply S.Lr.R_alloc | apply S.Lr.R_drewN | apply S.Lr.R_drew)); exact S.Lr.R_mono HO235.out (fun _ hk => ⟨⟨hk.1.1.2, hk.1.2⟩, hk.2⟩)) hg hat); have n2_ := Aside0.mk (S.Lr.R_after (ok := (fun k_ => some k_ ≠ (.slice Ao13 t226.length co13 : Value).ownBlock ∧ some k_ ≠ (v234 : Value).ownBlock)) (by (with_reducible repeat (first | apply S.Lr.R_alloc | apply S.Lr.R_drewN | apply S.Lr.R_drew)); exact S.Lr.R_mono HO239.out (fun _ hk => ⟨⟨hk.1.1.2, hk.1.2⟩, hk.2⟩)) hg hat); have n3_ := Aside0.mk (hb); have n4_ := Aside0.mk (ho); clear HO_6; clear HO235; clear HO239; clear HB; clear HO242; have HO_6 := n0_; have HO235 := n1_; have HO239 := n2_; have HB := n3_; have HO245 := n4_; clear n0_ n1_ n2_ n3_ n4_; clear ho hb hg hat; obtain ⟨Ao34, co34, eo34⟩ := S.Lr.R_slice HO239.out; subst eo34) | ((with_reducible refine gate_builtin (b := .append) (xs := #[.tmp 71, .tmp 72]) rfl ?_); (try (refine gate_guard (by rfl) ?_; dsimp only)); at_builtin; refine Kd.R_append_rows Kd.string (w0 := w) w.heap.size rfl (.tmp 71) (.tmp 72) 22 9 (.string ⟨#[]⟩) 16 rfl Tryd.underlying22 info9 rfl (by decide) (by omega) v244 y243 t236 _ _ _ (fun k_ => some k_ ≠ (.slice Ao13 t226.length co13 : Value).ownBlock ∧ some k_ ≠ (v234 : Value).ownBlock ∧ some k_ ≠ (.slice Ao34 t236.length co34 : Value).ownBlock) (fun _ => False) rfl rfl ?aO ?aR (fun _ _ h => h) (fun _ h => h.elim) ?aF ?aB ?aS ?aL ?_; (case aR => repeat (first | exact (S.Lr.R_reads' HO239.out).2.2 | (with_reducible refine Kd.C_alloc ?_ _) | (with_reducible refine Kd.C_drewN ?_ _) | (with_reducible refine Kd.C_drew ?_))); (case aB => exact (by repeat (first | (with_reducible first | exact HB.out | apply below_alloc | apply pw_below_drewN | apply below_drew1) | exact HB.out))); (case aF => exact (fun k_ hk => ⟨Kd.fresh' (S.Lr.R_lt (by (with_reducible repeat (first | apply S.Lr.R_alloc | apply S.Lr.R_drewN | apply S.Lr.R_drew)); exact HO_6.out)) k_ hk, Kd.fresh' (S.Lr.R_lt (by (with_reducible repeat (first | apply S.Lr.R_alloc | apply S.Lr.R_drewN | apply S.Lr.R_drew)); exact HO235.out)) k_ hk, Kd.fresh' (S.Lr.R_lt (by (with_reducible repeat (first | apply S.Lr.R_alloc | apply S.Lr.R_drewN | apply S.Lr.R_drew)); exact HO239.out)) k_ hk⟩)); (case aO => exact (by (with_reducible repeat (first | apply Kd.R_alloc | apply Kd.R_drewN | apply Kd.R_drew)); exact HO245.out)); (case aS => exact (below_size (by repeat (first | (with_reducible first | exact HB.out | apply below_alloc | apply pw_below_drewN | apply below_drew1) | exact HB.out)))); (case aL => have := LMc25.out; omega); intro v247 w33 ho hb hg hat; rw [← Ny246.out] at ho; have n0_ := Aside0.mk (S.Lr.R_after (ok := (fun k_ => some k_ ≠ (v234 : Value).ownBlock ∧ some k_ ≠ (.slice Ao34 t236.length co34 : Value).ownBlock)) (by (with_reducible repeat (first | apply S.Lr.R_alloc | apply S.Lr.R_drewN | apply S.Lr.R_drew)); exact HO_6.out) hg hat); have n1_ := Aside0.mk (S.Lr.R_after (ok := (fun k_ => some k_ ≠ (.slice Ao13 t226.length co13 : Value).ownBlock ∧ some k_ ≠ (.slice Ao34 t236.length co34 : Value).ownBlock)) (by (with_reducible repeat (first | apply S.Lr.R_alloc | apply S.Lr.R_drewN | apply S.Lr.R_drew)); exact HO235.out) hg hat); have n2_ := Aside0.mk (S.Lr.R_after (ok := (fun k_ => some k_ ≠ (.slice Ao13 t226.length co13 : Value).ownBlock ∧ some k_ ≠ (v234 : Value).ownBlock)) (by (with_reducible repeat (first | apply S.Lr.R_alloc | apply S.Lr.R_drewN | apply S.Lr.R_drew)); exact HO239.out) hg hat); have n3_ := Aside0.mk (hb); have n4_ := Aside0.mk (ho); clear HO_6; clear HO235; clear HO239; clear HB; clear HO245; have HO_6 := n0_; have HO235 := n1_; have HO239 := n2_; have HB := n3_; have HO248 := n4_; clear n0_ n1_ n2_ n3_ n4_; clear ho hb hg hat; obtain ⟨Ao35, co35, eo35⟩ := S.Lr.R_slice HO235.out; subst eo35; obtain ⟨Ao36, co36, eo36⟩ := Kd.R_slice HO248.out; subst eo36) | (go_at_call 19; (with_reducible refine (symbolonref03_Same.calls k2 _ _ t232 _ _ y246 true _ ?side1 ?side2 ?side3 ?side4 A26.out).mono ?_); (case side1 => repeat (first | exact (S.Lr.R_reads' HO235.out).2.2 | (with_reducible refine Kd.C_alloc ?_ _) | (with_reducible refine Kd.C_drewN ?_ _) | (with_reducible refine Kd.C_drew ?_))); (case side2 => exact (S.Lr.R_reads' HO235.out).2.1); (case side3 => repeat (first | exact (Kd.R_reads' HO248.out).2.2 | (with_reducible refine Kd.C_alloc ?_ _) | (with_reducible refine Kd.C_drewN ?_ _) | (with_reducible refine Kd.C_drew ?_))); (case side4 => exact (Kd.R_reads' HO248.out).2.1); rintro e w' ⟨rfl, ⟨nd, rfl⟩⟩))
                              go_ret
                              exact ⟨by first | rfl | (simp [errW_none, errW_some] <;> rfl) | (simp [*, errW_none, errW_some] <;> rfl), by repeat (first | (with_reducible first | exact HB.out | apply below_alloc | apply pw_below_drewN | apply below_drew1) | exact HB.out)⟩
                            · replace c27 := Bool.eq_false_iff.mpr c27
                              subst c27
                              have H1 : (none) = some r := by rw [if_neg (show ¬ (false = true) by decide)] at H; exact H
                              clear H
                              have H := H1
                              clear H1
                              exact absurd H (by simp)
                          · rw [if_neg c25] at H
                            exact absurd H (by simp)
                        · rw [if_neg c24] at H
                          exact absurd H (by simp)
                      · rw [if_neg c23] at H
                        exact absurd H (by simp)
                    · replace c22 := Bool.eq_false_iff.mpr c22
                      subst c22
                      have H1 : (none) = some r := by rw [if_neg (show ¬ (false = true) by decide)] at H; exact H
                      clear H
                      have H := H1
                      clear H1
                      exact absurd H (by simp)
                  · rw [if_neg c19] at H
                    exact absurd H (by simp)
          · rw [if_neg c11] at H
            exact absurd H (by simp)
        · rw [if_neg c10] at H
          exact absurd H (by simp)

/-- THE ONE PURE STATEMENT of symbolonlaw03_TextLines. -/
def symbolonlaw03_TextLines.Pure : Prop := ∀ (a0 : ByteArray) (a1 : ByteArray), (a0.size ≤ 140737488351232) → (a1.size ≤ 140737488351232) → ∃ k, symbolonlaw03_TextLines.f k a0 a1 = some true


end Go.Proofs.YtfjdlllmpgknpaaDoor.Q
