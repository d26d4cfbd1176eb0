-- Laid by a program of this session (wip/myprint.py) in the form of the kit's print; a text of this claim, checked by Lean like any other.
import Derived.Test.YtfjdlllmpgknpaaDoorQ0
import Derived.Test.YtfjdlllmpgknpaaDoorSTabs
import Derived.Test.YtfjdlllmpgknpaaDoorQ2
import Derived.Test.YtfjdlllmpgknpaaDoorQ7
import Derived.Test.YtfjdlllmpgknpaaDoorQ11
import Derived.Test.YtfjdlllmpgknpaaDoorQ12
import Derived.Test.YtfjdlllmpgknpaaDoorQ13
import Derived.Test.YtfjdlllmpgknpaaDoorQ21
import Derived.Test.YtfjdlllmpgknpaaDoorQ22
import Derived.Test.YtfjdlllmpgknpaaDoorQ23
import Derived.Test.YtfjdlllmpgknpaaDoorQ24
import Derived.Test.YtfjdlllmpgknpaaDoorQRefs
namespace Go.Proofs.YtfjdlllmpgknpaaDoor.Q
open Go.RowKit Go.Proofs.YtfjdlllmpgknpaaDoorW.PrintWords Go.Proofs.YtfjdlllmpgknpaaDoorW.PrintLast Go.Proofs.YtfjdlllmpgknpaaDoorW.PrintMore
attribute [local go_sem] max2_int min2_int max_two min_two max_three min_three max_four min_four   -- for this text's walks alone
set_option linter.unusedVariables false
set_option linter.unusedSimpArgs false

/-! ### symbolonlaw03_TextTells: function 3 -/
def symbolonlaw03_TextTells.j0 : Nat → Int → ByteArray → List ByteArray → Bool → Bool → Option (Bool)
  | 0, _, _, _, _, _ => none
  | k + 1, x0, x1, x2, x7, x27 => if x27 = true then (some x7) else ((text_Get.f x1).bind fun bt171 => ((symbolonref03_Get.f k x1).bind fun bt173 => ((text_Words.f k x1).bind fun bt175 => ((symbolonref03_Words.f k x1).bind fun bt179 => ((text_Lines.f x1).bind fun bt183 => ((symbolonref03_Lines.f k x1).bind fun bt187 => (if x7 = true then ((text_Number.f x0).bind fun t191 => ((symbolonref03_Number.f k x0).bind fun t192 => (if t191.toList = t192.toList then (if bt171.1 = bt173.1 then (if (bt171.2 == bt173.2) = true then ((symbolonref03_Same.f k bt175.1 bt179.1).bind fun t193 => (if t193 = true then (if (bt175.2 == bt179.2) = true then ((symbolonref03_Same.f k bt183.1 bt187.1).bind fun t194 => (if t194 = true then (if bt183.2.toList = bt187.2.toList then ((text_Join.f k x2).bind fun t195 => ((symbolonref03_Join.f k x2).bind fun t196 => (if t195.toList = t196.toList then ((text_Text.f k x2).bind fun t197 => ((symbolonref03_Text.f k x2).bind fun t198 => (some (t197.toList == t198.toList)))) else (none)))) else (none)) else (none))) else (none)) else (none))) else (none)) else (none)) else (none)))) else (none))))))))
def symbolonlaw03_TextTells.f (k : Nat) (a0 : Int) (a1 : ByteArray) (l2 : List ByteArray) : Option (Bool) := (symbolonlaw03_head.f k).bind fun t169 => (if (a1.size : Int) > 3000 then (symbolonlaw03_TextTells.j0 k a0 a1 l2 t169 true) else ((symbolonlaw03_Great.f k l2).bind fun t170 => (symbolonlaw03_TextTells.j0 k a0 a1 l2 t169 t170)))
theorem symbolonlaw03_TextTells.mono_l : ∀ k, (∀ y0 y1 y2 y3 y4, LeO (symbolonlaw03_TextTells.j0 k y0 y1 y2 y3 y4) (symbolonlaw03_TextTells.j0 (k + 1) y0 y1 y2 y3 y4))
  | 0 => fun _ _ _ _ _ r h => by simp [symbolonlaw03_TextTells.j0] at h
  | k + 1 => by
    have ih0 := symbolonlaw03_TextTells.mono_l k
    · intro y0 y1 y2 y3 y4
      unfold symbolonlaw03_TextTells.j0
      repeat' first
      | (with_reducible exact ih0 _ _ _ _ _)
      | (with_reducible exact symbolonlaw03_Great.mono _ _)
      | (with_reducible exact symbolonlaw03_head.mono _)
      | (with_reducible exact symbolonref03_Get.mono _ _)
      | (with_reducible exact symbolonref03_Join.mono _ _)
      | (with_reducible exact symbolonref03_Lines.mono _ _)
      | (with_reducible exact symbolonref03_Number.mono _ _)
      | (with_reducible exact symbolonref03_Same.mono _ _ _)
      | (with_reducible exact symbolonref03_Text.mono _ _)
      | (with_reducible exact symbolonref03_Words.mono _ _)
      | (with_reducible exact text_Join.mono _ _)
      | (with_reducible exact text_Text.mono _ _)
      | (with_reducible exact text_Words.mono _ _)
      | (with_reducible exact LeO.refl _)
      | (with_reducible exact LeO.none _)
      | (with_reducible refine LeO.ite ?_ ?_)
      | (with_reducible refine LeO.bind ?_ (fun _ => ?_))
      | exact ih0 _ _ _ _ _
      | exact symbolonlaw03_Great.mono _ _
      | exact symbolonlaw03_head.mono _
      | exact symbolonref03_Get.mono _ _
      | exact symbolonref03_Join.mono _ _
      | exact symbolonref03_Lines.mono _ _
      | exact symbolonref03_Number.mono _ _
      | exact symbolonref03_Same.mono _ _ _
      | exact symbolonref03_Text.mono _ _
      | exact symbolonref03_Words.mono _ _
      | exact text_Join.mono _ _
      | exact text_Text.mono _ _
      | exact text_Words.mono _ _
      | exact LeO.none _
      | refine LeO.ite ?_ ?_
      | refine LeO.bind ?_ (fun _ => ?_)
theorem symbolonlaw03_TextTells.mono : ∀ a0 a1 a2 k, LeO (symbolonlaw03_TextTells.f k a0 a1 a2) (symbolonlaw03_TextTells.f (k + 1) a0 a1 a2) := by
  intro a0 a1 a2 k
  have ih0 := symbolonlaw03_TextTells.mono_l k
  unfold symbolonlaw03_TextTells.f
  repeat' first
      | (with_reducible exact ih0 _ _ _ _ _)
      | (with_reducible exact symbolonlaw03_Great.mono _ _)
      | (with_reducible exact symbolonlaw03_head.mono _)
      | (with_reducible exact symbolonref03_Get.mono _ _)
      | (with_reducible exact symbolonref03_Join.mono _ _)
      | (with_reducible exact symbolonref03_Lines.mono _ _)
      | (with_reducible exact symbolonref03_Number.mono _ _)
      | (with_reducible exact symbolonref03_Same.mono _ _ _)
      | (with_reducible exact symbolonref03_Text.mono _ _)
      | (with_reducible exact symbolonref03_Words.mono _ _)
      | (with_reducible exact text_Join.mono _ _)
      | (with_reducible exact text_Text.mono _ _)
      | (with_reducible exact text_Words.mono _ _)
      | (with_reducible exact LeO.refl _)
      | (with_reducible exact LeO.none _)
      | (with_reducible refine LeO.ite ?_ ?_)
      | (with_reducible refine LeO.bind ?_ (fun _ => ?_))
      | exact ih0 _ _ _ _ _
      | exact symbolonlaw03_Great.mono _ _
      | exact symbolonlaw03_head.mono _
      | exact symbolonref03_Get.mono _ _
      | exact symbolonref03_Join.mono _ _
      | exact symbolonref03_Lines.mono _ _
      | exact symbolonref03_Number.mono _ _
      | exact symbolonref03_Same.mono _ _ _
      | exact symbolonref03_Text.mono _ _
      | exact symbolonref03_Words.mono _ _
      | exact text_Join.mono _ _
      | exact text_Text.mono _ _
      | exact text_Words.mono _ _
      | exact LeO.none _
      | refine LeO.ite ?_ ?_
      | refine LeO.bind ?_ (fun _ => ?_)
set_option maxHeartbeats 8000000 in
set_option maxRecDepth 100000 in
theorem symbolonlaw03_TextTells.calls (k : Nat) (a0 : Int) (a1 : ByteArray) (A2 : Option Addr) (c2 : Nat) (l2 : List ByteArray) (r : Bool) (w : World) (hr2 : Kd.C Kd.string w A2 l2.length l2) (hc2 : l2.length ≤ c2) (h : symbolonlaw03_TextTells.f k a0 a1 l2 = some r) (hT : S.Tabs w) :
    Calls Tryd.prog 3 #[.int .i64 a0, .string a1, .slice A2 l2.length c2] w fun e w' => e = .returned (.bool r) ∧ Below w.heap.size w w' := by
  have HR2 := Aside0.mk hr2
  have HC2 := Aside0.mk hc2
  clear hr2 hc2
  have HB := Aside0.mk (Below.refl w.heap.size w)
  have HT := Aside0.mk hT
  clear hT
  have H : ((symbolonlaw03_head.f k).bind fun t169 => (if (a1.size : Int) > 3000 then (symbolonlaw03_TextTells.j0 k a0 a1 l2 t169 true) else ((symbolonlaw03_Great.f k l2).bind fun t170 => (symbolonlaw03_TextTells.j0 k a0 a1 l2 t169 t170)))) = some r := h
  clear h
  replace H := Option.bind_eq_some_iff.mp H
  obtain ⟨t169, A40, H⟩ := H
  replace H : (if (a1.size : Int) > 3000 then (symbolonlaw03_TextTells.j0 k a0 a1 l2 t169 true) else ((symbolonlaw03_Great.f k l2).bind fun t170 => (symbolonlaw03_TextTells.j0 k a0 a1 l2 t169 t170))) = some r := H
  have A4 := Aside0.mk A40
  clear A40
  have HC5 := Aside0.mk H
  clear H
  go_enter Tryd.func3, Tryd.ntmps3
  go_upto_region 2 with (first | ((with_reducible refine gate_callee (f := 9) rfl ?_); refine goesL_ (some 20) rfl rfl Tryd.func9 (by kernel_rfl) rfl #[] rfl (by (try simp only [List.map_toArray, List.map_cons, List.map_nil]); first | done | rfl | (simp only [List.length_drop, List.length_take]; rfl)) ?_; (with_reducible refine (symbolonlaw03_head.calls k  t169 _ A4.out (S.Tabs.below HT.out (by repeat (first | (with_reducible first | exact HB.out | apply below_alloc | apply pw_below_drewN | apply below_drew1) | exact HB.out)))).mono ?_); rintro e w6 ⟨rfl, hb⟩; refine ⟨_, rfl, ?_⟩; have n0_ := Aside0.mk (below_step (by repeat (first | (with_reducible first | exact HB.out | apply below_alloc | apply pw_below_drewN | apply below_drew1) | exact HB.out)) hb); clear HB; have HB := n0_; clear n0_; (try clear hb); (try clear hb2); (try clear hk); (try clear hi)))
  (try simp only [Act.put, List.setIfInBounds_toArray, List.set_cons_zero, List.set_cons_succ])
  go_cut [27] (fun v27 wc => ∃ (kq : Nat) (x27_4 : Bool), v27 = .bool x27_4 ∧ Aside0 (symbolonlaw03_TextTells.j0 kq a0 a1 l2 t169 x27_4 = some r) ∧ Aside0 (kq ≤ k) ∧ Aside0 (Below w.heap.size w wc))
  case first =>
    have H := HC5.out
    clear HC5
    by_cases c7 : (a1.size : Int) > 3000
    · rw [if_pos c7] at H
      have c7b0 : decide (3000 < (a1.size : Int)) = true := decide_eq_true c7
      have c7b1 : decide (3000 < a1.size) = true := decide_eq_true (by omega)
      clear c7
      (first | rw [c7b0] | (simp only [i64_w, i32_w]; rw [c7b0]) | skip)
      have H' := Aside0.mk H
      clear H
      go_wp2
      go_meet
      case rel => exact ⟨_, (true), (by first | rfl | (simp; done) | (simp [*]; done)), H', ⟨by first | omega | exact Nat.le_refl _⟩, ⟨by repeat (first | (with_reducible first | exact HB.out | apply below_alloc | apply pw_below_drewN | apply below_drew1) | exact HB.out)⟩⟩
    · rw [if_neg c7] at H
      have c7b0 : decide (3000 < (a1.size : Int)) = false := decide_eq_false c7
      have c7b1 : decide (3000 < a1.size) = false := decide_eq_false (by omega)
      clear c7
      (first | rw [c7b0] | (simp only [i64_w, i32_w]; rw [c7b0]) | skip)
      replace H := Option.bind_eq_some_iff.mp H
      obtain ⟨t170, A80, H⟩ := H
      replace H : (symbolonlaw03_TextTells.j0 k a0 a1 l2 t169 t170) = some r := H
      have A8 := Aside0.mk A80
      clear A80
      have H' := Aside0.mk H
      clear H
      go_wp2_with (first | (go_at_call 10; (with_reducible refine (symbolonlaw03_Great.calls k _ _ l2 t170 _ ?side1 ?side2 A8.out).mono ?_); (case side1 => repeat (first | exact (Kd.C_below HR2.out HB.out) | (with_reducible refine Kd.C_alloc ?_ _) | (with_reducible refine Kd.C_drewN ?_ _) | (with_reducible refine Kd.C_drew ?_))); (case side2 => exact HC2.out); rintro e w9 ⟨rfl, hb⟩; have n0_ := Aside0.mk (below_step (by repeat (first | (with_reducible first | exact HB.out | apply below_alloc | apply pw_below_drewN | apply below_drew1) | exact HB.out)) hb); clear HB; have HB := n0_; clear n0_; (try clear hb); (try clear hb2); (try clear hk); (try clear hi)))
      go_meet
      case rel => exact ⟨_, (t170), (by first | rfl | (simp; done) | (simp [*]; done)), H', ⟨by first | omega | exact Nat.le_refl _⟩, ⟨by repeat (first | (with_reducible first | exact HB.out | apply below_alloc | apply pw_below_drewN | apply below_drew1) | exact HB.out)⟩⟩
  case rest =>
    clear HC5
    try clear c2
    try clear p2
    try clear c3
    try clear c7
    try clear c7b0
    try clear c7b1
    try clear c9
    obtain ⟨kq, x27_4, rfl, HA, HJ4, HB⟩ := hcut
    cases kq with
    | zero => exact absurd HA.out (by simp [symbolonlaw03_TextTells.j0])
    | succ kj4 =>
      have H := HA.out
      clear HA
      simp only [symbolonlaw03_TextTells.j0] at H
      by_cases c10 : x27_4 = true
      · subst c10
        have H1 : (some t169) = some r := by rw [if_pos rfl] at H; exact H
        clear H
        have H := H1
        clear H1
        obtain rfl := Option.some.inj H
        go_wp2
        go_ret
        exact ⟨by first | rfl | (simp [errW_none, errW_some] <;> rfl) | (simp [*, errW_none, errW_some] <;> rfl), by repeat (first | (with_reducible first | exact HB.out | apply below_alloc | apply pw_below_drewN | apply below_drew1) | exact HB.out)⟩
      · replace c10 := Bool.eq_false_iff.mpr c10
        subst c10
        have H1 : ((text_Get.f a1).bind fun bt171 => ((symbolonref03_Get.f kj4 a1).bind fun bt173 => ((text_Words.f kj4 a1).bind fun bt175 => ((symbolonref03_Words.f kj4 a1).bind fun bt179 => ((text_Lines.f a1).bind fun bt183 => ((symbolonref03_Lines.f kj4 a1).bind fun bt187 => (if t169 = true then ((text_Number.f a0).bind fun t191 => ((symbolonref03_Number.f kj4 a0).bind fun t192 => (if t191.toList = t192.toList then (if bt171.1 = bt173.1 then (if (bt171.2 == bt173.2) = true then ((symbolonref03_Same.f kj4 bt175.1 bt179.1).bind fun t193 => (if t193 = true then (if (bt175.2 == bt179.2) = true then ((symbolonref03_Same.f kj4 bt183.1 bt187.1).bind fun t194 => (if t194 = true then (if bt183.2.toList = bt187.2.toList then ((text_Join.f kj4 l2).bind fun t195 => ((symbolonref03_Join.f kj4 l2).bind fun t196 => (if t195.toList = t196.toList then ((text_Text.f kj4 l2).bind fun t197 => ((symbolonref03_Text.f kj4 l2).bind fun t198 => (some (t197.toList == t198.toList)))) else (none)))) else (none)) else (none))) else (none)) else (none))) else (none)) else (none)) else (none)))) else (none)))))))) = some r := by rw [if_neg (show ¬ (false = true) by decide)] at H; exact H
        clear H
        have H := H1
        clear H1
        replace H := Option.bind_eq_some_iff.mp H
        obtain ⟨⟨t171, t172⟩, A110, H⟩ := H
        replace H : ((symbolonref03_Get.f kj4 a1).bind fun bt173 => ((text_Words.f kj4 a1).bind fun bt175 => ((symbolonref03_Words.f kj4 a1).bind fun bt179 => ((text_Lines.f a1).bind fun bt183 => ((symbolonref03_Lines.f kj4 a1).bind fun bt187 => (if t169 = true then ((text_Number.f a0).bind fun t191 => ((symbolonref03_Number.f kj4 a0).bind fun t192 => (if t191.toList = t192.toList then (if t171 = bt173.1 then (if (t172 == bt173.2) = true then ((symbolonref03_Same.f kj4 bt175.1 bt179.1).bind fun t193 => (if t193 = true then (if (bt175.2 == bt179.2) = true then ((symbolonref03_Same.f kj4 bt183.1 bt187.1).bind fun t194 => (if t194 = true then (if bt183.2.toList = bt187.2.toList then ((text_Join.f kj4 l2).bind fun t195 => ((symbolonref03_Join.f kj4 l2).bind fun t196 => (if t195.toList = t196.toList then ((text_Text.f kj4 l2).bind fun t197 => ((symbolonref03_Text.f kj4 l2).bind fun t198 => (some (t197.toList == t198.toList)))) else (none)))) else (none)) else (none))) else (none)) else (none))) else (none)) else (none)) else (none)))) else (none))))))) = some r := H
        have A11 := Aside0.mk A110
        clear A110
        replace H := Option.bind_eq_some_iff.mp H
        obtain ⟨⟨t173, t174⟩, A120, H⟩ := H
        replace H : ((text_Words.f kj4 a1).bind fun bt175 => ((symbolonref03_Words.f kj4 a1).bind fun bt179 => ((text_Lines.f a1).bind fun bt183 => ((symbolonref03_Lines.f kj4 a1).bind fun bt187 => (if t169 = true then ((text_Number.f a0).bind fun t191 => ((symbolonref03_Number.f kj4 a0).bind fun t192 => (if t191.toList = t192.toList then (if t171 = t173 then (if (t172 == t174) = true then ((symbolonref03_Same.f kj4 bt175.1 bt179.1).bind fun t193 => (if t193 = true then (if (bt175.2 == bt179.2) = true then ((symbolonref03_Same.f kj4 bt183.1 bt187.1).bind fun t194 => (if t194 = true then (if bt183.2.toList = bt187.2.toList then ((text_Join.f kj4 l2).bind fun t195 => ((symbolonref03_Join.f kj4 l2).bind fun t196 => (if t195.toList = t196.toList then ((text_Text.f kj4 l2).bind fun t197 => ((symbolonref03_Text.f kj4 l2).bind fun t198 => (some (t197.toList == t198.toList)))) else (none)))) else (none)) else (none))) else (none)) else (none))) else (none)) else (none)) else (none)))) else (none)))))) = some r := H
        have A12 := Aside0.mk A120
        clear A120
        replace H := Option.bind_eq_some_iff.mp H
        obtain ⟨⟨t175, t176⟩, A130, H⟩ := H
        replace H : ((symbolonref03_Words.f kj4 a1).bind fun bt179 => ((text_Lines.f a1).bind fun bt183 => ((symbolonref03_Lines.f kj4 a1).bind fun bt187 => (if t169 = true then ((text_Number.f a0).bind fun t191 => ((symbolonref03_Number.f kj4 a0).bind fun t192 => (if t191.toList = t192.toList then (if t171 = t173 then (if (t172 == t174) = true then ((symbolonref03_Same.f kj4 t175 bt179.1).bind fun t193 => (if t193 = true then (if (t176 == bt179.2) = true then ((symbolonref03_Same.f kj4 bt183.1 bt187.1).bind fun t194 => (if t194 = true then (if bt183.2.toList = bt187.2.toList then ((text_Join.f kj4 l2).bind fun t195 => ((symbolonref03_Join.f kj4 l2).bind fun t196 => (if t195.toList = t196.toList then ((text_Text.f kj4 l2).bind fun t197 => ((symbolonref03_Text.f kj4 l2).bind fun t198 => (some (t197.toList == t198.toList)))) else (none)))) else (none)) else (none))) else (none)) else (none))) else (none)) else (none)) else (none)))) else (none))))) = some r := H
        have A13 := Aside0.mk A130
        clear A130
        replace H := Option.bind_eq_some_iff.mp H
        obtain ⟨⟨t179, t180⟩, A140, H⟩ := H
        replace H : ((text_Lines.f a1).bind fun bt183 => ((symbolonref03_Lines.f kj4 a1).bind fun bt187 => (if t169 = true then ((text_Number.f a0).bind fun t191 => ((symbolonref03_Number.f kj4 a0).bind fun t192 => (if t191.toList = t192.toList then (if t171 = t173 then (if (t172 == t174) = true then ((symbolonref03_Same.f kj4 t175 t179).bind fun t193 => (if t193 = true then (if (t176 == t180) = true then ((symbolonref03_Same.f kj4 bt183.1 bt187.1).bind fun t194 => (if t194 = true then (if bt183.2.toList = bt187.2.toList then ((text_Join.f kj4 l2).bind fun t195 => ((symbolonref03_Join.f kj4 l2).bind fun t196 => (if t195.toList = t196.toList then ((text_Text.f kj4 l2).bind fun t197 => ((symbolonref03_Text.f kj4 l2).bind fun t198 => (some (t197.toList == t198.toList)))) else (none)))) else (none)) else (none))) else (none)) else (none))) else (none)) else (none)) else (none)))) else (none)))) = some r := H
        have A14 := Aside0.mk A140
        clear A140
        replace H := Option.bind_eq_some_iff.mp H
        obtain ⟨⟨t183, t184⟩, A150, H⟩ := H
        replace H : ((symbolonref03_Lines.f kj4 a1).bind fun bt187 => (if t169 = true then ((text_Number.f a0).bind fun t191 => ((symbolonref03_Number.f kj4 a0).bind fun t192 => (if t191.toList = t192.toList then (if t171 = t173 then (if (t172 == t174) = true then ((symbolonref03_Same.f kj4 t175 t179).bind fun t193 => (if t193 = true then (if (t176 == t180) = true then ((symbolonref03_Same.f kj4 t183 bt187.1).bind fun t194 => (if t194 = true then (if t184.toList = bt187.2.toList then ((text_Join.f kj4 l2).bind fun t195 => ((symbolonref03_Join.f kj4 l2).bind fun t196 => (if t195.toList = t196.toList then ((text_Text.f kj4 l2).bind fun t197 => ((symbolonref03_Text.f kj4 l2).bind fun t198 => (some (t197.toList == t198.toList)))) else (none)))) else (none)) else (none))) else (none)) else (none))) else (none)) else (none)) else (none)))) else (none))) = some r := H
        have A15 := Aside0.mk A150
        clear A150
        replace H := Option.bind_eq_some_iff.mp H
        obtain ⟨⟨t187, t188⟩, A160, H⟩ := H
        replace H : (if t169 = true then ((text_Number.f a0).bind fun t191 => ((symbolonref03_Number.f kj4 a0).bind fun t192 => (if t191.toList = t192.toList then (if t171 = t173 then (if (t172 == t174) = true then ((symbolonref03_Same.f kj4 t175 t179).bind fun t193 => (if t193 = true then (if (t176 == t180) = true then ((symbolonref03_Same.f kj4 t183 t187).bind fun t194 => (if t194 = true then (if t184.toList = t188.toList then ((text_Join.f kj4 l2).bind fun t195 => ((symbolonref03_Join.f kj4 l2).bind fun t196 => (if t195.toList = t196.toList then ((text_Text.f kj4 l2).bind fun t197 => ((symbolonref03_Text.f kj4 l2).bind fun t198 => (some (t197.toList == t198.toList)))) else (none)))) else (none)) else (none))) else (none)) else (none))) else (none)) else (none)) else (none)))) else (none)) = some r := H
        have A16 := Aside0.mk A160
        clear A160
        by_cases c17 : t169 = true
        · subst c17
          have H1 : ((text_Number.f a0).bind fun t191 => ((symbolonref03_Number.f kj4 a0).bind fun t192 => (if t191.toList = t192.toList then (if t171 = t173 then (if (t172 == t174) = true then ((symbolonref03_Same.f kj4 t175 t179).bind fun t193 => (if t193 = true then (if (t176 == t180) = true then ((symbolonref03_Same.f kj4 t183 t187).bind fun t194 => (if t194 = true then (if t184.toList = t188.toList then ((text_Join.f kj4 l2).bind fun t195 => ((symbolonref03_Join.f kj4 l2).bind fun t196 => (if t195.toList = t196.toList then ((text_Text.f kj4 l2).bind fun t197 => ((symbolonref03_Text.f kj4 l2).bind fun t198 => (some (t197.toList == t198.toList)))) else (none)))) else (none)) else (none))) else (none)) else (none))) else (none)) else (none)) else (none)))) = some r := by rw [if_pos rfl] at H; exact H
          clear H
          have H := H1
          clear H1
          replace H := Option.bind_eq_some_iff.mp H
          obtain ⟨t191, A180, H⟩ := H
          replace H : ((symbolonref03_Number.f kj4 a0).bind fun t192 => (if t191.toList = t192.toList then (if t171 = t173 then (if (t172 == t174) = true then ((symbolonref03_Same.f kj4 t175 t179).bind fun t193 => (if t193 = true then (if (t176 == t180) = true then ((symbolonref03_Same.f kj4 t183 t187).bind fun t194 => (if t194 = true then (if t184.toList = t188.toList then ((text_Join.f kj4 l2).bind fun t195 => ((symbolonref03_Join.f kj4 l2).bind fun t196 => (if t195.toList = t196.toList then ((text_Text.f kj4 l2).bind fun t197 => ((symbolonref03_Text.f kj4 l2).bind fun t198 => (some (t197.toList == t198.toList)))) else (none)))) else (none)) else (none))) else (none)) else (none))) else (none)) else (none)) else (none))) = some r := H
          have A18 := Aside0.mk A180
          clear A180
          replace H := Option.bind_eq_some_iff.mp H
          obtain ⟨t192, A190, H⟩ := H
          replace H : (if t191.toList = t192.toList then (if t171 = t173 then (if (t172 == t174) = true then ((symbolonref03_Same.f kj4 t175 t179).bind fun t193 => (if t193 = true then (if (t176 == t180) = true then ((symbolonref03_Same.f kj4 t183 t187).bind fun t194 => (if t194 = true then (if t184.toList = t188.toList then ((text_Join.f kj4 l2).bind fun t195 => ((symbolonref03_Join.f kj4 l2).bind fun t196 => (if t195.toList = t196.toList then ((text_Text.f kj4 l2).bind fun t197 => ((symbolonref03_Text.f kj4 l2).bind fun t198 => (some (t197.toList == t198.toList)))) else (none)))) else (none)) else (none))) else (none)) else (none))) else (none)) else (none)) else (none)) = some r := H
          have A19 := Aside0.mk A190
          clear A190
          by_cases c20 : t191.toList = t192.toList
          · rw [if_pos c20] at H
            have c20b0 : (t191.toList == t192.toList) = true := beq_iff_eq.mpr c20
            have c20b1 : (t191.toList != t192.toList) = false := bne_eq_false_iff_eq.mpr c20
            clear c20
            by_cases c21 : t171 = t173
            · rw [if_pos c21] at H
              have c21b0 : (t171 == t173) = true := beq_iff_eq.mpr c21
              have c21b1 : (t171 != t173) = false := bne_eq_false_iff_eq.mpr c21
              clear c21
              by_cases c22 : (t172 == t174) = true
              · rw [if_pos c22] at H
                have c22b0 : (t172 == t174) = true := c22
                (try (have c22b1 : decide (t172 = t174) = true := by simpa using c22))
                (try (have c22b2 : (t172 == t174) = true := by simpa using c22))
                clear c22
                replace H := Option.bind_eq_some_iff.mp H
                obtain ⟨t193, A230, H⟩ := H
                replace H : (if t193 = true then (if (t176 == t180) = true then ((symbolonref03_Same.f kj4 t183 t187).bind fun t194 => (if t194 = true then (if t184.toList = t188.toList then ((text_Join.f kj4 l2).bind fun t195 => ((symbolonref03_Join.f kj4 l2).bind fun t196 => (if t195.toList = t196.toList then ((text_Text.f kj4 l2).bind fun t197 => ((symbolonref03_Text.f kj4 l2).bind fun t198 => (some (t197.toList == t198.toList)))) else (none)))) else (none)) else (none))) else (none)) else (none)) = some r := H
                have A23 := Aside0.mk A230
                clear A230
                by_cases c24 : t193 = true
                · subst c24
                  have H1 : (if (t176 == t180) = true then ((symbolonref03_Same.f kj4 t183 t187).bind fun t194 => (if t194 = true then (if t184.toList = t188.toList then ((text_Join.f kj4 l2).bind fun t195 => ((symbolonref03_Join.f kj4 l2).bind fun t196 => (if t195.toList = t196.toList then ((text_Text.f kj4 l2).bind fun t197 => ((symbolonref03_Text.f kj4 l2).bind fun t198 => (some (t197.toList == t198.toList)))) else (none)))) else (none)) else (none))) else (none)) = some r := by rw [if_pos rfl] at H; exact H
                  clear H
                  have H := H1
                  clear H1
                  by_cases c25 : (t176 == t180) = true
                  · rw [if_pos c25] at H
                    have c25b0 : (t176 == t180) = true := c25
                    (try (have c25b1 : decide (t176 = t180) = true := by simpa using c25))
                    (try (have c25b2 : (t176 == t180) = true := by simpa using c25))
                    clear c25
                    replace H := Option.bind_eq_some_iff.mp H
                    obtain ⟨t194, A260, H⟩ := H
                    replace H : (if t194 = true then (if t184.toList = t188.toList then ((text_Join.f kj4 l2).bind fun t195 => ((symbolonref03_Join.f kj4 l2).bind fun t196 => (if t195.toList = t196.toList then ((text_Text.f kj4 l2).bind fun t197 => ((symbolonref03_Text.f kj4 l2).bind fun t198 => (some (t197.toList == t198.toList)))) else (none)))) else (none)) else (none)) = some r := H
                    have A26 := Aside0.mk A260
                    clear A260
                    by_cases c27 : t194 = true
                    · subst c27
                      have H1 : (if t184.toList = t188.toList then ((text_Join.f kj4 l2).bind fun t195 => ((symbolonref03_Join.f kj4 l2).bind fun t196 => (if t195.toList = t196.toList then ((text_Text.f kj4 l2).bind fun t197 => ((symbolonref03_Text.f kj4 l2).bind fun t198 => (some (t197.toList == t198.toList)))) else (none)))) else (none)) = some r := by rw [if_pos rfl] at H; exact H
                      clear H
                      have H := H1
                      clear H1
                      by_cases c28 : t184.toList = t188.toList
                      · rw [if_pos c28] at H
                        have c28b0 : (t184.toList == t188.toList) = true := beq_iff_eq.mpr c28
                        have c28b1 : (t184.toList != t188.toList) = false := bne_eq_false_iff_eq.mpr c28
                        clear c28
                        replace H := Option.bind_eq_some_iff.mp H
                        obtain ⟨t195, A290, H⟩ := H
                        replace H : ((symbolonref03_Join.f kj4 l2).bind fun t196 => (if t195.toList = t196.toList then ((text_Text.f kj4 l2).bind fun t197 => ((symbolonref03_Text.f kj4 l2).bind fun t198 => (some (t197.toList == t198.toList)))) else (none))) = some r := H
                        have A29 := Aside0.mk A290
                        clear A290
                        replace H := Option.bind_eq_some_iff.mp H
                        obtain ⟨t196, A300, H⟩ := H
                        replace H : (if t195.toList = t196.toList then ((text_Text.f kj4 l2).bind fun t197 => ((symbolonref03_Text.f kj4 l2).bind fun t198 => (some (t197.toList == t198.toList)))) else (none)) = some r := H
                        have A30 := Aside0.mk A300
                        clear A300
                        by_cases c31 : t195.toList = t196.toList
                        · rw [if_pos c31] at H
                          have c31b0 : (t195.toList == t196.toList) = true := beq_iff_eq.mpr c31
                          have c31b1 : (t195.toList != t196.toList) = false := bne_eq_false_iff_eq.mpr c31
                          clear c31
                          replace H := Option.bind_eq_some_iff.mp H
                          obtain ⟨t197, A320, H⟩ := H
                          replace H : ((symbolonref03_Text.f kj4 l2).bind fun t198 => (some (t197.toList == t198.toList))) = some r := H
                          have A32 := Aside0.mk A320
                          clear A320
                          replace H := Option.bind_eq_some_iff.mp H
                          obtain ⟨t198, A330, H⟩ := H
                          replace H : (some (t197.toList == t198.toList)) = some r := H
                          have A33 := Aside0.mk A330
                          clear A330
                          obtain rfl := Option.some.inj H
                          go_wp2_with (first | ((with_reducible refine gate_callee (f := 11) rfl ?_); refine goesL_ (some 31) rfl rfl Tryd.func11 (by kernel_rfl) rfl #[.string a1] rfl (by (try simp only [List.map_toArray, List.map_cons, List.map_nil]); first | done | rfl | (simp only [List.length_drop, List.length_take]; rfl)) ?_; (with_reducible refine (text_Get.calls a1 t171 t172 _ A11.out (S.Tabs.below HT.out (by repeat (first | (with_reducible first | exact HB.out | apply below_alloc | apply pw_below_drewN | apply below_drew1) | exact HB.out)))).mono ?_); rintro e w34 ⟨rfl, hb⟩; refine ⟨_, rfl, ?_⟩; have n0_ := Aside0.mk (below_step (by repeat (first | (with_reducible first | exact HB.out | apply below_alloc | apply pw_below_drewN | apply below_drew1) | exact HB.out)) hb); clear HB; have HB := n0_; clear n0_; (try clear hb); (try clear hb2); (try clear hk); (try clear hi)) | ((with_reducible refine gate_callee (f := 12) rfl ?_); refine goesL_ (some 36) rfl rfl Tryd.func12 (by kernel_rfl) rfl #[.string a1] rfl (by (try simp only [List.map_toArray, List.map_cons, List.map_nil]); first | done | rfl | (simp only [List.length_drop, List.length_take]; rfl)) ?_; (with_reducible refine (symbolonref03_Get.calls kj4 a1 t173 t174 _ A12.out).mono ?_); rintro e w' ⟨rfl, ⟨nd, rfl⟩⟩; refine ⟨_, rfl, ?_⟩) | ((with_reducible refine gate_callee (f := 13) rfl ?_); refine goesL_ (some 41) rfl rfl Tryd.func13 (by kernel_rfl) rfl #[.string a1] rfl (by (try simp only [List.map_toArray, List.map_cons, List.map_nil]); first | done | rfl | (simp only [List.length_drop, List.length_take]; rfl)) ?_; (with_reducible refine (text_Words.calls kj4 a1 t175 t176 _ A13.out (S.Tabs.below HT.out (by repeat (first | (with_reducible first | exact HB.out | apply below_alloc | apply pw_below_drewN | apply below_drew1) | exact HB.out)))).mono ?_); rintro e w35 ⟨v177, rfl, ho0, hb⟩; refine ⟨_, rfl, ?_⟩; have n0_ := Aside0.mk (Kd.R_lower ho0 (below_size (by repeat (first | (with_reducible first | exact HB.out | apply below_alloc | apply pw_below_drewN | apply below_drew1) | exact HB.out)))); have n1_ := Aside0.mk (below_step (by repeat (first | (with_reducible first | exact HB.out | apply below_alloc | apply pw_below_drewN | apply below_drew1) | exact HB.out)) hb); clear HB; have HO178 := n0_; have HB := n1_; clear n0_ n1_; (try clear hb); (try clear hb2); (try clear hk); (try clear hi); (try clear ho0)) | ((with_reducible refine gate_callee (f := 14) rfl ?_); refine goesL_ (some 46) rfl rfl Tryd.func14 (by kernel_rfl) rfl #[.string a1] rfl (by (try simp only [List.map_toArray, List.map_cons, List.map_nil]); first | done | rfl | (simp only [List.length_drop, List.length_take]; rfl)) ?_; (with_reducible refine (symbolonref03_Words.calls kj4 a1 t179 t180 _ A14.out).mono ?_); rintro e w36 ⟨v181, rfl, ho0, hb⟩; refine ⟨_, rfl, ?_⟩; have n0_ := Aside0.mk (Kd.R_elder' (by (with_reducible repeat (first | apply Kd.R_alloc | apply Kd.R_drewN | apply Kd.R_drew)); exact HO178.out) (Kd.R_base ho0) hb); have n1_ := Aside0.mk (Kd.R_lower (Kd.R_new' ho0 (Kd.R_lt (by (with_reducible repeat (first | apply Kd.R_alloc | apply Kd.R_drewN | apply Kd.R_drew)); exact HO178.out))) (below_size (by repeat (first | (with_reducible first | exact HB.out | apply below_alloc | apply pw_below_drewN | apply below_drew1) | exact HB.out)))); have n2_ := Aside0.mk (below_step (by repeat (first | (with_reducible first | exact HB.out | apply below_alloc | apply pw_below_drewN | apply below_drew1) | exact HB.out)) hb); clear HO178; clear HB; have HO178 := n0_; have HO182 := n1_; have HB := n2_; clear n0_ n1_ n2_; (try clear hb); (try clear hb2); (try clear hk); (try clear hi); (try clear ho0)) | ((with_reducible refine gate_callee (f := 15) rfl ?_); refine goesL_ (some 51) rfl rfl Tryd.func15 (by kernel_rfl) rfl #[.string a1] rfl (by (try simp only [List.map_toArray, List.map_cons, List.map_nil]); first | done | rfl | (simp only [List.length_drop, List.length_take]; rfl)) ?_; (with_reducible refine (text_Lines.calls a1 t183 t184 _ A15.out (S.Tabs.below HT.out (by repeat (first | (with_reducible first | exact HB.out | apply below_alloc | apply pw_below_drewN | apply below_drew1) | exact HB.out)))).mono ?_); rintro e w37 ⟨v185, rfl, ho0, hb⟩; refine ⟨_, rfl, ?_⟩; have n0_ := Aside0.mk (Kd.R_elder' (by (with_reducible repeat (first | apply Kd.R_alloc | apply Kd.R_drewN | apply Kd.R_drew)); exact HO178.out) (S.Lr.R_base ho0) hb); have n1_ := Aside0.mk (Kd.R_elder' (by (with_reducible repeat (first | apply Kd.R_alloc | apply Kd.R_drewN | apply Kd.R_drew)); exact HO182.out) (S.Lr.R_base ho0) hb); have n2_ := Aside0.mk (S.Lr.R_lower (S.Lr.R_new' (S.Lr.R_new' ho0 (Kd.R_lt (by (with_reducible repeat (first | apply Kd.R_alloc | apply Kd.R_drewN | apply Kd.R_drew)); exact HO178.out))) (Kd.R_lt (by (with_reducible repeat (first | apply Kd.R_alloc | apply Kd.R_drewN | apply Kd.R_drew)); exact HO182.out))) (below_size (by repeat (first | (with_reducible first | exact HB.out | apply below_alloc | apply pw_below_drewN | apply below_drew1) | exact HB.out)))); have n3_ := Aside0.mk (below_step (by repeat (first | (with_reducible first | exact HB.out | apply below_alloc | apply pw_below_drewN | apply below_drew1) | exact HB.out)) hb); clear HO178; clear HO182; clear HB; have HO178 := n0_; have HO182 := n1_; have HO186 := n2_; have HB := n3_; clear n0_ n1_ n2_ n3_; (try clear hb); (try clear hb2); (try clear hk); (try clear hi); (try clear ho0)) | ((with_reducible refine gate_callee (f := 16) rfl ?_); refine goesL_ (some 56) rfl rfl Tryd.func16 (by kernel_rfl) rfl #[.string a1] rfl (by (try simp only [List.map_toArray, List.map_cons, List.map_nil]); first | done | rfl | (simp only [List.length_drop, List.length_take]; rfl)) ?_; (with_reducible refine (symbolonref03_Lines.calls kj4 a1 t187 t188 _ A16.out).mono ?_); rintro e w38 ⟨v189, rfl, ho0, hb⟩; refine ⟨_, rfl, ?_⟩; have n0_ := Aside0.mk (Kd.R_elder' (by (with_reducible repeat (first | apply Kd.R_alloc | apply Kd.R_drewN | apply Kd.R_drew)); exact HO178.out) (Kd.R_base ho0) hb); have n1_ := Aside0.mk (Kd.R_elder' (by (with_reducible repeat (first | apply Kd.R_alloc | apply Kd.R_drewN | apply Kd.R_drew)); exact HO182.out) (Kd.R_base ho0) hb); have n2_ := Aside0.mk (S.Lr.R_elder' (by (with_reducible repeat (first | apply S.Lr.R_alloc | apply S.Lr.R_drewN | apply S.Lr.R_drew)); exact HO186.out) (Kd.R_base ho0) hb); have n3_ := Aside0.mk (Kd.R_lower (Kd.R_new' (Kd.R_new' (Kd.R_new' ho0 (Kd.R_lt (by (with_reducible repeat (first | apply Kd.R_alloc | apply Kd.R_drewN | apply Kd.R_drew)); exact HO178.out))) (Kd.R_lt (by (with_reducible repeat (first | apply Kd.R_alloc | apply Kd.R_drewN | apply Kd.R_drew)); exact HO182.out))) (S.Lr.R_lt (by (with_reducible repeat (first | apply S.Lr.R_alloc | apply S.Lr.R_drewN | apply S.Lr.R_drew)); exact HO186.out))) (below_size (by repeat (first | (with_reducible first | exact HB.out | apply below_alloc | apply pw_below_drewN | apply below_drew1) | exact HB.out)))); have n4_ := Aside0.mk (below_step (by repeat (first | (with_reducible first | exact HB.out | apply below_alloc | apply pw_below_drewN | apply below_drew1) | exact HB.out)) hb); clear HO178; clear HO182; clear HO186; clear HB; have HO178 := n0_; have HO182 := n1_; have HO186 := n2_; have HO190 := n3_; have HB := n4_; clear n0_ n1_ n2_ n3_ n4_; (try clear hb); (try clear hb2); (try clear hk); (try clear hi); (try clear ho0)) | (go_at_call 17; (with_reducible refine (text_Number.calls a0 t191 _ A18.out (S.Tabs.below HT.out (by repeat (first | (with_reducible first | exact HB.out | apply below_alloc | apply pw_below_drewN | apply below_drew1) | exact HB.out)))).mono ?_); rintro e w39 ⟨rfl, hb⟩; have n0_ := Aside0.mk (Kd.R_below (by (with_reducible repeat (first | apply Kd.R_alloc | apply Kd.R_drewN | apply Kd.R_drew)); exact HO178.out) hb); have n1_ := Aside0.mk (Kd.R_below (by (with_reducible repeat (first | apply Kd.R_alloc | apply Kd.R_drewN | apply Kd.R_drew)); exact HO182.out) hb); have n2_ := Aside0.mk (S.Lr.R_below (by (with_reducible repeat (first | apply S.Lr.R_alloc | apply S.Lr.R_drewN | apply S.Lr.R_drew)); exact HO186.out) hb); have n3_ := Aside0.mk (Kd.R_below (by (with_reducible repeat (first | apply Kd.R_alloc | apply Kd.R_drewN | apply Kd.R_drew)); exact HO190.out) hb); have n4_ := Aside0.mk (below_step (by repeat (first | (with_reducible first | exact HB.out | apply below_alloc | apply pw_below_drewN | apply below_drew1) | exact HB.out)) hb); clear HO178; clear HO182; clear HO186; clear HO190; clear HB; have HO178 := n0_; have HO182 := n1_; have HO186 := n2_; have HO190 := n3_; have HB := n4_; clear n0_ n1_ n2_ n3_ n4_; (try clear hb); (try clear hb2); (try clear hk); (try clear hi)) | (go_at_call 18; (with_reducible refine (symbolonref03_Number.calls kj4 a0 t192 _ A19.out).mono ?_); rintro e w40 ⟨rfl, hb⟩; have n0_ := Aside0.mk (Kd.R_below (by (with_reducible repeat (first | apply Kd.R_alloc | apply Kd.R_drewN | apply Kd.R_drew)); exact HO178.out) hb); have n1_ := Aside0.mk (Kd.R_below (by (with_reducible repeat (first | apply Kd.R_alloc | apply Kd.R_drewN | apply Kd.R_drew)); exact HO182.out) hb); have n2_ := Aside0.mk (S.Lr.R_below (by (with_reducible repeat (first | apply S.Lr.R_alloc | apply S.Lr.R_drewN | apply S.Lr.R_drew)); exact HO186.out) hb); have n3_ := Aside0.mk (Kd.R_below (by (with_reducible repeat (first | apply Kd.R_alloc | apply Kd.R_drewN | apply Kd.R_drew)); exact HO190.out) hb); have n4_ := Aside0.mk (below_step (by repeat (first | (with_reducible first | exact HB.out | apply below_alloc | apply pw_below_drewN | apply below_drew1) | exact HB.out)) hb); clear HO178; clear HO182; clear HO186; clear HO190; clear HB; have HO178 := n0_; have HO182 := n1_; have HO186 := n2_; have HO190 := n3_; have HB := n4_; clear n0_ n1_ n2_ n3_ n4_; (try clear hb); (try clear hb2); (try clear hk); (try clear hi); obtain ⟨Ao41, co41, eo41⟩ := Kd.R_slice HO178.out; subst eo41; obtain ⟨Ao42, co42, eo42⟩ := Kd.R_slice HO182.out; subst eo42) | (go_at_call 19; (with_reducible refine (symbolonref03_Same.calls kj4 _ _ t175 _ _ t179 true _ ?side1 ?side2 ?side3 ?side4 A23.out).mono ?_); (case side1 => repeat (first | exact (Kd.R_reads' HO178.out).2.2 | (with_reducible refine Kd.C_alloc ?_ _) | (with_reducible refine Kd.C_drewN ?_ _) | (with_reducible refine Kd.C_drew ?_))); (case side2 => exact (Kd.R_reads' HO178.out).2.1); (case side3 => repeat (first | exact (Kd.R_reads' HO182.out).2.2 | (with_reducible refine Kd.C_alloc ?_ _) | (with_reducible refine Kd.C_drewN ?_ _) | (with_reducible refine Kd.C_drew ?_))); (case side4 => exact (Kd.R_reads' HO182.out).2.1); rintro e w' ⟨rfl, ⟨nd, rfl⟩⟩; obtain ⟨Ao43, co43, eo43⟩ := S.Lr.R_slice HO186.out; subst eo43; obtain ⟨Ao44, co44, eo44⟩ := Kd.R_slice HO190.out; subst eo44) | (go_at_call 19; (with_reducible refine (symbolonref03_Same.calls kj4 _ _ t183 _ _ t187 true _ ?side1 ?side2 ?side3 ?side4 A26.out).mono ?_); (case side1 => repeat (first | exact (S.Lr.R_reads' HO186.out).2.2 | (with_reducible refine Kd.C_alloc ?_ _) | (with_reducible refine Kd.C_drewN ?_ _) | (with_reducible refine Kd.C_drew ?_))); (case side2 => exact (S.Lr.R_reads' HO186.out).2.1); (case side3 => repeat (first | exact (Kd.R_reads' HO190.out).2.2 | (with_reducible refine Kd.C_alloc ?_ _) | (with_reducible refine Kd.C_drewN ?_ _) | (with_reducible refine Kd.C_drew ?_))); (case side4 => exact (Kd.R_reads' HO190.out).2.1); rintro e w' ⟨rfl, ⟨nd, rfl⟩⟩) | (go_at_call 20; (with_reducible refine (text_Join.calls kj4 _ _ l2 t195 _ ?side1 ?side2 A29.out).mono ?_); (case side1 => repeat (first | exact (Kd.C_below HR2.out (by repeat (first | (with_reducible first | exact HB.out | apply below_alloc | apply pw_below_drewN | apply below_drew1) | exact HB.out))) | (with_reducible refine Kd.C_alloc ?_ _) | (with_reducible refine Kd.C_drewN ?_ _) | (with_reducible refine Kd.C_drew ?_))); (case side2 => exact HC2.out); rintro e w45 ⟨rfl, hb⟩; have n0_ := Aside0.mk (Kd.R_below (by (with_reducible repeat (first | apply Kd.R_alloc | apply Kd.R_drewN | apply Kd.R_drew)); exact HO178.out) hb); have n1_ := Aside0.mk (Kd.R_below (by (with_reducible repeat (first | apply Kd.R_alloc | apply Kd.R_drewN | apply Kd.R_drew)); exact HO182.out) hb); have n2_ := Aside0.mk (S.Lr.R_below (by (with_reducible repeat (first | apply S.Lr.R_alloc | apply S.Lr.R_drewN | apply S.Lr.R_drew)); exact HO186.out) hb); have n3_ := Aside0.mk (Kd.R_below (by (with_reducible repeat (first | apply Kd.R_alloc | apply Kd.R_drewN | apply Kd.R_drew)); exact HO190.out) hb); have n4_ := Aside0.mk (below_step (by repeat (first | (with_reducible first | exact HB.out | apply below_alloc | apply pw_below_drewN | apply below_drew1) | exact HB.out)) hb); clear HO178; clear HO182; clear HO186; clear HO190; clear HB; have HO178 := n0_; have HO182 := n1_; have HO186 := n2_; have HO190 := n3_; have HB := n4_; clear n0_ n1_ n2_ n3_ n4_; (try clear hb); (try clear hb2); (try clear hk); (try clear hi)) | (go_at_call 21; (with_reducible refine (symbolonref03_Join.calls kj4 _ _ l2 t196 _ ?side1 ?side2 A30.out).mono ?_); (case side1 => repeat (first | exact (Kd.C_below HR2.out HB.out) | (with_reducible refine Kd.C_alloc ?_ _) | (with_reducible refine Kd.C_drewN ?_ _) | (with_reducible refine Kd.C_drew ?_))); (case side2 => exact HC2.out); rintro e w' ⟨rfl, ⟨nd, rfl⟩⟩) | (go_at_call 22; (with_reducible refine (text_Text.calls kj4 _ _ l2 t197 _ ?side1 ?side2 A32.out).mono ?_); (case side1 => repeat (first | exact (Kd.C_below HR2.out (by repeat (first | (with_reducible first | exact HB.out | apply below_alloc | apply pw_below_drewN | apply below_drew1) | exact HB.out))) | (with_reducible refine Kd.C_alloc ?_ _) | (with_reducible refine Kd.C_drewN ?_ _) | (with_reducible refine Kd.C_drew ?_))); (case side2 => exact HC2.out); rintro e w' ⟨rfl, ⟨nd, rfl⟩⟩) | (go_at_call 23; (with_reducible refine (symbolonref03_Text.calls kj4 _ _ l2 t198 _ ?side1 ?side2 A33.out).mono ?_); (case side1 => repeat (first | exact (Kd.C_below HR2.out (by repeat (first | (with_reducible first | exact HB.out | apply below_alloc | apply pw_below_drewN | apply below_drew1) | exact HB.out))) | (with_reducible refine Kd.C_alloc ?_ _) | (with_reducible refine Kd.C_drewN ?_ _) | (with_reducible refine Kd.C_drew ?_))); (case side2 => exact HC2.out); rintro e w' ⟨rfl, ⟨nd, rfl⟩⟩))
                          go_ret
                          exact ⟨by first | rfl | (simp [errW_none, errW_some] <;> rfl) | (simp [*, errW_none, errW_some] <;> rfl), by repeat (first | (with_reducible first | exact HB.out | apply below_alloc | apply pw_below_drewN | apply below_drew1) | exact HB.out)⟩
                        · rw [if_neg c31] at H
                          exact absurd H (by simp)
                      · rw [if_neg c28] at H
                        exact absurd H (by simp)
                    · replace c27 := Bool.eq_false_iff.mpr c27
                      subst c27
                      have H1 : (none) = some r := by rw [if_neg (show ¬ (false = true) by decide)] at H; exact H
                      clear H
                      have H := H1
                      clear H1
                      exact absurd H (by simp)
                  · rw [if_neg c25] at H
                    exact absurd H (by simp)
                · replace c24 := Bool.eq_false_iff.mpr c24
                  subst c24
                  have H1 : (none) = some r := by rw [if_neg (show ¬ (false = true) by decide)] at H; exact H
                  clear H
                  have H := H1
                  clear H1
                  exact absurd H (by simp)
              · rw [if_neg c22] at H
                exact absurd H (by simp)
            · rw [if_neg c21] at H
              exact absurd H (by simp)
          · rw [if_neg c20] at H
            exact absurd H (by simp)
        · replace c17 := Bool.eq_false_iff.mpr c17
          subst c17
          have H1 : (none) = some r := by rw [if_neg (show ¬ (false = true) by decide)] at H; exact H
          clear H
          have H := H1
          clear H1
          exact absurd H (by simp)

/-- THE ONE PURE STATEMENT of symbolonlaw03_TextTells. -/
def symbolonlaw03_TextTells.Pure : Prop := ∀ (a0 : Int) (a1 : ByteArray) (l2 : List ByteArray), ((Lit.int .i64 a0).wf = true) → (a1.size ≤ 140737488351232) → (l2.length ≤ maxLen) → (l2.length * 16 ≤ 140737488351232) → (∀ b ∈ l2, b.size ≤ 140737488351232) → ∃ k, symbolonlaw03_TextTells.f k a0 a1 l2 = some true


end Go.Proofs.YtfjdlllmpgknpaaDoor.Q
