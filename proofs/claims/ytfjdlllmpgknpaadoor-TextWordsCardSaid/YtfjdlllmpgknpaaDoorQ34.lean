-- Laid by a program of this session (wip/myprint.py) in the form of the kit's print; a text of this claim, checked by Lean like any other.
import Derived.Test.YtfjdlllmpgknpaaDoorQ0
import Derived.Test.YtfjdlllmpgknpaaDoorSTabs
import Derived.Test.YtfjdlllmpgknpaaDoorQ11
import Derived.Test.YtfjdlllmpgknpaaDoorQ13
import Derived.Test.YtfjdlllmpgknpaaDoorQ21
import Derived.Test.YtfjdlllmpgknpaaDoorQ23
import Derived.Test.YtfjdlllmpgknpaaDoorQ24
namespace Go.Proofs.YtfjdlllmpgknpaaDoor.Q
open Go.RowKit Go.Proofs.YtfjdlllmpgknpaaDoorW.PrintWords Go.Proofs.YtfjdlllmpgknpaaDoorW.PrintLast Go.Proofs.YtfjdlllmpgknpaaDoorW.PrintMore
attribute [local go_sem] max2_int min2_int max_two min_two max_three min_three max_four min_four   -- for this text's walks alone
set_option linter.unusedVariables false
set_option linter.unusedSimpArgs false

/-! ### symbolonlaw03_TextWords: function 5 -/
mutual
def symbolonlaw03_TextWords.j0 : Nat → List ByteArray → ByteArray → Bool → Bool → Option (Bool)
  | 0, _, _, _, _ => none
  | k + 1, x0, x1, x5, x18 => if x18 = true then (some x5) else ((text_Join.f k x0).bind fun t214 => ((text_Words.f k t214).bind fun bt215 => (if (bt215.2 != (t214.toList != ([] : List UInt8))) = true then (symbolonlaw03_TextWords.j1 k x1 x5 true) else (if bt215.2 = true then ((symbolonref03_Same.f k bt215.1 x0).bind fun t219 => (symbolonlaw03_TextWords.j1 k x1 x5 (!t219))) else (symbolonlaw03_TextWords.j1 k x1 x5 false)))))
def symbolonlaw03_TextWords.j1 : Nat → ByteArray → Bool → Bool → Option (Bool)
  | 0, _, _, _ => none
  | k + 1, x1, x5, x39 => if x39 = true then (none) else ((text_Words.f k x1).bind fun bt220 => (if x5 = true then (if bt220.2 = true then ((text_Join.f k bt220.1).bind fun t224 => (if t224.toList = x1.toList then (some (decide ((bt220.1.length : Int) ≥ 1))) else (none))) else (if (bt220.1.length : Int) = 0 then (some true) else (none))) else (none)))
end
def symbolonlaw03_TextWords.f (k : Nat) (l0 : List ByteArray) (a1 : ByteArray) : Option (Bool) := (symbolonlaw03_head.f k).bind fun t212 => (if (a1.size : Int) > 3000 then (symbolonlaw03_TextWords.j0 k l0 a1 t212 true) else ((symbolonlaw03_Great.f k l0).bind fun t213 => (symbolonlaw03_TextWords.j0 k l0 a1 t212 t213)))
theorem symbolonlaw03_TextWords.mono_l : ∀ k, (∀ y0 y1 y2 y3, LeO (symbolonlaw03_TextWords.j0 k y0 y1 y2 y3) (symbolonlaw03_TextWords.j0 (k + 1) y0 y1 y2 y3)) ∧ (∀ y0 y1 y2, LeO (symbolonlaw03_TextWords.j1 k y0 y1 y2) (symbolonlaw03_TextWords.j1 (k + 1) y0 y1 y2))
  | 0 => ⟨fun _ _ _ _ r h => by simp [symbolonlaw03_TextWords.j0] at h, fun _ _ _ r h => by simp [symbolonlaw03_TextWords.j1] at h⟩
  | k + 1 => by
    obtain ⟨ih0, ih1⟩ := symbolonlaw03_TextWords.mono_l k
    refine ⟨?_, ?_⟩
    · intro y0 y1 y2 y3
      unfold symbolonlaw03_TextWords.j0
      repeat' first
      | (with_reducible exact ih0 _ _ _ _)
      | (with_reducible exact ih1 _ _ _)
      | (with_reducible exact symbolonlaw03_Great.mono _ _)
      | (with_reducible exact symbolonlaw03_head.mono _)
      | (with_reducible exact symbolonref03_Same.mono _ _ _)
      | (with_reducible exact text_Join.mono _ _)
      | (with_reducible exact text_Words.mono _ _)
      | (with_reducible exact LeO.refl _)
      | (with_reducible exact LeO.none _)
      | (with_reducible refine LeO.ite ?_ ?_)
      | (with_reducible refine LeO.bind ?_ (fun _ => ?_))
      | exact ih0 _ _ _ _
      | exact ih1 _ _ _
      | exact symbolonlaw03_Great.mono _ _
      | exact symbolonlaw03_head.mono _
      | exact symbolonref03_Same.mono _ _ _
      | exact text_Join.mono _ _
      | exact text_Words.mono _ _
      | exact LeO.none _
      | refine LeO.ite ?_ ?_
      | refine LeO.bind ?_ (fun _ => ?_)
    · intro y0 y1 y2
      unfold symbolonlaw03_TextWords.j1
      repeat' first
      | (with_reducible exact ih0 _ _ _ _)
      | (with_reducible exact ih1 _ _ _)
      | (with_reducible exact symbolonlaw03_Great.mono _ _)
      | (with_reducible exact symbolonlaw03_head.mono _)
      | (with_reducible exact symbolonref03_Same.mono _ _ _)
      | (with_reducible exact text_Join.mono _ _)
      | (with_reducible exact text_Words.mono _ _)
      | (with_reducible exact LeO.refl _)
      | (with_reducible exact LeO.none _)
      | (with_reducible refine LeO.ite ?_ ?_)
      | (with_reducible refine LeO.bind ?_ (fun _ => ?_))
      | exact ih0 _ _ _ _
      | exact ih1 _ _ _
      | exact symbolonlaw03_Great.mono _ _
      | exact symbolonlaw03_head.mono _
      | exact symbolonref03_Same.mono _ _ _
      | exact text_Join.mono _ _
      | exact text_Words.mono _ _
      | exact LeO.none _
      | refine LeO.ite ?_ ?_
      | refine LeO.bind ?_ (fun _ => ?_)
theorem symbolonlaw03_TextWords.mono : ∀ a0 a1 k, LeO (symbolonlaw03_TextWords.f k a0 a1) (symbolonlaw03_TextWords.f (k + 1) a0 a1) := by
  intro a0 a1 k
  obtain ⟨ih0, ih1⟩ := symbolonlaw03_TextWords.mono_l k
  unfold symbolonlaw03_TextWords.f
  repeat' first
      | (with_reducible exact ih0 _ _ _ _)
      | (with_reducible exact ih1 _ _ _)
      | (with_reducible exact symbolonlaw03_Great.mono _ _)
      | (with_reducible exact symbolonlaw03_head.mono _)
      | (with_reducible exact symbolonref03_Same.mono _ _ _)
      | (with_reducible exact text_Join.mono _ _)
      | (with_reducible exact text_Words.mono _ _)
      | (with_reducible exact LeO.refl _)
      | (with_reducible exact LeO.none _)
      | (with_reducible refine LeO.ite ?_ ?_)
      | (with_reducible refine LeO.bind ?_ (fun _ => ?_))
      | exact ih0 _ _ _ _
      | exact ih1 _ _ _
      | exact symbolonlaw03_Great.mono _ _
      | exact symbolonlaw03_head.mono _
      | exact symbolonref03_Same.mono _ _ _
      | exact text_Join.mono _ _
      | exact text_Words.mono _ _
      | exact LeO.none _
      | refine LeO.ite ?_ ?_
      | refine LeO.bind ?_ (fun _ => ?_)
set_option maxHeartbeats 8000000 in
set_option maxRecDepth 100000 in
theorem symbolonlaw03_TextWords.calls (k : Nat) (A0 : Option Addr) (c0 : Nat) (l0 : List ByteArray) (a1 : ByteArray) (r : Bool) (w : World) (hr0 : Kd.C Kd.string w A0 l0.length l0) (hc0 : l0.length ≤ c0) (h : symbolonlaw03_TextWords.f k l0 a1 = some r) (hT : S.Tabs w) :
    Calls Tryd.prog 5 #[.slice A0 l0.length c0, .string a1] w fun e w' => e = .returned (.bool r) ∧ Below w.heap.size w w' := by
  have HR0 := Aside0.mk hr0
  have HC0 := Aside0.mk hc0
  clear hr0 hc0
  have HB := Aside0.mk (Below.refl w.heap.size w)
  have HT := Aside0.mk hT
  clear hT
  have H : ((symbolonlaw03_head.f k).bind fun t212 => (if (a1.size : Int) > 3000 then (symbolonlaw03_TextWords.j0 k l0 a1 t212 true) else ((symbolonlaw03_Great.f k l0).bind fun t213 => (symbolonlaw03_TextWords.j0 k l0 a1 t212 t213)))) = some r := h
  clear h
  replace H := Option.bind_eq_some_iff.mp H
  obtain ⟨t212, A30, H⟩ := H
  replace H : (if (a1.size : Int) > 3000 then (symbolonlaw03_TextWords.j0 k l0 a1 t212 true) else ((symbolonlaw03_Great.f k l0).bind fun t213 => (symbolonlaw03_TextWords.j0 k l0 a1 t212 t213))) = some r := H
  have A3 := Aside0.mk A30
  clear A30
  have HC4 := Aside0.mk H
  clear H
  go_enter Tryd.func5, Tryd.ntmps5
  go_upto_region 2 with (first | ((with_reducible refine gate_callee (f := 9) rfl ?_); refine goesL_ (some 11) rfl rfl Tryd.func9 (by kernel_rfl) rfl #[] rfl (by (try simp only [List.map_toArray, List.map_cons, List.map_nil]); first | done | rfl | (simp only [List.length_drop, List.length_take]; rfl)) ?_; (with_reducible refine (symbolonlaw03_head.calls k  t212 _ A3.out (S.Tabs.below HT.out (by repeat (first | (with_reducible first | exact HB.out | apply below_alloc | apply pw_below_drewN | apply below_drew1) | exact HB.out)))).mono ?_); rintro e w5 ⟨rfl, hb⟩; refine ⟨_, rfl, ?_⟩; have n0_ := Aside0.mk (below_step (by repeat (first | (with_reducible first | exact HB.out | apply below_alloc | apply pw_below_drewN | apply below_drew1) | exact HB.out)) hb); clear HB; have HB := n0_; clear n0_; (try clear hb); (try clear hb2); (try clear hk); (try clear hi)))
  (try simp only [Act.put, List.setIfInBounds_toArray, List.set_cons_zero, List.set_cons_succ])
  go_cut [18] (fun v18 wc => ∃ (kq : Nat) (x18_3 : Bool), v18 = .bool x18_3 ∧ Aside0 (symbolonlaw03_TextWords.j0 kq l0 a1 t212 x18_3 = some r) ∧ Aside0 (kq ≤ k) ∧ Aside0 (Below w.heap.size w wc))
  case first =>
    have H := HC4.out
    clear HC4
    by_cases c6 : (a1.size : Int) > 3000
    · rw [if_pos c6] at H
      have c6b0 : decide (3000 < (a1.size : Int)) = true := decide_eq_true c6
      have c6b1 : decide (3000 < a1.size) = true := decide_eq_true (by omega)
      clear c6
      (first | rw [c6b0] | (simp only [i64_w, i32_w]; rw [c6b0]) | skip)
      have H' := Aside0.mk H
      clear H
      go_wp2
      go_meet
      case rel => exact ⟨_, (true), (by first | rfl | (simp; done) | (simp [*]; done)), H', ⟨by first | omega | exact Nat.le_refl _⟩, ⟨by repeat (first | (with_reducible first | exact HB.out | apply below_alloc | apply pw_below_drewN | apply below_drew1) | exact HB.out)⟩⟩
    · rw [if_neg c6] at H
      have c6b0 : decide (3000 < (a1.size : Int)) = false := decide_eq_false c6
      have c6b1 : decide (3000 < a1.size) = false := decide_eq_false (by omega)
      clear c6
      (first | rw [c6b0] | (simp only [i64_w, i32_w]; rw [c6b0]) | skip)
      replace H := Option.bind_eq_some_iff.mp H
      obtain ⟨t213, A70, H⟩ := H
      replace H : (symbolonlaw03_TextWords.j0 k l0 a1 t212 t213) = some r := H
      have A7 := Aside0.mk A70
      clear A70
      have H' := Aside0.mk H
      clear H
      go_wp2_with (first | (go_at_call 10; (with_reducible refine (symbolonlaw03_Great.calls k _ _ l0 t213 _ ?side1 ?side2 A7.out).mono ?_); (case side1 => repeat (first | exact (Kd.C_below HR0.out HB.out) | (with_reducible refine Kd.C_alloc ?_ _) | (with_reducible refine Kd.C_drewN ?_ _) | (with_reducible refine Kd.C_drew ?_))); (case side2 => exact HC0.out); rintro e w8 ⟨rfl, hb⟩; have n0_ := Aside0.mk (below_step (by repeat (first | (with_reducible first | exact HB.out | apply below_alloc | apply pw_below_drewN | apply below_drew1) | exact HB.out)) hb); clear HB; have HB := n0_; clear n0_; (try clear hb); (try clear hb2); (try clear hk); (try clear hi)))
      go_meet
      case rel => exact ⟨_, (t213), (by first | rfl | (simp; done) | (simp [*]; done)), H', ⟨by first | omega | exact Nat.le_refl _⟩, ⟨by repeat (first | (with_reducible first | exact HB.out | apply below_alloc | apply pw_below_drewN | apply below_drew1) | exact HB.out)⟩⟩
  case rest =>
    clear HC4
    try clear p2
    try clear c5
    try clear c6
    try clear c6b0
    try clear c6b1
    obtain ⟨kq, x18_3, rfl, HA, HJ3, HB⟩ := hcut
    cases kq with
    | zero => exact absurd HA.out (by simp [symbolonlaw03_TextWords.j0])
    | succ kj3 =>
      have H := HA.out
      clear HA
      simp only [symbolonlaw03_TextWords.j0] at H
      by_cases c9 : x18_3 = true
      · subst c9
        have H1 : (some t212) = some r := by rw [if_pos rfl] at H; exact H
        clear H
        have H := H1
        clear H1
        obtain rfl := Option.some.inj H
        go_wp2
        go_ret
        exact ⟨by first | rfl | (simp [errW_none, errW_some] <;> rfl) | (simp [*, errW_none, errW_some] <;> rfl), by repeat (first | (with_reducible first | exact HB.out | apply below_alloc | apply pw_below_drewN | apply below_drew1) | exact HB.out)⟩
      · replace c9 := Bool.eq_false_iff.mpr c9
        subst c9
        have H1 : ((text_Join.f kj3 l0).bind fun t214 => ((text_Words.f kj3 t214).bind fun bt215 => (if (bt215.2 != (t214.toList != ([] : List UInt8))) = true then (symbolonlaw03_TextWords.j1 kj3 a1 t212 true) else (if bt215.2 = true then ((symbolonref03_Same.f kj3 bt215.1 l0).bind fun t219 => (symbolonlaw03_TextWords.j1 kj3 a1 t212 (!t219))) else (symbolonlaw03_TextWords.j1 kj3 a1 t212 false))))) = some r := by rw [if_neg (show ¬ (false = true) by decide)] at H; exact H
        clear H
        have H := H1
        clear H1
        replace H := Option.bind_eq_some_iff.mp H
        obtain ⟨t214, A100, H⟩ := H
        replace H : ((text_Words.f kj3 t214).bind fun bt215 => (if (bt215.2 != (t214.toList != ([] : List UInt8))) = true then (symbolonlaw03_TextWords.j1 kj3 a1 t212 true) else (if bt215.2 = true then ((symbolonref03_Same.f kj3 bt215.1 l0).bind fun t219 => (symbolonlaw03_TextWords.j1 kj3 a1 t212 (!t219))) else (symbolonlaw03_TextWords.j1 kj3 a1 t212 false)))) = some r := H
        have A10 := Aside0.mk A100
        clear A100
        replace H := Option.bind_eq_some_iff.mp H
        obtain ⟨⟨t215, t216⟩, A110, H⟩ := H
        replace H : (if (t216 != (t214.toList != ([] : List UInt8))) = true then (symbolonlaw03_TextWords.j1 kj3 a1 t212 true) else (if t216 = true then ((symbolonref03_Same.f kj3 t215 l0).bind fun t219 => (symbolonlaw03_TextWords.j1 kj3 a1 t212 (!t219))) else (symbolonlaw03_TextWords.j1 kj3 a1 t212 false))) = some r := H
        have A11 := Aside0.mk A110
        clear A110
        have HC12 := Aside0.mk H
        clear H
        go_upto_region 6 with (first | ((with_reducible refine gate_callee (f := 20) rfl ?_); refine goesL_ (some 21) rfl rfl Tryd.func20 (by kernel_rfl) rfl #[.slice A0 l0.length c0] rfl (by (try simp only [List.map_toArray, List.map_cons, List.map_nil]); first | done | rfl | (simp only [List.length_drop, List.length_take]; rfl)) ?_; (with_reducible refine (text_Join.calls kj3 _ _ l0 t214 _ ?side1 ?side2 A10.out).mono ?_); (case side1 => repeat (first | exact (Kd.C_below HR0.out HB.out) | (with_reducible refine Kd.C_alloc ?_ _) | (with_reducible refine Kd.C_drewN ?_ _) | (with_reducible refine Kd.C_drew ?_))); (case side2 => exact HC0.out); rintro e w13 ⟨rfl, hb⟩; refine ⟨_, rfl, ?_⟩; have n0_ := Aside0.mk (below_step (by repeat (first | (with_reducible first | exact HB.out | apply below_alloc | apply pw_below_drewN | apply below_drew1) | exact HB.out)) hb); clear HB; have HB := n0_; clear n0_; (try clear hb); (try clear hb2); (try clear hk); (try clear hi)) | ((with_reducible refine gate_callee (f := 13) rfl ?_); refine goesL_ (some 24) rfl rfl Tryd.func13 (by kernel_rfl) rfl #[.string t214] rfl (by (try simp only [List.map_toArray, List.map_cons, List.map_nil]); first | done | rfl | (simp only [List.length_drop, List.length_take]; rfl)) ?_; (with_reducible refine (text_Words.calls kj3 t214 t215 t216 _ A11.out (S.Tabs.below HT.out (by repeat (first | (with_reducible first | exact HB.out | apply below_alloc | apply pw_below_drewN | apply below_drew1) | exact HB.out)))).mono ?_); rintro e w14 ⟨v217, rfl, ho0, hb⟩; refine ⟨_, rfl, ?_⟩; have n0_ := Aside0.mk (Kd.R_lower ho0 (below_size (by repeat (first | (with_reducible first | exact HB.out | apply below_alloc | apply pw_below_drewN | apply below_drew1) | exact HB.out)))); have n1_ := Aside0.mk (below_step (by repeat (first | (with_reducible first | exact HB.out | apply below_alloc | apply pw_below_drewN | apply below_drew1) | exact HB.out)) hb); clear HB; have HO218 := n0_; have HB := n1_; clear n0_ n1_; (try clear hb); (try clear hb2); (try clear hk); (try clear hi); (try clear ho0)))
        (try simp only [Act.put, List.setIfInBounds_toArray, List.set_cons_zero, List.set_cons_succ])
        go_cut [39] (fun v39 wc => ∃ (kq : Nat) (x39_11 : Bool), v39 = .bool x39_11 ∧ Aside0 (symbolonlaw03_TextWords.j1 kq a1 t212 x39_11 = some r) ∧ Aside0 (kq ≤ kj3) ∧ Aside0 (Below w.heap.size w wc))
        case first =>
          have H := HC12.out
          clear HC12
          by_cases c15 : (t216 != (t214.toList != ([] : List UInt8))) = true
          · rw [if_pos c15] at H
            have c15b0 : (t216 != (t214.toList != ([] : List UInt8))) = true := c15
            have c15e : t214.toList.isEmpty = t216 := S.empty_of_ne' c15b0
            (try (have c15b1 : decide (t216 = (t214.toList != ([] : List UInt8))) = false := by simpa using c15))
            (try (have c15b2 : (t216 == (t214.toList != ([] : List UInt8))) = false := by simpa using c15))
            (try (have c15b3 : ¬ (t216 = (t214.toList != ([] : List UInt8))) := by simpa using c15))
            clear c15
            (first | rw [c15b0] | (simp only [i64_w, i32_w]; rw [c15b0]) | skip)
            have H' := Aside0.mk H
            clear H
            go_wp2
            go_meet
            case rel => exact ⟨_, (true), (by first | rfl | (simp; done) | (simp [*]; done)), H', ⟨by have := HJ3.out; first | omega | exact Nat.le_refl _⟩, ⟨by repeat (first | (with_reducible first | exact HB.out | apply below_alloc | apply pw_below_drewN | apply below_drew1) | exact HB.out)⟩⟩
          · rw [if_neg c15] at H
            have c15b0 : (t216 != (t214.toList != ([] : List UInt8))) = false := by simpa using c15
            have c15e : t214.toList.isEmpty = !t216 := S.empty_of_eq' c15b0
            (try (have c15b1 : decide (t216 = (t214.toList != ([] : List UInt8))) = true := by simpa using c15))
            (try (have c15b2 : (t216 == (t214.toList != ([] : List UInt8))) = true := by simpa using c15))
            clear c15
            (first | rw [c15b0] | (simp only [i64_w, i32_w]; rw [c15b0]) | skip)
            by_cases c16 : t216 = true
            · subst c16
              have H1 : ((symbolonref03_Same.f kj3 t215 l0).bind fun t219 => (symbolonlaw03_TextWords.j1 kj3 a1 t212 (!t219))) = some r := by rw [if_pos rfl] at H; exact H
              clear H
              have H := H1
              clear H1
              replace H := Option.bind_eq_some_iff.mp H
              obtain ⟨t219, A170, H⟩ := H
              replace H : (symbolonlaw03_TextWords.j1 kj3 a1 t212 (!t219)) = some r := H
              have A17 := Aside0.mk A170
              clear A170
              have H' := Aside0.mk H
              clear H
              obtain ⟨Ao18, co18, eo18⟩ := Kd.R_slice HO218.out
              subst eo18
              go_wp2_with (first | (go_at_call 19; (with_reducible refine (symbolonref03_Same.calls kj3 _ _ t215 _ _ l0 t219 _ ?side1 ?side2 ?side3 ?side4 A17.out).mono ?_); (case side1 => repeat (first | exact (Kd.R_reads' HO218.out).2.2 | (with_reducible refine Kd.C_alloc ?_ _) | (with_reducible refine Kd.C_drewN ?_ _) | (with_reducible refine Kd.C_drew ?_))); (case side2 => exact (Kd.R_reads' HO218.out).2.1); (case side3 => repeat (first | exact (Kd.C_below HR0.out HB.out) | (with_reducible refine Kd.C_alloc ?_ _) | (with_reducible refine Kd.C_drewN ?_ _) | (with_reducible refine Kd.C_drew ?_))); (case side4 => exact HC0.out); rintro e w' ⟨rfl, ⟨nd, rfl⟩⟩))
              go_meet
              case rel => exact ⟨_, (!t219), (by first | rfl | (simp; done) | (simp [*]; done)), H', ⟨by have := HJ3.out; first | omega | exact Nat.le_refl _⟩, ⟨by repeat (first | (with_reducible first | exact HB.out | apply below_alloc | apply pw_below_drewN | apply below_drew1) | exact HB.out)⟩⟩
            · replace c16 := Bool.eq_false_iff.mpr c16
              subst c16
              have H1 : (symbolonlaw03_TextWords.j1 kj3 a1 t212 false) = some r := by rw [if_neg (show ¬ (false = true) by decide)] at H; exact H
              clear H
              have H := H1
              clear H1
              have H' := Aside0.mk H
              clear H
              go_wp2
              go_meet
              case rel => exact ⟨_, (false), (by first | rfl | (simp; done) | (simp [*]; done)), H', ⟨by have := HJ3.out; first | omega | exact Nat.le_refl _⟩, ⟨by repeat (first | (with_reducible first | exact HB.out | apply below_alloc | apply pw_below_drewN | apply below_drew1) | exact HB.out)⟩⟩
        case rest =>
          clear HC12
          try clear c1
          try clear c2
          try clear p2
          try clear c5
          try clear c6
          try clear c6b0
          try clear c6b1
          try clear c9
          try clear c13
          try clear c15
          try clear c15b0
          try clear c15b1
          try clear c15b2
          try clear c16
          try clear p2
          obtain ⟨kq, x39_11, rfl, HA, HJ11, HB⟩ := hcut
          cases kq with
          | zero => exact absurd HA.out (by simp [symbolonlaw03_TextWords.j1])
          | succ kj11 =>
            have H := HA.out
            clear HA
            simp only [symbolonlaw03_TextWords.j1] at H
            by_cases c19 : x39_11 = true
            · subst c19
              have H1 : (none) = some r := by rw [if_pos rfl] at H; exact H
              clear H
              have H := H1
              clear H1
              exact absurd H (by simp)
            · replace c19 := Bool.eq_false_iff.mpr c19
              subst c19
              have H1 : ((text_Words.f kj11 a1).bind fun bt220 => (if t212 = true then (if bt220.2 = true then ((text_Join.f kj11 bt220.1).bind fun t224 => (if t224.toList = a1.toList then (some (decide ((bt220.1.length : Int) ≥ 1))) else (none))) else (if (bt220.1.length : Int) = 0 then (some true) else (none))) else (none))) = some r := by rw [if_neg (show ¬ (false = true) by decide)] at H; exact H
              clear H
              have H := H1
              clear H1
              replace H := Option.bind_eq_some_iff.mp H
              obtain ⟨⟨t220, t221⟩, A200, H⟩ := H
              replace H : (if t212 = true then (if t221 = true then ((text_Join.f kj11 t220).bind fun t224 => (if t224.toList = a1.toList then (some (decide ((t220.length : Int) ≥ 1))) else (none))) else (if (t220.length : Int) = 0 then (some true) else (none))) else (none)) = some r := H
              have A20 := Aside0.mk A200
              clear A200
              by_cases c21 : t212 = true
              · subst c21
                have H1 : (if t221 = true then ((text_Join.f kj11 t220).bind fun t224 => (if t224.toList = a1.toList then (some (decide ((t220.length : Int) ≥ 1))) else (none))) else (if (t220.length : Int) = 0 then (some true) else (none))) = some r := by rw [if_pos rfl] at H; exact H
                clear H
                have H := H1
                clear H1
                by_cases c22 : t221 = true
                · subst c22
                  have H1 : ((text_Join.f kj11 t220).bind fun t224 => (if t224.toList = a1.toList then (some (decide ((t220.length : Int) ≥ 1))) else (none))) = some r := by rw [if_pos rfl] at H; exact H
                  clear H
                  have H := H1
                  clear H1
                  replace H := Option.bind_eq_some_iff.mp H
                  obtain ⟨t224, A230, H⟩ := H
                  replace H : (if t224.toList = a1.toList then (some (decide ((t220.length : Int) ≥ 1))) else (none)) = some r := H
                  have A23 := Aside0.mk A230
                  clear A230
                  by_cases c24 : t224.toList = a1.toList
                  · rw [if_pos c24] at H
                    have c24b0 : (t224.toList == a1.toList) = true := beq_iff_eq.mpr c24
                    have c24b1 : (t224.toList != a1.toList) = false := bne_eq_false_iff_eq.mpr c24
                    clear c24
                    obtain rfl := Option.some.inj H
                    go_wp2_with (first | ((with_reducible refine gate_callee (f := 13) rfl ?_); refine goesL_ (some 42) rfl rfl Tryd.func13 (by kernel_rfl) rfl #[.string a1] rfl (by (try simp only [List.map_toArray, List.map_cons, List.map_nil]); first | done | rfl | (simp only [List.length_drop, List.length_take]; rfl)) ?_; (with_reducible refine (text_Words.calls kj11 a1 t220 true _ A20.out (S.Tabs.below HT.out (by repeat (first | (with_reducible first | exact HB.out | apply below_alloc | apply pw_below_drewN | apply below_drew1) | exact HB.out)))).mono ?_); rintro e w25 ⟨v222, rfl, ho0, hb⟩; refine ⟨_, rfl, ?_⟩; have n0_ := Aside0.mk (Kd.R_lower ho0 (below_size (by repeat (first | (with_reducible first | exact HB.out | apply below_alloc | apply pw_below_drewN | apply below_drew1) | exact HB.out)))); have n1_ := Aside0.mk (below_step (by repeat (first | (with_reducible first | exact HB.out | apply below_alloc | apply pw_below_drewN | apply below_drew1) | exact HB.out)) hb); clear HB; have HO223 := n0_; have HB := n1_; clear n0_ n1_; (try clear hb); (try clear hb2); (try clear hk); (try clear hi); (try clear ho0); obtain ⟨Ao26, co26, eo26⟩ := Kd.R_slice HO223.out; subst eo26) | (go_at_call 20; (with_reducible refine (text_Join.calls kj11 _ _ t220 t224 _ ?side1 ?side2 A23.out).mono ?_); (case side1 => repeat (first | exact (Kd.R_reads' HO223.out).2.2 | (with_reducible refine Kd.C_alloc ?_ _) | (with_reducible refine Kd.C_drewN ?_ _) | (with_reducible refine Kd.C_drew ?_))); (case side2 => exact (Kd.R_reads' HO223.out).2.1); rintro e w27 ⟨rfl, hb⟩; have n0_ := Aside0.mk (Kd.R_below (by (with_reducible repeat (first | apply Kd.R_alloc | apply Kd.R_drewN | apply Kd.R_drew)); exact HO223.out) hb); have n1_ := Aside0.mk (below_step (by repeat (first | (with_reducible first | exact HB.out | apply below_alloc | apply pw_below_drewN | apply below_drew1) | exact HB.out)) hb); clear HO223; clear HB; have HO223 := n0_; have HB := n1_; clear n0_ n1_; (try clear hb); (try clear hb2); (try clear hk); (try clear hi)))
                    go_ret
                    exact ⟨by first | rfl | (simp [errW_none, errW_some] <;> rfl) | (simp [*, errW_none, errW_some] <;> rfl), by repeat (first | (with_reducible first | exact HB.out | apply below_alloc | apply pw_below_drewN | apply below_drew1) | exact HB.out)⟩
                  · rw [if_neg c24] at H
                    exact absurd H (by simp)
                · replace c22 := Bool.eq_false_iff.mpr c22
                  subst c22
                  have H1 : (if (t220.length : Int) = 0 then (some true) else (none)) = some r := by rw [if_neg (show ¬ (false = true) by decide)] at H; exact H
                  clear H
                  have H := H1
                  clear H1
                  by_cases c28 : (t220.length : Int) = 0
                  · rw [if_pos c28] at H
                    have c28b0 : ((t220.length : Int) == 0) = true := beq_iff_eq.mpr c28
                    have c28b1 : ((t220.length : Int) != 0) = false := bne_eq_false_iff_eq.mpr c28
                    clear c28
                    obtain rfl := Option.some.inj H
                    go_wp2_with (first | ((with_reducible refine gate_callee (f := 13) rfl ?_); refine goesL_ (some 42) rfl rfl Tryd.func13 (by kernel_rfl) rfl #[.string a1] rfl (by (try simp only [List.map_toArray, List.map_cons, List.map_nil]); first | done | rfl | (simp only [List.length_drop, List.length_take]; rfl)) ?_; (with_reducible refine (text_Words.calls kj11 a1 t220 false _ A20.out (S.Tabs.below HT.out (by repeat (first | (with_reducible first | exact HB.out | apply below_alloc | apply pw_below_drewN | apply below_drew1) | exact HB.out)))).mono ?_); rintro e w29 ⟨v222, rfl, ho0, hb⟩; refine ⟨_, rfl, ?_⟩; have n0_ := Aside0.mk (Kd.R_lower ho0 (below_size (by repeat (first | (with_reducible first | exact HB.out | apply below_alloc | apply pw_below_drewN | apply below_drew1) | exact HB.out)))); have n1_ := Aside0.mk (below_step (by repeat (first | (with_reducible first | exact HB.out | apply below_alloc | apply pw_below_drewN | apply below_drew1) | exact HB.out)) hb); clear HB; have HO223 := n0_; have HB := n1_; clear n0_ n1_; (try clear hb); (try clear hb2); (try clear hk); (try clear hi); (try clear ho0); obtain ⟨Ao30, co30, eo30⟩ := Kd.R_slice HO223.out; subst eo30))
                    go_ret
                    exact ⟨by first | rfl | (simp [errW_none, errW_some] <;> rfl) | (simp [*, errW_none, errW_some] <;> rfl), by repeat (first | (with_reducible first | exact HB.out | apply below_alloc | apply pw_below_drewN | apply below_drew1) | exact HB.out)⟩
                  · rw [if_neg c28] at H
                    exact absurd H (by simp)
              · replace c21 := Bool.eq_false_iff.mpr c21
                subst c21
                have H1 : (none) = some r := by rw [if_neg (show ¬ (false = true) by decide)] at H; exact H
                clear H
                have H := H1
                clear H1
                exact absurd H (by simp)

/-- THE ONE PURE STATEMENT of symbolonlaw03_TextWords. -/
def symbolonlaw03_TextWords.Pure : Prop := ∀ (l0 : List ByteArray) (a1 : ByteArray), (l0.length ≤ maxLen) → (l0.length * 16 ≤ 140737488351232) → (∀ b ∈ l0, b.size ≤ 140737488351232) → (a1.size ≤ 140737488351232) → ∃ k, symbolonlaw03_TextWords.f k l0 a1 = some true


end Go.Proofs.YtfjdlllmpgknpaaDoor.Q
