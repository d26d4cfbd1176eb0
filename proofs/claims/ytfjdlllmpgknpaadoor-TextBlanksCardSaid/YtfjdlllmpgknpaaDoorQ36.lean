-- Laid by a program of this session (wip/myprint.py) in the form of the kit's print; a text of this claim, checked by Lean like any other.
import Derived.Test.YtfjdlllmpgknpaaDoorQ0
import Derived.Test.YtfjdlllmpgknpaaDoorSTabs
import Derived.Test.YtfjdlllmpgknpaaDoorQ11
import Derived.Test.YtfjdlllmpgknpaaDoorQ13
import Derived.Test.YtfjdlllmpgknpaaDoorQ21
import Derived.Test.YtfjdlllmpgknpaaDoorQ23
import Derived.Test.YtfjdlllmpgknpaaDoorQ24
namespace Go.Proofs.YtfjdlllmpgknpaaDoor.Q
open Go.RowKit Go.Proofs.YtfjdlllmpgknpaaDoorW.PrintWords Go.Proofs.YtfjdlllmpgknpaaDoorW.PrintLast Go.Proofs.YtfjdlllmpgknpaaDoorW.PrintMore
attribute [local go_sem] max2_int min2_int max_two min_two max_three min_three max_four min_four   -- for this text's walks alone
set_option linter.unusedVariables false
set_option linter.unusedSimpArgs false

/-! ### symbolonlaw03_TextBlanks: function 7 -/
def symbolonlaw03_TextBlanks.j0 : Nat → List ByteArray → Int → Bool → Bool → Option (Bool)
  | 0, _, _, _, _ => none
  | k + 1, x0, x1, x5, x22 => if x22 = true then (some x5) else ((text_Join.f k x0).bind fun t252 => (if t252.toList = ([] : List UInt8) then (some x5) else (if 1 + t252.size ≤ 9223372036854775807 then ((text_Words.f k ((⟨#[32]⟩ : ByteArray) ++ t252)).bind fun bt253 => (if t252.size + 1 ≤ 9223372036854775807 then ((text_Words.f k (t252 ++ (⟨#[32]⟩ : ByteArray))).bind fun bt257 => (if (x0.length : Int) = 0 then (none) else (if (Int.tmod (wrap64 (x1)) (x0.length : Int)) > 0 then (if 0 ≤ (Int.tmod (wrap64 (x1)) (x0.length : Int)) then (if (Int.tmod (wrap64 (x1)) (x0.length : Int)) ≤ (x0.length : Int) then ((text_Join.f k (x0.take ((Int.tmod (wrap64 (x1)) (x0.length : Int)) : Int).toNat)).bind fun t262 => (if t262.size + 2 ≤ 9223372036854775807 then ((text_Join.f k (x0.drop ((Int.tmod (wrap64 (x1)) (x0.length : Int)) : Int).toNat)).bind fun t264 => (if (t262 ++ (⟨#[32, 32]⟩ : ByteArray)).size + t264.size ≤ 9223372036854775807 then ((text_Words.f k ((t262 ++ (⟨#[32, 32]⟩ : ByteArray)) ++ t264)).bind fun bt265 => (if (t252 ++ (⟨#[32]⟩ : ByteArray)).size + t252.size ≤ 9223372036854775807 then ((text_Words.f k ((t252 ++ (⟨#[32]⟩ : ByteArray)) ++ t252)).bind fun bt269 => (if x5 = true then (if bt253.2 = true then (none) else (if bt257.2 = true then (none) else (if bt265.2 = true then (none) else (if bt269.2 = true then ((some (([] : List ByteArray) : List ByteArray)).bind fun y273 => (if y273.length + x0.length < 8796093022208 then ((some (y273 ++ x0 : List ByteArray)).bind fun y276 => (if y276.length + x0.length < 8796093022208 then ((symbolonref03_Same.f k bt269.1 (y276 ++ x0)).bind fun t282 => (some t282)) else (none))) else (none))) else (none))))) else (none))) else (none))) else (none))) else (none))) else (none)) else (none)) else (if (t252 ++ (⟨#[32]⟩ : ByteArray)).size + t252.size ≤ 9223372036854775807 then ((text_Words.f k ((t252 ++ (⟨#[32]⟩ : ByteArray)) ++ t252)).bind fun bt283 => (if x5 = true then (if bt253.2 = true then (none) else (if bt257.2 = true then (none) else (if bt283.2 = true then ((some (([] : List ByteArray) : List ByteArray)).bind fun y287 => (if y287.length + x0.length < 8796093022208 then ((some (y287 ++ x0 : List ByteArray)).bind fun y290 => (if y290.length + x0.length < 8796093022208 then ((symbolonref03_Same.f k bt283.1 (y290 ++ x0)).bind fun t296 => (some t296)) else (none))) else (none))) else (none)))) else (none))) else (none))))) else (none))) else (none))))
def symbolonlaw03_TextBlanks.f (k : Nat) (l0 : List ByteArray) (a1 : Int) : Option (Bool) := (symbolonlaw03_head.f k).bind fun t250 => ((symbolonlaw03_Great.f k l0).bind fun t251 => (if t251 = true then (symbolonlaw03_TextBlanks.j0 k l0 a1 t250 true) else (symbolonlaw03_TextBlanks.j0 k l0 a1 t250 ((l0.length : Int) == 0))))
theorem symbolonlaw03_TextBlanks.mono_l : ∀ k, (∀ y0 y1 y2 y3, LeO (symbolonlaw03_TextBlanks.j0 k y0 y1 y2 y3) (symbolonlaw03_TextBlanks.j0 (k + 1) y0 y1 y2 y3))
  | 0 => fun _ _ _ _ r h => by simp [symbolonlaw03_TextBlanks.j0] at h
  | k + 1 => by
    have ih0 := symbolonlaw03_TextBlanks.mono_l k
    · intro y0 y1 y2 y3
      unfold symbolonlaw03_TextBlanks.j0
      repeat' first
      | (with_reducible exact ih0 _ _ _ _)
      | (with_reducible exact symbolonlaw03_Great.mono _ _)
      | (with_reducible exact symbolonlaw03_head.mono _)
      | (with_reducible exact symbolonref03_Same.mono _ _ _)
      | (with_reducible exact text_Join.mono _ _)
      | (with_reducible exact text_Words.mono _ _)
      | (with_reducible exact LeO.refl _)
      | (with_reducible exact LeO.none _)
      | (with_reducible refine LeO.ite ?_ ?_)
      | (with_reducible refine LeO.bind ?_ (fun _ => ?_))
      | exact ih0 _ _ _ _
      | exact symbolonlaw03_Great.mono _ _
      | exact symbolonlaw03_head.mono _
      | exact symbolonref03_Same.mono _ _ _
      | exact text_Join.mono _ _
      | exact text_Words.mono _ _
      | exact LeO.none _
      | refine LeO.ite ?_ ?_
      | refine LeO.bind ?_ (fun _ => ?_)
theorem symbolonlaw03_TextBlanks.mono : ∀ a0 a1 k, LeO (symbolonlaw03_TextBlanks.f k a0 a1) (symbolonlaw03_TextBlanks.f (k + 1) a0 a1) := by
  intro a0 a1 k
  have ih0 := symbolonlaw03_TextBlanks.mono_l k
  unfold symbolonlaw03_TextBlanks.f
  repeat' first
      | (with_reducible exact ih0 _ _ _ _)
      | (with_reducible exact symbolonlaw03_Great.mono _ _)
      | (with_reducible exact symbolonlaw03_head.mono _)
      | (with_reducible exact symbolonref03_Same.mono _ _ _)
      | (with_reducible exact text_Join.mono _ _)
      | (with_reducible exact text_Words.mono _ _)
      | (with_reducible exact LeO.refl _)
      | (with_reducible exact LeO.none _)
      | (with_reducible refine LeO.ite ?_ ?_)
      | (with_reducible refine LeO.bind ?_ (fun _ => ?_))
      | exact ih0 _ _ _ _
      | exact symbolonlaw03_Great.mono _ _
      | exact symbolonlaw03_head.mono _
      | exact symbolonref03_Same.mono _ _ _
      | exact text_Join.mono _ _
      | exact text_Words.mono _ _
      | exact LeO.none _
      | refine LeO.ite ?_ ?_
      | refine LeO.bind ?_ (fun _ => ?_)
def symbolonlaw03_TextBlanks.T12 : Bool × List (List Nat × List Nat) := (true, [([], []), ([], []), ([0, 1], [0, 1]), ([2], [2]), ([3], [3]), ([], []), ([], []), ([5, 6], [5, 6]), ([7, 3], [7]), ([4, 8], [4, 8]), ([9, 8], [9]), ([10], [10]), ([11], [11]), ([11], [11]), ([13, 10, 0, 1, 2, 3, 4, 5, 6, 7, 8, 9, 10, 11, 12, 13], [13])])
def symbolonlaw03_TextBlanks.B12 : List Nat := [0, 0, 3, 7, 15, 0, 0, 96, 239, 511, 1023, 2047, 4095, 4095, 16383]
theorem symbolonlaw03_TextBlanks.tab12 : rtab .any (opsOf Tryd.f7 12) = symbolonlaw03_TextBlanks.T12 := by kernel_rfl
theorem symbolonlaw03_TextBlanks.bits12 : waitsOk symbolonlaw03_TextBlanks.T12.2 symbolonlaw03_TextBlanks.B12 = true := by kernel_rfl
set_option maxHeartbeats 8000000 in
set_option maxRecDepth 100000 in
theorem symbolonlaw03_TextBlanks.calls (k : Nat) (A0 : Option Addr) (c0 : Nat) (l0 : List ByteArray) (a1 : Int) (r : Bool) (w : World) (hr0 : Kd.C Kd.string w A0 l0.length l0) (hc0 : l0.length ≤ c0) (h : symbolonlaw03_TextBlanks.f k l0 a1 = some r) (hT : S.Tabs w) :
    Calls Tryd.prog 7 #[.slice A0 l0.length c0, .int .u8 a1] w fun e w' => e = .returned (.bool r) ∧ Below w.heap.size w w' := by
  have HR0 := Aside0.mk hr0
  have HC0 := Aside0.mk hc0
  clear hr0 hc0
  have HB := Aside0.mk (Below.refl w.heap.size w)
  have HT := Aside0.mk hT
  clear hT
  have H : ((symbolonlaw03_head.f k).bind fun t250 => ((symbolonlaw03_Great.f k l0).bind fun t251 => (if t251 = true then (symbolonlaw03_TextBlanks.j0 k l0 a1 t250 true) else (symbolonlaw03_TextBlanks.j0 k l0 a1 t250 ((l0.length : Int) == 0))))) = some r := h
  clear h
  replace H := Option.bind_eq_some_iff.mp H
  obtain ⟨t250, A30, H⟩ := H
  replace H : ((symbolonlaw03_Great.f k l0).bind fun t251 => (if t251 = true then (symbolonlaw03_TextBlanks.j0 k l0 a1 t250 true) else (symbolonlaw03_TextBlanks.j0 k l0 a1 t250 ((l0.length : Int) == 0)))) = some r := H
  have A3 := Aside0.mk A30
  clear A30
  have HC4 := Aside0.mk H
  clear H
  go_enter Tryd.func7, Tryd.ntmps7
  go_upto_region 2 with (first | ((with_reducible refine gate_callee (f := 9) rfl ?_); refine goesL_ (some 15) rfl rfl Tryd.func9 (by kernel_rfl) rfl #[] rfl (by (try simp only [List.map_toArray, List.map_cons, List.map_nil]); first | done | rfl | (simp only [List.length_drop, List.length_take]; rfl)) ?_; (with_reducible refine (symbolonlaw03_head.calls k  t250 _ A3.out (S.Tabs.below HT.out (by repeat (first | (with_reducible first | exact HB.out | apply below_alloc | apply pw_below_drewN | apply below_drew1) | exact HB.out)))).mono ?_); rintro e w5 ⟨rfl, hb⟩; refine ⟨_, rfl, ?_⟩; have n0_ := Aside0.mk (below_step (by repeat (first | (with_reducible first | exact HB.out | apply below_alloc | apply pw_below_drewN | apply below_drew1) | exact HB.out)) hb); clear HB; have HB := n0_; clear n0_; (try clear hb); (try clear hb2); (try clear hk); (try clear hi)))
  (try simp only [Act.put, List.setIfInBounds_toArray, List.set_cons_zero, List.set_cons_succ])
  go_cut [22] (fun v22 wc => ∃ (kq : Nat) (x22_3 : Bool), v22 = .bool x22_3 ∧ Aside0 (symbolonlaw03_TextBlanks.j0 kq l0 a1 t250 x22_3 = some r) ∧ Aside0 (kq ≤ k) ∧ Aside0 (Below w.heap.size w wc))
  case first =>
    have H := HC4.out
    clear HC4
    replace H := Option.bind_eq_some_iff.mp H
    obtain ⟨t251, A60, H⟩ := H
    replace H : (if t251 = true then (symbolonlaw03_TextBlanks.j0 k l0 a1 t250 true) else (symbolonlaw03_TextBlanks.j0 k l0 a1 t250 ((l0.length : Int) == 0))) = some r := H
    have A6 := Aside0.mk A60
    clear A60
    by_cases c7 : t251 = true
    · subst c7
      have H1 : (symbolonlaw03_TextBlanks.j0 k l0 a1 t250 true) = some r := by rw [if_pos rfl] at H; exact H
      clear H
      have H := H1
      clear H1
      have H' := Aside0.mk H
      clear H
      go_wp2_with (first | (go_at_call 10; (with_reducible refine (symbolonlaw03_Great.calls k _ _ l0 true _ ?side1 ?side2 A6.out).mono ?_); (case side1 => repeat (first | exact (Kd.C_below HR0.out HB.out) | (with_reducible refine Kd.C_alloc ?_ _) | (with_reducible refine Kd.C_drewN ?_ _) | (with_reducible refine Kd.C_drew ?_))); (case side2 => exact HC0.out); rintro e w8 ⟨rfl, hb⟩; have n0_ := Aside0.mk (below_step (by repeat (first | (with_reducible first | exact HB.out | apply below_alloc | apply pw_below_drewN | apply below_drew1) | exact HB.out)) hb); clear HB; have HB := n0_; clear n0_; (try clear hb); (try clear hb2); (try clear hk); (try clear hi)))
      go_meet
      case rel => exact ⟨_, (true), (by first | rfl | (simp; done) | (simp [*]; done)), H', ⟨by first | omega | exact Nat.le_refl _⟩, ⟨by repeat (first | (with_reducible first | exact HB.out | apply below_alloc | apply pw_below_drewN | apply below_drew1) | exact HB.out)⟩⟩
    · replace c7 := Bool.eq_false_iff.mpr c7
      subst c7
      have H1 : (symbolonlaw03_TextBlanks.j0 k l0 a1 t250 ((l0.length : Int) == 0)) = some r := by rw [if_neg (show ¬ (false = true) by decide)] at H; exact H
      clear H
      have H := H1
      clear H1
      have H' := Aside0.mk H
      clear H
      go_wp2_with (first | (go_at_call 10; (with_reducible refine (symbolonlaw03_Great.calls k _ _ l0 false _ ?side1 ?side2 A6.out).mono ?_); (case side1 => repeat (first | exact (Kd.C_below HR0.out HB.out) | (with_reducible refine Kd.C_alloc ?_ _) | (with_reducible refine Kd.C_drewN ?_ _) | (with_reducible refine Kd.C_drew ?_))); (case side2 => exact HC0.out); rintro e w9 ⟨rfl, hb⟩; have n0_ := Aside0.mk (below_step (by repeat (first | (with_reducible first | exact HB.out | apply below_alloc | apply pw_below_drewN | apply below_drew1) | exact HB.out)) hb); clear HB; have HB := n0_; clear n0_; (try clear hb); (try clear hb2); (try clear hk); (try clear hi)))
      go_meet
      case rel => exact ⟨_, (((l0.length : Int) == 0)), (by first | rfl | (simp; done) | (simp [*]; done)), H', ⟨by first | omega | exact Nat.le_refl _⟩, ⟨by repeat (first | (with_reducible first | exact HB.out | apply below_alloc | apply pw_below_drewN | apply below_drew1) | exact HB.out)⟩⟩
  case rest =>
    clear HC4
    try clear p2
    try clear c7
    try clear c9
    obtain ⟨kq, x22_3, rfl, HA, HJ3, HB⟩ := hcut
    cases kq with
    | zero => exact absurd HA.out (by simp [symbolonlaw03_TextBlanks.j0])
    | succ kj3 =>
      have H := HA.out
      clear HA
      simp only [symbolonlaw03_TextBlanks.j0] at H
      by_cases c10 : x22_3 = true
      · subst c10
        have H1 : (some t250) = some r := by rw [if_pos rfl] at H; exact H
        clear H
        have H := H1
        clear H1
        obtain rfl := Option.some.inj H
        go_wp2
        go_ret
        exact ⟨by first | rfl | (simp [errW_none, errW_some] <;> rfl) | (simp [*, errW_none, errW_some] <;> rfl), by repeat (first | (with_reducible first | exact HB.out | apply below_alloc | apply pw_below_drewN | apply below_drew1) | exact HB.out)⟩
      · replace c10 := Bool.eq_false_iff.mpr c10
        subst c10
        have H1 : ((text_Join.f kj3 l0).bind fun t252 => (if t252.toList = ([] : List UInt8) then (some t250) else (if 1 + t252.size ≤ 9223372036854775807 then ((text_Words.f kj3 ((⟨#[32]⟩ : ByteArray) ++ t252)).bind fun bt253 => (if t252.size + 1 ≤ 9223372036854775807 then ((text_Words.f kj3 (t252 ++ (⟨#[32]⟩ : ByteArray))).bind fun bt257 => (if (l0.length : Int) = 0 then (none) else (if (Int.tmod (wrap64 (a1)) (l0.length : Int)) > 0 then (if 0 ≤ (Int.tmod (wrap64 (a1)) (l0.length : Int)) then (if (Int.tmod (wrap64 (a1)) (l0.length : Int)) ≤ (l0.length : Int) then ((text_Join.f kj3 (l0.take ((Int.tmod (wrap64 (a1)) (l0.length : Int)) : Int).toNat)).bind fun t262 => (if t262.size + 2 ≤ 9223372036854775807 then ((text_Join.f kj3 (l0.drop ((Int.tmod (wrap64 (a1)) (l0.length : Int)) : Int).toNat)).bind fun t264 => (if (t262 ++ (⟨#[32, 32]⟩ : ByteArray)).size + t264.size ≤ 9223372036854775807 then ((text_Words.f kj3 ((t262 ++ (⟨#[32, 32]⟩ : ByteArray)) ++ t264)).bind fun bt265 => (if (t252 ++ (⟨#[32]⟩ : ByteArray)).size + t252.size ≤ 9223372036854775807 then ((text_Words.f kj3 ((t252 ++ (⟨#[32]⟩ : ByteArray)) ++ t252)).bind fun bt269 => (if t250 = true then (if bt253.2 = true then (none) else (if bt257.2 = true then (none) else (if bt265.2 = true then (none) else (if bt269.2 = true then ((some (([] : List ByteArray) : List ByteArray)).bind fun y273 => (if y273.length + l0.length < 8796093022208 then ((some (y273 ++ l0 : List ByteArray)).bind fun y276 => (if y276.length + l0.length < 8796093022208 then ((symbolonref03_Same.f kj3 bt269.1 (y276 ++ l0)).bind fun t282 => (some t282)) else (none))) else (none))) else (none))))) else (none))) else (none))) else (none))) else (none))) else (none)) else (none)) else (if (t252 ++ (⟨#[32]⟩ : ByteArray)).size + t252.size ≤ 9223372036854775807 then ((text_Words.f kj3 ((t252 ++ (⟨#[32]⟩ : ByteArray)) ++ t252)).bind fun bt283 => (if t250 = true then (if bt253.2 = true then (none) else (if bt257.2 = true then (none) else (if bt283.2 = true then ((some (([] : List ByteArray) : List ByteArray)).bind fun y287 => (if y287.length + l0.length < 8796093022208 then ((some (y287 ++ l0 : List ByteArray)).bind fun y290 => (if y290.length + l0.length < 8796093022208 then ((symbolonref03_Same.f kj3 bt283.1 (y290 ++ l0)).bind fun t296 => (some t296)) else (none))) else (none))) else (none)))) else (none))) else (none))))) else (none))) else (none)))) = some r := by rw [if_neg (show ¬ (false = true) by decide)] at H; exact H
        clear H
        have H := H1
        clear H1
        replace H := Option.bind_eq_some_iff.mp H
        obtain ⟨t252, A110, H⟩ := H
        replace H : (if t252.toList = ([] : List UInt8) then (some t250) else (if 1 + t252.size ≤ 9223372036854775807 then ((text_Words.f kj3 ((⟨#[32]⟩ : ByteArray) ++ t252)).bind fun bt253 => (if t252.size + 1 ≤ 9223372036854775807 then ((text_Words.f kj3 (t252 ++ (⟨#[32]⟩ : ByteArray))).bind fun bt257 => (if (l0.length : Int) = 0 then (none) else (if (Int.tmod (wrap64 (a1)) (l0.length : Int)) > 0 then (if 0 ≤ (Int.tmod (wrap64 (a1)) (l0.length : Int)) then (if (Int.tmod (wrap64 (a1)) (l0.length : Int)) ≤ (l0.length : Int) then ((text_Join.f kj3 (l0.take ((Int.tmod (wrap64 (a1)) (l0.length : Int)) : Int).toNat)).bind fun t262 => (if t262.size + 2 ≤ 9223372036854775807 then ((text_Join.f kj3 (l0.drop ((Int.tmod (wrap64 (a1)) (l0.length : Int)) : Int).toNat)).bind fun t264 => (if (t262 ++ (⟨#[32, 32]⟩ : ByteArray)).size + t264.size ≤ 9223372036854775807 then ((text_Words.f kj3 ((t262 ++ (⟨#[32, 32]⟩ : ByteArray)) ++ t264)).bind fun bt265 => (if (t252 ++ (⟨#[32]⟩ : ByteArray)).size + t252.size ≤ 9223372036854775807 then ((text_Words.f kj3 ((t252 ++ (⟨#[32]⟩ : ByteArray)) ++ t252)).bind fun bt269 => (if t250 = true then (if bt253.2 = true then (none) else (if bt257.2 = true then (none) else (if bt265.2 = true then (none) else (if bt269.2 = true then ((some (([] : List ByteArray) : List ByteArray)).bind fun y273 => (if y273.length + l0.length < 8796093022208 then ((some (y273 ++ l0 : List ByteArray)).bind fun y276 => (if y276.length + l0.length < 8796093022208 then ((symbolonref03_Same.f kj3 bt269.1 (y276 ++ l0)).bind fun t282 => (some t282)) else (none))) else (none))) else (none))))) else (none))) else (none))) else (none))) else (none))) else (none)) else (none)) else (if (t252 ++ (⟨#[32]⟩ : ByteArray)).size + t252.size ≤ 9223372036854775807 then ((text_Words.f kj3 ((t252 ++ (⟨#[32]⟩ : ByteArray)) ++ t252)).bind fun bt283 => (if t250 = true then (if bt253.2 = true then (none) else (if bt257.2 = true then (none) else (if bt283.2 = true then ((some (([] : List ByteArray) : List ByteArray)).bind fun y287 => (if y287.length + l0.length < 8796093022208 then ((some (y287 ++ l0 : List ByteArray)).bind fun y290 => (if y290.length + l0.length < 8796093022208 then ((symbolonref03_Same.f kj3 bt283.1 (y290 ++ l0)).bind fun t296 => (some t296)) else (none))) else (none))) else (none)))) else (none))) else (none))))) else (none))) else (none))) = some r := H
        have A11 := Aside0.mk A110
        clear A110
        by_cases c12 : t252.toList = ([] : List UInt8)
        · rw [if_pos c12] at H
          have c12b0 : (t252.toList == ([] : List UInt8)) = true := beq_iff_eq.mpr c12
          have c12b1 : (t252.toList != ([] : List UInt8)) = false := bne_eq_false_iff_eq.mpr c12
          clear c12
          obtain rfl := Option.some.inj H
          go_wp2_with (first | ((with_reducible refine gate_callee (f := 20) rfl ?_); refine goesL_ (some 25) rfl rfl Tryd.func20 (by kernel_rfl) rfl #[.slice A0 l0.length c0] rfl (by (try simp only [List.map_toArray, List.map_cons, List.map_nil]); first | done | rfl | (simp only [List.length_drop, List.length_take]; rfl)) ?_; (with_reducible refine (text_Join.calls kj3 _ _ l0 t252 _ ?side1 ?side2 A11.out).mono ?_); (case side1 => repeat (first | exact (Kd.C_below HR0.out HB.out) | (with_reducible refine Kd.C_alloc ?_ _) | (with_reducible refine Kd.C_drewN ?_ _) | (with_reducible refine Kd.C_drew ?_))); (case side2 => exact HC0.out); rintro e w13 ⟨rfl, hb⟩; refine ⟨_, rfl, ?_⟩; have n0_ := Aside0.mk (below_step (by repeat (first | (with_reducible first | exact HB.out | apply below_alloc | apply pw_below_drewN | apply below_drew1) | exact HB.out)) hb); clear HB; have HB := n0_; clear n0_; (try clear hb); (try clear hb2); (try clear hk); (try clear hi)))
          go_ret
          exact ⟨by first | rfl | (simp [errW_none, errW_some] <;> rfl) | (simp [*, errW_none, errW_some] <;> rfl), by repeat (first | (with_reducible first | exact HB.out | apply below_alloc | apply pw_below_drewN | apply below_drew1) | exact HB.out)⟩
        · rw [if_neg c12] at H
          have c12b0 : (t252.toList == ([] : List UInt8)) = false := beq_eq_false_iff_ne.mpr c12
          have c12b1 : (t252.toList != ([] : List UInt8)) = true := bne_iff_ne.mpr c12
          by_cases c14 : 1 + t252.size ≤ 9223372036854775807
          · rw [if_pos c14] at H
            have c14b0 := eq_true c14
            have c14b1 : decide (1 + t252.size ≤ 9223372036854775807) = true := decide_eq_true c14
            try have c14b2 : (9223372036854775807 < 1 + t252.size) = False := eq_false (Nat.not_lt.2 c14)
            replace H := Option.bind_eq_some_iff.mp H
            obtain ⟨⟨t253, t254⟩, A150, H⟩ := H
            replace H : (if t252.size + 1 ≤ 9223372036854775807 then ((text_Words.f kj3 (t252 ++ (⟨#[32]⟩ : ByteArray))).bind fun bt257 => (if (l0.length : Int) = 0 then (none) else (if (Int.tmod (wrap64 (a1)) (l0.length : Int)) > 0 then (if 0 ≤ (Int.tmod (wrap64 (a1)) (l0.length : Int)) then (if (Int.tmod (wrap64 (a1)) (l0.length : Int)) ≤ (l0.length : Int) then ((text_Join.f kj3 (l0.take ((Int.tmod (wrap64 (a1)) (l0.length : Int)) : Int).toNat)).bind fun t262 => (if t262.size + 2 ≤ 9223372036854775807 then ((text_Join.f kj3 (l0.drop ((Int.tmod (wrap64 (a1)) (l0.length : Int)) : Int).toNat)).bind fun t264 => (if (t262 ++ (⟨#[32, 32]⟩ : ByteArray)).size + t264.size ≤ 9223372036854775807 then ((text_Words.f kj3 ((t262 ++ (⟨#[32, 32]⟩ : ByteArray)) ++ t264)).bind fun bt265 => (if (t252 ++ (⟨#[32]⟩ : ByteArray)).size + t252.size ≤ 9223372036854775807 then ((text_Words.f kj3 ((t252 ++ (⟨#[32]⟩ : ByteArray)) ++ t252)).bind fun bt269 => (if t250 = true then (if t254 = true then (none) else (if bt257.2 = true then (none) else (if bt265.2 = true then (none) else (if bt269.2 = true then ((some (([] : List ByteArray) : List ByteArray)).bind fun y273 => (if y273.length + l0.length < 8796093022208 then ((some (y273 ++ l0 : List ByteArray)).bind fun y276 => (if y276.length + l0.length < 8796093022208 then ((symbolonref03_Same.f kj3 bt269.1 (y276 ++ l0)).bind fun t282 => (some t282)) else (none))) else (none))) else (none))))) else (none))) else (none))) else (none))) else (none))) else (none)) else (none)) else (if (t252 ++ (⟨#[32]⟩ : ByteArray)).size + t252.size ≤ 9223372036854775807 then ((text_Words.f kj3 ((t252 ++ (⟨#[32]⟩ : ByteArray)) ++ t252)).bind fun bt283 => (if t250 = true then (if t254 = true then (none) else (if bt257.2 = true then (none) else (if bt283.2 = true then ((some (([] : List ByteArray) : List ByteArray)).bind fun y287 => (if y287.length + l0.length < 8796093022208 then ((some (y287 ++ l0 : List ByteArray)).bind fun y290 => (if y290.length + l0.length < 8796093022208 then ((symbolonref03_Same.f kj3 bt283.1 (y290 ++ l0)).bind fun t296 => (some t296)) else (none))) else (none))) else (none)))) else (none))) else (none))))) else (none)) = some r := H
            have A15 := Aside0.mk A150
            clear A150
            by_cases c16 : t252.size + 1 ≤ 9223372036854775807
            · rw [if_pos c16] at H
              have c16b0 := eq_true c16
              have c16b1 : decide (t252.size + 1 ≤ 9223372036854775807) = true := decide_eq_true c16
              try have c16b2 : (9223372036854775807 < t252.size + 1) = False := eq_false (Nat.not_lt.2 c16)
              replace H := Option.bind_eq_some_iff.mp H
              obtain ⟨⟨t257, t258⟩, A170, H⟩ := H
              replace H : (if (l0.length : Int) = 0 then (none) else (if (Int.tmod (wrap64 (a1)) (l0.length : Int)) > 0 then (if 0 ≤ (Int.tmod (wrap64 (a1)) (l0.length : Int)) then (if (Int.tmod (wrap64 (a1)) (l0.length : Int)) ≤ (l0.length : Int) then ((text_Join.f kj3 (l0.take ((Int.tmod (wrap64 (a1)) (l0.length : Int)) : Int).toNat)).bind fun t262 => (if t262.size + 2 ≤ 9223372036854775807 then ((text_Join.f kj3 (l0.drop ((Int.tmod (wrap64 (a1)) (l0.length : Int)) : Int).toNat)).bind fun t264 => (if (t262 ++ (⟨#[32, 32]⟩ : ByteArray)).size + t264.size ≤ 9223372036854775807 then ((text_Words.f kj3 ((t262 ++ (⟨#[32, 32]⟩ : ByteArray)) ++ t264)).bind fun bt265 => (if (t252 ++ (⟨#[32]⟩ : ByteArray)).size + t252.size ≤ 9223372036854775807 then ((text_Words.f kj3 ((t252 ++ (⟨#[32]⟩ : ByteArray)) ++ t252)).bind fun bt269 => (if t250 = true then (if t254 = true then (none) else (if t258 = true then (none) else (if bt265.2 = true then (none) else (if bt269.2 = true then ((some (([] : List ByteArray) : List ByteArray)).bind fun y273 => (if y273.length + l0.length < 8796093022208 then ((some (y273 ++ l0 : List ByteArray)).bind fun y276 => (if y276.length + l0.length < 8796093022208 then ((symbolonref03_Same.f kj3 bt269.1 (y276 ++ l0)).bind fun t282 => (some t282)) else (none))) else (none))) else (none))))) else (none))) else (none))) else (none))) else (none))) else (none)) else (none)) else (if (t252 ++ (⟨#[32]⟩ : ByteArray)).size + t252.size ≤ 9223372036854775807 then ((text_Words.f kj3 ((t252 ++ (⟨#[32]⟩ : ByteArray)) ++ t252)).bind fun bt283 => (if t250 = true then (if t254 = true then (none) else (if t258 = true then (none) else (if bt283.2 = true then ((some (([] : List ByteArray) : List ByteArray)).bind fun y287 => (if y287.length + l0.length < 8796093022208 then ((some (y287 ++ l0 : List ByteArray)).bind fun y290 => (if y290.length + l0.length < 8796093022208 then ((symbolonref03_Same.f kj3 bt283.1 (y290 ++ l0)).bind fun t296 => (some t296)) else (none))) else (none))) else (none)))) else (none))) else (none)))) = some r := H
              have A17 := Aside0.mk A170
              clear A170
              by_cases c18 : (l0.length : Int) = 0
              · rw [if_pos c18] at H
                exact absurd H (by simp)
              · rw [if_neg c18] at H
                have c18b0 : ((l0.length : Int) == 0) = false := beq_eq_false_iff_ne.mpr c18
                have c18b1 : ((l0.length : Int) != 0) = true := bne_iff_ne.mpr c18
                have c18b2 : ¬ (l0 = []) := fun h_ => c18 (by rw [h_]; rfl)
                by_cases c19 : (Int.tmod (wrap64 (a1)) (l0.length : Int)) > 0
                · rw [if_pos c19] at H
                  have c19b0 : decide (0 < (Int.tmod (wrap64 (a1)) (l0.length : Int))) = true := decide_eq_true c19
                  clear c19
                  obtain ⟨ji20, hji20⟩ : ∃ j_ : Int, (Int.tmod (wrap64 (a1)) (l0.length : Int)) = j_ := ⟨_, rfl⟩
                  replace H : (if 0 ≤ (ji20) then (if (ji20) ≤ (l0.length : Int) then ((text_Join.f kj3 (l0.take ((ji20) : Int).toNat)).bind fun t262 => (if t262.size + 2 ≤ 9223372036854775807 then ((text_Join.f kj3 (l0.drop ((ji20) : Int).toNat)).bind fun t264 => (if (t262 ++ (⟨#[32, 32]⟩ : ByteArray)).size + t264.size ≤ 9223372036854775807 then ((text_Words.f kj3 ((t262 ++ (⟨#[32, 32]⟩ : ByteArray)) ++ t264)).bind fun bt265 => (if (t252 ++ (⟨#[32]⟩ : ByteArray)).size + t252.size ≤ 9223372036854775807 then ((text_Words.f kj3 ((t252 ++ (⟨#[32]⟩ : ByteArray)) ++ t252)).bind fun bt269 => (if t250 = true then (if t254 = true then (none) else (if t258 = true then (none) else (if bt265.2 = true then (none) else (if bt269.2 = true then ((some (([] : List ByteArray) : List ByteArray)).bind fun y273 => (if y273.length + l0.length < 8796093022208 then ((some (y273 ++ l0 : List ByteArray)).bind fun y276 => (if y276.length + l0.length < 8796093022208 then ((symbolonref03_Same.f kj3 bt269.1 (y276 ++ l0)).bind fun t282 => (some t282)) else (none))) else (none))) else (none))))) else (none))) else (none))) else (none))) else (none))) else (none)) else (none)) = some r := by first | (rw [hji20] at H; exact H) | (simp only [hji20] at H ⊢; exact H)
                  (try rw [hji20] at c19b0)
                  (try rw [hji20] at A11)
                  (try rw [hji20] at A15)
                  (try rw [hji20] at A17)
                  by_cases c21 : 0 ≤ (ji20)
                  · rw [if_pos c21] at H
                    have c21b0 := eq_true c21
                    have c21b1 : decide (0 ≤ (ji20)) = true := decide_eq_true c21
                    clear c21
                    by_cases c22 : (ji20) ≤ (l0.length : Int)
                    · rw [if_pos c22] at H
                      have c22b0 := eq_true c22
                      have c22b1 : decide ((ji20) ≤ (l0.length : Int)) = true := decide_eq_true c22
                      clear c22
                      replace H := Option.bind_eq_some_iff.mp H
                      obtain ⟨t262, A230, H⟩ := H
                      replace H : (if t262.size + 2 ≤ 9223372036854775807 then ((text_Join.f kj3 (l0.drop ((ji20) : Int).toNat)).bind fun t264 => (if (t262 ++ (⟨#[32, 32]⟩ : ByteArray)).size + t264.size ≤ 9223372036854775807 then ((text_Words.f kj3 ((t262 ++ (⟨#[32, 32]⟩ : ByteArray)) ++ t264)).bind fun bt265 => (if (t252 ++ (⟨#[32]⟩ : ByteArray)).size + t252.size ≤ 9223372036854775807 then ((text_Words.f kj3 ((t252 ++ (⟨#[32]⟩ : ByteArray)) ++ t252)).bind fun bt269 => (if t250 = true then (if t254 = true then (none) else (if t258 = true then (none) else (if bt265.2 = true then (none) else (if bt269.2 = true then ((some (([] : List ByteArray) : List ByteArray)).bind fun y273 => (if y273.length + l0.length < 8796093022208 then ((some (y273 ++ l0 : List ByteArray)).bind fun y276 => (if y276.length + l0.length < 8796093022208 then ((symbolonref03_Same.f kj3 bt269.1 (y276 ++ l0)).bind fun t282 => (some t282)) else (none))) else (none))) else (none))))) else (none))) else (none))) else (none))) else (none)) = some r := H
                      have A23 := Aside0.mk A230
                      clear A230
                      by_cases c24 : t262.size + 2 ≤ 9223372036854775807
                      · rw [if_pos c24] at H
                        have c24b0 := eq_true c24
                        have c24b1 : decide (t262.size + 2 ≤ 9223372036854775807) = true := decide_eq_true c24
                        try have c24b2 : (9223372036854775807 < t262.size + 2) = False := eq_false (Nat.not_lt.2 c24)
                        have c25b0 := eq_true (of_decide_eq_true (by first | (with_reducible assumption) | assumption) : 0 ≤ (ji20))
                        have c26b0 := eq_true (of_decide_eq_true (by first | (with_reducible assumption) | assumption) : (ji20) ≤ (l0.length : Int))
                        replace H := Option.bind_eq_some_iff.mp H
                        obtain ⟨t264, A270, H⟩ := H
                        replace H : (if (t262 ++ (⟨#[32, 32]⟩ : ByteArray)).size + t264.size ≤ 9223372036854775807 then ((text_Words.f kj3 ((t262 ++ (⟨#[32, 32]⟩ : ByteArray)) ++ t264)).bind fun bt265 => (if (t252 ++ (⟨#[32]⟩ : ByteArray)).size + t252.size ≤ 9223372036854775807 then ((text_Words.f kj3 ((t252 ++ (⟨#[32]⟩ : ByteArray)) ++ t252)).bind fun bt269 => (if t250 = true then (if t254 = true then (none) else (if t258 = true then (none) else (if bt265.2 = true then (none) else (if bt269.2 = true then ((some (([] : List ByteArray) : List ByteArray)).bind fun y273 => (if y273.length + l0.length < 8796093022208 then ((some (y273 ++ l0 : List ByteArray)).bind fun y276 => (if y276.length + l0.length < 8796093022208 then ((symbolonref03_Same.f kj3 bt269.1 (y276 ++ l0)).bind fun t282 => (some t282)) else (none))) else (none))) else (none))))) else (none))) else (none))) else (none)) = some r := H
                        have A27 := Aside0.mk A270
                        clear A270
                        by_cases c28 : (t262 ++ (⟨#[32, 32]⟩ : ByteArray)).size + t264.size ≤ 9223372036854775807
                        · rw [if_pos c28] at H
                          have c28b0 := eq_true c28
                          have c28b1 : decide ((t262 ++ (⟨#[32, 32]⟩ : ByteArray)).size + t264.size ≤ 9223372036854775807) = true := decide_eq_true c28
                          try have c28b2 : (9223372036854775807 < (t262 ++ (⟨#[32, 32]⟩ : ByteArray)).size + t264.size) = False := eq_false (Nat.not_lt.2 c28)
                          try have c28b3 : (9223372036854775807 < t262.size + 2 + t264.size) = False := eq_false (by have h_ := c28; rw [ByteArray.size_append] at h_; exact Nat.not_lt.2 h_)
                          replace H := Option.bind_eq_some_iff.mp H
                          obtain ⟨⟨t265, t266⟩, A290, H⟩ := H
                          replace H : (if (t252 ++ (⟨#[32]⟩ : ByteArray)).size + t252.size ≤ 9223372036854775807 then ((text_Words.f kj3 ((t252 ++ (⟨#[32]⟩ : ByteArray)) ++ t252)).bind fun bt269 => (if t250 = true then (if t254 = true then (none) else (if t258 = true then (none) else (if t266 = true then (none) else (if bt269.2 = true then ((some (([] : List ByteArray) : List ByteArray)).bind fun y273 => (if y273.length + l0.length < 8796093022208 then ((some (y273 ++ l0 : List ByteArray)).bind fun y276 => (if y276.length + l0.length < 8796093022208 then ((symbolonref03_Same.f kj3 bt269.1 (y276 ++ l0)).bind fun t282 => (some t282)) else (none))) else (none))) else (none))))) else (none))) else (none)) = some r := H
                          have A29 := Aside0.mk A290
                          clear A290
                          by_cases c30 : (t252 ++ (⟨#[32]⟩ : ByteArray)).size + t252.size ≤ 9223372036854775807
                          · rw [if_pos c30] at H
                            have c30b0 := eq_true c30
                            have c30b1 : decide ((t252 ++ (⟨#[32]⟩ : ByteArray)).size + t252.size ≤ 9223372036854775807) = true := decide_eq_true c30
                            try have c30b2 : (9223372036854775807 < (t252 ++ (⟨#[32]⟩ : ByteArray)).size + t252.size) = False := eq_false (Nat.not_lt.2 c30)
                            try have c30b3 : (9223372036854775807 < t252.size + 1 + t252.size) = False := eq_false (by have h_ := c30; rw [ByteArray.size_append] at h_; exact Nat.not_lt.2 h_)
                            replace H := Option.bind_eq_some_iff.mp H
                            obtain ⟨⟨t269, t270⟩, A310, H⟩ := H
                            replace H : (if t250 = true then (if t254 = true then (none) else (if t258 = true then (none) else (if t266 = true then (none) else (if t270 = true then ((some (([] : List ByteArray) : List ByteArray)).bind fun y273 => (if y273.length + l0.length < 8796093022208 then ((some (y273 ++ l0 : List ByteArray)).bind fun y276 => (if y276.length + l0.length < 8796093022208 then ((symbolonref03_Same.f kj3 t269 (y276 ++ l0)).bind fun t282 => (some t282)) else (none))) else (none))) else (none))))) else (none)) = some r := H
                            have A31 := Aside0.mk A310
                            clear A310
                            by_cases c32 : t250 = true
                            · subst c32
                              have H1 : (if t254 = true then (none) else (if t258 = true then (none) else (if t266 = true then (none) else (if t270 = true then ((some (([] : List ByteArray) : List ByteArray)).bind fun y273 => (if y273.length + l0.length < 8796093022208 then ((some (y273 ++ l0 : List ByteArray)).bind fun y276 => (if y276.length + l0.length < 8796093022208 then ((symbolonref03_Same.f kj3 t269 (y276 ++ l0)).bind fun t282 => (some t282)) else (none))) else (none))) else (none))))) = some r := by rw [if_pos rfl] at H; exact H
                              clear H
                              have H := H1
                              clear H1
                              by_cases c33 : t254 = true
                              · subst c33
                                have H1 : (none) = some r := by rw [if_pos rfl] at H; exact H
                                clear H
                                have H := H1
                                clear H1
                                exact absurd H (by simp)
                              · replace c33 := Bool.eq_false_iff.mpr c33
                                subst c33
                                have H1 : (if t258 = true then (none) else (if t266 = true then (none) else (if t270 = true then ((some (([] : List ByteArray) : List ByteArray)).bind fun y273 => (if y273.length + l0.length < 8796093022208 then ((some (y273 ++ l0 : List ByteArray)).bind fun y276 => (if y276.length + l0.length < 8796093022208 then ((symbolonref03_Same.f kj3 t269 (y276 ++ l0)).bind fun t282 => (some t282)) else (none))) else (none))) else (none)))) = some r := by rw [if_neg (show ¬ (false = true) by decide)] at H; exact H
                                clear H
                                have H := H1
                                clear H1
                                by_cases c34 : t258 = true
                                · subst c34
                                  have H1 : (none) = some r := by rw [if_pos rfl] at H; exact H
                                  clear H
                                  have H := H1
                                  clear H1
                                  exact absurd H (by simp)
                                · replace c34 := Bool.eq_false_iff.mpr c34
                                  subst c34
                                  have H1 : (if t266 = true then (none) else (if t270 = true then ((some (([] : List ByteArray) : List ByteArray)).bind fun y273 => (if y273.length + l0.length < 8796093022208 then ((some (y273 ++ l0 : List ByteArray)).bind fun y276 => (if y276.length + l0.length < 8796093022208 then ((symbolonref03_Same.f kj3 t269 (y276 ++ l0)).bind fun t282 => (some t282)) else (none))) else (none))) else (none))) = some r := by rw [if_neg (show ¬ (false = true) by decide)] at H; exact H
                                  clear H
                                  have H := H1
                                  clear H1
                                  by_cases c35 : t266 = true
                                  · subst c35
                                    have H1 : (none) = some r := by rw [if_pos rfl] at H; exact H
                                    clear H
                                    have H := H1
                                    clear H1
                                    exact absurd H (by simp)
                                  · replace c35 := Bool.eq_false_iff.mpr c35
                                    subst c35
                                    have H1 : (if t270 = true then ((some (([] : List ByteArray) : List ByteArray)).bind fun y273 => (if y273.length + l0.length < 8796093022208 then ((some (y273 ++ l0 : List ByteArray)).bind fun y276 => (if y276.length + l0.length < 8796093022208 then ((symbolonref03_Same.f kj3 t269 (y276 ++ l0)).bind fun t282 => (some t282)) else (none))) else (none))) else (none)) = some r := by rw [if_neg (show ¬ (false = true) by decide)] at H; exact H
                                    clear H
                                    have H := H1
                                    clear H1
                                    by_cases c36 : t270 = true
                                    · subst c36
                                      have H1 : ((some (([] : List ByteArray) : List ByteArray)).bind fun y273 => (if y273.length + l0.length < 8796093022208 then ((some (y273 ++ l0 : List ByteArray)).bind fun y276 => (if y276.length + l0.length < 8796093022208 then ((symbolonref03_Same.f kj3 t269 (y276 ++ l0)).bind fun t282 => (some t282)) else (none))) else (none))) = some r := by rw [if_pos rfl] at H; exact H
                                      clear H
                                      have H := H1
                                      clear H1
                                      obtain ⟨y273, hy273⟩ : ∃ y_ : List ByteArray, y_ = (([] : List ByteArray)) := ⟨_, rfl⟩
                                      replace H : (if y273.length + l0.length < 8796093022208 then ((some (y273 ++ l0 : List ByteArray)).bind fun y276 => (if y276.length + l0.length < 8796093022208 then ((symbolonref03_Same.f kj3 t269 (y276 ++ l0)).bind fun t282 => (some t282)) else (none))) else (none)) = some r := by first | (rw [hy273]; with_reducible exact H) | (have H2_ := (Option.bind_some _ _).symm.trans H; rw [hy273]; with_reducible exact H2_) | (have H2_ := (Option.bind_some _ _).symm.trans H; with_reducible exact H2_) | with_reducible exact H | (rw [hy273]; exact H) | exact H
                                      have Ny273 := Aside0.mk hy273
                                      clear hy273
                                      by_cases c37 : y273.length + l0.length < 8796093022208
                                      · rw [if_pos c37] at H
                                        have LMc37 := Aside0.mk c37
                                        clear c37
                                        obtain ⟨y276, hy276⟩ : ∃ y_ : List ByteArray, y_ = (y273 ++ l0) := ⟨_, rfl⟩
                                        replace H : (if y276.length + l0.length < 8796093022208 then ((symbolonref03_Same.f kj3 t269 (y276 ++ l0)).bind fun t282 => (some t282)) else (none)) = some r := by first | (rw [hy276]; with_reducible exact H) | (have H2_ := (Option.bind_some _ _).symm.trans H; rw [hy276]; with_reducible exact H2_) | (have H2_ := (Option.bind_some _ _).symm.trans H; with_reducible exact H2_) | with_reducible exact H | (rw [hy276]; exact H) | exact H
                                        have Ny276 := Aside0.mk hy276
                                        clear hy276
                                        by_cases c38 : y276.length + l0.length < 8796093022208
                                        · rw [if_pos c38] at H
                                          have LMc38 := Aside0.mk c38
                                          clear c38
                                          obtain ⟨y279, hy279⟩ : ∃ y_ : List ByteArray, y_ = (y276 ++ l0) := ⟨_, rfl⟩
                                          replace H : ((symbolonref03_Same.f kj3 t269 y279).bind fun t282 => (some t282)) = some r := by first | (rw [hy279]; with_reducible exact H) | (have H2_ := (Option.bind_some _ _).symm.trans H; rw [hy279]; with_reducible exact H2_) | (have H2_ := (Option.bind_some _ _).symm.trans H; with_reducible exact H2_) | with_reducible exact H | (rw [hy279]; exact H) | exact H
                                          have Ny279 := Aside0.mk hy279
                                          clear hy279
                                          replace H := Option.bind_eq_some_iff.mp H
                                          obtain ⟨t282, A390, H⟩ := H
                                          replace H : (some t282) = some r := H
                                          have A39 := Aside0.mk A390
                                          clear A390
                                          obtain rfl := Option.some.inj H
                                          try go_wp2_with (first | ((with_reducible refine gate_callee (f := 20) rfl ?_); refine goesL_ (some 25) rfl rfl Tryd.func20 (by kernel_rfl) rfl #[.slice A0 l0.length c0] rfl (by (try simp only [List.map_toArray, List.map_cons, List.map_nil]); first | done | rfl | (simp only [List.length_drop, List.length_take]; rfl)) ?_; (with_reducible refine (text_Join.calls kj3 _ _ l0 t252 _ ?side1 ?side2 A11.out).mono ?_); (case side1 => repeat (first | exact (Kd.C_below HR0.out HB.out) | (with_reducible refine Kd.C_alloc ?_ _) | (with_reducible refine Kd.C_drewN ?_ _) | (with_reducible refine Kd.C_drew ?_))); (case side2 => exact HC0.out); rintro e w40 ⟨rfl, hb⟩; refine ⟨_, rfl, ?_⟩; have n0_ := Aside0.mk (below_step (by repeat (first | (with_reducible first | exact HB.out | apply below_alloc | apply pw_below_drewN | apply below_drew1) | exact HB.out)) hb); clear HB; have HB := n0_; clear n0_; (try clear hb); (try clear hb2); (try clear hk); (try clear hi)) | ((with_reducible refine gate_callee (f := 13) rfl ?_); refine goesL_ (some 32) rfl rfl Tryd.func13 (by kernel_rfl) rfl #[.string ((⟨#[32]⟩ : ByteArray) ++ t252)] rfl (by (try simp only [List.map_toArray, List.map_cons, List.map_nil]); first | done | rfl | (simp only [List.length_drop, List.length_take]; rfl)) ?_; (with_reducible refine (text_Words.calls kj3 ((⟨#[32]⟩ : ByteArray) ++ t252) t253 false _ A15.out (S.Tabs.below HT.out (by repeat (first | (with_reducible first | exact HB.out | apply below_alloc | apply pw_below_drewN | apply below_drew1) | exact HB.out)))).mono ?_); rintro e w41 ⟨v255, rfl, ho0, hb⟩; refine ⟨_, rfl, ?_⟩; have n0_ := Aside0.mk (Kd.R_lower ho0 (below_size (by repeat (first | (with_reducible first | exact HB.out | apply below_alloc | apply pw_below_drewN | apply below_drew1) | exact HB.out)))); have n1_ := Aside0.mk (below_step (by repeat (first | (with_reducible first | exact HB.out | apply below_alloc | apply pw_below_drewN | apply below_drew1) | exact HB.out)) hb); clear HB; have HO256 := n0_; have HB := n1_; clear n0_ n1_; (try clear hb); (try clear hb2); (try clear hk); (try clear hi); (try clear ho0)) | ((with_reducible refine gate_callee (f := 13) rfl ?_); refine goesL_ (some 38) rfl rfl Tryd.func13 (by kernel_rfl) rfl #[.string (t252 ++ (⟨#[32]⟩ : ByteArray))] rfl (by (try simp only [List.map_toArray, List.map_cons, List.map_nil]); first | done | rfl | (simp only [List.length_drop, List.length_take]; rfl)) ?_; (with_reducible refine (text_Words.calls kj3 (t252 ++ (⟨#[32]⟩ : ByteArray)) t257 false _ A17.out (S.Tabs.below HT.out (by repeat (first | (with_reducible first | exact HB.out | apply below_alloc | apply pw_below_drewN | apply below_drew1) | exact HB.out)))).mono ?_); rintro e w42 ⟨v259, rfl, ho0, hb⟩; refine ⟨_, rfl, ?_⟩; have n0_ := Aside0.mk (Kd.R_elder' (by (with_reducible repeat (first | apply Kd.R_alloc | apply Kd.R_drewN | apply Kd.R_drew)); exact HO256.out) (Kd.R_base ho0) hb); have n1_ := Aside0.mk (Kd.R_lower (Kd.R_new' ho0 (Kd.R_lt (by (with_reducible repeat (first | apply Kd.R_alloc | apply Kd.R_drewN | apply Kd.R_drew)); exact HO256.out))) (below_size (by repeat (first | (with_reducible first | exact HB.out | apply below_alloc | apply pw_below_drewN | apply below_drew1) | exact HB.out)))); have n2_ := Aside0.mk (below_step (by repeat (first | (with_reducible first | exact HB.out | apply below_alloc | apply pw_below_drewN | apply below_drew1) | exact HB.out)) hb); clear HO256; clear HB; have HO256 := n0_; have HO260 := n1_; have HB := n2_; clear n0_ n1_ n2_; (try clear hb); (try clear hb2); (try clear hk); (try clear hi); (try clear ho0)))
                                          have n0_ := Aside0.mk (Kd.R_drew HO256.out)
                                          have n1_ := Aside0.mk (Kd.R_drew HO260.out)
                                          have n2_ := Aside0.mk (below_drew1 HB.out)
                                          clear HO256
                                          clear HO260
                                          clear HB
                                          have HO256 := n0_
                                          have HO260 := n1_
                                          have HB := n2_
                                          clear n0_ n1_ n2_
                                          obtain ⟨i044, hi044, _, hsz44, _⟩ := info_parts info9
                                          obtain ⟨hcut44, hA44, hC44⟩ := print_take_of (P := Tryd.prog) Value.string (⟨#[]⟩ : ByteArray) 22 9 .i64 Tryd.underlying22 hi044 hsz44 A0 c0 l0 (ji20) (of_decide_eq_true (by first | (with_reducible assumption) | assumption)) (of_decide_eq_true (by first | (with_reducible assumption) | assumption)) HC0.out
                                          have HR261 := Aside0.mk (Kd.C_of_reads (h1 := fun _ => rfl) (hA44 _ (Kd.reads_of_C HR0.out)))
                                          have HC261 := Aside0.mk hC44
                                          clear hA44 hC44 hi044 hsz44
                                          obtain ⟨i045, hi045, _, hsz45, _⟩ := info_parts info9
                                          obtain ⟨A45, hcut45, hA45, hC45⟩ := print_drop_of (P := Tryd.prog) Value.string (⟨#[]⟩ : ByteArray) 22 9 .i64 Tryd.underlying22 hi045 hsz45 A0 c0 l0 (ji20) (of_decide_eq_true (by first | (with_reducible assumption) | assumption)) (of_decide_eq_true (by first | (with_reducible assumption) | assumption)) HC0.out
                                          have HR263 := Aside0.mk (Kd.C_of_reads (h1 := fun _ => rfl) (hA45 _ (Kd.reads_of_C HR0.out)))
                                          have HC263 := Aside0.mk hC45
                                          clear hA45 hC45 hi045 hsz45
                                          refine start_ (n := 15) (S := fun w' => True) (ds := []) #[false, false, false, false, false, false, false, false, false, false, false, false, false, false, false] (by kernel_rfl) rfl rfl trivial (fun hHeld => ?_); refine with_tabW symbolonlaw03_TextBlanks.tab12 symbolonlaw03_TextBlanks.bits12 (fun HT_ HW_ => ?_)
                                          generalize w42.drew = w43 at HO256 HO260 HB HR261 HR263 hHeld ⊢
                                          refine pure_ (i := 0) (N := some 49) (v := ?_) (a' := ?_) #[true, false, false, false, false, false, false, false, false, false, false, false, false, false, false] rfl rfl (any_of HT_.out (by kernel_rfl)) (fun _ _ _ h => h) (Or.inl ⟨by rfl, ?_⟩) ?_ ?_
                                          rotate_left
                                          · intro w'
                                            go_simp
                                            with_reducible rfl
                                          rotate_left
                                          · simp only [Act.put, List.setIfInBounds_toArray, List.set_cons_zero, List.set_cons_succ, i64_w, i32_w]
                                            rfl
                                          refine pure_ (i := 1) (N := some 50) (v := ?_) (a' := ?_) #[true, true, false, false, false, false, false, false, false, false, false, false, false, false, false] rfl rfl (any_of HT_.out (by kernel_rfl)) (fun _ _ _ h => h) (Or.inl ⟨by rfl, ?_⟩) ?_ ?_
                                          rotate_left
                                          · intro w'
                                            go_simp
                                            with_reducible rfl
                                          rotate_left
                                          · simp only [Act.put, List.setIfInBounds_toArray, List.set_cons_zero, List.set_cons_succ, i64_w, i32_w]
                                            rfl
                                          refine pure_ (i := 2) (N := some 51) (v := ?_) (a' := ?_) #[true, true, true, false, false, false, false, false, false, false, false, false, false, false, false] rfl rfl (any_of HT_.out (by kernel_rfl)) (fun _ _ _ h => h) (Or.inl ⟨by rfl, ?_⟩) ?_ ?_
                                          rotate_left
                                          · intro w'
                                            go_simp
                                            with_reducible rfl
                                          rotate_left
                                          · simp only [Act.put, List.setIfInBounds_toArray, List.set_cons_zero, List.set_cons_succ, i64_w, i32_w]
                                            rfl
                                          refine pure_ (i := 5) (N := some 54) (v := ?_) (a' := ?_) #[true, true, true, false, false, true, false, false, false, false, false, false, false, false, false] rfl rfl (any_of HT_.out (by kernel_rfl)) (fun _ _ _ h => h) (Or.inl ⟨by rfl, ?_⟩) ?_ ?_
                                          rotate_left
                                          · intro w'
                                            go_simp
                                            with_reducible rfl
                                          rotate_left
                                          · simp only [Act.put, List.setIfInBounds_toArray, List.set_cons_zero, List.set_cons_succ, i64_w, i32_w]
                                            rfl
                                          refine pure_ (i := 6) (N := some 55) (v := ?_) (a' := ?_) #[true, true, true, false, false, true, true, false, false, false, false, false, false, false, false] rfl rfl (any_of HT_.out (by kernel_rfl)) (fun _ _ _ h => h) (Or.inl ⟨by rfl, ?_⟩) ?_ ?_
                                          rotate_left
                                          · intro w'
                                            go_simp
                                            with_reducible rfl
                                          rotate_left
                                          · simp only [Act.put, List.setIfInBounds_toArray, List.set_cons_zero, List.set_cons_succ, i64_w, i32_w]
                                            rfl
                                          refine pure_ (i := 7) (N := some 56) (v := ?_) (a' := ?_) #[true, true, true, false, false, true, true, true, false, false, false, false, false, false, false] rfl rfl (any_of HT_.out (by kernel_rfl)) (fun _ _ _ h => h) (Or.inl ⟨by rfl, ?_⟩) ?_ ?_
                                          rotate_left
                                          · intro w'
                                            go_simp
                                            with_reducible rfl
                                          rotate_left
                                          · simp only [Act.put, List.setIfInBounds_toArray, List.set_cons_zero, List.set_cons_succ, i64_w, i32_w]
                                            rfl
                                          refine one_ (i := 3) (N := some 52) #[true, true, true, true, false, true, true, true, false, false, false, false, false, false, false] rfl rfl (one_of HT_.out (by kernel_rfl)) (by decide) (fun K hK => ?_)
                                          refine goes_ Tryd.func20 (by kernel_rfl) rfl #[.slice A0 (l0.take ((ji20) : Int).toNat).length c0] (by rfl) rfl rfl (by (try simp only [List.map_toArray, List.map_cons, List.map_nil]); first | done | (rw [show (l0.take ((ji20) : Int).toNat).length = (ji20).toNat from (by rw [List.length_take]; have h_ : ((ji20) : Int) ≤ (l0.length : Int) := of_decide_eq_true (by first | (with_reducible assumption) | assumption); omega)] <;> rfl) | (simp only [hji20]; rfl) | rfl | (simp only [List.length_drop, List.length_take]; rfl)) ?_
                                          with_reducible refine (text_Join.calls kj3 _ _ (l0.take ((ji20) : Int).toNat) t262 _ ?side1 ?side2 A23.out).mono ?_
                                          (case side1 => repeat (first | exact (Kd.C_below HR261.out HB.out) | (with_reducible refine Kd.C_alloc ?_ _) | (with_reducible refine Kd.C_drewN ?_ _) | (with_reducible refine Kd.C_drew ?_)))
                                          (case side2 => exact HC261.out)
                                          rintro e w46 ⟨rfl, hb⟩
                                          refine ⟨_, rfl, ?_⟩
                                          have n0_ := Aside0.mk (Kd.R_below (by (with_reducible repeat (first | apply Kd.R_alloc | apply Kd.R_drewN | apply Kd.R_drew)); exact HO256.out) hb)
                                          have n1_ := Aside0.mk (Kd.R_below (by (with_reducible repeat (first | apply Kd.R_alloc | apply Kd.R_drewN | apply Kd.R_drew)); exact HO260.out) hb)
                                          have n2_ := Aside0.mk (below_step (by repeat (first | (with_reducible first | exact HB.out | apply below_alloc | apply pw_below_drewN | apply below_drew1) | exact HB.out)) hb)
                                          clear HO256
                                          clear HO260
                                          clear HB
                                          have HO256 := n0_
                                          have HO260 := n1_
                                          have HB := n2_
                                          clear n0_ n1_ n2_
                                          (try clear hb)
                                          (try clear hb2)
                                          (try clear hk)
                                          (try clear hi)
                                          refine hK.out _ _ trivial (fun hHeld => ?_)
                                          clear hK K
                                          refine norm_ (a' := ?_) ?_ ?_
                                          rotate_left
                                          · show Act.put _ (some 52) _ = _
                                            simp only [Act.put, List.setIfInBounds_toArray, List.set_cons_zero, List.set_cons_succ, i64_w, i32_w]
                                            rfl
                                          refine pure_ (i := 4) (N := some 53) (v := ?_) (a' := ?_) #[true, true, true, true, true, true, true, true, false, false, false, false, false, false, false] rfl rfl (any_of HT_.out (by kernel_rfl)) (fun _ _ _ h => h) (Or.inl ⟨by rfl, ?_⟩) ?_ ?_
                                          rotate_left
                                          · intro w'
                                            go_simp
                                            with_reducible rfl
                                          rotate_left
                                          · simp only [Act.put, List.setIfInBounds_toArray, List.set_cons_zero, List.set_cons_succ, i64_w, i32_w]
                                            rfl
                                          refine one_ (i := 8) (N := some 57) #[true, true, true, true, true, true, true, true, true, false, false, false, false, false, false] rfl rfl (one_of HT_.out (by kernel_rfl)) (by decide) (fun K hK => ?_)
                                          refine goes_ Tryd.func20 (by kernel_rfl) rfl #[.slice A45 (l0.drop ((ji20) : Int).toNat).length (c0 - (ji20).toNat)] (by rfl) rfl rfl (by (try simp only [List.map_toArray, List.map_cons, List.map_nil]); first | done | (rw [show (l0.drop ((ji20) : Int).toNat).length = (l0.length - (ji20).toNat) from List.length_drop] <;> rfl) | (simp only [hji20]; rfl) | rfl | (simp only [List.length_drop, List.length_take]; rfl)) ?_
                                          with_reducible refine (text_Join.calls kj3 _ _ (l0.drop ((ji20) : Int).toNat) t264 _ ?side1 ?side2 A27.out).mono ?_
                                          (case side1 => repeat (first | exact (Kd.C_below HR263.out HB.out) | (with_reducible refine Kd.C_alloc ?_ _) | (with_reducible refine Kd.C_drewN ?_ _) | (with_reducible refine Kd.C_drew ?_)))
                                          (case side2 => exact HC263.out)
                                          rintro e w47 ⟨rfl, hb⟩
                                          refine ⟨_, rfl, ?_⟩
                                          have n0_ := Aside0.mk (Kd.R_below (by (with_reducible repeat (first | apply Kd.R_alloc | apply Kd.R_drewN | apply Kd.R_drew)); exact HO256.out) hb)
                                          have n1_ := Aside0.mk (Kd.R_below (by (with_reducible repeat (first | apply Kd.R_alloc | apply Kd.R_drewN | apply Kd.R_drew)); exact HO260.out) hb)
                                          have n2_ := Aside0.mk (below_step (by repeat (first | (with_reducible first | exact HB.out | apply below_alloc | apply pw_below_drewN | apply below_drew1) | exact HB.out)) hb)
                                          clear HO256
                                          clear HO260
                                          clear HB
                                          have HO256 := n0_
                                          have HO260 := n1_
                                          have HB := n2_
                                          clear n0_ n1_ n2_
                                          (try clear hb)
                                          (try clear hb2)
                                          (try clear hk)
                                          (try clear hi)
                                          refine hK.out _ _ trivial (fun hHeld => ?_)
                                          clear hK K
                                          refine norm_ (a' := ?_) ?_ ?_
                                          rotate_left
                                          · show Act.put _ (some 57) _ = _
                                            simp only [Act.put, List.setIfInBounds_toArray, List.set_cons_zero, List.set_cons_succ, i64_w, i32_w]
                                            rfl
                                          refine pure_ (i := 9) (N := some 58) (v := ?_) (a' := ?_) #[true, true, true, true, true, true, true, true, true, true, false, false, false, false, false] rfl rfl (any_of HT_.out (by kernel_rfl)) (fun _ _ _ h => h) (Or.inl ⟨by rfl, ?_⟩) ?_ ?_
                                          rotate_left
                                          · intro w'
                                            go_simp
                                            with_reducible rfl
                                          rotate_left
                                          · simp only [Act.put, List.setIfInBounds_toArray, List.set_cons_zero, List.set_cons_succ, i64_w, i32_w]
                                            rfl
                                          refine one_ (i := 10) (N := some 59) #[true, true, true, true, true, true, true, true, true, true, true, false, false, false, false] rfl rfl (one_of HT_.out (by kernel_rfl)) (by decide) (fun K hK => ?_)
                                          refine goes_ Tryd.func13 (by kernel_rfl) rfl #[.string ((t262 ++ (⟨#[32, 32]⟩ : ByteArray)) ++ t264)] (by rfl) rfl rfl (by (try simp only [List.map_toArray, List.map_cons, List.map_nil]); first | done | rfl | (simp only [List.length_drop, List.length_take]; rfl)) ?_
                                          with_reducible refine (text_Words.calls kj3 ((t262 ++ (⟨#[32, 32]⟩ : ByteArray)) ++ t264) t265 false _ A29.out (S.Tabs.below HT.out (by repeat (first | (with_reducible first | exact HB.out | apply below_alloc | apply pw_below_drewN | apply below_drew1) | exact HB.out)))).mono ?_
                                          rintro e w48 ⟨v267, rfl, ho0, hb⟩
                                          refine ⟨_, rfl, ?_⟩
                                          have n0_ := Aside0.mk (Kd.R_elder' (by (with_reducible repeat (first | apply Kd.R_alloc | apply Kd.R_drewN | apply Kd.R_drew)); exact HO256.out) (Kd.R_base ho0) hb)
                                          have n1_ := Aside0.mk (Kd.R_elder' (by (with_reducible repeat (first | apply Kd.R_alloc | apply Kd.R_drewN | apply Kd.R_drew)); exact HO260.out) (Kd.R_base ho0) hb)
                                          have n2_ := Aside0.mk (Kd.R_lower (Kd.R_new' (Kd.R_new' ho0 (Kd.R_lt (by (with_reducible repeat (first | apply Kd.R_alloc | apply Kd.R_drewN | apply Kd.R_drew)); exact HO256.out))) (Kd.R_lt (by (with_reducible repeat (first | apply Kd.R_alloc | apply Kd.R_drewN | apply Kd.R_drew)); exact HO260.out))) (below_size (by repeat (first | (with_reducible first | exact HB.out | apply below_alloc | apply pw_below_drewN | apply below_drew1) | exact HB.out))))
                                          have n3_ := Aside0.mk (below_step (by repeat (first | (with_reducible first | exact HB.out | apply below_alloc | apply pw_below_drewN | apply below_drew1) | exact HB.out)) hb)
                                          clear HO256
                                          clear HO260
                                          clear HB
                                          have HO256 := n0_
                                          have HO260 := n1_
                                          have HO268 := n2_
                                          have HB := n3_
                                          clear n0_ n1_ n2_ n3_
                                          (try clear hb)
                                          (try clear hb2)
                                          (try clear hk)
                                          (try clear hi)
                                          (try clear ho0)
                                          refine hK.out _ _ trivial (fun hHeld => ?_)
                                          clear hK K
                                          refine norm_ (a' := ?_) ?_ ?_
                                          rotate_left
                                          · show Act.put _ (some 59) _ = _
                                            simp only [Act.put, List.setIfInBounds_toArray, List.set_cons_zero, List.set_cons_succ, i64_w, i32_w]
                                            rfl
                                          refine pure_ (i := 11) (N := some 48) (v := ?_) (a' := ?_) #[true, true, true, true, true, true, true, true, true, true, true, true, false, false, false] rfl rfl (any_of HT_.out (by kernel_rfl)) (fun _ _ _ h => h) (Or.inl ⟨by rfl, ?_⟩) ?_ ?_
                                          rotate_left
                                          · intro w'
                                            go_simp
                                            with_reducible rfl
                                          rotate_left
                                          · simp only [Act.put, List.setIfInBounds_toArray, List.set_cons_zero, List.set_cons_succ, i64_w, i32_w]
                                            rfl
                                          refine pure_ (i := 12) (N := some 60) (v := ?_) (a' := ?_) #[true, true, true, true, true, true, true, true, true, true, true, true, true, false, false] rfl rfl (any_of HT_.out (by kernel_rfl)) (fun _ _ _ h => h) (Or.inl ⟨by rfl, ?_⟩) ?_ ?_
                                          rotate_left
                                          · intro w'
                                            go_simp
                                            with_reducible rfl
                                          rotate_left
                                          · simp only [Act.put, List.setIfInBounds_toArray, List.set_cons_zero, List.set_cons_succ, i64_w, i32_w]
                                            rfl
                                          refine pure_ (i := 13) (N := some 61) (v := ?_) (a' := ?_) #[true, true, true, true, true, true, true, true, true, true, true, true, true, true, false] rfl rfl (any_of HT_.out (by kernel_rfl)) (fun _ _ _ h => h) (Or.inl ⟨by rfl, ?_⟩) ?_ ?_
                                          rotate_left
                                          · intro w'
                                            go_simp
                                            with_reducible rfl
                                          rotate_left
                                          · simp only [Act.put, List.setIfInBounds_toArray, List.set_cons_zero, List.set_cons_succ, i64_w, i32_w]
                                            rfl
                                          refine pure_ (i := 14) (N := some 12) (v := ?_) (a' := ?_) #[true, true, true, true, true, true, true, true, true, true, true, true, true, true, true] rfl rfl (any_of HT_.out (by kernel_rfl)) (fun _ _ _ h => h) (Or.inl ⟨by rfl, ?_⟩) ?_ ?_
                                          rotate_left
                                          · intro w'
                                            go_simp
                                            with_reducible rfl
                                          rotate_left
                                          · simp only [Act.put, List.setIfInBounds_toArray, List.set_cons_zero, List.set_cons_succ, i64_w, i32_w]
                                            rfl
                                          refine done_ (done_of HT_.out (by kernel_rfl)) ?_
                                          try go_wp2_with (first | ((with_reducible refine gate_callee (f := 13) rfl ?_); refine goesL_ (some 67) rfl rfl Tryd.func13 (by kernel_rfl) rfl #[.string ((t252 ++ (⟨#[32]⟩ : ByteArray)) ++ t252)] rfl (by (try simp only [List.map_toArray, List.map_cons, List.map_nil]); first | done | rfl | (simp only [List.length_drop, List.length_take]; rfl)) ?_; (with_reducible refine (text_Words.calls kj3 ((t252 ++ (⟨#[32]⟩ : ByteArray)) ++ t252) t269 true _ A31.out (S.Tabs.below HT.out (by repeat (first | (with_reducible first | exact HB.out | apply below_alloc | apply pw_below_drewN | apply below_drew1) | exact HB.out)))).mono ?_); rintro e w49 ⟨v271, rfl, ho0, hb⟩; refine ⟨_, rfl, ?_⟩; have n0_ := Aside0.mk (Kd.R_elder' (by (with_reducible repeat (first | apply Kd.R_alloc | apply Kd.R_drewN | apply Kd.R_drew)); exact HO256.out) (Kd.R_base ho0) hb); have n1_ := Aside0.mk (Kd.R_elder' (by (with_reducible repeat (first | apply Kd.R_alloc | apply Kd.R_drewN | apply Kd.R_drew)); exact HO260.out) (Kd.R_base ho0) hb); have n2_ := Aside0.mk (Kd.R_elder' (by (with_reducible repeat (first | apply Kd.R_alloc | apply Kd.R_drewN | apply Kd.R_drew)); exact HO268.out) (Kd.R_base ho0) hb); have n3_ := Aside0.mk (Kd.R_lower (Kd.R_new' (Kd.R_new' (Kd.R_new' ho0 (Kd.R_lt (by (with_reducible repeat (first | apply Kd.R_alloc | apply Kd.R_drewN | apply Kd.R_drew)); exact HO256.out))) (Kd.R_lt (by (with_reducible repeat (first | apply Kd.R_alloc | apply Kd.R_drewN | apply Kd.R_drew)); exact HO260.out))) (Kd.R_lt (by (with_reducible repeat (first | apply Kd.R_alloc | apply Kd.R_drewN | apply Kd.R_drew)); exact HO268.out))) (below_size (by repeat (first | (with_reducible first | exact HB.out | apply below_alloc | apply pw_below_drewN | apply below_drew1) | exact HB.out)))); have n4_ := Aside0.mk (below_step (by repeat (first | (with_reducible first | exact HB.out | apply below_alloc | apply pw_below_drewN | apply below_drew1) | exact HB.out)) hb); clear HO256; clear HO260; clear HO268; clear HB; have HO256 := n0_; have HO260 := n1_; have HO268 := n2_; have HO272 := n3_; have HB := n4_; clear n0_ n1_ n2_ n3_ n4_; (try clear hb); (try clear hb2); (try clear hk); (try clear hi); (try clear ho0)) | ((with_reducible refine gate_dst (N := 88) rfl ?_); (try (refine gate_guard (by rfl) ?_; dsimp only)); refine Kd.R_lit Kd.string _ 9 ?hg (N := 88) ?hd (xs := ([] : List ByteArray)) (inner := []) (ok := fun _ => True) (okp := fun _ => True) ?hr ?hp (fun _ hk => hk) trivial (Below.refl _ _) (Nat.le_refl _) (by simp) ?_; (case hd => rfl); (case hg => rfl); (case hr => first | (go_simp; done) | (go_simp; rfl)); (case hp => exact (Reps.none _ _)); intro v274 w50 ho51 hb hg_ hnew_; clear hg_ hnew_; (first | rw [← Ny273.out] at ho51 | (simp only [Int.reduceToNat] at ho51; rw [← Ny273.out] at ho51)); have n0_ := Aside0.mk (Kd.R_elder' (by (with_reducible repeat (first | apply Kd.R_alloc | apply Kd.R_drewN | apply Kd.R_drew)); exact HO256.out) (Kd.R_base ho51) hb); have n1_ := Aside0.mk (Kd.R_elder' (by (with_reducible repeat (first | apply Kd.R_alloc | apply Kd.R_drewN | apply Kd.R_drew)); exact HO260.out) (Kd.R_base ho51) hb); have n2_ := Aside0.mk (Kd.R_elder' (by (with_reducible repeat (first | apply Kd.R_alloc | apply Kd.R_drewN | apply Kd.R_drew)); exact HO268.out) (Kd.R_base ho51) hb); have n3_ := Aside0.mk (Kd.R_elder' (by (with_reducible repeat (first | apply Kd.R_alloc | apply Kd.R_drewN | apply Kd.R_drew)); exact HO272.out) (Kd.R_base ho51) hb); have n4_ := Aside0.mk (Kd.R_lower (Kd.R_new' (Kd.R_new' (Kd.R_new' (Kd.R_new' ho51 (Kd.R_lt (by (with_reducible repeat (first | apply Kd.R_alloc | apply Kd.R_drewN | apply Kd.R_drew)); exact HO256.out))) (Kd.R_lt (by (with_reducible repeat (first | apply Kd.R_alloc | apply Kd.R_drewN | apply Kd.R_drew)); exact HO260.out))) (Kd.R_lt (by (with_reducible repeat (first | apply Kd.R_alloc | apply Kd.R_drewN | apply Kd.R_drew)); exact HO268.out))) (Kd.R_lt (by (with_reducible repeat (first | apply Kd.R_alloc | apply Kd.R_drewN | apply Kd.R_drew)); exact HO272.out))) (below_size (by repeat (first | (with_reducible first | exact HB.out | apply below_alloc | apply pw_below_drewN | apply below_drew1) | exact HB.out)))); have n5_ := Aside0.mk (below_step (by repeat (first | (with_reducible first | exact HB.out | apply below_alloc | apply pw_below_drewN | apply below_drew1) | exact HB.out)) hb); clear HO256; clear HO260; clear HO268; clear HO272; clear HB; have HO256 := n0_; have HO260 := n1_; have HO268 := n2_; have HO272 := n3_; have HO275 := n4_; have HB := n5_; clear n0_ n1_ n2_ n3_ n4_ n5_; clear hb ho51) | ((with_reducible refine gate_builtin (b := .append) (xs := #[.tmp 88, .tmp 89]) rfl ?_); (try (refine gate_guard (by rfl) ?_; dsimp only)); at_builtin; refine Kd.R_append_rows Kd.string (w0 := w) w.heap.size rfl (.tmp 88) (.tmp 89) 22 9 (.string ⟨#[]⟩) 16 rfl Tryd.underlying22 info9 rfl (by decide) (by omega) v274 y273 l0 _ _ _ (fun k_ => some k_ ≠ (v255 : Value).ownBlock ∧ some k_ ≠ (v259 : Value).ownBlock ∧ some k_ ≠ (v267 : Value).ownBlock ∧ some k_ ≠ (v271 : Value).ownBlock) (fun _ => False) rfl rfl ?aO ?aR (fun _ _ h => h) (fun _ h => h.elim) ?aF ?aB ?aS ?aL ?_; (case aR => repeat (first | exact (Kd.C_below HR0.out HB.out) | (with_reducible refine Kd.C_alloc ?_ _) | (with_reducible refine Kd.C_drewN ?_ _) | (with_reducible refine Kd.C_drew ?_))); (case aB => exact (by repeat (first | (with_reducible first | exact HB.out | apply below_alloc | apply pw_below_drewN | apply below_drew1) | exact HB.out))); (case aF => exact (fun k_ hk => ⟨Kd.fresh' (Kd.R_lt (by (with_reducible repeat (first | apply Kd.R_alloc | apply Kd.R_drewN | apply Kd.R_drew)); exact HO256.out)) k_ hk, Kd.fresh' (Kd.R_lt (by (with_reducible repeat (first | apply Kd.R_alloc | apply Kd.R_drewN | apply Kd.R_drew)); exact HO260.out)) k_ hk, Kd.fresh' (Kd.R_lt (by (with_reducible repeat (first | apply Kd.R_alloc | apply Kd.R_drewN | apply Kd.R_drew)); exact HO268.out)) k_ hk, Kd.fresh' (Kd.R_lt (by (with_reducible repeat (first | apply Kd.R_alloc | apply Kd.R_drewN | apply Kd.R_drew)); exact HO272.out)) k_ hk⟩)); (case aO => exact (by (with_reducible repeat (first | apply Kd.R_alloc | apply Kd.R_drewN | apply Kd.R_drew)); exact Kd.R_mono HO275.out (fun _ hk => ⟨hk.1.1.1.2, ⟨hk.1.1.2, ⟨hk.1.2, hk.2⟩⟩⟩))); (case aS => exact (below_size (by repeat (first | (with_reducible first | exact HB.out | apply below_alloc | apply pw_below_drewN | apply below_drew1) | exact HB.out)))); (case aL => have := LMc37.out; omega); intro v277 w52 ho hb hg hat; rw [← Ny276.out] at ho; have n0_ := Aside0.mk (Kd.R_after (ok := (fun k_ => some k_ ≠ (v259 : Value).ownBlock ∧ some k_ ≠ (v267 : Value).ownBlock ∧ some k_ ≠ (v271 : Value).ownBlock)) (by (with_reducible repeat (first | apply Kd.R_alloc | apply Kd.R_drewN | apply Kd.R_drew)); exact Kd.R_mono HO256.out (fun _ hk => ⟨⟨hk.1.1.1.2, ⟨hk.1.1.2, hk.1.2⟩⟩, hk.2⟩)) hg hat); have n1_ := Aside0.mk (Kd.R_after (ok := (fun k_ => some k_ ≠ (v255 : Value).ownBlock ∧ some k_ ≠ (v267 : Value).ownBlock ∧ some k_ ≠ (v271 : Value).ownBlock)) (by (with_reducible repeat (first | apply Kd.R_alloc | apply Kd.R_drewN | apply Kd.R_drew)); exact Kd.R_mono HO260.out (fun _ hk => ⟨⟨hk.1.1.1.2, ⟨hk.1.1.2, hk.1.2⟩⟩, hk.2⟩)) hg hat); have n2_ := Aside0.mk (Kd.R_after (ok := (fun k_ => some k_ ≠ (v255 : Value).ownBlock ∧ some k_ ≠ (v259 : Value).ownBlock ∧ some k_ ≠ (v271 : Value).ownBlock)) (by (with_reducible repeat (first | apply Kd.R_alloc | apply Kd.R_drewN | apply Kd.R_drew)); exact Kd.R_mono HO268.out (fun _ hk => ⟨⟨hk.1.1.1.2, ⟨hk.1.1.2, hk.1.2⟩⟩, hk.2⟩)) hg hat); have n3_ := Aside0.mk (Kd.R_after (ok := (fun k_ => some k_ ≠ (v255 : Value).ownBlock ∧ some k_ ≠ (v259 : Value).ownBlock ∧ some k_ ≠ (v267 : Value).ownBlock)) (by (with_reducible repeat (first | apply Kd.R_alloc | apply Kd.R_drewN | apply Kd.R_drew)); exact Kd.R_mono HO272.out (fun _ hk => ⟨⟨hk.1.1.1.2, ⟨hk.1.1.2, hk.1.2⟩⟩, hk.2⟩)) hg hat); have n4_ := Aside0.mk (hb); have n5_ := Aside0.mk (ho); clear HO256; clear HO260; clear HO268; clear HO272; clear HB; clear HO275; have HO256 := n0_; have HO260 := n1_; have HO268 := n2_; have HO272 := n3_; have HB := n4_; have HO278 := n5_; clear n0_ n1_ n2_ n3_ n4_ n5_; clear ho hb hg hat) | ((with_reducible refine gate_builtin (b := .append) (xs := #[.tmp 90, .tmp 91]) rfl ?_); (try (refine gate_guard (by rfl) ?_; dsimp only)); at_builtin; refine Kd.R_append_rows Kd.string (w0 := w) w.heap.size rfl (.tmp 90) (.tmp 91) 22 9 (.string ⟨#[]⟩) 16 rfl Tryd.underlying22 info9 rfl (by decide) (by omega) v277 y276 l0 _ _ _ (fun k_ => some k_ ≠ (v255 : Value).ownBlock ∧ some k_ ≠ (v259 : Value).ownBlock ∧ some k_ ≠ (v267 : Value).ownBlock ∧ some k_ ≠ (v271 : Value).ownBlock) (fun _ => False) rfl rfl ?aO ?aR (fun _ _ h => h) (fun _ h => h.elim) ?aF ?aB ?aS ?aL ?_; (case aR => repeat (first | exact (Kd.C_below HR0.out HB.out) | (with_reducible refine Kd.C_alloc ?_ _) | (with_reducible refine Kd.C_drewN ?_ _) | (with_reducible refine Kd.C_drew ?_))); (case aB => exact (by repeat (first | (with_reducible first | exact HB.out | apply below_alloc | apply pw_below_drewN | apply below_drew1) | exact HB.out))); (case aF => exact (fun k_ hk => ⟨Kd.fresh' (Kd.R_lt (by (with_reducible repeat (first | apply Kd.R_alloc | apply Kd.R_drewN | apply Kd.R_drew)); exact HO256.out)) k_ hk, Kd.fresh' (Kd.R_lt (by (with_reducible repeat (first | apply Kd.R_alloc | apply Kd.R_drewN | apply Kd.R_drew)); exact HO260.out)) k_ hk, Kd.fresh' (Kd.R_lt (by (with_reducible repeat (first | apply Kd.R_alloc | apply Kd.R_drewN | apply Kd.R_drew)); exact HO268.out)) k_ hk, Kd.fresh' (Kd.R_lt (by (with_reducible repeat (first | apply Kd.R_alloc | apply Kd.R_drewN | apply Kd.R_drew)); exact HO272.out)) k_ hk⟩)); (case aO => exact (by (with_reducible repeat (first | apply Kd.R_alloc | apply Kd.R_drewN | apply Kd.R_drew)); exact HO278.out)); (case aS => exact (below_size (by repeat (first | (with_reducible first | exact HB.out | apply below_alloc | apply pw_below_drewN | apply below_drew1) | exact HB.out)))); (case aL => have := LMc38.out; omega); intro v280 w53 ho hb hg hat; rw [← Ny279.out] at ho; have n0_ := Aside0.mk (Kd.R_after (ok := (fun k_ => some k_ ≠ (v259 : Value).ownBlock ∧ some k_ ≠ (v267 : Value).ownBlock ∧ some k_ ≠ (v271 : Value).ownBlock)) (by (with_reducible repeat (first | apply Kd.R_alloc | apply Kd.R_drewN | apply Kd.R_drew)); exact HO256.out) hg hat); have n1_ := Aside0.mk (Kd.R_after (ok := (fun k_ => some k_ ≠ (v255 : Value).ownBlock ∧ some k_ ≠ (v267 : Value).ownBlock ∧ some k_ ≠ (v271 : Value).ownBlock)) (by (with_reducible repeat (first | apply Kd.R_alloc | apply Kd.R_drewN | apply Kd.R_drew)); exact HO260.out) hg hat); have n2_ := Aside0.mk (Kd.R_after (ok := (fun k_ => some k_ ≠ (v255 : Value).ownBlock ∧ some k_ ≠ (v259 : Value).ownBlock ∧ some k_ ≠ (v271 : Value).ownBlock)) (by (with_reducible repeat (first | apply Kd.R_alloc | apply Kd.R_drewN | apply Kd.R_drew)); exact HO268.out) hg hat); have n3_ := Aside0.mk (Kd.R_after (ok := (fun k_ => some k_ ≠ (v255 : Value).ownBlock ∧ some k_ ≠ (v259 : Value).ownBlock ∧ some k_ ≠ (v267 : Value).ownBlock)) (by (with_reducible repeat (first | apply Kd.R_alloc | apply Kd.R_drewN | apply Kd.R_drew)); exact HO272.out) hg hat); have n4_ := Aside0.mk (hb); have n5_ := Aside0.mk (ho); clear HO256; clear HO260; clear HO268; clear HO272; clear HB; clear HO278; have HO256 := n0_; have HO260 := n1_; have HO268 := n2_; have HO272 := n3_; have HB := n4_; have HO281 := n5_; clear n0_ n1_ n2_ n3_ n4_ n5_; clear ho hb hg hat; obtain ⟨Ao54, co54, eo54⟩ := Kd.R_slice HO272.out; subst eo54; obtain ⟨Ao55, co55, eo55⟩ := Kd.R_slice HO281.out; subst eo55) | (go_at_call 19; (with_reducible refine (symbolonref03_Same.calls kj3 _ _ t269 _ _ y279 t282 _ ?side1 ?side2 ?side3 ?side4 A39.out).mono ?_); (case side1 => repeat (first | exact (Kd.R_reads' HO272.out).2.2 | (with_reducible refine Kd.C_alloc ?_ _) | (with_reducible refine Kd.C_drewN ?_ _) | (with_reducible refine Kd.C_drew ?_))); (case side2 => exact (Kd.R_reads' HO272.out).2.1); (case side3 => repeat (first | exact (Kd.R_reads' HO281.out).2.2 | (with_reducible refine Kd.C_alloc ?_ _) | (with_reducible refine Kd.C_drewN ?_ _) | (with_reducible refine Kd.C_drew ?_))); (case side4 => exact (Kd.R_reads' HO281.out).2.1); rintro e w' ⟨rfl, ⟨nd, rfl⟩⟩))
                                          go_ret
                                          exact ⟨by first | rfl | (simp [errW_none, errW_some] <;> rfl) | (simp only [← hji20]; first | rfl | (simp [errW_none, errW_some] <;> rfl)) | (simp [*, errW_none, errW_some] <;> rfl), by repeat (first | (with_reducible first | exact HB.out | apply below_alloc | apply pw_below_drewN | apply below_drew1) | exact HB.out)⟩
                                        · rw [if_neg c38] at H
                                          exact absurd H (by simp)
                                      · rw [if_neg c37] at H
                                        exact absurd H (by simp)
                                    · replace c36 := Bool.eq_false_iff.mpr c36
                                      subst c36
                                      have H1 : (none) = some r := by rw [if_neg (show ¬ (false = true) by decide)] at H; exact H
                                      clear H
                                      have H := H1
                                      clear H1
                                      exact absurd H (by simp)
                            · replace c32 := Bool.eq_false_iff.mpr c32
                              subst c32
                              have H1 : (none) = some r := by rw [if_neg (show ¬ (false = true) by decide)] at H; exact H
                              clear H
                              have H := H1
                              clear H1
                              exact absurd H (by simp)
                          · rw [if_neg c30] at H
                            exact absurd H (by simp)
                        · rw [if_neg c28] at H
                          exact absurd H (by simp)
                      · rw [if_neg c24] at H
                        exact absurd H (by simp)
                    · rw [if_neg c22] at H
                      exact absurd H (by simp)
                  · rw [if_neg c21] at H
                    exact absurd H (by simp)
                · rw [if_neg c19] at H
                  have c19b0 : decide (0 < (Int.tmod (wrap64 (a1)) (l0.length : Int))) = false := decide_eq_false c19
                  clear c19
                  by_cases c56 : (t252 ++ (⟨#[32]⟩ : ByteArray)).size + t252.size ≤ 9223372036854775807
                  · rw [if_pos c56] at H
                    have c56b0 := eq_true c56
                    have c56b1 : decide ((t252 ++ (⟨#[32]⟩ : ByteArray)).size + t252.size ≤ 9223372036854775807) = true := decide_eq_true c56
                    try have c56b2 : (9223372036854775807 < (t252 ++ (⟨#[32]⟩ : ByteArray)).size + t252.size) = False := eq_false (Nat.not_lt.2 c56)
                    try have c56b3 : (9223372036854775807 < t252.size + 1 + t252.size) = False := eq_false (by have h_ := c56; rw [ByteArray.size_append] at h_; exact Nat.not_lt.2 h_)
                    replace H := Option.bind_eq_some_iff.mp H
                    obtain ⟨⟨t283, t284⟩, A570, H⟩ := H
                    replace H : (if t250 = true then (if t254 = true then (none) else (if t258 = true then (none) else (if t284 = true then ((some (([] : List ByteArray) : List ByteArray)).bind fun y287 => (if y287.length + l0.length < 8796093022208 then ((some (y287 ++ l0 : List ByteArray)).bind fun y290 => (if y290.length + l0.length < 8796093022208 then ((symbolonref03_Same.f kj3 t283 (y290 ++ l0)).bind fun t296 => (some t296)) else (none))) else (none))) else (none)))) else (none)) = some r := H
                    have A57 := Aside0.mk A570
                    clear A570
                    by_cases c58 : t250 = true
                    · subst c58
                      have H1 : (if t254 = true then (none) else (if t258 = true then (none) else (if t284 = true then ((some (([] : List ByteArray) : List ByteArray)).bind fun y287 => (if y287.length + l0.length < 8796093022208 then ((some (y287 ++ l0 : List ByteArray)).bind fun y290 => (if y290.length + l0.length < 8796093022208 then ((symbolonref03_Same.f kj3 t283 (y290 ++ l0)).bind fun t296 => (some t296)) else (none))) else (none))) else (none)))) = some r := by rw [if_pos rfl] at H; exact H
                      clear H
                      have H := H1
                      clear H1
                      by_cases c59 : t254 = true
                      · subst c59
                        have H1 : (none) = some r := by rw [if_pos rfl] at H; exact H
                        clear H
                        have H := H1
                        clear H1
                        exact absurd H (by simp)
                      · replace c59 := Bool.eq_false_iff.mpr c59
                        subst c59
                        have H1 : (if t258 = true then (none) else (if t284 = true then ((some (([] : List ByteArray) : List ByteArray)).bind fun y287 => (if y287.length + l0.length < 8796093022208 then ((some (y287 ++ l0 : List ByteArray)).bind fun y290 => (if y290.length + l0.length < 8796093022208 then ((symbolonref03_Same.f kj3 t283 (y290 ++ l0)).bind fun t296 => (some t296)) else (none))) else (none))) else (none))) = some r := by rw [if_neg (show ¬ (false = true) by decide)] at H; exact H
                        clear H
                        have H := H1
                        clear H1
                        by_cases c60 : t258 = true
                        · subst c60
                          have H1 : (none) = some r := by rw [if_pos rfl] at H; exact H
                          clear H
                          have H := H1
                          clear H1
                          exact absurd H (by simp)
                        · replace c60 := Bool.eq_false_iff.mpr c60
                          subst c60
                          have H1 : (if t284 = true then ((some (([] : List ByteArray) : List ByteArray)).bind fun y287 => (if y287.length + l0.length < 8796093022208 then ((some (y287 ++ l0 : List ByteArray)).bind fun y290 => (if y290.length + l0.length < 8796093022208 then ((symbolonref03_Same.f kj3 t283 (y290 ++ l0)).bind fun t296 => (some t296)) else (none))) else (none))) else (none)) = some r := by rw [if_neg (show ¬ (false = true) by decide)] at H; exact H
                          clear H
                          have H := H1
                          clear H1
                          by_cases c61 : t284 = true
                          · subst c61
                            have H1 : ((some (([] : List ByteArray) : List ByteArray)).bind fun y287 => (if y287.length + l0.length < 8796093022208 then ((some (y287 ++ l0 : List ByteArray)).bind fun y290 => (if y290.length + l0.length < 8796093022208 then ((symbolonref03_Same.f kj3 t283 (y290 ++ l0)).bind fun t296 => (some t296)) else (none))) else (none))) = some r := by rw [if_pos rfl] at H; exact H
                            clear H
                            have H := H1
                            clear H1
                            obtain ⟨y287, hy287⟩ : ∃ y_ : List ByteArray, y_ = (([] : List ByteArray)) := ⟨_, rfl⟩
                            replace H : (if y287.length + l0.length < 8796093022208 then ((some (y287 ++ l0 : List ByteArray)).bind fun y290 => (if y290.length + l0.length < 8796093022208 then ((symbolonref03_Same.f kj3 t283 (y290 ++ l0)).bind fun t296 => (some t296)) else (none))) else (none)) = some r := by first | (rw [hy287]; with_reducible exact H) | (have H2_ := (Option.bind_some _ _).symm.trans H; rw [hy287]; with_reducible exact H2_) | (have H2_ := (Option.bind_some _ _).symm.trans H; with_reducible exact H2_) | with_reducible exact H | (rw [hy287]; exact H) | exact H
                            have Ny287 := Aside0.mk hy287
                            clear hy287
                            by_cases c62 : y287.length + l0.length < 8796093022208
                            · rw [if_pos c62] at H
                              have LMc62 := Aside0.mk c62
                              clear c62
                              obtain ⟨y290, hy290⟩ : ∃ y_ : List ByteArray, y_ = (y287 ++ l0) := ⟨_, rfl⟩
                              replace H : (if y290.length + l0.length < 8796093022208 then ((symbolonref03_Same.f kj3 t283 (y290 ++ l0)).bind fun t296 => (some t296)) else (none)) = some r := by first | (rw [hy290]; with_reducible exact H) | (have H2_ := (Option.bind_some _ _).symm.trans H; rw [hy290]; with_reducible exact H2_) | (have H2_ := (Option.bind_some _ _).symm.trans H; with_reducible exact H2_) | with_reducible exact H | (rw [hy290]; exact H) | exact H
                              have Ny290 := Aside0.mk hy290
                              clear hy290
                              by_cases c63 : y290.length + l0.length < 8796093022208
                              · rw [if_pos c63] at H
                                have LMc63 := Aside0.mk c63
                                clear c63
                                obtain ⟨y293, hy293⟩ : ∃ y_ : List ByteArray, y_ = (y290 ++ l0) := ⟨_, rfl⟩
                                replace H : ((symbolonref03_Same.f kj3 t283 y293).bind fun t296 => (some t296)) = some r := by first | (rw [hy293]; with_reducible exact H) | (have H2_ := (Option.bind_some _ _).symm.trans H; rw [hy293]; with_reducible exact H2_) | (have H2_ := (Option.bind_some _ _).symm.trans H; with_reducible exact H2_) | with_reducible exact H | (rw [hy293]; exact H) | exact H
                                have Ny293 := Aside0.mk hy293
                                clear hy293
                                replace H := Option.bind_eq_some_iff.mp H
                                obtain ⟨t296, A640, H⟩ := H
                                replace H : (some t296) = some r := H
                                have A64 := Aside0.mk A640
                                clear A640
                                obtain rfl := Option.some.inj H
                                go_wp2_with (first | ((with_reducible refine gate_callee (f := 20) rfl ?_); refine goesL_ (some 25) rfl rfl Tryd.func20 (by kernel_rfl) rfl #[.slice A0 l0.length c0] rfl (by (try simp only [List.map_toArray, List.map_cons, List.map_nil]); first | done | rfl | (simp only [List.length_drop, List.length_take]; rfl)) ?_; (with_reducible refine (text_Join.calls kj3 _ _ l0 t252 _ ?side1 ?side2 A11.out).mono ?_); (case side1 => repeat (first | exact (Kd.C_below HR0.out HB.out) | (with_reducible refine Kd.C_alloc ?_ _) | (with_reducible refine Kd.C_drewN ?_ _) | (with_reducible refine Kd.C_drew ?_))); (case side2 => exact HC0.out); rintro e w65 ⟨rfl, hb⟩; refine ⟨_, rfl, ?_⟩; have n0_ := Aside0.mk (below_step (by repeat (first | (with_reducible first | exact HB.out | apply below_alloc | apply pw_below_drewN | apply below_drew1) | exact HB.out)) hb); clear HB; have HB := n0_; clear n0_; (try clear hb); (try clear hb2); (try clear hk); (try clear hi)) | ((with_reducible refine gate_callee (f := 13) rfl ?_); refine goesL_ (some 32) rfl rfl Tryd.func13 (by kernel_rfl) rfl #[.string ((⟨#[32]⟩ : ByteArray) ++ t252)] rfl (by (try simp only [List.map_toArray, List.map_cons, List.map_nil]); first | done | rfl | (simp only [List.length_drop, List.length_take]; rfl)) ?_; (with_reducible refine (text_Words.calls kj3 ((⟨#[32]⟩ : ByteArray) ++ t252) t253 false _ A15.out (S.Tabs.below HT.out (by repeat (first | (with_reducible first | exact HB.out | apply below_alloc | apply pw_below_drewN | apply below_drew1) | exact HB.out)))).mono ?_); rintro e w66 ⟨v255, rfl, ho0, hb⟩; refine ⟨_, rfl, ?_⟩; have n0_ := Aside0.mk (Kd.R_lower ho0 (below_size (by repeat (first | (with_reducible first | exact HB.out | apply below_alloc | apply pw_below_drewN | apply below_drew1) | exact HB.out)))); have n1_ := Aside0.mk (below_step (by repeat (first | (with_reducible first | exact HB.out | apply below_alloc | apply pw_below_drewN | apply below_drew1) | exact HB.out)) hb); clear HB; have HO256 := n0_; have HB := n1_; clear n0_ n1_; (try clear hb); (try clear hb2); (try clear hk); (try clear hi); (try clear ho0)) | ((with_reducible refine gate_callee (f := 13) rfl ?_); refine goesL_ (some 38) rfl rfl Tryd.func13 (by kernel_rfl) rfl #[.string (t252 ++ (⟨#[32]⟩ : ByteArray))] rfl (by (try simp only [List.map_toArray, List.map_cons, List.map_nil]); first | done | rfl | (simp only [List.length_drop, List.length_take]; rfl)) ?_; (with_reducible refine (text_Words.calls kj3 (t252 ++ (⟨#[32]⟩ : ByteArray)) t257 false _ A17.out (S.Tabs.below HT.out (by repeat (first | (with_reducible first | exact HB.out | apply below_alloc | apply pw_below_drewN | apply below_drew1) | exact HB.out)))).mono ?_); rintro e w67 ⟨v259, rfl, ho0, hb⟩; refine ⟨_, rfl, ?_⟩; have n0_ := Aside0.mk (Kd.R_elder' (by (with_reducible repeat (first | apply Kd.R_alloc | apply Kd.R_drewN | apply Kd.R_drew)); exact HO256.out) (Kd.R_base ho0) hb); have n1_ := Aside0.mk (Kd.R_lower (Kd.R_new' ho0 (Kd.R_lt (by (with_reducible repeat (first | apply Kd.R_alloc | apply Kd.R_drewN | apply Kd.R_drew)); exact HO256.out))) (below_size (by repeat (first | (with_reducible first | exact HB.out | apply below_alloc | apply pw_below_drewN | apply below_drew1) | exact HB.out)))); have n2_ := Aside0.mk (below_step (by repeat (first | (with_reducible first | exact HB.out | apply below_alloc | apply pw_below_drewN | apply below_drew1) | exact HB.out)) hb); clear HO256; clear HB; have HO256 := n0_; have HO260 := n1_; have HB := n2_; clear n0_ n1_ n2_; (try clear hb); (try clear hb2); (try clear hk); (try clear hi); (try clear ho0)) | ((with_reducible refine gate_callee (f := 13) rfl ?_); refine goesL_ (some 67) rfl rfl Tryd.func13 (by kernel_rfl) rfl #[.string ((t252 ++ (⟨#[32]⟩ : ByteArray)) ++ t252)] rfl (by (try simp only [List.map_toArray, List.map_cons, List.map_nil]); first | done | rfl | (simp only [List.length_drop, List.length_take]; rfl)) ?_; (with_reducible refine (text_Words.calls kj3 ((t252 ++ (⟨#[32]⟩ : ByteArray)) ++ t252) t283 true _ A57.out (S.Tabs.below HT.out (by repeat (first | (with_reducible first | exact HB.out | apply below_alloc | apply pw_below_drewN | apply below_drew1) | exact HB.out)))).mono ?_); rintro e w68 ⟨v285, rfl, ho0, hb⟩; refine ⟨_, rfl, ?_⟩; have n0_ := Aside0.mk (Kd.R_elder' (by (with_reducible repeat (first | apply Kd.R_alloc | apply Kd.R_drewN | apply Kd.R_drew)); exact HO256.out) (Kd.R_base ho0) hb); have n1_ := Aside0.mk (Kd.R_elder' (by (with_reducible repeat (first | apply Kd.R_alloc | apply Kd.R_drewN | apply Kd.R_drew)); exact HO260.out) (Kd.R_base ho0) hb); have n2_ := Aside0.mk (Kd.R_lower (Kd.R_new' (Kd.R_new' ho0 (Kd.R_lt (by (with_reducible repeat (first | apply Kd.R_alloc | apply Kd.R_drewN | apply Kd.R_drew)); exact HO256.out))) (Kd.R_lt (by (with_reducible repeat (first | apply Kd.R_alloc | apply Kd.R_drewN | apply Kd.R_drew)); exact HO260.out))) (below_size (by repeat (first | (with_reducible first | exact HB.out | apply below_alloc | apply pw_below_drewN | apply below_drew1) | exact HB.out)))); have n3_ := Aside0.mk (below_step (by repeat (first | (with_reducible first | exact HB.out | apply below_alloc | apply pw_below_drewN | apply below_drew1) | exact HB.out)) hb); clear HO256; clear HO260; clear HB; have HO256 := n0_; have HO260 := n1_; have HO286 := n2_; have HB := n3_; clear n0_ n1_ n2_ n3_; (try clear hb); (try clear hb2); (try clear hk); (try clear hi); (try clear ho0)) | ((with_reducible refine gate_dst (N := 88) rfl ?_); (try (refine gate_guard (by rfl) ?_; dsimp only)); refine Kd.R_lit Kd.string _ 9 ?hg (N := 88) ?hd (xs := ([] : List ByteArray)) (inner := []) (ok := fun _ => True) (okp := fun _ => True) ?hr ?hp (fun _ hk => hk) trivial (Below.refl _ _) (Nat.le_refl _) (by simp) ?_; (case hd => rfl); (case hg => rfl); (case hr => first | (go_simp; done) | (go_simp; rfl)); (case hp => exact (Reps.none _ _)); intro v288 w69 ho70 hb hg_ hnew_; clear hg_ hnew_; (first | rw [← Ny287.out] at ho70 | (simp only [Int.reduceToNat] at ho70; rw [← Ny287.out] at ho70)); have n0_ := Aside0.mk (Kd.R_elder' (by (with_reducible repeat (first | apply Kd.R_alloc | apply Kd.R_drewN | apply Kd.R_drew)); exact HO256.out) (Kd.R_base ho70) hb); have n1_ := Aside0.mk (Kd.R_elder' (by (with_reducible repeat (first | apply Kd.R_alloc | apply Kd.R_drewN | apply Kd.R_drew)); exact HO260.out) (Kd.R_base ho70) hb); have n2_ := Aside0.mk (Kd.R_elder' (by (with_reducible repeat (first | apply Kd.R_alloc | apply Kd.R_drewN | apply Kd.R_drew)); exact HO286.out) (Kd.R_base ho70) hb); have n3_ := Aside0.mk (Kd.R_lower (Kd.R_new' (Kd.R_new' (Kd.R_new' ho70 (Kd.R_lt (by (with_reducible repeat (first | apply Kd.R_alloc | apply Kd.R_drewN | apply Kd.R_drew)); exact HO256.out))) (Kd.R_lt (by (with_reducible repeat (first | apply Kd.R_alloc | apply Kd.R_drewN | apply Kd.R_drew)); exact HO260.out))) (Kd.R_lt (by (with_reducible repeat (first | apply Kd.R_alloc | apply Kd.R_drewN | apply Kd.R_drew)); exact HO286.out))) (below_size (by repeat (first | (with_reducible first | exact HB.out | apply below_alloc | apply pw_below_drewN | apply below_drew1) | exact HB.out)))); have n4_ := Aside0.mk (below_step (by repeat (first | (with_reducible first | exact HB.out | apply below_alloc | apply pw_below_drewN | apply below_drew1) | exact HB.out)) hb); clear HO256; clear HO260; clear HO286; clear HB; have HO256 := n0_; have HO260 := n1_; have HO286 := n2_; have HO289 := n3_; have HB := n4_; clear n0_ n1_ n2_ n3_ n4_; clear hb ho70) | ((with_reducible refine gate_builtin (b := .append) (xs := #[.tmp 88, .tmp 89]) rfl ?_); (try (refine gate_guard (by rfl) ?_; dsimp only)); at_builtin; refine Kd.R_append_rows Kd.string (w0 := w) w.heap.size rfl (.tmp 88) (.tmp 89) 22 9 (.string ⟨#[]⟩) 16 rfl Tryd.underlying22 info9 rfl (by decide) (by omega) v288 y287 l0 _ _ _ (fun k_ => some k_ ≠ (v255 : Value).ownBlock ∧ some k_ ≠ (v259 : Value).ownBlock ∧ some k_ ≠ (v285 : Value).ownBlock) (fun _ => False) rfl rfl ?aO ?aR (fun _ _ h => h) (fun _ h => h.elim) ?aF ?aB ?aS ?aL ?_; (case aR => repeat (first | exact (Kd.C_below HR0.out HB.out) | (with_reducible refine Kd.C_alloc ?_ _) | (with_reducible refine Kd.C_drewN ?_ _) | (with_reducible refine Kd.C_drew ?_))); (case aB => exact (by repeat (first | (with_reducible first | exact HB.out | apply below_alloc | apply pw_below_drewN | apply below_drew1) | exact HB.out))); (case aF => exact (fun k_ hk => ⟨Kd.fresh' (Kd.R_lt (by (with_reducible repeat (first | apply Kd.R_alloc | apply Kd.R_drewN | apply Kd.R_drew)); exact HO256.out)) k_ hk, Kd.fresh' (Kd.R_lt (by (with_reducible repeat (first | apply Kd.R_alloc | apply Kd.R_drewN | apply Kd.R_drew)); exact HO260.out)) k_ hk, Kd.fresh' (Kd.R_lt (by (with_reducible repeat (first | apply Kd.R_alloc | apply Kd.R_drewN | apply Kd.R_drew)); exact HO286.out)) k_ hk⟩)); (case aO => exact (by (with_reducible repeat (first | apply Kd.R_alloc | apply Kd.R_drewN | apply Kd.R_drew)); exact Kd.R_mono HO289.out (fun _ hk => ⟨hk.1.1.2, ⟨hk.1.2, hk.2⟩⟩))); (case aS => exact (below_size (by repeat (first | (with_reducible first | exact HB.out | apply below_alloc | apply pw_below_drewN | apply below_drew1) | exact HB.out)))); (case aL => have := LMc62.out; omega); intro v291 w71 ho hb hg hat; rw [← Ny290.out] at ho; have n0_ := Aside0.mk (Kd.R_after (ok := (fun k_ => some k_ ≠ (v259 : Value).ownBlock ∧ some k_ ≠ (v285 : Value).ownBlock)) (by (with_reducible repeat (first | apply Kd.R_alloc | apply Kd.R_drewN | apply Kd.R_drew)); exact Kd.R_mono HO256.out (fun _ hk => ⟨⟨hk.1.1.2, hk.1.2⟩, hk.2⟩)) hg hat); have n1_ := Aside0.mk (Kd.R_after (ok := (fun k_ => some k_ ≠ (v255 : Value).ownBlock ∧ some k_ ≠ (v285 : Value).ownBlock)) (by (with_reducible repeat (first | apply Kd.R_alloc | apply Kd.R_drewN | apply Kd.R_drew)); exact Kd.R_mono HO260.out (fun _ hk => ⟨⟨hk.1.1.2, hk.1.2⟩, hk.2⟩)) hg hat); have n2_ := Aside0.mk (Kd.R_after (ok := (fun k_ => some k_ ≠ (v255 : Value).ownBlock ∧ some k_ ≠ (v259 : Value).ownBlock)) (by (with_reducible repeat (first | apply Kd.R_alloc | apply Kd.R_drewN | apply Kd.R_drew)); exact Kd.R_mono HO286.out (fun _ hk => ⟨⟨hk.1.1.2, hk.1.2⟩, hk.2⟩)) hg hat); have n3_ := Aside0.mk (hb); have n4_ := Aside0.mk (ho); clear HO256; clear HO260; clear HO286; clear HB; clear HO289; have HO256 := n0_; have HO260 := n1_; have HO286 := n2_; have HB := n3_; have HO292 := n4_; clear n0_ n1_ n2_ n3_ n4_; clear ho hb hg hat) | ((with_reducible refine gate_builtin (b := .append) (xs := #[.tmp 90, .tmp 91]) rfl ?_); (try (refine gate_guard (by rfl) ?_; dsimp only)); at_builtin; refine Kd.R_append_rows Kd.string (w0 := w) w.heap.size rfl (.tmp 90) (.tmp 91) 22 9 (.string ⟨#[]⟩) 16 rfl Tryd.underlying22 info9 rfl (by decide) (by omega) v291 y290 l0 _ _ _ (fun k_ => some k_ ≠ (v255 : Value).ownBlock ∧ some k_ ≠ (v259 : Value).ownBlock ∧ some k_ ≠ (v285 : Value).ownBlock) (fun _ => False) rfl rfl ?aO ?aR (fun _ _ h => h) (fun _ h => h.elim) ?aF ?aB ?aS ?aL ?_; (case aR => repeat (first | exact (Kd.C_below HR0.out HB.out) | (with_reducible refine Kd.C_alloc ?_ _) | (with_reducible refine Kd.C_drewN ?_ _) | (with_reducible refine Kd.C_drew ?_))); (case aB => exact (by repeat (first | (with_reducible first | exact HB.out | apply below_alloc | apply pw_below_drewN | apply below_drew1) | exact HB.out))); (case aF => exact (fun k_ hk => ⟨Kd.fresh' (Kd.R_lt (by (with_reducible repeat (first | apply Kd.R_alloc | apply Kd.R_drewN | apply Kd.R_drew)); exact HO256.out)) k_ hk, Kd.fresh' (Kd.R_lt (by (with_reducible repeat (first | apply Kd.R_alloc | apply Kd.R_drewN | apply Kd.R_drew)); exact HO260.out)) k_ hk, Kd.fresh' (Kd.R_lt (by (with_reducible repeat (first | apply Kd.R_alloc | apply Kd.R_drewN | apply Kd.R_drew)); exact HO286.out)) k_ hk⟩)); (case aO => exact (by (with_reducible repeat (first | apply Kd.R_alloc | apply Kd.R_drewN | apply Kd.R_drew)); exact HO292.out)); (case aS => exact (below_size (by repeat (first | (with_reducible first | exact HB.out | apply below_alloc | apply pw_below_drewN | apply below_drew1) | exact HB.out)))); (case aL => have := LMc63.out; omega); intro v294 w72 ho hb hg hat; rw [← Ny293.out] at ho; have n0_ := Aside0.mk (Kd.R_after (ok := (fun k_ => some k_ ≠ (v259 : Value).ownBlock ∧ some k_ ≠ (v285 : Value).ownBlock)) (by (with_reducible repeat (first | apply Kd.R_alloc | apply Kd.R_drewN | apply Kd.R_drew)); exact HO256.out) hg hat); have n1_ := Aside0.mk (Kd.R_after (ok := (fun k_ => some k_ ≠ (v255 : Value).ownBlock ∧ some k_ ≠ (v285 : Value).ownBlock)) (by (with_reducible repeat (first | apply Kd.R_alloc | apply Kd.R_drewN | apply Kd.R_drew)); exact HO260.out) hg hat); have n2_ := Aside0.mk (Kd.R_after (ok := (fun k_ => some k_ ≠ (v255 : Value).ownBlock ∧ some k_ ≠ (v259 : Value).ownBlock)) (by (with_reducible repeat (first | apply Kd.R_alloc | apply Kd.R_drewN | apply Kd.R_drew)); exact HO286.out) hg hat); have n3_ := Aside0.mk (hb); have n4_ := Aside0.mk (ho); clear HO256; clear HO260; clear HO286; clear HB; clear HO292; have HO256 := n0_; have HO260 := n1_; have HO286 := n2_; have HB := n3_; have HO295 := n4_; clear n0_ n1_ n2_ n3_ n4_; clear ho hb hg hat; obtain ⟨Ao73, co73, eo73⟩ := Kd.R_slice HO286.out; subst eo73; obtain ⟨Ao74, co74, eo74⟩ := Kd.R_slice HO295.out; subst eo74) | (go_at_call 19; (with_reducible refine (symbolonref03_Same.calls kj3 _ _ t283 _ _ y293 t296 _ ?side1 ?side2 ?side3 ?side4 A64.out).mono ?_); (case side1 => repeat (first | exact (Kd.R_reads' HO286.out).2.2 | (with_reducible refine Kd.C_alloc ?_ _) | (with_reducible refine Kd.C_drewN ?_ _) | (with_reducible refine Kd.C_drew ?_))); (case side2 => exact (Kd.R_reads' HO286.out).2.1); (case side3 => repeat (first | exact (Kd.R_reads' HO295.out).2.2 | (with_reducible refine Kd.C_alloc ?_ _) | (with_reducible refine Kd.C_drewN ?_ _) | (with_reducible refine Kd.C_drew ?_))); (case side4 => exact (Kd.R_reads' HO295.out).2.1); rintro e w' ⟨rfl, ⟨nd, rfl⟩⟩))
                                go_ret
                                exact ⟨by first | rfl | (simp [errW_none, errW_some] <;> rfl) | (simp [*, errW_none, errW_some] <;> rfl), by repeat (first | (with_reducible first | exact HB.out | apply below_alloc | apply pw_below_drewN | apply below_drew1) | exact HB.out)⟩
                              · rw [if_neg c63] at H
                                exact absurd H (by simp)
                            · rw [if_neg c62] at H
                              exact absurd H (by simp)
                          · replace c61 := Bool.eq_false_iff.mpr c61
                            subst c61
                            have H1 : (none) = some r := by rw [if_neg (show ¬ (false = true) by decide)] at H; exact H
                            clear H
                            have H := H1
                            clear H1
                            exact absurd H (by simp)
                    · replace c58 := Bool.eq_false_iff.mpr c58
                      subst c58
                      have H1 : (none) = some r := by rw [if_neg (show ¬ (false = true) by decide)] at H; exact H
                      clear H
                      have H := H1
                      clear H1
                      exact absurd H (by simp)
                  · rw [if_neg c56] at H
                    exact absurd H (by simp)
            · rw [if_neg c16] at H
              exact absurd H (by simp)
          · rw [if_neg c14] at H
            exact absurd H (by simp)

/-- THE ONE PURE STATEMENT of symbolonlaw03_TextBlanks. -/
def symbolonlaw03_TextBlanks.Pure : Prop := ∀ (l0 : List ByteArray) (a1 : Int), (l0.length ≤ maxLen) → (l0.length * 16 ≤ 140737488351232) → (∀ b ∈ l0, b.size ≤ 140737488351232) → ((Lit.int .u8 a1).wf = true) → ∃ k, symbolonlaw03_TextBlanks.f k l0 a1 = some true


end Go.Proofs.YtfjdlllmpgknpaaDoor.Q
