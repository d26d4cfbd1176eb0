-- Laid by a program of this session (wip/myprint.py) in the form of the kit's print; a text of this claim, checked by Lean like any other.
import Derived.Test.YtfkgacjiccgdfaaQ0
import Derived.Test.YtfkgacjiccgdfaaQ2
import Derived.Test.YtfkgacjiccgdfaaQ4
import Derived.Test.YtfkgacjiccgdfaaQ6
import Derived.Test.YtfkgacjiccgdfaaQ7
namespace Go.Proofs.Ytfkgacjiccgdfaa.Q
open Go.RowKit Go.Proofs.YtfkgacjiccgdfaaW.PrintWords Go.Proofs.YtfkgacjiccgdfaaW.PrintLast Go.Proofs.YtfkgacjiccgdfaaW.PrintMore
attribute [local go_sem] max2_int min2_int max_two min_two max_three min_three max_four min_four   -- for this text's walks alone
set_option linter.unusedVariables false
set_option linter.unusedSimpArgs false

/-! ### symbolonlaw14_ChunkWhole: function 5 -/
mutual
def symbolonlaw14_ChunkWhole.j0 : Nat → List Int → List Int → Int → Int → Bool → Int → Bool → Option (Bool)
  | 0, _, _, _, _, _, _, _ => none
  | k + 1, x1, x2, x3, x4, x11, x12, x34 => if x34 = true then (some x11) else ((chunk_Cut.f x12 x1).bind fun t266 => (symbolonlaw14_ChunkWhole.l0 k x1 x2 x3 x4 x11 x12 t266 ([] : List (List Int)) 0))
def symbolonlaw14_ChunkWhole.j2 : Nat → List Int → Int → Int → Bool → Int → List (List Int) → List (List Int) → Option (Bool)
  | 0, _, _, _, _, _, _, _ => none
  | k + 1, x1, x3, x4, x11, x12, x13, x14 => symbolonlaw14_ChunkWhole.l1 k x1 x3 x4 x11 x12 x13 x14 (wrap64 ((x13.length : Int) - 1))
def symbolonlaw14_ChunkWhole.l1 : Nat → List Int → Int → Int → Bool → Int → List (List Int) → List (List Int) → Int → Option (Bool)
  | 0, _, _, _, _, _, _, _, _ => none
  | k + 1, x1, x3, x4, x11, x12, x13, x14, x16 => if x16 ≥ 0 then (if 0 ≤ x16 then (if x16 < (x13.length : Int) then (if x14.length < 5864062014805 then (symbolonlaw14_ChunkWhole.l1 k x1 x3 x4 x11 x12 x13 (x14 ++ [rd_L2 x13 x16]) (wrap64 (x16 - 1))) else (none)) else (none)) else (none)) else ((chunk_Gather.f k x12 (x1.length : Int) x14).bind fun bt278 => (if (wrap64 ((x1.length : Int) + 1)) = 0 then (none) else ((chunk_Gather.f k (wrap64 (x12 + (Int.tmod (wrap64 (x3)) (wrap64 ((x1.length : Int) + 1))))) (mn (wrap64 (x4)) (wrap64 ((x1.length : Int) - (Int.tmod (wrap64 (x3)) (wrap64 ((x1.length : Int) + 1)))))) x14).bind fun bt282 => (if x11 = true then (if bt278.2 = true then ((symbolonref01_Same.f k bt278.1 x1).bind fun t286 => (if t286 = true then (if bt282.2 = true then (if 0 ≤ (Int.tmod (wrap64 (x3)) (wrap64 ((x1.length : Int) + 1))) then (if (Int.tmod (wrap64 (x3)) (wrap64 ((x1.length : Int) + 1))) ≤ (wrap64 ((Int.tmod (wrap64 (x3)) (wrap64 ((x1.length : Int) + 1))) + (mn (wrap64 (x4)) (wrap64 ((x1.length : Int) - (Int.tmod (wrap64 (x3)) (wrap64 ((x1.length : Int) + 1)))))))) then (if (wrap64 ((Int.tmod (wrap64 (x3)) (wrap64 ((x1.length : Int) + 1))) + (mn (wrap64 (x4)) (wrap64 ((x1.length : Int) - (Int.tmod (wrap64 (x3)) (wrap64 ((x1.length : Int) + 1)))))))) ≤ (x1.length : Int) then ((symbolonref01_Same.f k bt282.1 ((x1.take ((wrap64 ((Int.tmod (wrap64 (x3)) (wrap64 ((x1.length : Int) + 1))) + (mn (wrap64 (x4)) (wrap64 ((x1.length : Int) - (Int.tmod (wrap64 (x3)) (wrap64 ((x1.length : Int) + 1)))))))) : Int).toNat).drop ((Int.tmod (wrap64 (x3)) (wrap64 ((x1.length : Int) + 1))) : Int).toNat)).bind fun t288 => (if t288 = true then (some ((x13.length : Int) == (wrap64 (Int.tdiv (wrap64 ((x1.length : Int) + 5)) 6)))) else (none))) else (none)) else (none)) else (none)) else (none)) else (none))) else (none)) else (none)))))
def symbolonlaw14_ChunkWhole.l0 : Nat → List Int → List Int → Int → Int → Bool → Int → List (List Int) → List (List Int) → Int → Option (Bool)
  | 0, _, _, _, _, _, _, _, _, _ => none
  | k + 1, x1, x2, x3, x4, x11, x12, x13, x14, x15 => if x15 < (x2.length : Int) then (if (x13.length : Int) > 0 then (if 0 ≤ x15 then (if (x13.length : Int) = 0 then (none) else (if 0 ≤ (Int.tmod (wrap64 (rd x2 x15)) (x13.length : Int)) then (if (Int.tmod (wrap64 (rd x2 x15)) (x13.length : Int)) < (x13.length : Int) then (if x14.length < 5864062014805 then (symbolonlaw14_ChunkWhole.l0 k x1 x2 x3 x4 x11 x12 x13 (x14 ++ [rd_L2 x13 (Int.tmod (wrap64 (rd x2 x15)) (x13.length : Int))]) (wrap64 (x15 + 1))) else (none)) else (none)) else (none))) else (none)) else (symbolonlaw14_ChunkWhole.j2 k x1 x3 x4 x11 x12 x13 x14)) else (symbolonlaw14_ChunkWhole.j2 k x1 x3 x4 x11 x12 x13 x14)
end
def symbolonlaw14_ChunkWhole.f (k : Nat) (a0 : Int) (l1 : List Int) (l2 : List Int) (a3 : Int) (a4 : Int) : Option (Bool) := (symbolonlaw14_head.f k).bind fun t265 => (if (l1.length : Int) > 900 then (symbolonlaw14_ChunkWhole.j0 k l1 l2 a3 a4 t265 (Int.tmod (wrap64 (a0)) 60000) true) else (symbolonlaw14_ChunkWhole.j0 k l1 l2 a3 a4 t265 (Int.tmod (wrap64 (a0)) 60000) (decide ((l2.length : Int) > 200))))
theorem symbolonlaw14_ChunkWhole.mono_l : ∀ k, (∀ y0 y1 y2 y3 y4 y5 y6, LeO (symbolonlaw14_ChunkWhole.j0 k y0 y1 y2 y3 y4 y5 y6) (symbolonlaw14_ChunkWhole.j0 (k + 1) y0 y1 y2 y3 y4 y5 y6)) ∧ (∀ y0 y1 y2 y3 y4 y5 y6, LeO (symbolonlaw14_ChunkWhole.j2 k y0 y1 y2 y3 y4 y5 y6) (symbolonlaw14_ChunkWhole.j2 (k + 1) y0 y1 y2 y3 y4 y5 y6)) ∧ (∀ y0 y1 y2 y3 y4 y5 y6 y7, LeO (symbolonlaw14_ChunkWhole.l1 k y0 y1 y2 y3 y4 y5 y6 y7) (symbolonlaw14_ChunkWhole.l1 (k + 1) y0 y1 y2 y3 y4 y5 y6 y7)) ∧ (∀ y0 y1 y2 y3 y4 y5 y6 y7 y8, LeO (symbolonlaw14_ChunkWhole.l0 k y0 y1 y2 y3 y4 y5 y6 y7 y8) (symbolonlaw14_ChunkWhole.l0 (k + 1) y0 y1 y2 y3 y4 y5 y6 y7 y8))
  | 0 => ⟨fun _ _ _ _ _ _ _ r h => by simp [symbolonlaw14_ChunkWhole.j0] at h, fun _ _ _ _ _ _ _ r h => by simp [symbolonlaw14_ChunkWhole.j2] at h, fun _ _ _ _ _ _ _ _ r h => by simp [symbolonlaw14_ChunkWhole.l1] at h, fun _ _ _ _ _ _ _ _ _ r h => by simp [symbolonlaw14_ChunkWhole.l0] at h⟩
  | k + 1 => by
    obtain ⟨ih0, ih1, ih2, ih3⟩ := symbolonlaw14_ChunkWhole.mono_l k
    refine ⟨?_, ?_, ?_, ?_⟩
    · intro y0 y1 y2 y3 y4 y5 y6
      unfold symbolonlaw14_ChunkWhole.j0
      repeat' first
      | (with_reducible exact ih0 _ _ _ _ _ _ _)
      | (with_reducible exact ih1 _ _ _ _ _ _ _)
      | (with_reducible exact ih2 _ _ _ _ _ _ _ _)
      | (with_reducible exact ih3 _ _ _ _ _ _ _ _ _)
      | (with_reducible exact chunk_Gather.mono _ _ _ _)
      | (with_reducible exact symbolonlaw14_head.mono _)
      | (with_reducible exact symbolonref01_Same.mono _ _ _)
      | (with_reducible exact LeO.refl _)
      | (with_reducible exact LeO.none _)
      | (with_reducible refine LeO.ite ?_ ?_)
      | (with_reducible refine LeO.bind ?_ (fun _ => ?_))
      | exact ih0 _ _ _ _ _ _ _
      | exact ih1 _ _ _ _ _ _ _
      | exact ih2 _ _ _ _ _ _ _ _
      | exact ih3 _ _ _ _ _ _ _ _ _
      | exact chunk_Gather.mono _ _ _ _
      | exact symbolonlaw14_head.mono _
      | exact symbolonref01_Same.mono _ _ _
      | exact LeO.none _
      | refine LeO.ite ?_ ?_
      | refine LeO.bind ?_ (fun _ => ?_)
    · intro y0 y1 y2 y3 y4 y5 y6
      unfold symbolonlaw14_ChunkWhole.j2
      repeat' first
      | (with_reducible exact ih0 _ _ _ _ _ _ _)
      | (with_reducible exact ih1 _ _ _ _ _ _ _)
      | (with_reducible exact ih2 _ _ _ _ _ _ _ _)
      | (with_reducible exact ih3 _ _ _ _ _ _ _ _ _)
      | (with_reducible exact chunk_Gather.mono _ _ _ _)
      | (with_reducible exact symbolonlaw14_head.mono _)
      | (with_reducible exact symbolonref01_Same.mono _ _ _)
      | (with_reducible exact LeO.refl _)
      | (with_reducible exact LeO.none _)
      | (with_reducible refine LeO.ite ?_ ?_)
      | (with_reducible refine LeO.bind ?_ (fun _ => ?_))
      | exact ih0 _ _ _ _ _ _ _
      | exact ih1 _ _ _ _ _ _ _
      | exact ih2 _ _ _ _ _ _ _ _
      | exact ih3 _ _ _ _ _ _ _ _ _
      | exact chunk_Gather.mono _ _ _ _
      | exact symbolonlaw14_head.mono _
      | exact symbolonref01_Same.mono _ _ _
      | exact LeO.none _
      | refine LeO.ite ?_ ?_
      | refine LeO.bind ?_ (fun _ => ?_)
    · intro y0 y1 y2 y3 y4 y5 y6 y7
      unfold symbolonlaw14_ChunkWhole.l1
      repeat' first
      | (with_reducible exact ih0 _ _ _ _ _ _ _)
      | (with_reducible exact ih1 _ _ _ _ _ _ _)
      | (with_reducible exact ih2 _ _ _ _ _ _ _ _)
      | (with_reducible exact ih3 _ _ _ _ _ _ _ _ _)
      | (with_reducible exact chunk_Gather.mono _ _ _ _)
      | (with_reducible exact symbolonlaw14_head.mono _)
      | (with_reducible exact symbolonref01_Same.mono _ _ _)
      | (with_reducible exact LeO.refl _)
      | (with_reducible exact LeO.none _)
      | (with_reducible refine LeO.ite ?_ ?_)
      | (with_reducible refine LeO.bind ?_ (fun _ => ?_))
      | exact ih0 _ _ _ _ _ _ _
      | exact ih1 _ _ _ _ _ _ _
      | exact ih2 _ _ _ _ _ _ _ _
      | exact ih3 _ _ _ _ _ _ _ _ _
      | exact chunk_Gather.mono _ _ _ _
      | exact symbolonlaw14_head.mono _
      | exact symbolonref01_Same.mono _ _ _
      | exact LeO.none _
      | refine LeO.ite ?_ ?_
      | refine LeO.bind ?_ (fun _ => ?_)
    · intro y0 y1 y2 y3 y4 y5 y6 y7 y8
      unfold symbolonlaw14_ChunkWhole.l0
      repeat' first
      | (with_reducible exact ih0 _ _ _ _ _ _ _)
      | (with_reducible exact ih1 _ _ _ _ _ _ _)
      | (with_reducible exact ih2 _ _ _ _ _ _ _ _)
      | (with_reducible exact ih3 _ _ _ _ _ _ _ _ _)
      | (with_reducible exact chunk_Gather.mono _ _ _ _)
      | (with_reducible exact symbolonlaw14_head.mono _)
      | (with_reducible exact symbolonref01_Same.mono _ _ _)
      | (with_reducible exact LeO.refl _)
      | (with_reducible exact LeO.none _)
      | (with_reducible refine LeO.ite ?_ ?_)
      | (with_reducible refine LeO.bind ?_ (fun _ => ?_))
      | exact ih0 _ _ _ _ _ _ _
      | exact ih1 _ _ _ _ _ _ _
      | exact ih2 _ _ _ _ _ _ _ _
      | exact ih3 _ _ _ _ _ _ _ _ _
      | exact chunk_Gather.mono _ _ _ _
      | exact symbolonlaw14_head.mono _
      | exact symbolonref01_Same.mono _ _ _
      | exact LeO.none _
      | refine LeO.ite ?_ ?_
      | refine LeO.bind ?_ (fun _ => ?_)
theorem symbolonlaw14_ChunkWhole.mono : ∀ a0 a1 a2 a3 a4 k, LeO (symbolonlaw14_ChunkWhole.f k a0 a1 a2 a3 a4) (symbolonlaw14_ChunkWhole.f (k + 1) a0 a1 a2 a3 a4) := by
  intro a0 a1 a2 a3 a4 k
  obtain ⟨ih0, ih1, ih2, ih3⟩ := symbolonlaw14_ChunkWhole.mono_l k
  unfold symbolonlaw14_ChunkWhole.f
  repeat' first
      | (with_reducible exact ih0 _ _ _ _ _ _ _)
      | (with_reducible exact ih1 _ _ _ _ _ _ _)
      | (with_reducible exact ih2 _ _ _ _ _ _ _ _)
      | (with_reducible exact ih3 _ _ _ _ _ _ _ _ _)
      | (with_reducible exact chunk_Gather.mono _ _ _ _)
      | (with_reducible exact symbolonlaw14_head.mono _)
      | (with_reducible exact symbolonref01_Same.mono _ _ _)
      | (with_reducible exact LeO.refl _)
      | (with_reducible exact LeO.none _)
      | (with_reducible refine LeO.ite ?_ ?_)
      | (with_reducible refine LeO.bind ?_ (fun _ => ?_))
      | exact ih0 _ _ _ _ _ _ _
      | exact ih1 _ _ _ _ _ _ _
      | exact ih2 _ _ _ _ _ _ _ _
      | exact ih3 _ _ _ _ _ _ _ _ _
      | exact chunk_Gather.mono _ _ _ _
      | exact symbolonlaw14_head.mono _
      | exact symbolonref01_Same.mono _ _ _
      | exact LeO.none _
      | refine LeO.ite ?_ ?_
      | refine LeO.bind ?_ (fun _ => ?_)
set_option maxHeartbeats 8000000 in
set_option maxRecDepth 100000 in
theorem symbolonlaw14_ChunkWhole.calls (k : Nat) (a0 : Int) (A1 : Option Addr) (c1 : Nat) (l1 : List Int) (A2 : Option Addr) (c2 : Nat) (l2 : List Int) (a3 : Int) (a4 : Int) (r : Bool) (w : World) (hr1 : Kd.C (Kd.int .u64) w A1 l1.length l1) (hc1 : l1.length ≤ c1) (hr2 : Kd.C (Kd.int .u8) w A2 l2.length l2) (hc2 : l2.length ≤ c2) (h : symbolonlaw14_ChunkWhole.f k a0 l1 l2 a3 a4 = some r) :
    Calls Try.prog 5 #[.int .u16 a0, .slice A1 l1.length c1, .slice A2 l2.length c2, .int .u8 a3, .int .u8 a4] w fun e w' => e = .returned (.bool r) ∧ Below w.heap.size w w' := by
  have HR1 := Aside0.mk hr1
  have HC1 := Aside0.mk hc1
  clear hr1 hc1
  have HR2 := Aside0.mk hr2
  have HC2 := Aside0.mk hc2
  clear hr2 hc2
  have HB := Aside0.mk (Below.refl w.heap.size w)
  have H : ((symbolonlaw14_head.f k).bind fun t265 => (if (l1.length : Int) > 900 then (symbolonlaw14_ChunkWhole.j0 k l1 l2 a3 a4 t265 (Int.tmod (wrap64 (a0)) 60000) true) else (symbolonlaw14_ChunkWhole.j0 k l1 l2 a3 a4 t265 (Int.tmod (wrap64 (a0)) 60000) (decide ((l2.length : Int) > 200))))) = some r := h
  clear h
  replace H := Option.bind_eq_some_iff.mp H
  obtain ⟨t265, A60, H⟩ := H
  replace H : (if (l1.length : Int) > 900 then (symbolonlaw14_ChunkWhole.j0 k l1 l2 a3 a4 t265 (Int.tmod (wrap64 (a0)) 60000) true) else (symbolonlaw14_ChunkWhole.j0 k l1 l2 a3 a4 t265 (Int.tmod (wrap64 (a0)) 60000) (decide ((l2.length : Int) > 200)))) = some r := H
  have A6 := Aside0.mk A60
  clear A60
  have HC7 := Aside0.mk H
  clear H
  go_enter Try.func5, Try.ntmps5
  go_upto_region 3 with (first | ((with_reducible refine gate_callee (f := 10) rfl ?_); refine goesL_ (some 23) rfl rfl Try.func10 (by kernel_rfl) rfl #[] rfl (by (try simp only [List.map_toArray, List.map_cons, List.map_nil]); first | done | rfl | (simp only [List.length_drop, List.length_take]; rfl)) ?_; (with_reducible refine (symbolonlaw14_head.calls k  t265 _ A6.out).mono ?_); rintro e w8 ⟨rfl, hb⟩; refine ⟨_, rfl, ?_⟩; have n0_ := Aside0.mk (below_step (by repeat (first | (with_reducible first | exact HB.out | apply below_alloc | apply pw_below_drewN | apply below_drew1) | exact HB.out)) hb); clear HB; have HB := n0_; clear n0_; (try clear hb); (try clear hb2); (try clear hk); (try clear hi)))
  (try simp only [Act.put, List.setIfInBounds_toArray, List.set_cons_zero, List.set_cons_succ])
  go_cut [34] (fun v34 wc => ∃ (kq : Nat) (x34_6 : Bool), v34 = .bool x34_6 ∧ Aside0 (symbolonlaw14_ChunkWhole.j0 kq l1 l2 a3 a4 t265 (Int.tmod (wrap64 (a0)) 60000) x34_6 = some r) ∧ Aside0 (kq ≤ k) ∧ Aside0 (Below w.heap.size w wc))
  case first =>
    have H := HC7.out
    clear HC7
    by_cases c9 : (l1.length : Int) > 900
    · rw [if_pos c9] at H
      have c9b0 : decide (900 < (l1.length : Int)) = true := decide_eq_true c9
      have c9b1 : decide (900 < l1.length) = true := decide_eq_true (by omega)
      clear c9
      (first | rw [c9b0] | (simp only [i64_w, i32_w]; rw [c9b0]) | skip)
      have H' := Aside0.mk H
      clear H
      go_wp2
      go_meet
      case rel => exact ⟨_, (true), (by first | rfl | (simp; done) | (simp [*]; done)), H', ⟨by first | omega | exact Nat.le_refl _⟩, ⟨by repeat (first | (with_reducible first | exact HB.out | apply below_alloc | apply pw_below_drewN | apply below_drew1) | exact HB.out)⟩⟩
    · rw [if_neg c9] at H
      have c9b0 : decide (900 < (l1.length : Int)) = false := decide_eq_false c9
      have c9b1 : decide (900 < l1.length) = false := decide_eq_false (by omega)
      clear c9
      (first | rw [c9b0] | (simp only [i64_w, i32_w]; rw [c9b0]) | skip)
      have H' := Aside0.mk H
      clear H
      go_wp2
      go_meet
      case rel => exact ⟨_, (decide ((l2.length : Int) > 200)), (by first | rfl | (simp; done) | (simp [*]; done)), H', ⟨by first | omega | exact Nat.le_refl _⟩, ⟨by repeat (first | (with_reducible first | exact HB.out | apply below_alloc | apply pw_below_drewN | apply below_drew1) | exact HB.out)⟩⟩
  case rest =>
    clear HC7
    try clear c1
    try clear c2
    try clear p2
    try clear c5
    try clear p6
    try clear c9
    try clear c9b0
    try clear c9b1
    obtain ⟨kq, x34_6, rfl, HA, HJ6, HB⟩ := hcut
    cases kq with
    | zero => exact absurd HA.out (by simp [symbolonlaw14_ChunkWhole.j0])
    | succ kj6 =>
      have H := HA.out
      clear HA
      simp only [symbolonlaw14_ChunkWhole.j0] at H
      by_cases c10 : x34_6 = true
      · subst c10
        have H1 : (some t265) = some r := by rw [if_pos rfl] at H; exact H
        clear H
        have H := H1
        clear H1
        obtain rfl := Option.some.inj H
        go_wp2
        go_ret
        exact ⟨by first | rfl | (simp [errW_none, errW_some] <;> rfl) | (simp [*, errW_none, errW_some] <;> rfl), by repeat (first | (with_reducible first | exact HB.out | apply below_alloc | apply pw_below_drewN | apply below_drew1) | exact HB.out)⟩
      · replace c10 := Bool.eq_false_iff.mpr c10
        subst c10
        have H1 : ((chunk_Cut.f (Int.tmod (wrap64 (a0)) 60000) l1).bind fun t266 => (symbolonlaw14_ChunkWhole.l0 kj6 l1 l2 a3 a4 t265 (Int.tmod (wrap64 (a0)) 60000) t266 ([] : List (List Int)) 0)) = some r := by rw [if_neg (show ¬ (false = true) by decide)] at H; exact H
        clear H
        have H := H1
        clear H1
        replace H := Option.bind_eq_some_iff.mp H
        obtain ⟨t266, A110, H⟩ := H
        replace H : (symbolonlaw14_ChunkWhole.l0 kj6 l1 l2 a3 a4 t265 (Int.tmod (wrap64 (a0)) 60000) t266 ([] : List (List Int)) 0) = some r := H
        have A11 := Aside0.mk A110
        clear A110
        have HC12 := Aside0.mk H
        clear H
        go_upto_block 0 with (first | ((with_reducible refine gate_callee (f := 20) rfl ?_); refine goesL_ (some 38) rfl rfl Try.func20 (by kernel_rfl) rfl #[.int .i64 (Int.tmod (wrap64 (a0)) 60000), .slice A1 l1.length c1] rfl (by (try simp only [List.map_toArray, List.map_cons, List.map_nil]); first | done | rfl | (simp only [List.length_drop, List.length_take]; rfl)) ?_; (with_reducible refine (chunk_Cut.calls (Int.tmod (wrap64 (a0)) 60000) _ _ l1 t266 _ ?side1 ?side2 A11.out).mono ?_); (case side1 => repeat (first | exact (Kd.C_below HR1.out HB.out) | (with_reducible refine Kd.C_alloc ?_ _) | (with_reducible refine Kd.C_drewN ?_ _) | (with_reducible refine Kd.C_drew ?_))); (case side2 => exact HC1.out); rintro e w13 ⟨v267, rfl, ho0, hb⟩; refine ⟨_, rfl, ?_⟩; have n0_ := Aside0.mk (Kd.N_lower (Kd.N_mono (ok' := fun k_ => True) (Kd.S_N (Kd.S_bound ho0)) (fun k_ hk_ => trivial)) (below_size (by repeat (first | (with_reducible first | exact HB.out | apply below_alloc | apply pw_below_drewN | apply below_drew1) | exact HB.out)))); have n1_ := Aside0.mk (below_step (by repeat (first | (with_reducible first | exact HB.out | apply below_alloc | apply pw_below_drewN | apply below_drew1) | exact HB.out)) hb); clear HB; have HO268 := n0_; have HB := n1_; clear n0_ n1_; (try clear hb); (try clear hb2); (try clear hk); (try clear hi); (try clear ho0)))
        (try simp only [Act.put, List.setIfInBounds_toArray, List.set_cons_zero, List.set_cons_succ])
        go_cut [14] (fun v14 wc => ∃ (kq : Nat) (x14_11 : List (List Int)), Aside0 (symbolonlaw14_ChunkWhole.j2 kq l1 a3 a4 t265 (Int.tmod (wrap64 (a0)) 60000) t266 x14_11 = some r) ∧ Aside0 (kq ≤ kj6) ∧ Aside0 (Kd.N (Kd.slice 5 (Kd.int .u8)) 23 wc w.heap.size (fun k_ => some k_ ≠ (v14 : Value).ownBlock) v267 t266) ∧ Aside0 (Kd.N (Kd.slice 5 (Kd.int .u8)) 23 wc w.heap.size (fun k_ => some k_ ≠ (v267 : Value).ownBlock) v14 x14_11) ∧ Aside0 (Below w.heap.size w wc))
        case first =>
          have H := HC12.out
          clear HC12
          have H' := Aside0.mk H
          clear H
          go_wp2
          go_loopg [14, 15] kj6 (fun kq v14 v15 w' => ∃ (x14_2 : List (List Int)) (x15_2 : Int), v15 = .int .i64 x15_2 ∧ Aside0 (symbolonlaw14_ChunkWhole.l0 kq l1 l2 a3 a4 t265 (Int.tmod (wrap64 (a0)) 60000) t266 x14_2 x15_2 = some r) ∧ Aside0 (kq ≤ kj6) ∧ Aside0 (Kd.N (Kd.slice 5 (Kd.int .u8)) 23 w' w.heap.size (fun k_ => some k_ ≠ (v14 : Value).ownBlock) v267 t266) ∧ Aside0 (Kd.N (Kd.slice 5 (Kd.int .u8)) 23 w' w.heap.size (fun k_ => some k_ ≠ (v267 : Value).ownBlock) v14 x14_2) ∧ Aside0 (Below w.heap.size w w'))
          case atStart => exact ⟨(([] : List (List Int))), (0), (by first | rfl | (simp; done) | (simp [*]; done)), H', ⟨Nat.le_refl _⟩, ⟨by (with_reducible repeat (first | apply Kd.N_alloc | apply Kd.N_drewN | apply Kd.N_drew)); exact Kd.N_mono HO268.out (fun _ hk => (by simp [Value.ownBlock]))⟩, ⟨by first | exact Kd.S_nil _ _ _ _ _ | exact Kd.N_nil _ _ _ _ _ | exact Kd.V_nil _ _ _ _ _ | exact Kd.Q_nil _ _ _ _ _ | exact Kd.R_nil _ _ _ _ _⟩, ⟨by repeat (first | (with_reducible first | exact HB.out | apply below_alloc | apply pw_below_drewN | apply below_drew1) | exact HB.out)⟩⟩
          case round =>
            clear H'
            try clear c1
            try clear c2
            try clear p2
            try clear c5
            try clear p6
            try clear c9
            try clear c9b0
            try clear c9b1
            try clear c10
            try clear p2
            try clear p6
            obtain ⟨x14_2, x15_2, rfl, HA, HK2, HO_13, HO_14, HB⟩ := hrel
            cases gk with
            | zero => exact absurd HA.out (by simp [symbolonlaw14_ChunkWhole.l0])
            | succ k2 =>
              have H := HA.out
              clear HA
              simp only [symbolonlaw14_ChunkWhole.l0] at H
              by_cases c14 : x15_2 < (l2.length : Int)
              · rw [if_pos c14] at H
                have c14b0 : decide (x15_2 < (l2.length : Int)) = true := decide_eq_true c14
                clear c14
                (first | rw [c14b0] | (simp only [i64_w, i32_w]; rw [c14b0]) | skip)
                by_cases c15 : (t266.length : Int) > 0
                · rw [if_pos c15] at H
                  have c15b0 : decide (0 < (t266.length : Int)) = true := decide_eq_true c15
                  have c15b1 : decide (0 < t266.length) = true := decide_eq_true (by omega)
                  clear c15
                  by_cases c16 : 0 ≤ x15_2
                  · rw [if_pos c16] at H
                    have c16b0 : decide (0 ≤ x15_2) = true := decide_eq_true c16
                    clear c16
                    by_cases c17 : (t266.length : Int) = 0
                    · rw [if_pos c17] at H
                      exact absurd H (by simp)
                    · rw [if_neg c17] at H
                      have c17b0 : ((t266.length : Int) == 0) = false := beq_eq_false_iff_ne.mpr c17
                      have c17b1 : ((t266.length : Int) != 0) = true := bne_iff_ne.mpr c17
                      have c17b2 : ¬ (t266 = []) := fun h_ => c17 (by rw [h_]; rfl)
                      obtain ⟨ji18, hji18⟩ : ∃ j_ : Int, (Int.tmod (wrap64 (rd l2 x15_2)) (t266.length : Int)) = j_ := ⟨_, rfl⟩
                      replace H : (if 0 ≤ (ji18) then (if (ji18) < (t266.length : Int) then (if x14_2.length < 5864062014805 then (symbolonlaw14_ChunkWhole.l0 k2 l1 l2 a3 a4 t265 (Int.tmod (wrap64 (a0)) 60000) t266 (x14_2 ++ [rd_L2 t266 (ji18)]) (wrap64 (x15_2 + 1))) else (none)) else (none)) else (none)) = some r := by first | (rw [hji18] at H; exact H) | (simp only [hji18] at H ⊢; exact H)
                      by_cases c19 : 0 ≤ (ji18)
                      · rw [if_pos c19] at H
                        have c19b0 : decide (0 ≤ (ji18)) = true := decide_eq_true c19
                        clear c19
                        by_cases c20 : (ji18) < (t266.length : Int)
                        · rw [if_pos c20] at H
                          have c20b0 : decide ((ji18) < (t266.length : Int)) = true := decide_eq_true c20
                          clear c20
                          by_cases c21 : x14_2.length < 5864062014805
                          · rw [if_pos c21] at H
                            have LMc21 := Aside0.mk c21
                            clear c21
                            obtain ⟨y271, hy271⟩ : ∃ y_ : List (List Int), y_ = (x14_2 ++ [rd_L2 t266 (ji18)]) := ⟨_, rfl⟩
                            replace H : (symbolonlaw14_ChunkWhole.l0 k2 l1 l2 a3 a4 t265 (Int.tmod (wrap64 (a0)) 60000) t266 y271 (wrap64 (x15_2 + 1))) = some r := by first | (rw [hy271]; with_reducible exact H) | (have H2_ := (Option.bind_some _ _).symm.trans H; rw [hy271]; with_reducible exact H2_) | (have H2_ := (Option.bind_some _ _).symm.trans H; with_reducible exact H2_) | with_reducible exact H | (rw [hy271]; exact H) | exact H
                            have Ny271 := Aside0.mk hy271
                            clear hy271
                            have H' := Aside0.mk H
                            clear H
                            obtain ⟨Ao22, co22, eo22⟩ := Kd.N_slice HO_13.out
                            subst eo22
                            have p269 : 0 ≤ (x15_2 : Int) := of_decide_eq_true (by first | (with_reducible assumption) | assumption)
                            have q269 : x15_2 < (l2.length : Int) := of_decide_eq_true (by first | (with_reducible assumption) | assumption)
                            obtain ⟨ad269, e269, hx269_0⟩ := Kd.at_int HR2.out x15_2 p269 q269
                            cases e269
                            replace hx269_0 := (HB.out.cell (World.block_lt_of_cell? w _ hx269_0)).trans hx269_0
                            replace p269 := eq_true p269
                            replace q269 := eq_true q269
                            have p270 : 0 ≤ ((ji18) : Int) := of_decide_eq_true (by first | (with_reducible assumption) | assumption)
                            have q270 : (ji18) < (t266.length : Int) := of_decide_eq_true (by first | (with_reducible assumption) | assumption)
                            obtain ⟨ad270, A270_0, c270_0, e270, hx270_0, hl270_0, hi270_0⟩ := at_L2 (Kd.N_reads' HO_13.out).2.2 (ji18) p270 q270
                            cases e270
                            obtain ⟨ce270, hce270, hMe270, hcc270⟩ := Kd.N_get HO_13.out [] (ji18) p270 (by first | exact q270 | exact of_decide_eq_true (by first | (with_reducible assumption) | assumption) | (have e_ := (Kd.N_reads' HO_13.out).1; omega))
                            obtain ⟨ua270_0, uc270_0, rfl, ul270_0, ge270_0⟩ := Kd.FK_slice_open hMe270
                            have hv270_0 := hcc270 0 _ rfl
                            rw [Nat.add_zero, show ((Kd.slice 5 (Kd.int .u8))).sz = 1 from rfl, Nat.mul_one] at hv270_0
                            replace hv270_0 := Option.some.inj (hv270_0.symm.trans hx270_0)
                            injection hv270_0 with hva_ hvn_ hvc_
                            rw [hva_] at ge270_0
                            rw [hvc_] at ul270_0
                            have HL270_0 := Aside0.mk (show Kd.V (Kd.int .u8) 5 _ w.heap.size _ _ (rd_L2 t266 (ji18)) from Kd.V_mk ul270_0 ge270_0)
                            clear hva_ hvn_ hvc_ ge270_0 ul270_0
                            clear hcc270 hce270
                            have HR270_0 := Aside0.mk hi270_0
                            have HC270_0 := Aside0.mk hl270_0
                            clear hi270_0 hl270_0
                            replace p270 := eq_true p270
                            replace q270 := eq_true q270
                            go_wp2_with (first | ((with_reducible refine gate_builtin (b := .append) (xs := #[.tmp 50, .tmp 62]) rfl ?_); (try (refine gate_guard (by rfl) ?_; dsimp only)); at_builtin; refine Kd.N_append (Kd.slice 5 (Kd.int .u8)) (w0 := w) w.heap.size rfl (.tmp 50) (.tmp 62) 24 23 (.slice none 0 0) 24 rfl Try.underlying24 info23 rfl (by decide) (by omega) u14 x14_2 (rd_L2 t266 (ji18)) [.slice A270_0 (rd_L2 t266 (ji18)).length c270_0] (fun k_ => some k_ ≠ (.slice (some ad270) t266.length co22 : Value).ownBlock) (fun k_ => ((fun k_ => some k_ ≠ (.slice (some ad270) t266.length co22 : Value).ownBlock)) k_ ∧ some k_ ≠ (u14 : Value).ownBlock) rfl rfl ?aP (fun _ hk => hk) ?aF ?aO ?aB ?aS ?aL ?_; (case aP => exact (Kd.FK_slice_mk (Kd.V_reads' (Kd.V_mono (ok' := (fun k_ => ((fun k_ => some k_ ≠ (.slice (some ad270) t266.length co22 : Value).ownBlock)) k_ ∧ some k_ ≠ (u14 : Value).ownBlock)) (HL270_0.out) (fun k_ hk => ⟨hk.2, hk.1⟩))).2.1 (Kd.V_F (Kd.V_mono (ok' := (fun k_ => ((fun k_ => some k_ ≠ (.slice (some ad270) t266.length co22 : Value).ownBlock)) k_ ∧ some k_ ≠ (u14 : Value).ownBlock)) (HL270_0.out) (fun k_ hk => ⟨hk.2, hk.1⟩))))); (case aB => exact (by repeat (first | (with_reducible first | exact HB.out | apply below_alloc | apply pw_below_drewN | apply below_drew1) | exact HB.out))); (case aF => exact (fun k_ hk => Kd.fresh' (Kd.N_lt (by (with_reducible repeat (first | apply Kd.N_alloc | apply Kd.N_drewN | apply Kd.N_drew)); exact HO_13.out)) k_ hk)); (case aO => exact (by (with_reducible repeat (first | apply Kd.N_alloc | apply Kd.N_drewN | apply Kd.N_drew)); exact HO_14.out)); (case aS => exact (below_size (by repeat (first | (with_reducible first | exact HB.out | apply below_alloc | apply pw_below_drewN | apply below_drew1) | exact HB.out)))); (case aL => have := LMc21.out; omega); intro v272 w23 ho hb hg hat; rw [← Ny271.out] at ho; have n0_ := Aside0.mk (Kd.N_afterv (ok := (fun _ => True)) (by (with_reducible repeat (first | apply Kd.N_alloc | apply Kd.N_drewN | apply Kd.N_drew)); exact Kd.N_mono HO_13.out (fun _ hk => ⟨trivial, hk⟩)) hg hat); have n1_ := Aside0.mk (Kd.V_afterv (ok := (fun k_ => some k_ ≠ (.slice (some ad270) t266.length co22 : Value).ownBlock)) (by (with_reducible repeat (first | apply Kd.V_alloc | apply Kd.V_drewN | apply Kd.V_drew)); exact Kd.V_mono HL270_0.out (fun _ hk => ⟨hk.2, hk.1⟩)) hg hat); have n2_ := Aside0.mk (hb); have n3_ := Aside0.mk (ho); clear HO_13; clear HL270_0; clear HB; clear HO_14; have HO_13 := n0_; have HL270_0 := n1_; have HB := n2_; have HO273 := n3_; clear n0_ n1_ n2_ n3_; clear ho hb hg hat))
                            go_roundg k2
                            case measure => have := HJ6.out; have := HK2.out; omega
                            case rel => exact ⟨(y271), (wrap64 (x15_2 + 1)), (by first | rfl | (simp; done) | (simp [*]; done)), H', ⟨by have := HJ6.out; have := HK2.out; omega⟩, ⟨by (with_reducible repeat (first | apply Kd.N_alloc | apply Kd.N_drewN | apply Kd.N_drew)); exact Kd.N_mono HO_13.out (fun _ hk => hk.2)⟩, ⟨by (with_reducible repeat (first | apply Kd.N_alloc | apply Kd.N_drewN | apply Kd.N_drew)); exact HO273.out⟩, ⟨by repeat (first | (with_reducible first | exact HB.out | apply below_alloc | apply pw_below_drewN | apply below_drew1) | exact HB.out)⟩⟩
                          · rw [if_neg c21] at H
                            exact absurd H (by simp)
                        · rw [if_neg c20] at H
                          exact absurd H (by simp)
                      · rw [if_neg c19] at H
                        exact absurd H (by simp)
                  · rw [if_neg c16] at H
                    exact absurd H (by simp)
                · rw [if_neg c15] at H
                  have c15b0 : decide (0 < (t266.length : Int)) = false := decide_eq_false c15
                  have c15b1 : decide (0 < t266.length) = false := decide_eq_false (by omega)
                  clear c15
                  have H' := Aside0.mk H
                  clear H
                  obtain ⟨Ao24, co24, eo24⟩ := Kd.N_slice HO_13.out
                  subst eo24
                  go_wp2
                  go_meet
                  case rel => exact ⟨_, (x14_2), H', ⟨by have := HJ6.out; have := HK2.out; first | omega | exact Nat.le_refl _⟩, ⟨by (with_reducible repeat (first | apply Kd.N_alloc | apply Kd.N_drewN | apply Kd.N_drew)); exact HO_13.out⟩, ⟨by (with_reducible repeat (first | apply Kd.N_alloc | apply Kd.N_drewN | apply Kd.N_drew)); exact HO_14.out⟩, ⟨by repeat (first | (with_reducible first | exact HB.out | apply below_alloc | apply pw_below_drewN | apply below_drew1) | exact HB.out)⟩⟩
              · rw [if_neg c14] at H
                have c14b0 : decide (x15_2 < (l2.length : Int)) = false := decide_eq_false c14
                clear c14
                (first | rw [c14b0] | (simp only [i64_w, i32_w]; rw [c14b0]) | skip)
                have H' := Aside0.mk H
                clear H
                go_wp2
                go_meet
                case rel => exact ⟨_, (x14_2), H', ⟨by have := HJ6.out; have := HK2.out; first | omega | exact Nat.le_refl _⟩, ⟨by (with_reducible repeat (first | apply Kd.N_alloc | apply Kd.N_drewN | apply Kd.N_drew)); exact HO_13.out⟩, ⟨by (with_reducible repeat (first | apply Kd.N_alloc | apply Kd.N_drewN | apply Kd.N_drew)); exact HO_14.out⟩, ⟨by repeat (first | (with_reducible first | exact HB.out | apply below_alloc | apply pw_below_drewN | apply below_drew1) | exact HB.out)⟩⟩
        case rest =>
          clear HC12
          try clear c1
          try clear c2
          try clear p2
          try clear q2
          try clear hx2
          try clear c5
          try clear p6
          try clear c9
          try clear c9b0
          try clear c9b1
          try clear c10
          try clear c14
          try clear c14b0
          try clear c15
          try clear c15b0
          try clear c15b1
          try clear c16
          try clear c16b0
          try clear c17
          try clear c17b0
          try clear c17b1
          try clear c17b2
          try clear c19
          try clear c19b0
          try clear c20
          try clear c20b0
          try clear c21
          try clear hx269_0
          try clear hx270_0
          try clear p2
          try clear p269
          try clear p270
          try clear p6
          try clear q269
          try clear q270
          obtain ⟨kq, x14_11, HA, HJ11, HO_13, HO_14, HB⟩ := hcut
          cases kq with
          | zero => exact absurd HA.out (by simp [symbolonlaw14_ChunkWhole.j2])
          | succ kj11 =>
            have H := HA.out
            clear HA
            simp only [symbolonlaw14_ChunkWhole.j2] at H
            have H' := Aside0.mk H
            clear H
            obtain ⟨Ao25, co25, eo25⟩ := Kd.N_slice HO_13.out
            subst eo25
            go_wp2
            go_loopg [14, 16] kj11 (fun kq v14 v16 w' => ∃ (x14_3 : List (List Int)) (x16_3 : Int), v16 = .int .i64 x16_3 ∧ Aside0 (symbolonlaw14_ChunkWhole.l1 kq l1 a3 a4 t265 (Int.tmod (wrap64 (a0)) 60000) t266 x14_3 x16_3 = some r) ∧ Aside0 (kq ≤ kj11) ∧ Aside0 (Kd.N (Kd.slice 5 (Kd.int .u8)) 23 w' w.heap.size (fun k_ => some k_ ≠ (v14 : Value).ownBlock) (.slice Ao25 t266.length co25) t266) ∧ Aside0 (Kd.N (Kd.slice 5 (Kd.int .u8)) 23 w' w.heap.size (fun k_ => some k_ ≠ ((.slice Ao25 t266.length co25) : Value).ownBlock) v14 x14_3) ∧ Aside0 (Below w.heap.size w w'))
            case atStart => exact ⟨(x14_11), (wrap64 ((t266.length : Int) - 1)), (by first | rfl | (simp; done) | (simp [*]; done)), H', ⟨Nat.le_refl _⟩, ⟨by (with_reducible repeat (first | apply Kd.N_alloc | apply Kd.N_drewN | apply Kd.N_drew)); exact HO_13.out⟩, ⟨by (with_reducible repeat (first | apply Kd.N_alloc | apply Kd.N_drewN | apply Kd.N_drew)); exact HO_14.out⟩, ⟨by repeat (first | (with_reducible first | exact HB.out | apply below_alloc | apply pw_below_drewN | apply below_drew1) | exact HB.out)⟩⟩
            case round =>
              clear H'
              try clear c1
              try clear c2
              try clear p2
              try clear q2
              try clear hx2
              try clear c5
              try clear p6
              try clear c9
              try clear c9b0
              try clear c9b1
              try clear c10
              try clear c14
              try clear c14b0
              try clear c15
              try clear c15b0
              try clear c15b1
              try clear c16
              try clear c16b0
              try clear c17
              try clear c17b0
              try clear c17b1
              try clear c17b2
              try clear c19
              try clear c19b0
              try clear c20
              try clear c20b0
              try clear c21
              try clear hx269_0
              try clear hx270_0
              try clear p2
              try clear p269
              try clear p270
              try clear p6
              try clear q2
              try clear q269
              try clear q270
              obtain ⟨x14_3, x16_3, rfl, HA, HK3, HO_13, HO_14, HB⟩ := hrel
              cases gk with
              | zero => exact absurd HA.out (by simp [symbolonlaw14_ChunkWhole.l1])
              | succ k3 =>
                have H := HA.out
                clear HA
                simp only [symbolonlaw14_ChunkWhole.l1] at H
                by_cases c26 : x16_3 ≥ 0
                · rw [if_pos c26] at H
                  have c26b0 : decide (0 ≤ x16_3) = true := decide_eq_true c26
                  clear c26
                  by_cases c27 : 0 ≤ x16_3
                  · rw [if_pos c27] at H
                    have c27b0 : decide (0 ≤ x16_3) = true := decide_eq_true c27
                    clear c27
                    by_cases c28 : x16_3 < (t266.length : Int)
                    · rw [if_pos c28] at H
                      have c28b0 : decide (x16_3 < (t266.length : Int)) = true := decide_eq_true c28
                      clear c28
                      by_cases c29 : x14_3.length < 5864062014805
                      · rw [if_pos c29] at H
                        have LMc29 := Aside0.mk c29
                        clear c29
                        obtain ⟨y275, hy275⟩ : ∃ y_ : List (List Int), y_ = (x14_3 ++ [rd_L2 t266 x16_3]) := ⟨_, rfl⟩
                        replace H : (symbolonlaw14_ChunkWhole.l1 k3 l1 a3 a4 t265 (Int.tmod (wrap64 (a0)) 60000) t266 y275 (wrap64 (x16_3 - 1))) = some r := by first | (rw [hy275]; with_reducible exact H) | (have H2_ := (Option.bind_some _ _).symm.trans H; rw [hy275]; with_reducible exact H2_) | (have H2_ := (Option.bind_some _ _).symm.trans H; with_reducible exact H2_) | with_reducible exact H | (rw [hy275]; exact H) | exact H
                        have Ny275 := Aside0.mk hy275
                        clear hy275
                        have H' := Aside0.mk H
                        clear H
                        have p274 : 0 ≤ (x16_3 : Int) := of_decide_eq_true (by first | (with_reducible assumption) | assumption)
                        have q274 : x16_3 < (t266.length : Int) := of_decide_eq_true (by first | (with_reducible assumption) | assumption)
                        obtain ⟨ad274, A274_0, c274_0, e274, hx274_0, hl274_0, hi274_0⟩ := at_L2 (Kd.N_reads' HO_13.out).2.2 x16_3 p274 q274
                        cases e274
                        obtain ⟨ce274, hce274, hMe274, hcc274⟩ := Kd.N_get HO_13.out [] x16_3 p274 (by first | exact q274 | exact of_decide_eq_true (by first | (with_reducible assumption) | assumption) | (have e_ := (Kd.N_reads' HO_13.out).1; omega))
                        obtain ⟨ua274_0, uc274_0, rfl, ul274_0, ge274_0⟩ := Kd.FK_slice_open hMe274
                        have hv274_0 := hcc274 0 _ rfl
                        rw [Nat.add_zero, show ((Kd.slice 5 (Kd.int .u8))).sz = 1 from rfl, Nat.mul_one] at hv274_0
                        replace hv274_0 := Option.some.inj (hv274_0.symm.trans hx274_0)
                        injection hv274_0 with hva_ hvn_ hvc_
                        rw [hva_] at ge274_0
                        rw [hvc_] at ul274_0
                        have HL274_0 := Aside0.mk (show Kd.V (Kd.int .u8) 5 _ w.heap.size _ _ (rd_L2 t266 x16_3) from Kd.V_mk ul274_0 ge274_0)
                        clear hva_ hvn_ hvc_ ge274_0 ul274_0
                        clear hcc274 hce274
                        have HR274_0 := Aside0.mk hi274_0
                        have HC274_0 := Aside0.mk hl274_0
                        clear hi274_0 hl274_0
                        replace p274 := eq_true p274
                        replace q274 := eq_true q274
                        go_wp2_with (first | ((with_reducible refine gate_builtin (b := .append) (xs := #[.tmp 71, .tmp 76]) rfl ?_); (try (refine gate_guard (by rfl) ?_; dsimp only)); at_builtin; refine Kd.N_append (Kd.slice 5 (Kd.int .u8)) (w0 := w) w.heap.size rfl (.tmp 71) (.tmp 76) 24 23 (.slice none 0 0) 24 rfl Try.underlying24 info23 rfl (by decide) (by omega) u14 x14_3 (rd_L2 t266 x16_3) [.slice A274_0 (rd_L2 t266 x16_3).length c274_0] (fun k_ => some k_ ≠ (.slice (some ad274) t266.length co25 : Value).ownBlock) (fun k_ => ((fun k_ => some k_ ≠ (.slice (some ad274) t266.length co25 : Value).ownBlock)) k_ ∧ some k_ ≠ (u14 : Value).ownBlock) rfl rfl ?aP (fun _ hk => hk) ?aF ?aO ?aB ?aS ?aL ?_; (case aP => exact (Kd.FK_slice_mk (Kd.V_reads' (Kd.V_mono (ok' := (fun k_ => ((fun k_ => some k_ ≠ (.slice (some ad274) t266.length co25 : Value).ownBlock)) k_ ∧ some k_ ≠ (u14 : Value).ownBlock)) (HL274_0.out) (fun k_ hk => ⟨hk.2, hk.1⟩))).2.1 (Kd.V_F (Kd.V_mono (ok' := (fun k_ => ((fun k_ => some k_ ≠ (.slice (some ad274) t266.length co25 : Value).ownBlock)) k_ ∧ some k_ ≠ (u14 : Value).ownBlock)) (HL274_0.out) (fun k_ hk => ⟨hk.2, hk.1⟩))))); (case aB => exact (by repeat (first | (with_reducible first | exact HB.out | apply below_alloc | apply pw_below_drewN | apply below_drew1) | exact HB.out))); (case aF => exact (fun k_ hk => Kd.fresh' (Kd.N_lt (by (with_reducible repeat (first | apply Kd.N_alloc | apply Kd.N_drewN | apply Kd.N_drew)); exact HO_13.out)) k_ hk)); (case aO => exact (by (with_reducible repeat (first | apply Kd.N_alloc | apply Kd.N_drewN | apply Kd.N_drew)); exact HO_14.out)); (case aS => exact (below_size (by repeat (first | (with_reducible first | exact HB.out | apply below_alloc | apply pw_below_drewN | apply below_drew1) | exact HB.out)))); (case aL => have := LMc29.out; omega); intro v276 w30 ho hb hg hat; rw [← Ny275.out] at ho; have n0_ := Aside0.mk (Kd.N_afterv (ok := (fun _ => True)) (by (with_reducible repeat (first | apply Kd.N_alloc | apply Kd.N_drewN | apply Kd.N_drew)); exact Kd.N_mono HO_13.out (fun _ hk => ⟨trivial, hk⟩)) hg hat); have n1_ := Aside0.mk (Kd.V_afterv (ok := (fun k_ => some k_ ≠ (.slice (some ad274) t266.length co25 : Value).ownBlock)) (by (with_reducible repeat (first | apply Kd.V_alloc | apply Kd.V_drewN | apply Kd.V_drew)); exact Kd.V_mono HL274_0.out (fun _ hk => ⟨hk.2, hk.1⟩)) hg hat); have n2_ := Aside0.mk (hb); have n3_ := Aside0.mk (ho); clear HO_13; clear HL274_0; clear HB; clear HO_14; have HO_13 := n0_; have HL274_0 := n1_; have HB := n2_; have HO277 := n3_; clear n0_ n1_ n2_ n3_; clear ho hb hg hat))
                        go_roundg k3
                        case measure => have := HJ6.out; have := HJ11.out; have := HK3.out; omega
                        case rel => exact ⟨(y275), (wrap64 (x16_3 - 1)), (by first | rfl | (simp; done) | (simp [*]; done)), H', ⟨by have := HJ6.out; have := HJ11.out; have := HK3.out; omega⟩, ⟨by (with_reducible repeat (first | apply Kd.N_alloc | apply Kd.N_drewN | apply Kd.N_drew)); exact Kd.N_mono HO_13.out (fun _ hk => hk.2)⟩, ⟨by (with_reducible repeat (first | apply Kd.N_alloc | apply Kd.N_drewN | apply Kd.N_drew)); exact HO277.out⟩, ⟨by repeat (first | (with_reducible first | exact HB.out | apply below_alloc | apply pw_below_drewN | apply below_drew1) | exact HB.out)⟩⟩
                      · rw [if_neg c29] at H
                        exact absurd H (by simp)
                    · rw [if_neg c28] at H
                      exact absurd H (by simp)
                  · rw [if_neg c27] at H
                    exact absurd H (by simp)
                · rw [if_neg c26] at H
                  have c26b0 : decide (0 ≤ x16_3) = false := decide_eq_false c26
                  clear c26
                  replace H := Option.bind_eq_some_iff.mp H
                  obtain ⟨⟨t278, t279⟩, A310, H⟩ := H
                  replace H : (if (wrap64 ((l1.length : Int) + 1)) = 0 then (none) else ((chunk_Gather.f k3 (wrap64 ((Int.tmod (wrap64 (a0)) 60000) + (Int.tmod (wrap64 (a3)) (wrap64 ((l1.length : Int) + 1))))) (mn (wrap64 (a4)) (wrap64 ((l1.length : Int) - (Int.tmod (wrap64 (a3)) (wrap64 ((l1.length : Int) + 1)))))) x14_3).bind fun bt282 => (if t265 = true then (if t279 = true then ((symbolonref01_Same.f k3 t278 l1).bind fun t286 => (if t286 = true then (if bt282.2 = true then (if 0 ≤ (Int.tmod (wrap64 (a3)) (wrap64 ((l1.length : Int) + 1))) then (if (Int.tmod (wrap64 (a3)) (wrap64 ((l1.length : Int) + 1))) ≤ (wrap64 ((Int.tmod (wrap64 (a3)) (wrap64 ((l1.length : Int) + 1))) + (mn (wrap64 (a4)) (wrap64 ((l1.length : Int) - (Int.tmod (wrap64 (a3)) (wrap64 ((l1.length : Int) + 1)))))))) then (if (wrap64 ((Int.tmod (wrap64 (a3)) (wrap64 ((l1.length : Int) + 1))) + (mn (wrap64 (a4)) (wrap64 ((l1.length : Int) - (Int.tmod (wrap64 (a3)) (wrap64 ((l1.length : Int) + 1)))))))) ≤ (l1.length : Int) then ((symbolonref01_Same.f k3 bt282.1 ((l1.take ((wrap64 ((Int.tmod (wrap64 (a3)) (wrap64 ((l1.length : Int) + 1))) + (mn (wrap64 (a4)) (wrap64 ((l1.length : Int) - (Int.tmod (wrap64 (a3)) (wrap64 ((l1.length : Int) + 1)))))))) : Int).toNat).drop ((Int.tmod (wrap64 (a3)) (wrap64 ((l1.length : Int) + 1))) : Int).toNat)).bind fun t288 => (if t288 = true then (some ((t266.length : Int) == (wrap64 (Int.tdiv (wrap64 ((l1.length : Int) + 5)) 6)))) else (none))) else (none)) else (none)) else (none)) else (none)) else (none))) else (none)) else (none)))) = some r := H
                  have A31 := Aside0.mk A310
                  clear A310
                  by_cases c32 : (wrap64 ((l1.length : Int) + 1)) = 0
                  · rw [if_pos c32] at H
                    exact absurd H (by simp)
                  · rw [if_neg c32] at H
                    have c32b0 : ((wrap64 ((l1.length : Int) + 1)) == 0) = false := beq_eq_false_iff_ne.mpr c32
                    have c32b1 : ((wrap64 ((l1.length : Int) + 1)) != 0) = true := bne_iff_ne.mpr c32
                    obtain ⟨ji33, hji33⟩ : ∃ j_ : Int, (mn (wrap64 (a4)) (wrap64 ((l1.length : Int) - (Int.tmod (wrap64 (a3)) (wrap64 ((l1.length : Int) + 1)))))) = j_ := ⟨_, rfl⟩
                    replace H : ((chunk_Gather.f k3 (wrap64 ((Int.tmod (wrap64 (a0)) 60000) + (Int.tmod (wrap64 (a3)) (wrap64 ((l1.length : Int) + 1))))) (ji33) x14_3).bind fun bt282 => (if t265 = true then (if t279 = true then ((symbolonref01_Same.f k3 t278 l1).bind fun t286 => (if t286 = true then (if bt282.2 = true then (if 0 ≤ (Int.tmod (wrap64 (a3)) (wrap64 ((l1.length : Int) + 1))) then (if (Int.tmod (wrap64 (a3)) (wrap64 ((l1.length : Int) + 1))) ≤ (wrap64 ((Int.tmod (wrap64 (a3)) (wrap64 ((l1.length : Int) + 1))) + (ji33))) then (if (wrap64 ((Int.tmod (wrap64 (a3)) (wrap64 ((l1.length : Int) + 1))) + (ji33))) ≤ (l1.length : Int) then ((symbolonref01_Same.f k3 bt282.1 ((l1.take ((wrap64 ((Int.tmod (wrap64 (a3)) (wrap64 ((l1.length : Int) + 1))) + (ji33))) : Int).toNat).drop ((Int.tmod (wrap64 (a3)) (wrap64 ((l1.length : Int) + 1))) : Int).toNat)).bind fun t288 => (if t288 = true then (some ((t266.length : Int) == (wrap64 (Int.tdiv (wrap64 ((l1.length : Int) + 5)) 6)))) else (none))) else (none)) else (none)) else (none)) else (none)) else (none))) else (none)) else (none))) = some r := by first | (rw [hji33] at H; exact H) | (simp only [hji33] at H ⊢; exact H)
                    (try rw [hji33] at A31)
                    have hji33_ : (if (wrap64 ((l1.length : Int) - (Int.tmod (wrap64 (a3)) (wrap64 ((l1.length : Int) + 1))))) < (wrap64 (a4)) then (wrap64 ((l1.length : Int) - (Int.tmod (wrap64 (a3)) (wrap64 ((l1.length : Int) + 1))))) else (wrap64 (a4))) = ji33 := hji33
                    replace H := Option.bind_eq_some_iff.mp H
                    obtain ⟨⟨t282, t283⟩, A340, H⟩ := H
                    replace H : (if t265 = true then (if t279 = true then ((symbolonref01_Same.f k3 t278 l1).bind fun t286 => (if t286 = true then (if t283 = true then (if 0 ≤ (Int.tmod (wrap64 (a3)) (wrap64 ((l1.length : Int) + 1))) then (if (Int.tmod (wrap64 (a3)) (wrap64 ((l1.length : Int) + 1))) ≤ (wrap64 ((Int.tmod (wrap64 (a3)) (wrap64 ((l1.length : Int) + 1))) + (ji33))) then (if (wrap64 ((Int.tmod (wrap64 (a3)) (wrap64 ((l1.length : Int) + 1))) + (ji33))) ≤ (l1.length : Int) then ((symbolonref01_Same.f k3 t282 ((l1.take ((wrap64 ((Int.tmod (wrap64 (a3)) (wrap64 ((l1.length : Int) + 1))) + (ji33))) : Int).toNat).drop ((Int.tmod (wrap64 (a3)) (wrap64 ((l1.length : Int) + 1))) : Int).toNat)).bind fun t288 => (if t288 = true then (some ((t266.length : Int) == (wrap64 (Int.tdiv (wrap64 ((l1.length : Int) + 5)) 6)))) else (none))) else (none)) else (none)) else (none)) else (none)) else (none))) else (none)) else (none)) = some r := H
                    have A34 := Aside0.mk A340
                    clear A340
                    by_cases c35 : t265 = true
                    · subst c35
                      have H1 : (if t279 = true then ((symbolonref01_Same.f k3 t278 l1).bind fun t286 => (if t286 = true then (if t283 = true then (if 0 ≤ (Int.tmod (wrap64 (a3)) (wrap64 ((l1.length : Int) + 1))) then (if (Int.tmod (wrap64 (a3)) (wrap64 ((l1.length : Int) + 1))) ≤ (wrap64 ((Int.tmod (wrap64 (a3)) (wrap64 ((l1.length : Int) + 1))) + (ji33))) then (if (wrap64 ((Int.tmod (wrap64 (a3)) (wrap64 ((l1.length : Int) + 1))) + (ji33))) ≤ (l1.length : Int) then ((symbolonref01_Same.f k3 t282 ((l1.take ((wrap64 ((Int.tmod (wrap64 (a3)) (wrap64 ((l1.length : Int) + 1))) + (ji33))) : Int).toNat).drop ((Int.tmod (wrap64 (a3)) (wrap64 ((l1.length : Int) + 1))) : Int).toNat)).bind fun t288 => (if t288 = true then (some ((t266.length : Int) == (wrap64 (Int.tdiv (wrap64 ((l1.length : Int) + 5)) 6)))) else (none))) else (none)) else (none)) else (none)) else (none)) else (none))) else (none)) = some r := by rw [if_pos rfl] at H; exact H
                      clear H
                      have H := H1
                      clear H1
                      by_cases c36 : t279 = true
                      · subst c36
                        have H1 : ((symbolonref01_Same.f k3 t278 l1).bind fun t286 => (if t286 = true then (if t283 = true then (if 0 ≤ (Int.tmod (wrap64 (a3)) (wrap64 ((l1.length : Int) + 1))) then (if (Int.tmod (wrap64 (a3)) (wrap64 ((l1.length : Int) + 1))) ≤ (wrap64 ((Int.tmod (wrap64 (a3)) (wrap64 ((l1.length : Int) + 1))) + (ji33))) then (if (wrap64 ((Int.tmod (wrap64 (a3)) (wrap64 ((l1.length : Int) + 1))) + (ji33))) ≤ (l1.length : Int) then ((symbolonref01_Same.f k3 t282 ((l1.take ((wrap64 ((Int.tmod (wrap64 (a3)) (wrap64 ((l1.length : Int) + 1))) + (ji33))) : Int).toNat).drop ((Int.tmod (wrap64 (a3)) (wrap64 ((l1.length : Int) + 1))) : Int).toNat)).bind fun t288 => (if t288 = true then (some ((t266.length : Int) == (wrap64 (Int.tdiv (wrap64 ((l1.length : Int) + 5)) 6)))) else (none))) else (none)) else (none)) else (none)) else (none)) else (none))) = some r := by rw [if_pos rfl] at H; exact H
                        clear H
                        have H := H1
                        clear H1
                        replace H := Option.bind_eq_some_iff.mp H
                        obtain ⟨t286, A370, H⟩ := H
                        replace H : (if t286 = true then (if t283 = true then (if 0 ≤ (Int.tmod (wrap64 (a3)) (wrap64 ((l1.length : Int) + 1))) then (if (Int.tmod (wrap64 (a3)) (wrap64 ((l1.length : Int) + 1))) ≤ (wrap64 ((Int.tmod (wrap64 (a3)) (wrap64 ((l1.length : Int) + 1))) + (ji33))) then (if (wrap64 ((Int.tmod (wrap64 (a3)) (wrap64 ((l1.length : Int) + 1))) + (ji33))) ≤ (l1.length : Int) then ((symbolonref01_Same.f k3 t282 ((l1.take ((wrap64 ((Int.tmod (wrap64 (a3)) (wrap64 ((l1.length : Int) + 1))) + (ji33))) : Int).toNat).drop ((Int.tmod (wrap64 (a3)) (wrap64 ((l1.length : Int) + 1))) : Int).toNat)).bind fun t288 => (if t288 = true then (some ((t266.length : Int) == (wrap64 (Int.tdiv (wrap64 ((l1.length : Int) + 5)) 6)))) else (none))) else (none)) else (none)) else (none)) else (none)) else (none)) = some r := H
                        have A37 := Aside0.mk A370
                        clear A370
                        by_cases c38 : t286 = true
                        · subst c38
                          have H1 : (if t283 = true then (if 0 ≤ (Int.tmod (wrap64 (a3)) (wrap64 ((l1.length : Int) + 1))) then (if (Int.tmod (wrap64 (a3)) (wrap64 ((l1.length : Int) + 1))) ≤ (wrap64 ((Int.tmod (wrap64 (a3)) (wrap64 ((l1.length : Int) + 1))) + (ji33))) then (if (wrap64 ((Int.tmod (wrap64 (a3)) (wrap64 ((l1.length : Int) + 1))) + (ji33))) ≤ (l1.length : Int) then ((symbolonref01_Same.f k3 t282 ((l1.take ((wrap64 ((Int.tmod (wrap64 (a3)) (wrap64 ((l1.length : Int) + 1))) + (ji33))) : Int).toNat).drop ((Int.tmod (wrap64 (a3)) (wrap64 ((l1.length : Int) + 1))) : Int).toNat)).bind fun t288 => (if t288 = true then (some ((t266.length : Int) == (wrap64 (Int.tdiv (wrap64 ((l1.length : Int) + 5)) 6)))) else (none))) else (none)) else (none)) else (none)) else (none)) = some r := by rw [if_pos rfl] at H; exact H
                          clear H
                          have H := H1
                          clear H1
                          by_cases c39 : t283 = true
                          · subst c39
                            have H1 : (if 0 ≤ (Int.tmod (wrap64 (a3)) (wrap64 ((l1.length : Int) + 1))) then (if (Int.tmod (wrap64 (a3)) (wrap64 ((l1.length : Int) + 1))) ≤ (wrap64 ((Int.tmod (wrap64 (a3)) (wrap64 ((l1.length : Int) + 1))) + (ji33))) then (if (wrap64 ((Int.tmod (wrap64 (a3)) (wrap64 ((l1.length : Int) + 1))) + (ji33))) ≤ (l1.length : Int) then ((symbolonref01_Same.f k3 t282 ((l1.take ((wrap64 ((Int.tmod (wrap64 (a3)) (wrap64 ((l1.length : Int) + 1))) + (ji33))) : Int).toNat).drop ((Int.tmod (wrap64 (a3)) (wrap64 ((l1.length : Int) + 1))) : Int).toNat)).bind fun t288 => (if t288 = true then (some ((t266.length : Int) == (wrap64 (Int.tdiv (wrap64 ((l1.length : Int) + 5)) 6)))) else (none))) else (none)) else (none)) else (none)) = some r := by rw [if_pos rfl] at H; exact H
                            clear H
                            have H := H1
                            clear H1
                            obtain ⟨ji40, hji40⟩ : ∃ j_ : Int, (Int.tmod (wrap64 (a3)) (wrap64 ((l1.length : Int) + 1))) = j_ := ⟨_, rfl⟩
                            have hji33_bji40 : (if (wrap64 ((l1.length : Int) - (ji40))) < (wrap64 (a4)) then (wrap64 ((l1.length : Int) - (ji40))) else (wrap64 (a4))) = ji33 := by rw [← hji40]; exact hji33_
                            replace H : (if 0 ≤ (ji40) then (if (ji40) ≤ (wrap64 ((ji40) + (ji33))) then (if (wrap64 ((ji40) + (ji33))) ≤ (l1.length : Int) then ((symbolonref01_Same.f k3 t282 ((l1.take ((wrap64 ((ji40) + (ji33))) : Int).toNat).drop ((ji40) : Int).toNat)).bind fun t288 => (if t288 = true then (some ((t266.length : Int) == (wrap64 (Int.tdiv (wrap64 ((l1.length : Int) + 5)) 6)))) else (none))) else (none)) else (none)) else (none)) = some r := by first | (rw [hji40] at H; exact H) | (simp only [hji40] at H ⊢; exact H)
                            (try rw [hji40] at A31)
                            (try rw [hji40] at A34)
                            (try rw [hji40] at A37)
                            by_cases c41 : 0 ≤ (ji40)
                            · rw [if_pos c41] at H
                              have c41b0 := eq_true c41
                              have c41b1 : decide (0 ≤ (ji40)) = true := decide_eq_true c41
                              clear c41
                              by_cases c42 : (ji40) ≤ (wrap64 ((ji40) + (ji33)))
                              · rw [if_pos c42] at H
                                have c42b0 := eq_true c42
                                have c42b1 : decide ((ji40) ≤ (wrap64 ((ji40) + (ji33)))) = true := decide_eq_true c42
                                by_cases c43 : (wrap64 ((ji40) + (ji33))) ≤ (l1.length : Int)
                                · rw [if_pos c43] at H
                                  have c43b0 := eq_true c43
                                  have c43b1 : decide ((wrap64 ((ji40) + (ji33))) ≤ (l1.length : Int)) = true := decide_eq_true c43
                                  replace H := Option.bind_eq_some_iff.mp H
                                  obtain ⟨t288, A440, H⟩ := H
                                  replace H : (if t288 = true then (some ((t266.length : Int) == (wrap64 (Int.tdiv (wrap64 ((l1.length : Int) + 5)) 6)))) else (none)) = some r := H
                                  have A44 := Aside0.mk A440
                                  clear A440
                                  by_cases c45 : t288 = true
                                  · subst c45
                                    have H1 : (some ((t266.length : Int) == (wrap64 (Int.tdiv (wrap64 ((l1.length : Int) + 5)) 6)))) = some r := by rw [if_pos rfl] at H; exact H
                                    clear H
                                    have H := H1
                                    clear H1
                                    obtain rfl := Option.some.inj H
                                    obtain ⟨Ao46, co46, eo46⟩ := Kd.N_slice HO_14.out
                                    subst eo46
                                    go_wp2_with (first | ((with_reducible refine gate_callee (f := 14) rfl ?_); refine goesL_ (some 83) rfl rfl Try.func14 (by kernel_rfl) rfl #[.int .i64 (Int.tmod (wrap64 (a0)) 60000), .int .i64 (l1.length : Int), .slice Ao46 x14_3.length co46] rfl (by (try simp only [List.map_toArray, List.map_cons, List.map_nil]); first | done | rfl | (simp only [List.length_drop, List.length_take]; rfl)) ?_; (with_reducible refine (chunk_Gather.calls k3 (Int.tmod (wrap64 (a0)) 60000) (l1.length : Int) _ _ x14_3 t278 true _ ?side1 ?side2 A31.out).mono ?_); (case side1 => repeat (first | exact (Kd.N_reads' HO_14.out).2.2 | (with_reducible refine Kd.C_alloc ?_ _) | (with_reducible refine Kd.C_drewN ?_ _) | (with_reducible refine Kd.C_drew ?_))); (case side2 => exact (Kd.N_reads' HO_14.out).2.1); rintro e w47 ⟨v280, rfl, ho0, hb⟩; refine ⟨_, rfl, ?_⟩; have n0_ := Aside0.mk (Kd.N_elder' (by (with_reducible repeat (first | apply Kd.N_alloc | apply Kd.N_drewN | apply Kd.N_drew)); exact HO_13.out) (Kd.R_base ho0) hb); have n1_ := Aside0.mk (Kd.N_elder' (by (with_reducible repeat (first | apply Kd.N_alloc | apply Kd.N_drewN | apply Kd.N_drew)); exact HO_14.out) (Kd.R_base ho0) hb); have n2_ := Aside0.mk (Kd.R_lower ho0 (below_size (by repeat (first | (with_reducible first | exact HB.out | apply below_alloc | apply pw_below_drewN | apply below_drew1) | exact HB.out)))); have n3_ := Aside0.mk (below_step (by repeat (first | (with_reducible first | exact HB.out | apply below_alloc | apply pw_below_drewN | apply below_drew1) | exact HB.out)) hb); clear HO_13; clear HO_14; clear HB; have HO_13 := n0_; have HO_14 := n1_; have HO281 := n2_; have HB := n3_; clear n0_ n1_ n2_ n3_; (try clear hb); (try clear hb2); (try clear hk); (try clear hi); (try clear ho0)) | ((with_reducible refine gate_callee (f := 14) rfl ?_); refine goesL_ (some 105) rfl rfl Try.func14 (by kernel_rfl) rfl #[.int .i64 (wrap64 ((Int.tmod (wrap64 (a0)) 60000) + (ji40))), .int .i64 ji33, .slice Ao46 x14_3.length co46] rfl (by (try simp only [List.map_toArray, List.map_cons, List.map_nil]); first | done | (simp only [hji33, hji40]; rfl) | rfl | (simp only [List.length_drop, List.length_take]; rfl)) ?_; (with_reducible refine (chunk_Gather.calls k3 (wrap64 ((Int.tmod (wrap64 (a0)) 60000) + (ji40))) ji33 _ _ x14_3 t282 true _ ?side1 ?side2 A34.out).mono ?_); (case side1 => repeat (first | exact (Kd.N_reads' HO_14.out).2.2 | (with_reducible refine Kd.C_alloc ?_ _) | (with_reducible refine Kd.C_drewN ?_ _) | (with_reducible refine Kd.C_drew ?_))); (case side2 => exact (Kd.N_reads' HO_14.out).2.1); rintro e w48 ⟨v284, rfl, ho0, hb⟩; refine ⟨_, rfl, ?_⟩; have n0_ := Aside0.mk (Kd.N_elder' (by (with_reducible repeat (first | apply Kd.N_alloc | apply Kd.N_drewN | apply Kd.N_drew)); exact HO_13.out) (Kd.R_base ho0) hb); have n1_ := Aside0.mk (Kd.N_elder' (by (with_reducible repeat (first | apply Kd.N_alloc | apply Kd.N_drewN | apply Kd.N_drew)); exact HO_14.out) (Kd.R_base ho0) hb); have n2_ := Aside0.mk (Kd.R_elder' (by (with_reducible repeat (first | apply Kd.R_alloc | apply Kd.R_drewN | apply Kd.R_drew)); exact HO281.out) (Kd.R_base ho0) hb); have n3_ := Aside0.mk (Kd.R_lower (Kd.R_new' ho0 (Kd.R_lt (by (with_reducible repeat (first | apply Kd.R_alloc | apply Kd.R_drewN | apply Kd.R_drew)); exact HO281.out))) (below_size (by repeat (first | (with_reducible first | exact HB.out | apply below_alloc | apply pw_below_drewN | apply below_drew1) | exact HB.out)))); have n4_ := Aside0.mk (below_step (by repeat (first | (with_reducible first | exact HB.out | apply below_alloc | apply pw_below_drewN | apply below_drew1) | exact HB.out)) hb); clear HO_13; clear HO_14; clear HO281; clear HB; have HO_13 := n0_; have HO_14 := n1_; have HO281 := n2_; have HO285 := n3_; have HB := n4_; clear n0_ n1_ n2_ n3_ n4_; (try clear hb); (try clear hb2); (try clear hk); (try clear hi); (try clear ho0); obtain ⟨Ao49, co49, eo49⟩ := Kd.R_slice HO281.out; subst eo49) | (go_at_call 18; (with_reducible refine (symbolonref01_Same.calls k3 _ _ t278 _ _ l1 true _ ?side1 ?side2 ?side3 ?side4 A37.out).mono ?_); (case side1 => repeat (first | exact (Kd.R_reads' HO281.out).2.2 | (with_reducible refine Kd.C_alloc ?_ _) | (with_reducible refine Kd.C_drewN ?_ _) | (with_reducible refine Kd.C_drew ?_))); (case side2 => exact (Kd.R_reads' HO281.out).2.1); (case side3 => repeat (first | exact (Kd.C_below HR1.out HB.out) | (with_reducible refine Kd.C_alloc ?_ _) | (with_reducible refine Kd.C_drewN ?_ _) | (with_reducible refine Kd.C_drew ?_))); (case side4 => exact HC1.out); rintro e w' ⟨rfl, ⟨nd, rfl⟩⟩; obtain ⟨i050, hi050, _, hsz50, _⟩ := info_parts info40; obtain ⟨A50, hcut50, hA50, hC50⟩ := print_mid_of (P := Try.prog) (Value.int .u64) 0 22 40 .i64 .i64 Try.underlying22 hi050 hsz50 A1 c1 l1 (ji40) (wrap64 ((ji40) + (ji33))) (of_decide_eq_true (by first | (with_reducible assumption) | assumption)) (by first | omega | exact of_decide_eq_true (by first | (with_reducible assumption) | assumption)) (of_decide_eq_true (by first | (with_reducible assumption) | assumption)) HC1.out; have HR287 := Aside0.mk (Kd.C_of_reads (h1 := fun _ => rfl) (hA50 _ (Kd.reads_of_C HR1.out))); have HC287 := Aside0.mk hC50; clear hA50 hC50 hi050 hsz50; obtain ⟨Ao51, co51, eo51⟩ := Kd.R_slice HO285.out; subst eo51) | (go_at_call 18; (try rw [show ∀ (A_ : Option Addr) (c_ : Nat), (Value.slice A_ (((wrap64 ((ji40) + (ji33))) : Int).toNat - ((ji40) : Int).toNat) c_ : Value) = .slice A_ ((l1.take ((wrap64 ((ji40) + (ji33))) : Int).toNat).drop ((ji40) : Int).toNat).length c_ from fun A_ c_ => by rw [List.length_drop, List.length_take, Nat.min_eq_left (by have h_ : ((wrap64 ((ji40) + (ji33))) : Int) ≤ (l1.length : Int) := of_decide_eq_true (by first | (with_reducible assumption) | assumption); omega)]]); (with_reducible refine (symbolonref01_Same.calls k3 _ _ t282 _ _ ((l1.take ((wrap64 ((ji40) + (ji33))) : Int).toNat).drop ((ji40) : Int).toNat) true _ ?side1 ?side2 ?side3 ?side4 A44.out).mono ?_); (case side1 => repeat (first | exact (Kd.R_reads' HO285.out).2.2 | (with_reducible refine Kd.C_alloc ?_ _) | (with_reducible refine Kd.C_drewN ?_ _) | (with_reducible refine Kd.C_drew ?_))); (case side2 => exact (Kd.R_reads' HO285.out).2.1); (case side3 => repeat (first | exact (Kd.C_below HR287.out (by repeat (first | (with_reducible first | exact HB.out | apply below_alloc | apply pw_below_drewN | apply below_drew1) | exact HB.out))) | (with_reducible refine Kd.C_alloc ?_ _) | (with_reducible refine Kd.C_drewN ?_ _) | (with_reducible refine Kd.C_drew ?_))); (case side4 => exact HC287.out); rintro e w' ⟨rfl, ⟨nd, rfl⟩⟩))
                                    go_ret
                                    exact ⟨by first | rfl | (simp [errW_none, errW_some] <;> rfl) | (simp only [← hji33, ← hji40]; first | rfl | (simp [errW_none, errW_some] <;> rfl)) | (simp [*, errW_none, errW_some] <;> rfl), by repeat (first | (with_reducible first | exact HB.out | apply below_alloc | apply pw_below_drewN | apply below_drew1) | exact HB.out)⟩
                                  · replace c45 := Bool.eq_false_iff.mpr c45
                                    subst c45
                                    have H1 : (none) = some r := by rw [if_neg (show ¬ (false = true) by decide)] at H; exact H
                                    clear H
                                    have H := H1
                                    clear H1
                                    exact absurd H (by simp)
                                · rw [if_neg c43] at H
                                  exact absurd H (by simp)
                              · rw [if_neg c42] at H
                                exact absurd H (by simp)
                            · rw [if_neg c41] at H
                              exact absurd H (by simp)
                          · replace c39 := Bool.eq_false_iff.mpr c39
                            subst c39
                            have H1 : (none) = some r := by rw [if_neg (show ¬ (false = true) by decide)] at H; exact H
                            clear H
                            have H := H1
                            clear H1
                            exact absurd H (by simp)
                        · replace c38 := Bool.eq_false_iff.mpr c38
                          subst c38
                          have H1 : (none) = some r := by rw [if_neg (show ¬ (false = true) by decide)] at H; exact H
                          clear H
                          have H := H1
                          clear H1
                          exact absurd H (by simp)
                      · replace c36 := Bool.eq_false_iff.mpr c36
                        subst c36
                        have H1 : (none) = some r := by rw [if_neg (show ¬ (false = true) by decide)] at H; exact H
                        clear H
                        have H := H1
                        clear H1
                        exact absurd H (by simp)
                    · replace c35 := Bool.eq_false_iff.mpr c35
                      subst c35
                      have H1 : (none) = some r := by rw [if_neg (show ¬ (false = true) by decide)] at H; exact H
                      clear H
                      have H := H1
                      clear H1
                      exact absurd H (by simp)

/-- THE ONE PURE STATEMENT of symbolonlaw14_ChunkWhole. -/
def symbolonlaw14_ChunkWhole.Pure : Prop := ∀ (a0 : Int) (l1 : List Int) (l2 : List Int) (a3 : Int) (a4 : Int), ((Lit.int .u16 a0).wf = true) → (l1.length ≤ maxLen) → (l1.length * 8 ≤ 140737488351232) → (∀ b ∈ l1, (Lit.int .u64 b).wf = true) → (l2.length ≤ maxLen) → (l2.length * 1 ≤ 140737488351232) → (∀ b ∈ l2, (Lit.int .u8 b).wf = true) → ((Lit.int .u8 a3).wf = true) → ((Lit.int .u8 a4).wf = true) → ∃ k, symbolonlaw14_ChunkWhole.f k a0 l1 l2 a3 a4 = some true
theorem symbolonlaw14_ChunkWhole.walk (P : symbolonlaw14_ChunkWhole.Pure) (a0 : Int) (A1 : Option Addr) (c1 : Nat) (l1 : List Int) (A2 : Option Addr) (c2 : Nat) (l2 : List Int) (a3 : Int) (a4 : Int) (w : World) (hr1 : Kd.C (Kd.int .u64) w A1 l1.length l1) (hc1 : l1.length ≤ c1) (hr2 : Kd.C (Kd.int .u8) w A2 l2.length l2) (hc2 : l2.length ≤ c2) (w0 : (Lit.int .u16 a0).wf = true) (m1 : l1.length ≤ maxLen) (y1 : l1.length * 8 ≤ 140737488351232) (v1 : ∀ b ∈ l1, (Lit.int .u64 b).wf = true) (m2 : l2.length ≤ maxLen) (y2 : l2.length * 1 ≤ 140737488351232) (v2 : ∀ b ∈ l2, (Lit.int .u8 b).wf = true) (w3 : (Lit.int .u8 a3).wf = true) (w4 : (Lit.int .u8 a4).wf = true) :
    Calls Try.prog 5 #[.int .u16 a0, .slice A1 l1.length c1, .slice A2 l2.length c2, .int .u8 a3, .int .u8 a4] w fun e w' => e = .returned (.bool true) ∧ Below w.heap.size w w' := by
  obtain ⟨k, h⟩ := P a0 l1 l2 a3 a4 w0 m1 y1 v1 m2 y2 v2 w3 w4
  refine (symbolonlaw14_ChunkWhole.calls k a0 A1 c1 l1 A2 c2 l2 a3 a4 true w hr1 hc1 hr2 hc2 h).mono ?_
  rintro e w' ⟨rfl, hd⟩
  exact ⟨rfl, hd⟩

end Go.Proofs.Ytfkgacjiccgdfaa.Q
