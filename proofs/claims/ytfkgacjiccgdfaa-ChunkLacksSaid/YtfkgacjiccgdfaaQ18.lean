-- Laid by a program of this session (wip/myprint.py) in the form of the kit's print; a text of this claim, checked by Lean like any other.
import Derived.Test.YtfkgacjiccgdfaaQ0
import Derived.Test.YtfkgacjiccgdfaaQ2
import Derived.Test.YtfkgacjiccgdfaaQ4
import Derived.Test.YtfkgacjiccgdfaaQ6
import Derived.Test.YtfkgacjiccgdfaaQ7
namespace Go.Proofs.Ytfkgacjiccgdfaa.Q
open Go.RowKit Go.Proofs.YtfkgacjiccgdfaaW.PrintWords Go.Proofs.YtfkgacjiccgdfaaW.PrintLast Go.Proofs.YtfkgacjiccgdfaaW.PrintMore
attribute [local go_sem] max2_int min2_int max_two min_two max_three min_three max_four min_four   -- for this text's walks alone
set_option linter.unusedVariables false
set_option linter.unusedSimpArgs false

/-! ### symbolonlaw14_ChunkLacks: function 6 -/
def symbolonlaw14_ChunkLacks.j0 : Nat → List Int → Int → Bool → Int → Bool → Option (Bool)
  | 0, _, _, _, _, _ => none
  | k + 1, x1, x2, x7, x8, x30 => if x30 = true then (some x7) else ((chunk_Cut.f x8 x1).bind fun t290 => (if (t290.length : Int) = 0 then (none) else ((some (([] : List (List Int)) : List (List Int))).bind fun y293 => (if 0 ≤ (Int.tmod (wrap64 (x2)) (t290.length : Int)) then (if (Int.tmod (wrap64 (x2)) (t290.length : Int)) ≤ (t290.length : Int) then ((some (t290.take ((Int.tmod (wrap64 (x2)) (t290.length : Int)) : Int).toNat : List (List Int))).bind fun y296 => (if y293.length + y296.length < 5864062014805 then ((some (y293 ++ y296 : List (List Int))).bind fun y301 => (if 0 ≤ (wrap64 ((Int.tmod (wrap64 (x2)) (t290.length : Int)) + 1)) then (if (wrap64 ((Int.tmod (wrap64 (x2)) (t290.length : Int)) + 1)) ≤ (t290.length : Int) then ((some (t290.drop ((wrap64 ((Int.tmod (wrap64 (x2)) (t290.length : Int)) + 1)) : Int).toNat : List (List Int))).bind fun y304 => (if y301.length + y304.length < 5864062014805 then ((some (y301 ++ y304 : List (List Int))).bind fun y309 => ((chunk_Gather.f k x8 (x1.length : Int) y309).bind fun bt312 => ((chunk_Gather.f k x8 (mn (wrap64 (6 * (Int.tmod (wrap64 (x2)) (t290.length : Int)))) (x1.length : Int)) y309).bind fun bt316 => ((chunk_Gather.f k (wrap64 (x8 + (mn (wrap64 ((wrap64 (6 * (Int.tmod (wrap64 (x2)) (t290.length : Int)))) + 6)) (x1.length : Int)))) (wrap64 ((x1.length : Int) - (mn (wrap64 ((wrap64 (6 * (Int.tmod (wrap64 (x2)) (t290.length : Int)))) + 6)) (x1.length : Int)))) y309).bind fun bt320 => (if x7 = true then (if bt312.2 = true then (none) else (if (bt312.1.length : Int) = 0 then (if bt316.2 = true then (if 0 ≤ (mn (wrap64 (6 * (Int.tmod (wrap64 (x2)) (t290.length : Int)))) (x1.length : Int)) then (if (mn (wrap64 (6 * (Int.tmod (wrap64 (x2)) (t290.length : Int)))) (x1.length : Int)) ≤ (x1.length : Int) then ((symbolonref01_Same.f k bt316.1 (x1.take ((mn (wrap64 (6 * (Int.tmod (wrap64 (x2)) (t290.length : Int)))) (x1.length : Int)) : Int).toNat)).bind fun t325 => (if t325 = true then (if bt320.2 = true then (if 0 ≤ (mn (wrap64 ((wrap64 (6 * (Int.tmod (wrap64 (x2)) (t290.length : Int)))) + 6)) (x1.length : Int)) then (if (mn (wrap64 ((wrap64 (6 * (Int.tmod (wrap64 (x2)) (t290.length : Int)))) + 6)) (x1.length : Int)) ≤ (x1.length : Int) then ((symbolonref01_Same.f k bt320.1 (x1.drop ((mn (wrap64 ((wrap64 (6 * (Int.tmod (wrap64 (x2)) (t290.length : Int)))) + 6)) (x1.length : Int)) : Int).toNat)).bind fun t327 => (some t327)) else (none)) else (none)) else (none)) else (none))) else (none)) else (none)) else (none)) else (none))) else (none)))))) else (none))) else (none)) else (none))) else (none))) else (none)) else (none)))))
def symbolonlaw14_ChunkLacks.f (k : Nat) (a0 : Int) (l1 : List Int) (a2 : Int) : Option (Bool) := (symbolonlaw14_head.f k).bind fun t289 => (if (l1.length : Int) > 900 then (symbolonlaw14_ChunkLacks.j0 k l1 a2 t289 (Int.tmod (wrap64 (a0)) 60000) true) else (symbolonlaw14_ChunkLacks.j0 k l1 a2 t289 (Int.tmod (wrap64 (a0)) 60000) ((l1.length : Int) == 0)))
theorem symbolonlaw14_ChunkLacks.mono_l : ∀ k, (∀ y0 y1 y2 y3 y4, LeO (symbolonlaw14_ChunkLacks.j0 k y0 y1 y2 y3 y4) (symbolonlaw14_ChunkLacks.j0 (k + 1) y0 y1 y2 y3 y4))
  | 0 => fun _ _ _ _ _ r h => by simp [symbolonlaw14_ChunkLacks.j0] at h
  | k + 1 => by
    have ih0 := symbolonlaw14_ChunkLacks.mono_l k
    · intro y0 y1 y2 y3 y4
      unfold symbolonlaw14_ChunkLacks.j0
      repeat' first
      | (with_reducible exact ih0 _ _ _ _ _)
      | (with_reducible exact chunk_Gather.mono _ _ _ _)
      | (with_reducible exact symbolonlaw14_head.mono _)
      | (with_reducible exact symbolonref01_Same.mono _ _ _)
      | (with_reducible exact LeO.refl _)
      | (with_reducible exact LeO.none _)
      | (with_reducible refine LeO.ite ?_ ?_)
      | (with_reducible refine LeO.bind ?_ (fun _ => ?_))
      | exact ih0 _ _ _ _ _
      | exact chunk_Gather.mono _ _ _ _
      | exact symbolonlaw14_head.mono _
      | exact symbolonref01_Same.mono _ _ _
      | exact LeO.none _
      | refine LeO.ite ?_ ?_
      | refine LeO.bind ?_ (fun _ => ?_)
theorem symbolonlaw14_ChunkLacks.mono : ∀ a0 a1 a2 k, LeO (symbolonlaw14_ChunkLacks.f k a0 a1 a2) (symbolonlaw14_ChunkLacks.f (k + 1) a0 a1 a2) := by
  intro a0 a1 a2 k
  have ih0 := symbolonlaw14_ChunkLacks.mono_l k
  unfold symbolonlaw14_ChunkLacks.f
  repeat' first
      | (with_reducible exact ih0 _ _ _ _ _)
      | (with_reducible exact chunk_Gather.mono _ _ _ _)
      | (with_reducible exact symbolonlaw14_head.mono _)
      | (with_reducible exact symbolonref01_Same.mono _ _ _)
      | (with_reducible exact LeO.refl _)
      | (with_reducible exact LeO.none _)
      | (with_reducible refine LeO.ite ?_ ?_)
      | (with_reducible refine LeO.bind ?_ (fun _ => ?_))
      | exact ih0 _ _ _ _ _
      | exact chunk_Gather.mono _ _ _ _
      | exact symbolonlaw14_head.mono _
      | exact symbolonref01_Same.mono _ _ _
      | exact LeO.none _
      | refine LeO.ite ?_ ?_
      | refine LeO.bind ?_ (fun _ => ?_)
def symbolonlaw14_ChunkLacks.T9 : Bool × List (List Nat × List Nat) := (true, [([], []), ([], []), ([], []), ([1, 2], [1, 2]), ([0, 3], [0, 3]), ([], []), ([], []), ([6], [6]), ([5, 7], [5, 7]), ([4, 8, 4], [4, 8]), ([9, 9, 0, 1, 2, 3, 4, 5, 6, 7, 8, 9], [9])])
def symbolonlaw14_ChunkLacks.B9 : List Nat := [0, 0, 0, 6, 15, 0, 0, 64, 224, 511, 1023]
theorem symbolonlaw14_ChunkLacks.tab9 : rtab .any (opsOf Try.f6 9) = symbolonlaw14_ChunkLacks.T9 := by kernel_rfl
theorem symbolonlaw14_ChunkLacks.bits9 : waitsOk symbolonlaw14_ChunkLacks.T9.2 symbolonlaw14_ChunkLacks.B9 = true := by kernel_rfl
set_option maxHeartbeats 8000000 in
set_option maxRecDepth 100000 in
theorem symbolonlaw14_ChunkLacks.calls (k : Nat) (a0 : Int) (A1 : Option Addr) (c1 : Nat) (l1 : List Int) (a2 : Int) (r : Bool) (w : World) (hr1 : Kd.C (Kd.int .u64) w A1 l1.length l1) (hc1 : l1.length ≤ c1) (h : symbolonlaw14_ChunkLacks.f k a0 l1 a2 = some r) :
    Calls Try.prog 6 #[.int .u16 a0, .slice A1 l1.length c1, .int .u8 a2] w fun e w' => e = .returned (.bool r) ∧ Below w.heap.size w w' := by
  have HR1 := Aside0.mk hr1
  have HC1 := Aside0.mk hc1
  clear hr1 hc1
  have HB := Aside0.mk (Below.refl w.heap.size w)
  have H : ((symbolonlaw14_head.f k).bind fun t289 => (if (l1.length : Int) > 900 then (symbolonlaw14_ChunkLacks.j0 k l1 a2 t289 (Int.tmod (wrap64 (a0)) 60000) true) else (symbolonlaw14_ChunkLacks.j0 k l1 a2 t289 (Int.tmod (wrap64 (a0)) 60000) ((l1.length : Int) == 0)))) = some r := h
  clear h
  replace H := Option.bind_eq_some_iff.mp H
  obtain ⟨t289, A40, H⟩ := H
  replace H : (if (l1.length : Int) > 900 then (symbolonlaw14_ChunkLacks.j0 k l1 a2 t289 (Int.tmod (wrap64 (a0)) 60000) true) else (symbolonlaw14_ChunkLacks.j0 k l1 a2 t289 (Int.tmod (wrap64 (a0)) 60000) ((l1.length : Int) == 0))) = some r := H
  have A4 := Aside0.mk A40
  clear A40
  have HC5 := Aside0.mk H
  clear H
  go_enter Try.func6, Try.ntmps6
  go_upto_region 3 with (first | ((with_reducible refine gate_callee (f := 10) rfl ?_); refine goesL_ (some 19) rfl rfl Try.func10 (by kernel_rfl) rfl #[] rfl (by (try simp only [List.map_toArray, List.map_cons, List.map_nil]); first | done | rfl | (simp only [List.length_drop, List.length_take]; rfl)) ?_; (with_reducible refine (symbolonlaw14_head.calls k  t289 _ A4.out).mono ?_); rintro e w6 ⟨rfl, hb⟩; refine ⟨_, rfl, ?_⟩; have n0_ := Aside0.mk (below_step (by repeat (first | (with_reducible first | exact HB.out | apply below_alloc | apply pw_below_drewN | apply below_drew1) | exact HB.out)) hb); clear HB; have HB := n0_; clear n0_; (try clear hb); (try clear hb2); (try clear hk); (try clear hi)))
  (try simp only [Act.put, List.setIfInBounds_toArray, List.set_cons_zero, List.set_cons_succ])
  go_cut [30] (fun v30 wc => ∃ (kq : Nat) (x30_4 : Bool), v30 = .bool x30_4 ∧ Aside0 (symbolonlaw14_ChunkLacks.j0 kq l1 a2 t289 (Int.tmod (wrap64 (a0)) 60000) x30_4 = some r) ∧ Aside0 (kq ≤ k) ∧ Aside0 (Below w.heap.size w wc))
  case first =>
    have H := HC5.out
    clear HC5
    by_cases c7 : (l1.length : Int) > 900
    · rw [if_pos c7] at H
      have c7b0 : decide (900 < (l1.length : Int)) = true := decide_eq_true c7
      have c7b1 : decide (900 < l1.length) = true := decide_eq_true (by omega)
      clear c7
      (first | rw [c7b0] | (simp only [i64_w, i32_w]; rw [c7b0]) | skip)
      have H' := Aside0.mk H
      clear H
      go_wp2
      go_meet
      case rel => exact ⟨_, (true), (by first | rfl | (simp; done) | (simp [*]; done)), H', ⟨by first | omega | exact Nat.le_refl _⟩, ⟨by repeat (first | (with_reducible first | exact HB.out | apply below_alloc | apply pw_below_drewN | apply below_drew1) | exact HB.out)⟩⟩
    · rw [if_neg c7] at H
      have c7b0 : decide (900 < (l1.length : Int)) = false := decide_eq_false c7
      have c7b1 : decide (900 < l1.length) = false := decide_eq_false (by omega)
      clear c7
      (first | rw [c7b0] | (simp only [i64_w, i32_w]; rw [c7b0]) | skip)
      have H' := Aside0.mk H
      clear H
      go_wp2
      go_meet
      case rel => exact ⟨_, (((l1.length : Int) == 0)), (by first | rfl | (simp; done) | (simp [*]; done)), H', ⟨by first | omega | exact Nat.le_refl _⟩, ⟨by repeat (first | (with_reducible first | exact HB.out | apply below_alloc | apply pw_below_drewN | apply below_drew1) | exact HB.out)⟩⟩
  case rest =>
    clear HC5
    try clear c1
    try clear p2
    try clear c6
    try clear p6
    try clear c7
    try clear c7b0
    try clear c7b1
    obtain ⟨kq, x30_4, rfl, HA, HJ4, HB⟩ := hcut
    cases kq with
    | zero => exact absurd HA.out (by simp [symbolonlaw14_ChunkLacks.j0])
    | succ kj4 =>
      have H := HA.out
      clear HA
      simp only [symbolonlaw14_ChunkLacks.j0] at H
      by_cases c8 : x30_4 = true
      · subst c8
        have H1 : (some t289) = some r := by rw [if_pos rfl] at H; exact H
        clear H
        have H := H1
        clear H1
        obtain rfl := Option.some.inj H
        go_wp2
        go_ret
        exact ⟨by first | rfl | (simp [errW_none, errW_some] <;> rfl) | (simp [*, errW_none, errW_some] <;> rfl), by repeat (first | (with_reducible first | exact HB.out | apply below_alloc | apply pw_below_drewN | apply below_drew1) | exact HB.out)⟩
      · replace c8 := Bool.eq_false_iff.mpr c8
        subst c8
        have H1 : ((chunk_Cut.f (Int.tmod (wrap64 (a0)) 60000) l1).bind fun t290 => (if (t290.length : Int) = 0 then (none) else ((some (([] : List (List Int)) : List (List Int))).bind fun y293 => (if 0 ≤ (Int.tmod (wrap64 (a2)) (t290.length : Int)) then (if (Int.tmod (wrap64 (a2)) (t290.length : Int)) ≤ (t290.length : Int) then ((some (t290.take ((Int.tmod (wrap64 (a2)) (t290.length : Int)) : Int).toNat : List (List Int))).bind fun y296 => (if y293.length + y296.length < 5864062014805 then ((some (y293 ++ y296 : List (List Int))).bind fun y301 => (if 0 ≤ (wrap64 ((Int.tmod (wrap64 (a2)) (t290.length : Int)) + 1)) then (if (wrap64 ((Int.tmod (wrap64 (a2)) (t290.length : Int)) + 1)) ≤ (t290.length : Int) then ((some (t290.drop ((wrap64 ((Int.tmod (wrap64 (a2)) (t290.length : Int)) + 1)) : Int).toNat : List (List Int))).bind fun y304 => (if y301.length + y304.length < 5864062014805 then ((some (y301 ++ y304 : List (List Int))).bind fun y309 => ((chunk_Gather.f kj4 (Int.tmod (wrap64 (a0)) 60000) (l1.length : Int) y309).bind fun bt312 => ((chunk_Gather.f kj4 (Int.tmod (wrap64 (a0)) 60000) (mn (wrap64 (6 * (Int.tmod (wrap64 (a2)) (t290.length : Int)))) (l1.length : Int)) y309).bind fun bt316 => ((chunk_Gather.f kj4 (wrap64 ((Int.tmod (wrap64 (a0)) 60000) + (mn (wrap64 ((wrap64 (6 * (Int.tmod (wrap64 (a2)) (t290.length : Int)))) + 6)) (l1.length : Int)))) (wrap64 ((l1.length : Int) - (mn (wrap64 ((wrap64 (6 * (Int.tmod (wrap64 (a2)) (t290.length : Int)))) + 6)) (l1.length : Int)))) y309).bind fun bt320 => (if t289 = true then (if bt312.2 = true then (none) else (if (bt312.1.length : Int) = 0 then (if bt316.2 = true then (if 0 ≤ (mn (wrap64 (6 * (Int.tmod (wrap64 (a2)) (t290.length : Int)))) (l1.length : Int)) then (if (mn (wrap64 (6 * (Int.tmod (wrap64 (a2)) (t290.length : Int)))) (l1.length : Int)) ≤ (l1.length : Int) then ((symbolonref01_Same.f kj4 bt316.1 (l1.take ((mn (wrap64 (6 * (Int.tmod (wrap64 (a2)) (t290.length : Int)))) (l1.length : Int)) : Int).toNat)).bind fun t325 => (if t325 = true then (if bt320.2 = true then (if 0 ≤ (mn (wrap64 ((wrap64 (6 * (Int.tmod (wrap64 (a2)) (t290.length : Int)))) + 6)) (l1.length : Int)) then (if (mn (wrap64 ((wrap64 (6 * (Int.tmod (wrap64 (a2)) (t290.length : Int)))) + 6)) (l1.length : Int)) ≤ (l1.length : Int) then ((symbolonref01_Same.f kj4 bt320.1 (l1.drop ((mn (wrap64 ((wrap64 (6 * (Int.tmod (wrap64 (a2)) (t290.length : Int)))) + 6)) (l1.length : Int)) : Int).toNat)).bind fun t327 => (some t327)) else (none)) else (none)) else (none)) else (none))) else (none)) else (none)) else (none)) else (none))) else (none)))))) else (none))) else (none)) else (none))) else (none))) else (none)) else (none))))) = some r := by rw [if_neg (show ¬ (false = true) by decide)] at H; exact H
        clear H
        have H := H1
        clear H1
        replace H := Option.bind_eq_some_iff.mp H
        obtain ⟨t290, A90, H⟩ := H
        replace H : (if (t290.length : Int) = 0 then (none) else ((some (([] : List (List Int)) : List (List Int))).bind fun y293 => (if 0 ≤ (Int.tmod (wrap64 (a2)) (t290.length : Int)) then (if (Int.tmod (wrap64 (a2)) (t290.length : Int)) ≤ (t290.length : Int) then ((some (t290.take ((Int.tmod (wrap64 (a2)) (t290.length : Int)) : Int).toNat : List (List Int))).bind fun y296 => (if y293.length + y296.length < 5864062014805 then ((some (y293 ++ y296 : List (List Int))).bind fun y301 => (if 0 ≤ (wrap64 ((Int.tmod (wrap64 (a2)) (t290.length : Int)) + 1)) then (if (wrap64 ((Int.tmod (wrap64 (a2)) (t290.length : Int)) + 1)) ≤ (t290.length : Int) then ((some (t290.drop ((wrap64 ((Int.tmod (wrap64 (a2)) (t290.length : Int)) + 1)) : Int).toNat : List (List Int))).bind fun y304 => (if y301.length + y304.length < 5864062014805 then ((some (y301 ++ y304 : List (List Int))).bind fun y309 => ((chunk_Gather.f kj4 (Int.tmod (wrap64 (a0)) 60000) (l1.length : Int) y309).bind fun bt312 => ((chunk_Gather.f kj4 (Int.tmod (wrap64 (a0)) 60000) (mn (wrap64 (6 * (Int.tmod (wrap64 (a2)) (t290.length : Int)))) (l1.length : Int)) y309).bind fun bt316 => ((chunk_Gather.f kj4 (wrap64 ((Int.tmod (wrap64 (a0)) 60000) + (mn (wrap64 ((wrap64 (6 * (Int.tmod (wrap64 (a2)) (t290.length : Int)))) + 6)) (l1.length : Int)))) (wrap64 ((l1.length : Int) - (mn (wrap64 ((wrap64 (6 * (Int.tmod (wrap64 (a2)) (t290.length : Int)))) + 6)) (l1.length : Int)))) y309).bind fun bt320 => (if t289 = true then (if bt312.2 = true then (none) else (if (bt312.1.length : Int) = 0 then (if bt316.2 = true then (if 0 ≤ (mn (wrap64 (6 * (Int.tmod (wrap64 (a2)) (t290.length : Int)))) (l1.length : Int)) then (if (mn (wrap64 (6 * (Int.tmod (wrap64 (a2)) (t290.length : Int)))) (l1.length : Int)) ≤ (l1.length : Int) then ((symbolonref01_Same.f kj4 bt316.1 (l1.take ((mn (wrap64 (6 * (Int.tmod (wrap64 (a2)) (t290.length : Int)))) (l1.length : Int)) : Int).toNat)).bind fun t325 => (if t325 = true then (if bt320.2 = true then (if 0 ≤ (mn (wrap64 ((wrap64 (6 * (Int.tmod (wrap64 (a2)) (t290.length : Int)))) + 6)) (l1.length : Int)) then (if (mn (wrap64 ((wrap64 (6 * (Int.tmod (wrap64 (a2)) (t290.length : Int)))) + 6)) (l1.length : Int)) ≤ (l1.length : Int) then ((symbolonref01_Same.f kj4 bt320.1 (l1.drop ((mn (wrap64 ((wrap64 (6 * (Int.tmod (wrap64 (a2)) (t290.length : Int)))) + 6)) (l1.length : Int)) : Int).toNat)).bind fun t327 => (some t327)) else (none)) else (none)) else (none)) else (none))) else (none)) else (none)) else (none)) else (none))) else (none)))))) else (none))) else (none)) else (none))) else (none))) else (none)) else (none)))) = some r := H
        have A9 := Aside0.mk A90
        clear A90
        by_cases c10 : (t290.length : Int) = 0
        · rw [if_pos c10] at H
          exact absurd H (by simp)
        · rw [if_neg c10] at H
          have c10b0 : ((t290.length : Int) == 0) = false := beq_eq_false_iff_ne.mpr c10
          have c10b1 : ((t290.length : Int) != 0) = true := bne_iff_ne.mpr c10
          have c10b2 : ¬ (t290 = []) := fun h_ => c10 (by rw [h_]; rfl)
          obtain ⟨y293, hy293⟩ : ∃ y_ : List (List Int), y_ = (([] : List (List Int))) := ⟨_, rfl⟩
          replace H : (if 0 ≤ (Int.tmod (wrap64 (a2)) (t290.length : Int)) then (if (Int.tmod (wrap64 (a2)) (t290.length : Int)) ≤ (t290.length : Int) then ((some (t290.take ((Int.tmod (wrap64 (a2)) (t290.length : Int)) : Int).toNat : List (List Int))).bind fun y296 => (if y293.length + y296.length < 5864062014805 then ((some (y293 ++ y296 : List (List Int))).bind fun y301 => (if 0 ≤ (wrap64 ((Int.tmod (wrap64 (a2)) (t290.length : Int)) + 1)) then (if (wrap64 ((Int.tmod (wrap64 (a2)) (t290.length : Int)) + 1)) ≤ (t290.length : Int) then ((some (t290.drop ((wrap64 ((Int.tmod (wrap64 (a2)) (t290.length : Int)) + 1)) : Int).toNat : List (List Int))).bind fun y304 => (if y301.length + y304.length < 5864062014805 then ((some (y301 ++ y304 : List (List Int))).bind fun y309 => ((chunk_Gather.f kj4 (Int.tmod (wrap64 (a0)) 60000) (l1.length : Int) y309).bind fun bt312 => ((chunk_Gather.f kj4 (Int.tmod (wrap64 (a0)) 60000) (mn (wrap64 (6 * (Int.tmod (wrap64 (a2)) (t290.length : Int)))) (l1.length : Int)) y309).bind fun bt316 => ((chunk_Gather.f kj4 (wrap64 ((Int.tmod (wrap64 (a0)) 60000) + (mn (wrap64 ((wrap64 (6 * (Int.tmod (wrap64 (a2)) (t290.length : Int)))) + 6)) (l1.length : Int)))) (wrap64 ((l1.length : Int) - (mn (wrap64 ((wrap64 (6 * (Int.tmod (wrap64 (a2)) (t290.length : Int)))) + 6)) (l1.length : Int)))) y309).bind fun bt320 => (if t289 = true then (if bt312.2 = true then (none) else (if (bt312.1.length : Int) = 0 then (if bt316.2 = true then (if 0 ≤ (mn (wrap64 (6 * (Int.tmod (wrap64 (a2)) (t290.length : Int)))) (l1.length : Int)) then (if (mn (wrap64 (6 * (Int.tmod (wrap64 (a2)) (t290.length : Int)))) (l1.length : Int)) ≤ (l1.length : Int) then ((symbolonref01_Same.f kj4 bt316.1 (l1.take ((mn (wrap64 (6 * (Int.tmod (wrap64 (a2)) (t290.length : Int)))) (l1.length : Int)) : Int).toNat)).bind fun t325 => (if t325 = true then (if bt320.2 = true then (if 0 ≤ (mn (wrap64 ((wrap64 (6 * (Int.tmod (wrap64 (a2)) (t290.length : Int)))) + 6)) (l1.length : Int)) then (if (mn (wrap64 ((wrap64 (6 * (Int.tmod (wrap64 (a2)) (t290.length : Int)))) + 6)) (l1.length : Int)) ≤ (l1.length : Int) then ((symbolonref01_Same.f kj4 bt320.1 (l1.drop ((mn (wrap64 ((wrap64 (6 * (Int.tmod (wrap64 (a2)) (t290.length : Int)))) + 6)) (l1.length : Int)) : Int).toNat)).bind fun t327 => (some t327)) else (none)) else (none)) else (none)) else (none))) else (none)) else (none)) else (none)) else (none))) else (none)))))) else (none))) else (none)) else (none))) else (none))) else (none)) else (none)) = some r := by first | (rw [hy293]; with_reducible exact H) | (have H2_ := (Option.bind_some _ _).symm.trans H; rw [hy293]; with_reducible exact H2_) | (have H2_ := (Option.bind_some _ _).symm.trans H; with_reducible exact H2_) | with_reducible exact H | (rw [hy293]; exact H) | exact H
          have Ny293 := Aside0.mk hy293
          clear hy293
          obtain ⟨ji11, hji11⟩ : ∃ j_ : Int, (Int.tmod (wrap64 (a2)) (t290.length : Int)) = j_ := ⟨_, rfl⟩
          replace H : (if 0 ≤ (ji11) then (if (ji11) ≤ (t290.length : Int) then ((some (t290.take ((ji11) : Int).toNat : List (List Int))).bind fun y296 => (if y293.length + y296.length < 5864062014805 then ((some (y293 ++ y296 : List (List Int))).bind fun y301 => (if 0 ≤ (wrap64 ((ji11) + 1)) then (if (wrap64 ((ji11) + 1)) ≤ (t290.length : Int) then ((some (t290.drop ((wrap64 ((ji11) + 1)) : Int).toNat : List (List Int))).bind fun y304 => (if y301.length + y304.length < 5864062014805 then ((some (y301 ++ y304 : List (List Int))).bind fun y309 => ((chunk_Gather.f kj4 (Int.tmod (wrap64 (a0)) 60000) (l1.length : Int) y309).bind fun bt312 => ((chunk_Gather.f kj4 (Int.tmod (wrap64 (a0)) 60000) (mn (wrap64 (6 * (ji11))) (l1.length : Int)) y309).bind fun bt316 => ((chunk_Gather.f kj4 (wrap64 ((Int.tmod (wrap64 (a0)) 60000) + (mn (wrap64 ((wrap64 (6 * (ji11))) + 6)) (l1.length : Int)))) (wrap64 ((l1.length : Int) - (mn (wrap64 ((wrap64 (6 * (ji11))) + 6)) (l1.length : Int)))) y309).bind fun bt320 => (if t289 = true then (if bt312.2 = true then (none) else (if (bt312.1.length : Int) = 0 then (if bt316.2 = true then (if 0 ≤ (mn (wrap64 (6 * (ji11))) (l1.length : Int)) then (if (mn (wrap64 (6 * (ji11))) (l1.length : Int)) ≤ (l1.length : Int) then ((symbolonref01_Same.f kj4 bt316.1 (l1.take ((mn (wrap64 (6 * (ji11))) (l1.length : Int)) : Int).toNat)).bind fun t325 => (if t325 = true then (if bt320.2 = true then (if 0 ≤ (mn (wrap64 ((wrap64 (6 * (ji11))) + 6)) (l1.length : Int)) then (if (mn (wrap64 ((wrap64 (6 * (ji11))) + 6)) (l1.length : Int)) ≤ (l1.length : Int) then ((symbolonref01_Same.f kj4 bt320.1 (l1.drop ((mn (wrap64 ((wrap64 (6 * (ji11))) + 6)) (l1.length : Int)) : Int).toNat)).bind fun t327 => (some t327)) else (none)) else (none)) else (none)) else (none))) else (none)) else (none)) else (none)) else (none))) else (none)))))) else (none))) else (none)) else (none))) else (none))) else (none)) else (none)) = some r := by first | (rw [hji11] at H; exact H) | (simp only [hji11] at H ⊢; exact H)
          (try rw [hji11] at A9)
          by_cases c12 : 0 ≤ (ji11)
          · rw [if_pos c12] at H
            have c12b0 := eq_true c12
            have c12b1 : decide (0 ≤ (ji11)) = true := decide_eq_true c12
            clear c12
            by_cases c13 : (ji11) ≤ (t290.length : Int)
            · rw [if_pos c13] at H
              have c13b0 := eq_true c13
              have c13b1 : decide ((ji11) ≤ (t290.length : Int)) = true := decide_eq_true c13
              clear c13
              obtain ⟨y296, hy296⟩ : ∃ y_ : List (List Int), y_ = (t290.take ((ji11) : Int).toNat) := ⟨_, rfl⟩
              replace H : (if y293.length + y296.length < 5864062014805 then ((some (y293 ++ y296 : List (List Int))).bind fun y301 => (if 0 ≤ (wrap64 ((ji11) + 1)) then (if (wrap64 ((ji11) + 1)) ≤ (t290.length : Int) then ((some (t290.drop ((wrap64 ((ji11) + 1)) : Int).toNat : List (List Int))).bind fun y304 => (if y301.length + y304.length < 5864062014805 then ((some (y301 ++ y304 : List (List Int))).bind fun y309 => ((chunk_Gather.f kj4 (Int.tmod (wrap64 (a0)) 60000) (l1.length : Int) y309).bind fun bt312 => ((chunk_Gather.f kj4 (Int.tmod (wrap64 (a0)) 60000) (mn (wrap64 (6 * (ji11))) (l1.length : Int)) y309).bind fun bt316 => ((chunk_Gather.f kj4 (wrap64 ((Int.tmod (wrap64 (a0)) 60000) + (mn (wrap64 ((wrap64 (6 * (ji11))) + 6)) (l1.length : Int)))) (wrap64 ((l1.length : Int) - (mn (wrap64 ((wrap64 (6 * (ji11))) + 6)) (l1.length : Int)))) y309).bind fun bt320 => (if t289 = true then (if bt312.2 = true then (none) else (if (bt312.1.length : Int) = 0 then (if bt316.2 = true then (if 0 ≤ (mn (wrap64 (6 * (ji11))) (l1.length : Int)) then (if (mn (wrap64 (6 * (ji11))) (l1.length : Int)) ≤ (l1.length : Int) then ((symbolonref01_Same.f kj4 bt316.1 (l1.take ((mn (wrap64 (6 * (ji11))) (l1.length : Int)) : Int).toNat)).bind fun t325 => (if t325 = true then (if bt320.2 = true then (if 0 ≤ (mn (wrap64 ((wrap64 (6 * (ji11))) + 6)) (l1.length : Int)) then (if (mn (wrap64 ((wrap64 (6 * (ji11))) + 6)) (l1.length : Int)) ≤ (l1.length : Int) then ((symbolonref01_Same.f kj4 bt320.1 (l1.drop ((mn (wrap64 ((wrap64 (6 * (ji11))) + 6)) (l1.length : Int)) : Int).toNat)).bind fun t327 => (some t327)) else (none)) else (none)) else (none)) else (none))) else (none)) else (none)) else (none)) else (none))) else (none)))))) else (none))) else (none)) else (none))) else (none)) = some r := by first | (rw [hy296]; with_reducible exact H) | (have H2_ := (Option.bind_some _ _).symm.trans H; rw [hy296]; with_reducible exact H2_) | (have H2_ := (Option.bind_some _ _).symm.trans H; with_reducible exact H2_) | with_reducible exact H | (rw [hy296]; exact H) | exact H
              have Ny296 := Aside0.mk hy296
              clear hy296
              by_cases c14 : y293.length + y296.length < 5864062014805
              · rw [if_pos c14] at H
                have LMc14 := Aside0.mk c14
                clear c14
                obtain ⟨y301, hy301⟩ : ∃ y_ : List (List Int), y_ = (y293 ++ y296) := ⟨_, rfl⟩
                replace H : (if 0 ≤ (wrap64 ((ji11) + 1)) then (if (wrap64 ((ji11) + 1)) ≤ (t290.length : Int) then ((some (t290.drop ((wrap64 ((ji11) + 1)) : Int).toNat : List (List Int))).bind fun y304 => (if y301.length + y304.length < 5864062014805 then ((some (y301 ++ y304 : List (List Int))).bind fun y309 => ((chunk_Gather.f kj4 (Int.tmod (wrap64 (a0)) 60000) (l1.length : Int) y309).bind fun bt312 => ((chunk_Gather.f kj4 (Int.tmod (wrap64 (a0)) 60000) (mn (wrap64 (6 * (ji11))) (l1.length : Int)) y309).bind fun bt316 => ((chunk_Gather.f kj4 (wrap64 ((Int.tmod (wrap64 (a0)) 60000) + (mn (wrap64 ((wrap64 (6 * (ji11))) + 6)) (l1.length : Int)))) (wrap64 ((l1.length : Int) - (mn (wrap64 ((wrap64 (6 * (ji11))) + 6)) (l1.length : Int)))) y309).bind fun bt320 => (if t289 = true then (if bt312.2 = true then (none) else (if (bt312.1.length : Int) = 0 then (if bt316.2 = true then (if 0 ≤ (mn (wrap64 (6 * (ji11))) (l1.length : Int)) then (if (mn (wrap64 (6 * (ji11))) (l1.length : Int)) ≤ (l1.length : Int) then ((symbolonref01_Same.f kj4 bt316.1 (l1.take ((mn (wrap64 (6 * (ji11))) (l1.length : Int)) : Int).toNat)).bind fun t325 => (if t325 = true then (if bt320.2 = true then (if 0 ≤ (mn (wrap64 ((wrap64 (6 * (ji11))) + 6)) (l1.length : Int)) then (if (mn (wrap64 ((wrap64 (6 * (ji11))) + 6)) (l1.length : Int)) ≤ (l1.length : Int) then ((symbolonref01_Same.f kj4 bt320.1 (l1.drop ((mn (wrap64 ((wrap64 (6 * (ji11))) + 6)) (l1.length : Int)) : Int).toNat)).bind fun t327 => (some t327)) else (none)) else (none)) else (none)) else (none))) else (none)) else (none)) else (none)) else (none))) else (none)))))) else (none))) else (none)) else (none)) = some r := by first | (rw [hy301]; with_reducible exact H) | (have H2_ := (Option.bind_some _ _).symm.trans H; rw [hy301]; with_reducible exact H2_) | (have H2_ := (Option.bind_some _ _).symm.trans H; with_reducible exact H2_) | with_reducible exact H | (rw [hy301]; exact H) | exact H
                have Ny301 := Aside0.mk hy301
                clear hy301
                obtain ⟨ji15, hji15⟩ : ∃ j_ : Int, (wrap64 ((ji11) + 1)) = j_ := ⟨_, rfl⟩
                replace H : (if 0 ≤ (ji15) then (if (ji15) ≤ (t290.length : Int) then ((some (t290.drop ((ji15) : Int).toNat : List (List Int))).bind fun y304 => (if y301.length + y304.length < 5864062014805 then ((some (y301 ++ y304 : List (List Int))).bind fun y309 => ((chunk_Gather.f kj4 (Int.tmod (wrap64 (a0)) 60000) (l1.length : Int) y309).bind fun bt312 => ((chunk_Gather.f kj4 (Int.tmod (wrap64 (a0)) 60000) (mn (wrap64 (6 * (ji11))) (l1.length : Int)) y309).bind fun bt316 => ((chunk_Gather.f kj4 (wrap64 ((Int.tmod (wrap64 (a0)) 60000) + (mn (wrap64 ((wrap64 (6 * (ji11))) + 6)) (l1.length : Int)))) (wrap64 ((l1.length : Int) - (mn (wrap64 ((wrap64 (6 * (ji11))) + 6)) (l1.length : Int)))) y309).bind fun bt320 => (if t289 = true then (if bt312.2 = true then (none) else (if (bt312.1.length : Int) = 0 then (if bt316.2 = true then (if 0 ≤ (mn (wrap64 (6 * (ji11))) (l1.length : Int)) then (if (mn (wrap64 (6 * (ji11))) (l1.length : Int)) ≤ (l1.length : Int) then ((symbolonref01_Same.f kj4 bt316.1 (l1.take ((mn (wrap64 (6 * (ji11))) (l1.length : Int)) : Int).toNat)).bind fun t325 => (if t325 = true then (if bt320.2 = true then (if 0 ≤ (mn (wrap64 ((wrap64 (6 * (ji11))) + 6)) (l1.length : Int)) then (if (mn (wrap64 ((wrap64 (6 * (ji11))) + 6)) (l1.length : Int)) ≤ (l1.length : Int) then ((symbolonref01_Same.f kj4 bt320.1 (l1.drop ((mn (wrap64 ((wrap64 (6 * (ji11))) + 6)) (l1.length : Int)) : Int).toNat)).bind fun t327 => (some t327)) else (none)) else (none)) else (none)) else (none))) else (none)) else (none)) else (none)) else (none))) else (none)))))) else (none))) else (none)) else (none)) = some r := by first | (rw [hji15] at H; exact H) | (simp only [hji15] at H ⊢; exact H)
                (try rw [hji15] at A9)
                have hji15w : (IntKind.i64.wrap ((ji11) + 1)) = ji15 := (i64_w _).trans hji15
                by_cases c16 : 0 ≤ (ji15)
                · rw [if_pos c16] at H
                  have c16b0 := eq_true c16
                  have c16b1 : decide (0 ≤ (ji15)) = true := decide_eq_true c16
                  clear c16
                  by_cases c17 : (ji15) ≤ (t290.length : Int)
                  · rw [if_pos c17] at H
                    have c17b0 := eq_true c17
                    have c17b1 : decide ((ji15) ≤ (t290.length : Int)) = true := decide_eq_true c17
                    clear c17
                    obtain ⟨y304, hy304⟩ : ∃ y_ : List (List Int), y_ = (t290.drop ((ji15) : Int).toNat) := ⟨_, rfl⟩
                    replace H : (if y301.length + y304.length < 5864062014805 then ((some (y301 ++ y304 : List (List Int))).bind fun y309 => ((chunk_Gather.f kj4 (Int.tmod (wrap64 (a0)) 60000) (l1.length : Int) y309).bind fun bt312 => ((chunk_Gather.f kj4 (Int.tmod (wrap64 (a0)) 60000) (mn (wrap64 (6 * (ji11))) (l1.length : Int)) y309).bind fun bt316 => ((chunk_Gather.f kj4 (wrap64 ((Int.tmod (wrap64 (a0)) 60000) + (mn (wrap64 ((wrap64 (6 * (ji11))) + 6)) (l1.length : Int)))) (wrap64 ((l1.length : Int) - (mn (wrap64 ((wrap64 (6 * (ji11))) + 6)) (l1.length : Int)))) y309).bind fun bt320 => (if t289 = true then (if bt312.2 = true then (none) else (if (bt312.1.length : Int) = 0 then (if bt316.2 = true then (if 0 ≤ (mn (wrap64 (6 * (ji11))) (l1.length : Int)) then (if (mn (wrap64 (6 * (ji11))) (l1.length : Int)) ≤ (l1.length : Int) then ((symbolonref01_Same.f kj4 bt316.1 (l1.take ((mn (wrap64 (6 * (ji11))) (l1.length : Int)) : Int).toNat)).bind fun t325 => (if t325 = true then (if bt320.2 = true then (if 0 ≤ (mn (wrap64 ((wrap64 (6 * (ji11))) + 6)) (l1.length : Int)) then (if (mn (wrap64 ((wrap64 (6 * (ji11))) + 6)) (l1.length : Int)) ≤ (l1.length : Int) then ((symbolonref01_Same.f kj4 bt320.1 (l1.drop ((mn (wrap64 ((wrap64 (6 * (ji11))) + 6)) (l1.length : Int)) : Int).toNat)).bind fun t327 => (some t327)) else (none)) else (none)) else (none)) else (none))) else (none)) else (none)) else (none)) else (none))) else (none)))))) else (none)) = some r := by first | (rw [hy304]; with_reducible exact H) | (have H2_ := (Option.bind_some _ _).symm.trans H; rw [hy304]; with_reducible exact H2_) | (have H2_ := (Option.bind_some _ _).symm.trans H; with_reducible exact H2_) | with_reducible exact H | (rw [hy304]; exact H) | exact H
                    have Ny304 := Aside0.mk hy304
                    clear hy304
                    by_cases c18 : y301.length + y304.length < 5864062014805
                    · rw [if_pos c18] at H
                      have LMc18 := Aside0.mk c18
                      clear c18
                      obtain ⟨y309, hy309⟩ : ∃ y_ : List (List Int), y_ = (y301 ++ y304) := ⟨_, rfl⟩
                      replace H : ((chunk_Gather.f kj4 (Int.tmod (wrap64 (a0)) 60000) (l1.length : Int) y309).bind fun bt312 => ((chunk_Gather.f kj4 (Int.tmod (wrap64 (a0)) 60000) (mn (wrap64 (6 * (ji11))) (l1.length : Int)) y309).bind fun bt316 => ((chunk_Gather.f kj4 (wrap64 ((Int.tmod (wrap64 (a0)) 60000) + (mn (wrap64 ((wrap64 (6 * (ji11))) + 6)) (l1.length : Int)))) (wrap64 ((l1.length : Int) - (mn (wrap64 ((wrap64 (6 * (ji11))) + 6)) (l1.length : Int)))) y309).bind fun bt320 => (if t289 = true then (if bt312.2 = true then (none) else (if (bt312.1.length : Int) = 0 then (if bt316.2 = true then (if 0 ≤ (mn (wrap64 (6 * (ji11))) (l1.length : Int)) then (if (mn (wrap64 (6 * (ji11))) (l1.length : Int)) ≤ (l1.length : Int) then ((symbolonref01_Same.f kj4 bt316.1 (l1.take ((mn (wrap64 (6 * (ji11))) (l1.length : Int)) : Int).toNat)).bind fun t325 => (if t325 = true then (if bt320.2 = true then (if 0 ≤ (mn (wrap64 ((wrap64 (6 * (ji11))) + 6)) (l1.length : Int)) then (if (mn (wrap64 ((wrap64 (6 * (ji11))) + 6)) (l1.length : Int)) ≤ (l1.length : Int) then ((symbolonref01_Same.f kj4 bt320.1 (l1.drop ((mn (wrap64 ((wrap64 (6 * (ji11))) + 6)) (l1.length : Int)) : Int).toNat)).bind fun t327 => (some t327)) else (none)) else (none)) else (none)) else (none))) else (none)) else (none)) else (none)) else (none))) else (none))))) = some r := by first | (rw [hy309]; with_reducible exact H) | (have H2_ := (Option.bind_some _ _).symm.trans H; rw [hy309]; with_reducible exact H2_) | (have H2_ := (Option.bind_some _ _).symm.trans H; with_reducible exact H2_) | with_reducible exact H | (rw [hy309]; exact H) | exact H
                      have Ny309 := Aside0.mk hy309
                      clear hy309
                      replace H := Option.bind_eq_some_iff.mp H
                      obtain ⟨⟨t312, t313⟩, A190, H⟩ := H
                      replace H : ((chunk_Gather.f kj4 (Int.tmod (wrap64 (a0)) 60000) (mn (wrap64 (6 * (ji11))) (l1.length : Int)) y309).bind fun bt316 => ((chunk_Gather.f kj4 (wrap64 ((Int.tmod (wrap64 (a0)) 60000) + (mn (wrap64 ((wrap64 (6 * (ji11))) + 6)) (l1.length : Int)))) (wrap64 ((l1.length : Int) - (mn (wrap64 ((wrap64 (6 * (ji11))) + 6)) (l1.length : Int)))) y309).bind fun bt320 => (if t289 = true then (if t313 = true then (none) else (if (t312.length : Int) = 0 then (if bt316.2 = true then (if 0 ≤ (mn (wrap64 (6 * (ji11))) (l1.length : Int)) then (if (mn (wrap64 (6 * (ji11))) (l1.length : Int)) ≤ (l1.length : Int) then ((symbolonref01_Same.f kj4 bt316.1 (l1.take ((mn (wrap64 (6 * (ji11))) (l1.length : Int)) : Int).toNat)).bind fun t325 => (if t325 = true then (if bt320.2 = true then (if 0 ≤ (mn (wrap64 ((wrap64 (6 * (ji11))) + 6)) (l1.length : Int)) then (if (mn (wrap64 ((wrap64 (6 * (ji11))) + 6)) (l1.length : Int)) ≤ (l1.length : Int) then ((symbolonref01_Same.f kj4 bt320.1 (l1.drop ((mn (wrap64 ((wrap64 (6 * (ji11))) + 6)) (l1.length : Int)) : Int).toNat)).bind fun t327 => (some t327)) else (none)) else (none)) else (none)) else (none))) else (none)) else (none)) else (none)) else (none))) else (none)))) = some r := H
                      have A19 := Aside0.mk A190
                      clear A190
                      obtain ⟨ji20, hji20⟩ : ∃ j_ : Int, (mn (wrap64 (6 * (ji11))) (l1.length : Int)) = j_ := ⟨_, rfl⟩
                      replace H : ((chunk_Gather.f kj4 (Int.tmod (wrap64 (a0)) 60000) (ji20) y309).bind fun bt316 => ((chunk_Gather.f kj4 (wrap64 ((Int.tmod (wrap64 (a0)) 60000) + (mn (wrap64 ((wrap64 (6 * (ji11))) + 6)) (l1.length : Int)))) (wrap64 ((l1.length : Int) - (mn (wrap64 ((wrap64 (6 * (ji11))) + 6)) (l1.length : Int)))) y309).bind fun bt320 => (if t289 = true then (if t313 = true then (none) else (if (t312.length : Int) = 0 then (if bt316.2 = true then (if 0 ≤ (ji20) then (if (ji20) ≤ (l1.length : Int) then ((symbolonref01_Same.f kj4 bt316.1 (l1.take ((ji20) : Int).toNat)).bind fun t325 => (if t325 = true then (if bt320.2 = true then (if 0 ≤ (mn (wrap64 ((wrap64 (6 * (ji11))) + 6)) (l1.length : Int)) then (if (mn (wrap64 ((wrap64 (6 * (ji11))) + 6)) (l1.length : Int)) ≤ (l1.length : Int) then ((symbolonref01_Same.f kj4 bt320.1 (l1.drop ((mn (wrap64 ((wrap64 (6 * (ji11))) + 6)) (l1.length : Int)) : Int).toNat)).bind fun t327 => (some t327)) else (none)) else (none)) else (none)) else (none))) else (none)) else (none)) else (none)) else (none))) else (none)))) = some r := by first | (rw [hji20] at H; exact H) | (simp only [hji20] at H ⊢; exact H)
                      (try rw [hji20] at A9)
                      (try rw [hji20] at A19)
                      have hji20_ : (if (l1.length : Int) < (wrap64 (6 * (ji11))) then (l1.length : Int) else (wrap64 (6 * (ji11)))) = ji20 := hji20
                      replace H := Option.bind_eq_some_iff.mp H
                      obtain ⟨⟨t316, t317⟩, A210, H⟩ := H
                      replace H : ((chunk_Gather.f kj4 (wrap64 ((Int.tmod (wrap64 (a0)) 60000) + (mn (wrap64 ((wrap64 (6 * (ji11))) + 6)) (l1.length : Int)))) (wrap64 ((l1.length : Int) - (mn (wrap64 ((wrap64 (6 * (ji11))) + 6)) (l1.length : Int)))) y309).bind fun bt320 => (if t289 = true then (if t313 = true then (none) else (if (t312.length : Int) = 0 then (if t317 = true then (if 0 ≤ (ji20) then (if (ji20) ≤ (l1.length : Int) then ((symbolonref01_Same.f kj4 t316 (l1.take ((ji20) : Int).toNat)).bind fun t325 => (if t325 = true then (if bt320.2 = true then (if 0 ≤ (mn (wrap64 ((wrap64 (6 * (ji11))) + 6)) (l1.length : Int)) then (if (mn (wrap64 ((wrap64 (6 * (ji11))) + 6)) (l1.length : Int)) ≤ (l1.length : Int) then ((symbolonref01_Same.f kj4 bt320.1 (l1.drop ((mn (wrap64 ((wrap64 (6 * (ji11))) + 6)) (l1.length : Int)) : Int).toNat)).bind fun t327 => (some t327)) else (none)) else (none)) else (none)) else (none))) else (none)) else (none)) else (none)) else (none))) else (none))) = some r := H
                      have A21 := Aside0.mk A210
                      clear A210
                      obtain ⟨ji22, hji22⟩ : ∃ j_ : Int, (mn (wrap64 ((wrap64 (6 * (ji11))) + 6)) (l1.length : Int)) = j_ := ⟨_, rfl⟩
                      replace H : ((chunk_Gather.f kj4 (wrap64 ((Int.tmod (wrap64 (a0)) 60000) + (ji22))) (wrap64 ((l1.length : Int) - (ji22))) y309).bind fun bt320 => (if t289 = true then (if t313 = true then (none) else (if (t312.length : Int) = 0 then (if t317 = true then (if 0 ≤ (ji20) then (if (ji20) ≤ (l1.length : Int) then ((symbolonref01_Same.f kj4 t316 (l1.take ((ji20) : Int).toNat)).bind fun t325 => (if t325 = true then (if bt320.2 = true then (if 0 ≤ (ji22) then (if (ji22) ≤ (l1.length : Int) then ((symbolonref01_Same.f kj4 bt320.1 (l1.drop ((ji22) : Int).toNat)).bind fun t327 => (some t327)) else (none)) else (none)) else (none)) else (none))) else (none)) else (none)) else (none)) else (none))) else (none))) = some r := by first | (rw [hji22] at H; exact H) | (simp only [hji22] at H ⊢; exact H)
                      (try rw [hji22] at A9)
                      (try rw [hji22] at A19)
                      (try rw [hji22] at A21)
                      have hji22_ : (if (l1.length : Int) < (wrap64 ((wrap64 (6 * (ji11))) + 6)) then (l1.length : Int) else (wrap64 ((wrap64 (6 * (ji11))) + 6))) = ji22 := hji22
                      replace H := Option.bind_eq_some_iff.mp H
                      obtain ⟨⟨t320, t321⟩, A230, H⟩ := H
                      replace H : (if t289 = true then (if t313 = true then (none) else (if (t312.length : Int) = 0 then (if t317 = true then (if 0 ≤ (ji20) then (if (ji20) ≤ (l1.length : Int) then ((symbolonref01_Same.f kj4 t316 (l1.take ((ji20) : Int).toNat)).bind fun t325 => (if t325 = true then (if t321 = true then (if 0 ≤ (ji22) then (if (ji22) ≤ (l1.length : Int) then ((symbolonref01_Same.f kj4 t320 (l1.drop ((ji22) : Int).toNat)).bind fun t327 => (some t327)) else (none)) else (none)) else (none)) else (none))) else (none)) else (none)) else (none)) else (none))) else (none)) = some r := H
                      have A23 := Aside0.mk A230
                      clear A230
                      by_cases c24 : t289 = true
                      · subst c24
                        have H1 : (if t313 = true then (none) else (if (t312.length : Int) = 0 then (if t317 = true then (if 0 ≤ (ji20) then (if (ji20) ≤ (l1.length : Int) then ((symbolonref01_Same.f kj4 t316 (l1.take ((ji20) : Int).toNat)).bind fun t325 => (if t325 = true then (if t321 = true then (if 0 ≤ (ji22) then (if (ji22) ≤ (l1.length : Int) then ((symbolonref01_Same.f kj4 t320 (l1.drop ((ji22) : Int).toNat)).bind fun t327 => (some t327)) else (none)) else (none)) else (none)) else (none))) else (none)) else (none)) else (none)) else (none))) = some r := by rw [if_pos rfl] at H; exact H
                        clear H
                        have H := H1
                        clear H1
                        by_cases c25 : t313 = true
                        · subst c25
                          have H1 : (none) = some r := by rw [if_pos rfl] at H; exact H
                          clear H
                          have H := H1
                          clear H1
                          exact absurd H (by simp)
                        · replace c25 := Bool.eq_false_iff.mpr c25
                          subst c25
                          have H1 : (if (t312.length : Int) = 0 then (if t317 = true then (if 0 ≤ (ji20) then (if (ji20) ≤ (l1.length : Int) then ((symbolonref01_Same.f kj4 t316 (l1.take ((ji20) : Int).toNat)).bind fun t325 => (if t325 = true then (if t321 = true then (if 0 ≤ (ji22) then (if (ji22) ≤ (l1.length : Int) then ((symbolonref01_Same.f kj4 t320 (l1.drop ((ji22) : Int).toNat)).bind fun t327 => (some t327)) else (none)) else (none)) else (none)) else (none))) else (none)) else (none)) else (none)) else (none)) = some r := by rw [if_neg (show ¬ (false = true) by decide)] at H; exact H
                          clear H
                          have H := H1
                          clear H1
                          by_cases c26 : (t312.length : Int) = 0
                          · rw [if_pos c26] at H
                            have c26b0 : ((t312.length : Int) == 0) = true := beq_iff_eq.mpr c26
                            have c26b1 : ((t312.length : Int) != 0) = false := bne_eq_false_iff_eq.mpr c26
                            clear c26
                            by_cases c27 : t317 = true
                            · subst c27
                              have H1 : (if 0 ≤ (ji20) then (if (ji20) ≤ (l1.length : Int) then ((symbolonref01_Same.f kj4 t316 (l1.take ((ji20) : Int).toNat)).bind fun t325 => (if t325 = true then (if t321 = true then (if 0 ≤ (ji22) then (if (ji22) ≤ (l1.length : Int) then ((symbolonref01_Same.f kj4 t320 (l1.drop ((ji22) : Int).toNat)).bind fun t327 => (some t327)) else (none)) else (none)) else (none)) else (none))) else (none)) else (none)) = some r := by rw [if_pos rfl] at H; exact H
                              clear H
                              have H := H1
                              clear H1
                              by_cases c29 : 0 ≤ (ji20)
                              · rw [if_pos c29] at H
                                have c29b0 := eq_true c29
                                have c29b1 : decide (0 ≤ (ji20)) = true := decide_eq_true c29
                                clear c29
                                by_cases c30 : (ji20) ≤ (l1.length : Int)
                                · rw [if_pos c30] at H
                                  have c30b0 := eq_true c30
                                  have c30b1 : decide ((ji20) ≤ (l1.length : Int)) = true := decide_eq_true c30
                                  clear c30
                                  replace H := Option.bind_eq_some_iff.mp H
                                  obtain ⟨t325, A310, H⟩ := H
                                  replace H : (if t325 = true then (if t321 = true then (if 0 ≤ (ji22) then (if (ji22) ≤ (l1.length : Int) then ((symbolonref01_Same.f kj4 t320 (l1.drop ((ji22) : Int).toNat)).bind fun t327 => (some t327)) else (none)) else (none)) else (none)) else (none)) = some r := H
                                  have A31 := Aside0.mk A310
                                  clear A310
                                  by_cases c32 : t325 = true
                                  · subst c32
                                    have H1 : (if t321 = true then (if 0 ≤ (ji22) then (if (ji22) ≤ (l1.length : Int) then ((symbolonref01_Same.f kj4 t320 (l1.drop ((ji22) : Int).toNat)).bind fun t327 => (some t327)) else (none)) else (none)) else (none)) = some r := by rw [if_pos rfl] at H; exact H
                                    clear H
                                    have H := H1
                                    clear H1
                                    by_cases c33 : t321 = true
                                    · subst c33
                                      have H1 : (if 0 ≤ (ji22) then (if (ji22) ≤ (l1.length : Int) then ((symbolonref01_Same.f kj4 t320 (l1.drop ((ji22) : Int).toNat)).bind fun t327 => (some t327)) else (none)) else (none)) = some r := by rw [if_pos rfl] at H; exact H
                                      clear H
                                      have H := H1
                                      clear H1
                                      by_cases c34 : 0 ≤ (ji22)
                                      · rw [if_pos c34] at H
                                        have c34b0 := eq_true c34
                                        have c34b1 : decide (0 ≤ (ji22)) = true := decide_eq_true c34
                                        clear c34
                                        by_cases c35 : (ji22) ≤ (l1.length : Int)
                                        · rw [if_pos c35] at H
                                          have c35b0 := eq_true c35
                                          have c35b1 : decide ((ji22) ≤ (l1.length : Int)) = true := decide_eq_true c35
                                          clear c35
                                          replace H := Option.bind_eq_some_iff.mp H
                                          obtain ⟨t327, A360, H⟩ := H
                                          replace H : (some t327) = some r := H
                                          have A36 := Aside0.mk A360
                                          clear A360
                                          obtain rfl := Option.some.inj H
                                          try go_wp2_with (first | ((with_reducible refine gate_callee (f := 20) rfl ?_); refine goesL_ (some 34) rfl rfl Try.func20 (by kernel_rfl) rfl #[.int .i64 (Int.tmod (wrap64 (a0)) 60000), .slice A1 l1.length c1] rfl (by (try simp only [List.map_toArray, List.map_cons, List.map_nil]); first | done | rfl | (simp only [List.length_drop, List.length_take]; rfl)) ?_; (with_reducible refine (chunk_Cut.calls (Int.tmod (wrap64 (a0)) 60000) _ _ l1 t290 _ ?side1 ?side2 A9.out).mono ?_); (case side1 => repeat (first | exact (Kd.C_below HR1.out HB.out) | (with_reducible refine Kd.C_alloc ?_ _) | (with_reducible refine Kd.C_drewN ?_ _) | (with_reducible refine Kd.C_drew ?_))); (case side2 => exact HC1.out); rintro e w37 ⟨v291, rfl, ho0, hb⟩; refine ⟨_, rfl, ?_⟩; have n0_ := Aside0.mk (Kd.N_lower (Kd.N_mono (ok' := fun k_ => True) (Kd.S_N (Kd.S_bound ho0)) (fun k_ hk_ => trivial)) (below_size (by repeat (first | (with_reducible first | exact HB.out | apply below_alloc | apply pw_below_drewN | apply below_drew1) | exact HB.out)))); have n1_ := Aside0.mk (below_step (by repeat (first | (with_reducible first | exact HB.out | apply below_alloc | apply pw_below_drewN | apply below_drew1) | exact HB.out)) hb); clear HB; have HO292 := n0_; have HB := n1_; clear n0_ n1_; (try clear hb); (try clear hb2); (try clear hk); (try clear hi); (try clear ho0); obtain ⟨Ao38, co38, eo38⟩ := Kd.N_slice HO292.out; subst eo38))
                                          have n0_ := Aside0.mk (Kd.N_drew HO292.out)
                                          have n1_ := Aside0.mk (below_drew1 HB.out)
                                          clear HO292
                                          clear HB
                                          have HO292 := n0_
                                          have HB := n1_
                                          clear n0_ n1_
                                          have q40 : ((ji11) : Int) ≤ ((t290.length : Int) : Int) := of_decide_eq_true (by first | (with_reducible assumption) | assumption)
                                          obtain ⟨i040, hi040, _, hsz40, _⟩ := info_parts info23
                                          have hroom40 : t290.length ≤ co38 := (Kd.N_reads' HO292.out).2.1
                                          have hC40 : Kd.F (Kd.slice 5 (Kd.int .u8)) _ _ Ao38 t290.length t290 := (Kd.V_at (base := w.heap.size) (Kd.N_V HO292.out)).2.2
                                          have hcut40 := cut_to (P := Try.prog) 24 23 .i64 Try.underlying24 hi040 Ao38 t290.length co38 (ji11) (of_decide_eq_true (by first | (with_reducible assumption) | assumption)) q40 hroom40
                                          have hr40 := Kd.F_take (m := ((ji11) : Int).toNat) hC40 (by omega)
                                          have hy40 : y296.length = ((ji11) : Int).toNat := (by rw [Ny296.out, List.length_take]; omega)
                                          rw [← Ny296.out] at hr40
                                          rw [← hy40] at hcut40
                                          have HO300 := Aside0.mk (show Kd.V (Kd.slice 5 (Kd.int .u8)) 23 _ w.heap.size _ (.slice Ao38 y296.length co38) y296 from Kd.V_mk (by omega) hr40)
                                          have HC300 := Aside0.mk (show y296.length ≤ co38 from by omega)
                                          clear hr40 hC40 hroom40 hi040 hsz40
                                          have KY40 := Aside0.mk hy40
                                          clear hy40
                                          replace q40 := eq_true q40
                                          have q41 : ((ji15) : Int) ≤ ((t290.length : Int) : Int) := of_decide_eq_true (by first | (with_reducible assumption) | assumption)
                                          obtain ⟨i041, hi041, _, hsz41, _⟩ := info_parts info23
                                          have hroom41 : t290.length ≤ co38 := (Kd.N_reads' HO292.out).2.1
                                          have hC41 : Kd.F (Kd.slice 5 (Kd.int .u8)) _ _ Ao38 t290.length t290 := (Kd.V_at (base := w.heap.size) (Kd.N_V HO292.out)).2.2
                                          have q041 : (0 : Int) ≤ ((ji15) : Int) := of_decide_eq_true (by first | (with_reducible assumption) | assumption)
                                          have hcut41 := cut_from (P := Try.prog) 24 23 .i64 Try.underlying24 hi041 1 hsz41 Ao38 t290.length co38 (ji15) q041 q41
                                          have hr41 := Kd.F_cut (m := ((ji15) : Int).toNat) (c := co38) hC41 (by omega) hroom41
                                          obtain ⟨A41, hA41⟩ : ∃ A1, A1 = (if co38 = ((ji15) : Int).toNat then Ao38 else (Ao38 : Option Addr).map (·.add (((ji15) : Int).toNat * 1))) := ⟨_, rfl⟩
                                          obtain ⟨c41, hc41⟩ : ∃ c1, c1 = co38 - ((ji15) : Int).toNat := ⟨_, rfl⟩
                                          have hy41 : y304.length = t290.length - ((ji15) : Int).toNat := (by rw [Ny304.out, List.length_drop] <;> omega)
                                          rw [show (t290).drop ((ji15) : Int).toNat = y304 from Ny304.out.symm] at hr41
                                          replace hr41 : Kd.F (Kd.slice 5 (Kd.int .u8)) _ _ A41 y304.length y304 := (by rw [hA41]; exact hr41)
                                          rw [← hy41, ← hA41, ← hc41] at hcut41
                                          have HO308 := Aside0.mk (show Kd.V (Kd.slice 5 (Kd.int .u8)) 23 _ w.heap.size _ (.slice A41 y304.length c41) y304 from Kd.V_mk (by rw [hy41, hc41]; exact Nat.sub_le_sub_right hroom41 _) hr41)
                                          have HC308 := Aside0.mk (show y304.length ≤ c41 from by rw [hy41, hc41]; exact Nat.sub_le_sub_right hroom41 _)
                                          clear hr41 hC41 hroom41 hi041 hsz41 hc41
                                          have KY41 := Aside0.mk hy41
                                          have KA41 := Aside0.mk hA41
                                          clear hy41 hA41
                                          replace q41 := eq_true q41
                                          refine start_ (n := 11) (S := fun w' => True) (ds := []) #[false, false, false, false, false, false, false, false, false, false, false] (by kernel_rfl) rfl rfl trivial (fun hHeld => ?_); refine with_tabW symbolonlaw14_ChunkLacks.tab9 symbolonlaw14_ChunkLacks.bits9 (fun HT_ HW_ => ?_)
                                          generalize w37.drew = w39 at HO292 HB HO300 HO308 hHeld ⊢
                                          refine pure_ (i := 1) (N := some 44) (v := ?_) (a' := ?_) #[false, true, false, false, false, false, false, false, false, false, false] rfl rfl (any_of HT_.out (by kernel_rfl)) (fun _ _ _ h => h) (Or.inl ⟨by rfl, ?_⟩) ?_ ?_
                                          rotate_left
                                          · intro w'
                                            go_simp
                                            with_reducible rfl
                                          rotate_left
                                          · simp only [Act.put, List.setIfInBounds_toArray, List.set_cons_zero, List.set_cons_succ, i64_w, i32_w]
                                            rfl
                                          refine pure_ (i := 2) (N := some 45) (v := ?_) (a' := ?_) #[false, true, true, false, false, false, false, false, false, false, false] rfl rfl (any_of HT_.out (by kernel_rfl)) (fun _ _ _ h => h) (Or.inl ⟨by rfl, ?_⟩) ?_ ?_
                                          rotate_left
                                          · intro w'
                                            go_simp
                                            with_reducible rfl
                                          rotate_left
                                          · simp only [Act.put, List.setIfInBounds_toArray, List.set_cons_zero, List.set_cons_succ, i64_w, i32_w]
                                            rfl
                                          refine pure_ (i := 3) (N := some 46) (v := ?_) (a' := ?_) #[false, true, true, true, false, false, false, false, false, false, false] rfl rfl (any_of HT_.out (by kernel_rfl)) (fun _ _ _ h => h) (Or.inl ⟨by rfl, ?_⟩) ?_ ?_
                                          rotate_left
                                          · intro w'
                                            go_simp
                                            with_reducible rfl
                                          rotate_left
                                          · simp only [Act.put, List.setIfInBounds_toArray, List.set_cons_zero, List.set_cons_succ, i64_w, i32_w]
                                            rfl
                                          refine pure_ (i := 5) (N := some 48) (v := ?_) (a' := ?_) #[false, true, true, true, false, true, false, false, false, false, false] rfl rfl (any_of HT_.out (by kernel_rfl)) (fun _ _ _ h => h) (Or.inl ⟨by rfl, ?_⟩) ?_ ?_
                                          rotate_left
                                          · intro w'
                                            go_simp
                                            with_reducible rfl
                                          rotate_left
                                          · simp only [Act.put, List.setIfInBounds_toArray, List.set_cons_zero, List.set_cons_succ, i64_w, i32_w]
                                            rfl
                                          refine pure_ (i := 6) (N := some 49) (v := ?_) (a' := ?_) #[false, true, true, true, false, true, true, false, false, false, false] rfl rfl (any_of HT_.out (by kernel_rfl)) (fun _ _ _ h => h) (Or.inl ⟨by rfl, ?_⟩) ?_ ?_
                                          rotate_left
                                          · intro w'
                                            go_simp
                                            with_reducible rfl
                                          rotate_left
                                          · simp only [Act.put, List.setIfInBounds_toArray, List.set_cons_zero, List.set_cons_succ, i64_w, i32_w]
                                            rfl
                                          refine pure_ (i := 7) (N := some 50) (v := ?_) (a' := ?_) #[false, true, true, true, false, true, true, true, false, false, false] rfl rfl (any_of HT_.out (by kernel_rfl)) (fun _ _ _ h => h) (Or.inl ⟨by rfl, ?_⟩) ?_ ?_
                                          rotate_left
                                          · intro w'
                                            go_simp
                                            with_reducible rfl
                                          rotate_left
                                          · simp only [Act.put, List.setIfInBounds_toArray, List.set_cons_zero, List.set_cons_succ, i64_w, i32_w]
                                            rfl
                                          refine pure_ (i := 8) (N := some 51) (v := ?_) (a' := ?_) #[false, true, true, true, false, true, true, true, true, false, false] rfl rfl (any_of HT_.out (by kernel_rfl)) (fun _ _ _ h => h) (Or.inl ⟨by rfl, ?_⟩) ?_ ?_
                                          rotate_left
                                          · intro w'
                                            go_simp
                                            with_reducible rfl
                                          rotate_left
                                          · simp only [Act.put, List.setIfInBounds_toArray, List.set_cons_zero, List.set_cons_succ, i64_w, i32_w]
                                            rfl
                                          refine one_ (i := 0) (N := some 43) #[true, true, true, true, false, true, true, true, true, false, false] rfl rfl (one_of HT_.out (by kernel_rfl)) (by decide) (fun K hK => ?_)
                                          refine Kd.N_lit_step (Kd.slice 5 (Kd.int .u8)) _ 23 ?hg (N' := 43) ?hd (xs := ([] : List (List Int))) (inner := []) (ok := (fun k_ => some k_ ≠ (.slice Ao38 t290.length co38 : Value).ownBlock)) (okp := (fun k_ => some k_ ≠ (.slice Ao38 t290.length co38 : Value).ownBlock)) ?hr ?hp (fun _ hk => hk) ((show ∀ k_, w39.heap.size ≤ k_ → (fun k_ => some k_ ≠ (.slice Ao38 t290.length co38 : Value).ownBlock) k_ from fun k_ hk => Kd.fresh' (Kd.N_lt (by (with_reducible repeat (first | apply Kd.N_alloc | apply Kd.N_drewN | apply Kd.N_drew)); exact HO292.out)) k_ hk) _ (Nat.le_refl _)) (Below.refl _ _) (Nat.le_refl _) (by simp) ?_; (case hd => rfl); (case hg => rfl); (case hr => first | (go_simp; done) | (go_simp; rfl)); (case hp => exact (Reps.none _ _))
                                          intro v294 w42 ho43 hb hg_ hnew_
                                          clear hg_ hnew_
                                          (first | rw [← Ny293.out] at ho43 | (simp only [Int.reduceToNat] at ho43; rw [← Ny293.out] at ho43))
                                          have n0_ := Aside0.mk (Kd.N_elder' (by (with_reducible repeat (first | apply Kd.N_alloc | apply Kd.N_drewN | apply Kd.N_drew)); exact HO292.out) (Kd.N_base ho43) hb)
                                          have n1_ := Aside0.mk (Kd.V_elder' (by (with_reducible repeat (first | apply Kd.V_alloc | apply Kd.V_drewN | apply Kd.V_drew)); exact HO300.out) (Kd.N_base ho43) hb)
                                          have n2_ := Aside0.mk (Kd.V_elder' (by (with_reducible repeat (first | apply Kd.V_alloc | apply Kd.V_drewN | apply Kd.V_drew)); exact HO308.out) (Kd.N_base ho43) hb)
                                          have n3_ := Aside0.mk (Kd.N_lower ho43 (below_size (by repeat (first | (with_reducible first | exact HB.out | apply below_alloc | apply pw_below_drewN | apply below_drew1) | exact HB.out))))
                                          have n4_ := Aside0.mk (below_step (by repeat (first | (with_reducible first | exact HB.out | apply below_alloc | apply pw_below_drewN | apply below_drew1) | exact HB.out)) hb)
                                          clear HO292
                                          clear HO300
                                          clear HO308
                                          clear HB
                                          have HO292 := n0_
                                          have HO300 := n1_
                                          have HO308 := n2_
                                          have HO295 := n3_
                                          have HB := n4_
                                          clear n0_ n1_ n2_ n3_ n4_
                                          clear hb ho43
                                          refine hK.out _ _ trivial (fun hHeld => ?_)
                                          clear hK K
                                          refine norm_ (a' := ?_) ?_ ?_
                                          rotate_left
                                          · show Act.put _ (some 43) _ = _
                                            simp only [Act.put, List.setIfInBounds_toArray, List.set_cons_zero, List.set_cons_succ, i64_w, i32_w]
                                            rfl
                                          refine one_ (i := 4) (N := some 47) #[true, true, true, true, true, true, true, true, true, false, false] rfl rfl (one_of HT_.out (by kernel_rfl)) (by decide) (fun K hK => ?_)
                                          refine Kd.N_append_rows_step (Kd.slice 5 (Kd.int .u8)) (w0 := w) w.heap.size (by rfl) (.tmp 43) (.tmp 46) 24 23 (.slice none 0 0) 24 rfl Try.underlying24 info23 rfl (by decide) (by omega) v294 y293 y296 _ _ _ (fun _ => True) (fun k_ => ((fun _ => True)) k_ ∧ some k_ ≠ (v294 : Value).ownBlock) rfl rfl ?aO ?aR (fun _ hk => hk) ?aF ?aB ?aS ?aL ?_
                                          (case aR => exact (by skip; exact Kd.V_F (Kd.V_mono (ok' := (fun k_ => ((fun _ => True)) k_ ∧ some k_ ≠ (v294 : Value).ownBlock)) (HO300.out) (fun k_ hk => ⟨trivial, hk.2⟩))))
                                          (case aB => exact (by repeat (first | (with_reducible first | exact HB.out | apply below_alloc | apply pw_below_drewN | apply below_drew1) | exact HB.out)))
                                          (case aF => exact (fun _ _ => trivial))
                                          (case aO => exact (by (with_reducible repeat (first | apply Kd.N_alloc | apply Kd.N_drewN | apply Kd.N_drew)); exact Kd.N_mono HO295.out (fun _ hk => trivial)))
                                          (case aS => exact (below_size (by repeat (first | (with_reducible first | exact HB.out | apply below_alloc | apply pw_below_drewN | apply below_drew1) | exact HB.out))))
                                          (case aL => have := LMc14.out; omega)
                                          intro v302 w44 ho hb hg hat
                                          rw [← Ny301.out] at ho
                                          have n0_ := Aside0.mk (Kd.N_afterv (ok := (fun _ => True)) (by (with_reducible repeat (first | apply Kd.N_alloc | apply Kd.N_drewN | apply Kd.N_drew)); exact HO292.out) hg hat)
                                          have n1_ := Aside0.mk (Kd.V_afterv (ok := (fun _ => True)) (by (with_reducible repeat (first | apply Kd.V_alloc | apply Kd.V_drewN | apply Kd.V_drew)); exact HO300.out) hg hat)
                                          have n2_ := Aside0.mk (Kd.V_afterv (ok := (fun _ => True)) (by (with_reducible repeat (first | apply Kd.V_alloc | apply Kd.V_drewN | apply Kd.V_drew)); exact HO308.out) hg hat)
                                          have n3_ := Aside0.mk (hb)
                                          have n4_ := Aside0.mk (ho)
                                          clear HO292
                                          clear HO300
                                          clear HO308
                                          clear HB
                                          clear HO295
                                          have HO292 := n0_
                                          have HO300 := n1_
                                          have HO308 := n2_
                                          have HB := n3_
                                          have HO303 := n4_
                                          clear n0_ n1_ n2_ n3_ n4_
                                          clear ho hb hg hat
                                          refine hK.out _ _ trivial (fun hHeld => ?_)
                                          clear hK K
                                          refine norm_ (a' := ?_) ?_ ?_
                                          rotate_left
                                          · show Act.put _ (some 47) _ = _
                                            simp only [Act.put, List.setIfInBounds_toArray, List.set_cons_zero, List.set_cons_succ, i64_w, i32_w]
                                            rfl
                                          refine one_ (i := 9) (N := some 52) #[true, true, true, true, true, true, true, true, true, true, false] rfl rfl (one_of HT_.out (by kernel_rfl)) (by decide) (fun K hK => ?_)
                                          refine Kd.N_append_rows_step (Kd.slice 5 (Kd.int .u8)) (w0 := w) w.heap.size (by rfl) (.tmp 47) (.tmp 51) 24 23 (.slice none 0 0) 24 rfl Try.underlying24 info23 rfl (by decide) (by omega) v302 y301 y304 _ _ _ (fun _ => True) (fun k_ => ((fun _ => True)) k_ ∧ some k_ ≠ (v302 : Value).ownBlock) rfl rfl ?aO ?aR (fun _ hk => hk) ?aF ?aB ?aS ?aL ?_
                                          (case aR => exact (by skip; exact Kd.V_F (Kd.V_mono (ok' := (fun k_ => ((fun _ => True)) k_ ∧ some k_ ≠ (v302 : Value).ownBlock)) (HO308.out) (fun k_ hk => ⟨trivial, hk.2⟩))))
                                          (case aB => exact (by repeat (first | (with_reducible first | exact HB.out | apply below_alloc | apply pw_below_drewN | apply below_drew1) | exact HB.out)))
                                          (case aF => exact (fun _ _ => trivial))
                                          (case aO => exact (by (with_reducible repeat (first | apply Kd.N_alloc | apply Kd.N_drewN | apply Kd.N_drew)); exact HO303.out))
                                          (case aS => exact (below_size (by repeat (first | (with_reducible first | exact HB.out | apply below_alloc | apply pw_below_drewN | apply below_drew1) | exact HB.out))))
                                          (case aL => have := LMc18.out; omega)
                                          intro v310 w45 ho hb hg hat
                                          rw [← Ny309.out] at ho
                                          have n0_ := Aside0.mk (Kd.N_afterv (ok := (fun _ => True)) (by (with_reducible repeat (first | apply Kd.N_alloc | apply Kd.N_drewN | apply Kd.N_drew)); exact HO292.out) hg hat)
                                          have n1_ := Aside0.mk (Kd.V_afterv (ok := (fun _ => True)) (by (with_reducible repeat (first | apply Kd.V_alloc | apply Kd.V_drewN | apply Kd.V_drew)); exact HO300.out) hg hat)
                                          have n2_ := Aside0.mk (Kd.V_afterv (ok := (fun _ => True)) (by (with_reducible repeat (first | apply Kd.V_alloc | apply Kd.V_drewN | apply Kd.V_drew)); exact HO308.out) hg hat)
                                          have n3_ := Aside0.mk (hb)
                                          have n4_ := Aside0.mk (ho)
                                          clear HO292
                                          clear HO300
                                          clear HO308
                                          clear HB
                                          clear HO303
                                          have HO292 := n0_
                                          have HO300 := n1_
                                          have HO308 := n2_
                                          have HB := n3_
                                          have HO311 := n4_
                                          clear n0_ n1_ n2_ n3_ n4_
                                          clear ho hb hg hat
                                          refine hK.out _ _ trivial (fun hHeld => ?_)
                                          clear hK K
                                          refine norm_ (a' := ?_) ?_ ?_
                                          rotate_left
                                          · show Act.put _ (some 52) _ = _
                                            simp only [Act.put, List.setIfInBounds_toArray, List.set_cons_zero, List.set_cons_succ, i64_w, i32_w]
                                            rfl
                                          refine pure_ (i := 10) (N := some 11) (v := ?_) (a' := ?_) #[true, true, true, true, true, true, true, true, true, true, true] rfl rfl (any_of HT_.out (by kernel_rfl)) (fun _ _ _ h => h) (Or.inl ⟨by rfl, ?_⟩) ?_ ?_
                                          rotate_left
                                          · intro w'
                                            go_simp
                                            with_reducible rfl
                                          rotate_left
                                          · simp only [Act.put, List.setIfInBounds_toArray, List.set_cons_zero, List.set_cons_succ, i64_w, i32_w]
                                            rfl
                                          refine done_ (done_of HT_.out (by kernel_rfl)) ?_
                                          obtain ⟨Ao46, co46, eo46⟩ := Kd.N_slice HO311.out
                                          subst eo46
                                          try go_wp2_with (first | ((with_reducible refine gate_callee (f := 14) rfl ?_); refine goesL_ (some 58) rfl rfl Try.func14 (by kernel_rfl) rfl #[.int .i64 (Int.tmod (wrap64 (a0)) 60000), .int .i64 (l1.length : Int), .slice Ao46 y309.length co46] rfl (by (try simp only [List.map_toArray, List.map_cons, List.map_nil]); first | done | rfl | (simp only [List.length_drop, List.length_take]; rfl)) ?_; (with_reducible refine (chunk_Gather.calls kj4 (Int.tmod (wrap64 (a0)) 60000) (l1.length : Int) _ _ y309 t312 false _ ?side1 ?side2 A19.out).mono ?_); (case side1 => repeat (first | exact (Kd.N_reads' HO311.out).2.2 | (with_reducible refine Kd.C_alloc ?_ _) | (with_reducible refine Kd.C_drewN ?_ _) | (with_reducible refine Kd.C_drew ?_))); (case side2 => exact (Kd.N_reads' HO311.out).2.1); rintro e w47 ⟨v314, rfl, ho0, hb⟩; refine ⟨_, rfl, ?_⟩; have n0_ := Aside0.mk (Kd.N_elder' (by (with_reducible repeat (first | apply Kd.N_alloc | apply Kd.N_drewN | apply Kd.N_drew)); exact HO292.out) (Kd.R_base ho0) hb); have n1_ := Aside0.mk (Kd.V_elder' (by (with_reducible repeat (first | apply Kd.V_alloc | apply Kd.V_drewN | apply Kd.V_drew)); exact HO300.out) (Kd.R_base ho0) hb); have n2_ := Aside0.mk (Kd.V_elder' (by (with_reducible repeat (first | apply Kd.V_alloc | apply Kd.V_drewN | apply Kd.V_drew)); exact HO308.out) (Kd.R_base ho0) hb); have n3_ := Aside0.mk (Kd.N_elder' (by (with_reducible repeat (first | apply Kd.N_alloc | apply Kd.N_drewN | apply Kd.N_drew)); exact HO311.out) (Kd.R_base ho0) hb); have n4_ := Aside0.mk (Kd.R_lower ho0 (below_size (by repeat (first | (with_reducible first | exact HB.out | apply below_alloc | apply pw_below_drewN | apply below_drew1) | exact HB.out)))); have n5_ := Aside0.mk (below_step (by repeat (first | (with_reducible first | exact HB.out | apply below_alloc | apply pw_below_drewN | apply below_drew1) | exact HB.out)) hb); clear HO292; clear HO300; clear HO308; clear HO311; clear HB; have HO292 := n0_; have HO300 := n1_; have HO308 := n2_; have HO311 := n3_; have HO315 := n4_; have HB := n5_; clear n0_ n1_ n2_ n3_ n4_ n5_; (try clear hb); (try clear hb2); (try clear hk); (try clear hi); (try clear ho0)) | ((with_reducible refine gate_callee (f := 14) rfl ?_); refine goesL_ (some 69) rfl rfl Try.func14 (by kernel_rfl) rfl #[.int .i64 (Int.tmod (wrap64 (a0)) 60000), .int .i64 ji20, .slice Ao46 y309.length co46] rfl (by (try simp only [List.map_toArray, List.map_cons, List.map_nil]); first | done | (simp only [hji20]; rfl) | rfl | (simp only [List.length_drop, List.length_take]; rfl)) ?_; (with_reducible refine (chunk_Gather.calls kj4 (Int.tmod (wrap64 (a0)) 60000) ji20 _ _ y309 t316 true _ ?side1 ?side2 A21.out).mono ?_); (case side1 => repeat (first | exact (Kd.N_reads' HO311.out).2.2 | (with_reducible refine Kd.C_alloc ?_ _) | (with_reducible refine Kd.C_drewN ?_ _) | (with_reducible refine Kd.C_drew ?_))); (case side2 => exact (Kd.N_reads' HO311.out).2.1); rintro e w48 ⟨v318, rfl, ho0, hb⟩; refine ⟨_, rfl, ?_⟩; have n0_ := Aside0.mk (Kd.N_elder' (by (with_reducible repeat (first | apply Kd.N_alloc | apply Kd.N_drewN | apply Kd.N_drew)); exact HO292.out) (Kd.R_base ho0) hb); have n1_ := Aside0.mk (Kd.V_elder' (by (with_reducible repeat (first | apply Kd.V_alloc | apply Kd.V_drewN | apply Kd.V_drew)); exact HO300.out) (Kd.R_base ho0) hb); have n2_ := Aside0.mk (Kd.V_elder' (by (with_reducible repeat (first | apply Kd.V_alloc | apply Kd.V_drewN | apply Kd.V_drew)); exact HO308.out) (Kd.R_base ho0) hb); have n3_ := Aside0.mk (Kd.N_elder' (by (with_reducible repeat (first | apply Kd.N_alloc | apply Kd.N_drewN | apply Kd.N_drew)); exact HO311.out) (Kd.R_base ho0) hb); have n4_ := Aside0.mk (Kd.R_elder' (by (with_reducible repeat (first | apply Kd.R_alloc | apply Kd.R_drewN | apply Kd.R_drew)); exact HO315.out) (Kd.R_base ho0) hb); have n5_ := Aside0.mk (Kd.R_lower (Kd.R_new' ho0 (Kd.R_lt (by (with_reducible repeat (first | apply Kd.R_alloc | apply Kd.R_drewN | apply Kd.R_drew)); exact HO315.out))) (below_size (by repeat (first | (with_reducible first | exact HB.out | apply below_alloc | apply pw_below_drewN | apply below_drew1) | exact HB.out)))); have n6_ := Aside0.mk (below_step (by repeat (first | (with_reducible first | exact HB.out | apply below_alloc | apply pw_below_drewN | apply below_drew1) | exact HB.out)) hb); clear HO292; clear HO300; clear HO308; clear HO311; clear HO315; clear HB; have HO292 := n0_; have HO300 := n1_; have HO308 := n2_; have HO311 := n3_; have HO315 := n4_; have HO319 := n5_; have HB := n6_; clear n0_ n1_ n2_ n3_ n4_ n5_ n6_; (try clear hb); (try clear hb2); (try clear hk); (try clear hi); (try clear ho0)) | ((with_reducible refine gate_callee (f := 14) rfl ?_); refine goesL_ (some 87) rfl rfl Try.func14 (by kernel_rfl) rfl #[.int .i64 (wrap64 ((Int.tmod (wrap64 (a0)) 60000) + (ji22))), .int .i64 (wrap64 ((l1.length : Int) - (ji22))), .slice Ao46 y309.length co46] rfl (by (try simp only [List.map_toArray, List.map_cons, List.map_nil]); first | done | (simp only [hji22]; rfl) | rfl | (simp only [List.length_drop, List.length_take]; rfl)) ?_; (with_reducible refine (chunk_Gather.calls kj4 (wrap64 ((Int.tmod (wrap64 (a0)) 60000) + (ji22))) (wrap64 ((l1.length : Int) - (ji22))) _ _ y309 t320 true _ ?side1 ?side2 A23.out).mono ?_); (case side1 => repeat (first | exact (Kd.N_reads' HO311.out).2.2 | (with_reducible refine Kd.C_alloc ?_ _) | (with_reducible refine Kd.C_drewN ?_ _) | (with_reducible refine Kd.C_drew ?_))); (case side2 => exact (Kd.N_reads' HO311.out).2.1); rintro e w49 ⟨v322, rfl, ho0, hb⟩; refine ⟨_, rfl, ?_⟩; have n0_ := Aside0.mk (Kd.N_elder' (by (with_reducible repeat (first | apply Kd.N_alloc | apply Kd.N_drewN | apply Kd.N_drew)); exact HO292.out) (Kd.R_base ho0) hb); have n1_ := Aside0.mk (Kd.V_elder' (by (with_reducible repeat (first | apply Kd.V_alloc | apply Kd.V_drewN | apply Kd.V_drew)); exact HO300.out) (Kd.R_base ho0) hb); have n2_ := Aside0.mk (Kd.V_elder' (by (with_reducible repeat (first | apply Kd.V_alloc | apply Kd.V_drewN | apply Kd.V_drew)); exact HO308.out) (Kd.R_base ho0) hb); have n3_ := Aside0.mk (Kd.N_elder' (by (with_reducible repeat (first | apply Kd.N_alloc | apply Kd.N_drewN | apply Kd.N_drew)); exact HO311.out) (Kd.R_base ho0) hb); have n4_ := Aside0.mk (Kd.R_elder' (by (with_reducible repeat (first | apply Kd.R_alloc | apply Kd.R_drewN | apply Kd.R_drew)); exact HO315.out) (Kd.R_base ho0) hb); have n5_ := Aside0.mk (Kd.R_elder' (by (with_reducible repeat (first | apply Kd.R_alloc | apply Kd.R_drewN | apply Kd.R_drew)); exact HO319.out) (Kd.R_base ho0) hb); have n6_ := Aside0.mk (Kd.R_lower (Kd.R_new' (Kd.R_new' ho0 (Kd.R_lt (by (with_reducible repeat (first | apply Kd.R_alloc | apply Kd.R_drewN | apply Kd.R_drew)); exact HO315.out))) (Kd.R_lt (by (with_reducible repeat (first | apply Kd.R_alloc | apply Kd.R_drewN | apply Kd.R_drew)); exact HO319.out))) (below_size (by repeat (first | (with_reducible first | exact HB.out | apply below_alloc | apply pw_below_drewN | apply below_drew1) | exact HB.out)))); have n7_ := Aside0.mk (below_step (by repeat (first | (with_reducible first | exact HB.out | apply below_alloc | apply pw_below_drewN | apply below_drew1) | exact HB.out)) hb); clear HO292; clear HO300; clear HO308; clear HO311; clear HO315; clear HO319; clear HB; have HO292 := n0_; have HO300 := n1_; have HO308 := n2_; have HO311 := n3_; have HO315 := n4_; have HO319 := n5_; have HO323 := n6_; have HB := n7_; clear n0_ n1_ n2_ n3_ n4_ n5_ n6_ n7_; (try clear hb); (try clear hb2); (try clear hk); (try clear hi); (try clear ho0); obtain ⟨Ao50, co50, eo50⟩ := Kd.R_slice HO315.out; subst eo50; obtain ⟨i051, hi051, _, hsz51, _⟩ := info_parts info40; obtain ⟨hcut51, hA51, hC51⟩ := print_take_of (P := Try.prog) (Value.int .u64) 0 22 40 .i64 Try.underlying22 hi051 hsz51 A1 c1 l1 (ji20) (of_decide_eq_true (by first | (with_reducible assumption) | assumption)) (of_decide_eq_true (by first | (with_reducible assumption) | assumption)) HC1.out; have HR324 := Aside0.mk (Kd.C_of_reads (h1 := fun _ => rfl) (hA51 _ (Kd.reads_of_C HR1.out))); have HC324 := Aside0.mk hC51; clear hA51 hC51 hi051 hsz51; obtain ⟨Ao52, co52, eo52⟩ := Kd.R_slice HO319.out; subst eo52) | (go_at_call 18; (try rw [show (Value.slice A1 ((ji20) : Int).toNat c1 : Value) = .slice A1 (l1.take ((ji20) : Int).toNat).length c1 from by rw [List.length_take, Nat.min_eq_left (by have h_ : (ji20 : Int) ≤ (l1.length : Int) := of_decide_eq_true (by first | (with_reducible assumption) | assumption); omega)]]); (with_reducible refine (symbolonref01_Same.calls kj4 _ _ t316 _ _ (l1.take ((ji20) : Int).toNat) true _ ?side1 ?side2 ?side3 ?side4 A31.out).mono ?_); (case side1 => repeat (first | exact (Kd.R_reads' HO319.out).2.2 | (with_reducible refine Kd.C_alloc ?_ _) | (with_reducible refine Kd.C_drewN ?_ _) | (with_reducible refine Kd.C_drew ?_))); (case side2 => exact (Kd.R_reads' HO319.out).2.1); (case side3 => repeat (first | exact (Kd.C_below HR324.out HB.out) | (with_reducible refine Kd.C_alloc ?_ _) | (with_reducible refine Kd.C_drewN ?_ _) | (with_reducible refine Kd.C_drew ?_))); (case side4 => exact HC324.out); rintro e w' ⟨rfl, ⟨nd, rfl⟩⟩; obtain ⟨i053, hi053, _, hsz53, _⟩ := info_parts info40; obtain ⟨A53, hcut53, hA53, hC53⟩ := print_drop_of (P := Try.prog) (Value.int .u64) 0 22 40 .i64 Try.underlying22 hi053 hsz53 A1 c1 l1 (ji22) (of_decide_eq_true (by first | (with_reducible assumption) | assumption)) (of_decide_eq_true (by first | (with_reducible assumption) | assumption)) HC1.out; have HR326 := Aside0.mk (Kd.C_of_reads (h1 := fun _ => rfl) (hA53 _ (Kd.reads_of_C HR1.out))); have HC326 := Aside0.mk hC53; clear hA53 hC53 hi053 hsz53; obtain ⟨Ao54, co54, eo54⟩ := Kd.R_slice HO323.out; subst eo54) | (go_at_call 18; (try rw [show ∀ (A_ : Option Addr) (c_ : Nat), (Value.slice A_ (l1.length - ((ji22) : Int).toNat) c_ : Value) = .slice A_ (l1.drop ((ji22) : Int).toNat).length c_ from fun A_ c_ => by rw [List.length_drop]]); (with_reducible refine (symbolonref01_Same.calls kj4 _ _ t320 _ _ (l1.drop ((ji22) : Int).toNat) t327 _ ?side1 ?side2 ?side3 ?side4 A36.out).mono ?_); (case side1 => repeat (first | exact (Kd.R_reads' HO323.out).2.2 | (with_reducible refine Kd.C_alloc ?_ _) | (with_reducible refine Kd.C_drewN ?_ _) | (with_reducible refine Kd.C_drew ?_))); (case side2 => exact (Kd.R_reads' HO323.out).2.1); (case side3 => repeat (first | exact (Kd.C_below HR326.out (by repeat (first | (with_reducible first | exact HB.out | apply below_alloc | apply pw_below_drewN | apply below_drew1) | exact HB.out))) | (with_reducible refine Kd.C_alloc ?_ _) | (with_reducible refine Kd.C_drewN ?_ _) | (with_reducible refine Kd.C_drew ?_))); (case side4 => exact HC326.out); rintro e w' ⟨rfl, ⟨nd, rfl⟩⟩))
                                          go_ret
                                          exact ⟨by first | rfl | (simp [errW_none, errW_some] <;> rfl) | (simp only [← hji11, ← hji15, ← hji20, ← hji22]; first | rfl | (simp [errW_none, errW_some] <;> rfl)) | (simp [*, errW_none, errW_some] <;> rfl), by repeat (first | (with_reducible first | exact HB.out | apply below_alloc | apply pw_below_drewN | apply below_drew1) | exact HB.out)⟩
                                        · rw [if_neg c35] at H
                                          exact absurd H (by simp)
                                      · rw [if_neg c34] at H
                                        exact absurd H (by simp)
                                    · replace c33 := Bool.eq_false_iff.mpr c33
                                      subst c33
                                      have H1 : (none) = some r := by rw [if_neg (show ¬ (false = true) by decide)] at H; exact H
                                      clear H
                                      have H := H1
                                      clear H1
                                      exact absurd H (by simp)
                                  · replace c32 := Bool.eq_false_iff.mpr c32
                                    subst c32
                                    have H1 : (none) = some r := by rw [if_neg (show ¬ (false = true) by decide)] at H; exact H
                                    clear H
                                    have H := H1
                                    clear H1
                                    exact absurd H (by simp)
                                · rw [if_neg c30] at H
                                  exact absurd H (by simp)
                              · rw [if_neg c29] at H
                                exact absurd H (by simp)
                            · replace c27 := Bool.eq_false_iff.mpr c27
                              subst c27
                              have H1 : (none) = some r := by rw [if_neg (show ¬ (false = true) by decide)] at H; exact H
                              clear H
                              have H := H1
                              clear H1
                              exact absurd H (by simp)
                          · rw [if_neg c26] at H
                            exact absurd H (by simp)
                      · replace c24 := Bool.eq_false_iff.mpr c24
                        subst c24
                        have H1 : (none) = some r := by rw [if_neg (show ¬ (false = true) by decide)] at H; exact H
                        clear H
                        have H := H1
                        clear H1
                        exact absurd H (by simp)
                    · rw [if_neg c18] at H
                      exact absurd H (by simp)
                  · rw [if_neg c17] at H
                    exact absurd H (by simp)
                · rw [if_neg c16] at H
                  exact absurd H (by simp)
              · rw [if_neg c14] at H
                exact absurd H (by simp)
            · rw [if_neg c13] at H
              exact absurd H (by simp)
          · rw [if_neg c12] at H
            exact absurd H (by simp)

/-- THE ONE PURE STATEMENT of symbolonlaw14_ChunkLacks. -/
def symbolonlaw14_ChunkLacks.Pure : Prop := ∀ (a0 : Int) (l1 : List Int) (a2 : Int), ((Lit.int .u16 a0).wf = true) → (l1.length ≤ maxLen) → (l1.length * 8 ≤ 140737488351232) → (∀ b ∈ l1, (Lit.int .u64 b).wf = true) → ((Lit.int .u8 a2).wf = true) → ∃ k, symbolonlaw14_ChunkLacks.f k a0 l1 a2 = some true
theorem symbolonlaw14_ChunkLacks.walk (P : symbolonlaw14_ChunkLacks.Pure) (a0 : Int) (A1 : Option Addr) (c1 : Nat) (l1 : List Int) (a2 : Int) (w : World) (hr1 : Kd.C (Kd.int .u64) w A1 l1.length l1) (hc1 : l1.length ≤ c1) (w0 : (Lit.int .u16 a0).wf = true) (m1 : l1.length ≤ maxLen) (y1 : l1.length * 8 ≤ 140737488351232) (v1 : ∀ b ∈ l1, (Lit.int .u64 b).wf = true) (w2 : (Lit.int .u8 a2).wf = true) :
    Calls Try.prog 6 #[.int .u16 a0, .slice A1 l1.length c1, .int .u8 a2] w fun e w' => e = .returned (.bool true) ∧ Below w.heap.size w w' := by
  obtain ⟨k, h⟩ := P a0 l1 a2 w0 m1 y1 v1 w2
  refine (symbolonlaw14_ChunkLacks.calls k a0 A1 c1 l1 a2 true w hr1 hc1 h).mono ?_
  rintro e w' ⟨rfl, hd⟩
  exact ⟨rfl, hd⟩

end Go.Proofs.Ytfkgacjiccgdfaa.Q
