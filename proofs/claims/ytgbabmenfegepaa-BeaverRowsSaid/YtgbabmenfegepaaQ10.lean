-- Laid by a program of this session (wip/myprint.py) in the form of the kit's print; a text of this claim, checked by Lean like any other.
import Derived.Test.YtgbabmenfegepaaQ0
import Derived.Test.YtgbabmenfegepaaQ1
import Derived.Test.YtgbabmenfegepaaQ3
import Derived.Test.YtgbabmenfegepaaQ4
import Derived.Test.YtgbabmenfegepaaQ6
import Derived.Test.YtgbabmenfegepaaQ7
import Derived.Test.YtgbabmenfegepaaQ8
import Derived.Test.YtgbabmenfegepaaQ9
namespace Go.Proofs.Ytgbabmenfegepaa.Q
open Go.RowKit Go.Proofs.YtgbabmenfegepaaW.PrintWords Go.Proofs.YtgbabmenfegepaaW.PrintLast Go.Proofs.YtgbabmenfegepaaW.PrintMore
attribute [local go_sem] max2_int min2_int max_two min_two max_three min_three max_four min_four   -- for this text's walks alone
set_option linter.unusedVariables false
set_option linter.unusedSimpArgs false

attribute [local go_sem high] eqA26
/-! ### symbolonlaw12_head: function 9 -/
def symbolonlaw12_head.f (k : Nat)  : Option (Bool) := (beaver_Open.f 5 7 2 3 1).bind fun bt136 => ((beaver_Open.f 4 1 1 1 11).bind fun bt139 => ((beaver_Sum.f bt136.1 bt136.2 bt139.1 bt139.2).bind fun bt141 => (if (bt136.1 == 3 && (bt136.2 == 4)) = true then (if (bt141.1 == 6 && (bt141.2 == 4)) = true then ((beaver_Close.f 0 bt141.1 bt141.2 2 3 1).bind fun t144 => (if t144 = 51 then ((beaver_Close.f 1 bt141.1 bt141.2 1 1 11).bind fun t145 => (if t145 = 21 then ((beaver_Opens.f k (([1, 2] : List Int)) (([3] : List Int)) (([(⟨2, 3, 1⟩ : S24), (⟨1, 1, 11⟩ : S24)] : List (S24)))).bind fun t155 => (if (t155.length : Int) = 1 then ((beaver_Closes.f k 1 (([(⟨bt141.1, bt141.2⟩ : S26)] : List (S26))) (([(⟨1, 1, 11⟩ : S24), (⟨2, 3, 1⟩ : S24)] : List (S24)))).bind fun t164 => ((symbolonref01_Same.f k t164 (([21] : List Int))).bind fun t170 => (some t170))) else (none))) else (none))) else (none))) else (none)) else (none))))
theorem symbolonlaw12_head.mono : ∀ k, LeO (symbolonlaw12_head.f k ) (symbolonlaw12_head.f (k + 1) ) := by
  intro  k
  unfold symbolonlaw12_head.f
  repeat' first
      | (with_reducible exact beaver_Closes.mono _ _ _ _)
      | (with_reducible exact beaver_Opens.mono _ _ _ _)
      | (with_reducible exact symbolonref01_Same.mono _ _ _)
      | (with_reducible exact LeO.refl _)
      | (with_reducible exact LeO.none _)
      | (with_reducible refine LeO.ite ?_ ?_)
      | (with_reducible refine LeO.bind ?_ (fun _ => ?_))
      | exact beaver_Closes.mono _ _ _ _
      | exact beaver_Opens.mono _ _ _ _
      | exact symbolonref01_Same.mono _ _ _
      | exact LeO.none _
      | refine LeO.ite ?_ ?_
      | refine LeO.bind ?_ (fun _ => ?_)
set_option maxHeartbeats 8000000 in
set_option maxRecDepth 100000 in
theorem symbolonlaw12_head.calls (k : Nat)  (r : Bool) (w : World) (h : symbolonlaw12_head.f k  = some r) :
    Calls Try.prog 9 #[] w fun e w' => e = .returned (.bool r) ∧ Below w.heap.size w w' := by
  have hu24 := Try.underlying24
  have hu26 := Try.underlying26
  have HB := Aside0.mk (Below.refl w.heap.size w)
  have H : ((beaver_Open.f 5 7 2 3 1).bind fun bt136 => ((beaver_Open.f 4 1 1 1 11).bind fun bt139 => ((beaver_Sum.f bt136.1 bt136.2 bt139.1 bt139.2).bind fun bt141 => (if (bt136.1 == 3 && (bt136.2 == 4)) = true then (if (bt141.1 == 6 && (bt141.2 == 4)) = true then ((beaver_Close.f 0 bt141.1 bt141.2 2 3 1).bind fun t144 => (if t144 = 51 then ((beaver_Close.f 1 bt141.1 bt141.2 1 1 11).bind fun t145 => (if t145 = 21 then ((beaver_Opens.f k (([1, 2] : List Int)) (([3] : List Int)) (([(⟨2, 3, 1⟩ : S24), (⟨1, 1, 11⟩ : S24)] : List (S24)))).bind fun t155 => (if (t155.length : Int) = 1 then ((beaver_Closes.f k 1 (([(⟨bt141.1, bt141.2⟩ : S26)] : List (S26))) (([(⟨1, 1, 11⟩ : S24), (⟨2, 3, 1⟩ : S24)] : List (S24)))).bind fun t164 => ((symbolonref01_Same.f k t164 (([21] : List Int))).bind fun t170 => (some t170))) else (none))) else (none))) else (none))) else (none)) else (none))))) = some r := h
  clear h
  replace H := Option.bind_eq_some_iff.mp H
  obtain ⟨⟨t136, t137⟩, A10, H⟩ := H
  replace H : ((beaver_Open.f 4 1 1 1 11).bind fun bt139 => ((beaver_Sum.f t136 t137 bt139.1 bt139.2).bind fun bt141 => (if (t136 == 3 && (t137 == 4)) = true then (if (bt141.1 == 6 && (bt141.2 == 4)) = true then ((beaver_Close.f 0 bt141.1 bt141.2 2 3 1).bind fun t144 => (if t144 = 51 then ((beaver_Close.f 1 bt141.1 bt141.2 1 1 11).bind fun t145 => (if t145 = 21 then ((beaver_Opens.f k (([1, 2] : List Int)) (([3] : List Int)) (([(⟨2, 3, 1⟩ : S24), (⟨1, 1, 11⟩ : S24)] : List (S24)))).bind fun t155 => (if (t155.length : Int) = 1 then ((beaver_Closes.f k 1 (([(⟨bt141.1, bt141.2⟩ : S26)] : List (S26))) (([(⟨1, 1, 11⟩ : S24), (⟨2, 3, 1⟩ : S24)] : List (S24)))).bind fun t164 => ((symbolonref01_Same.f k t164 (([21] : List Int))).bind fun t170 => (some t170))) else (none))) else (none))) else (none))) else (none)) else (none)))) = some r := H
  have A1 := Aside0.mk A10
  clear A10
  replace H := Option.bind_eq_some_iff.mp H
  obtain ⟨⟨t139, t140⟩, A20, H⟩ := H
  replace H : ((beaver_Sum.f t136 t137 t139 t140).bind fun bt141 => (if (t136 == 3 && (t137 == 4)) = true then (if (bt141.1 == 6 && (bt141.2 == 4)) = true then ((beaver_Close.f 0 bt141.1 bt141.2 2 3 1).bind fun t144 => (if t144 = 51 then ((beaver_Close.f 1 bt141.1 bt141.2 1 1 11).bind fun t145 => (if t145 = 21 then ((beaver_Opens.f k (([1, 2] : List Int)) (([3] : List Int)) (([(⟨2, 3, 1⟩ : S24), (⟨1, 1, 11⟩ : S24)] : List (S24)))).bind fun t155 => (if (t155.length : Int) = 1 then ((beaver_Closes.f k 1 (([(⟨bt141.1, bt141.2⟩ : S26)] : List (S26))) (([(⟨1, 1, 11⟩ : S24), (⟨2, 3, 1⟩ : S24)] : List (S24)))).bind fun t164 => ((symbolonref01_Same.f k t164 (([21] : List Int))).bind fun t170 => (some t170))) else (none))) else (none))) else (none))) else (none)) else (none))) = some r := H
  have A2 := Aside0.mk A20
  clear A20
  replace H := Option.bind_eq_some_iff.mp H
  obtain ⟨⟨t141, t142⟩, A30, H⟩ := H
  replace H : (if (t136 == 3 && (t137 == 4)) = true then (if (t141 == 6 && (t142 == 4)) = true then ((beaver_Close.f 0 t141 t142 2 3 1).bind fun t144 => (if t144 = 51 then ((beaver_Close.f 1 t141 t142 1 1 11).bind fun t145 => (if t145 = 21 then ((beaver_Opens.f k (([1, 2] : List Int)) (([3] : List Int)) (([(⟨2, 3, 1⟩ : S24), (⟨1, 1, 11⟩ : S24)] : List (S24)))).bind fun t155 => (if (t155.length : Int) = 1 then ((beaver_Closes.f k 1 (([(⟨t141, t142⟩ : S26)] : List (S26))) (([(⟨1, 1, 11⟩ : S24), (⟨2, 3, 1⟩ : S24)] : List (S24)))).bind fun t164 => ((symbolonref01_Same.f k t164 (([21] : List Int))).bind fun t170 => (some t170))) else (none))) else (none))) else (none))) else (none)) else (none)) = some r := H
  have A3 := Aside0.mk A30
  clear A30
  by_cases c4 : (t136 == 3 && (t137 == 4)) = true
  · rw [if_pos c4] at H
    have c4b0 : (t136 == 3 && (t137 == 4)) = true := c4
    (try (have c4b1 : decide (t136 = 3 && (t137 == 4)) = true := by simpa using c4))
    (try (have c4b2 : (t136 == 3 && (t137 == 4)) = true := by simpa using c4))
    clear c4
    by_cases c5 : (t141 == 6 && (t142 == 4)) = true
    · rw [if_pos c5] at H
      have c5b0 : (t141 == 6 && (t142 == 4)) = true := c5
      (try (have c5b1 : decide (t141 = 6 && (t142 == 4)) = true := by simpa using c5))
      (try (have c5b2 : (t141 == 6 && (t142 == 4)) = true := by simpa using c5))
      clear c5
      replace H := Option.bind_eq_some_iff.mp H
      obtain ⟨t144, A60, H⟩ := H
      replace H : (if t144 = 51 then ((beaver_Close.f 1 t141 t142 1 1 11).bind fun t145 => (if t145 = 21 then ((beaver_Opens.f k (([1, 2] : List Int)) (([3] : List Int)) (([(⟨2, 3, 1⟩ : S24), (⟨1, 1, 11⟩ : S24)] : List (S24)))).bind fun t155 => (if (t155.length : Int) = 1 then ((beaver_Closes.f k 1 (([(⟨t141, t142⟩ : S26)] : List (S26))) (([(⟨1, 1, 11⟩ : S24), (⟨2, 3, 1⟩ : S24)] : List (S24)))).bind fun t164 => ((symbolonref01_Same.f k t164 (([21] : List Int))).bind fun t170 => (some t170))) else (none))) else (none))) else (none)) = some r := H
      have A6 := Aside0.mk A60
      clear A60
      by_cases c7 : t144 = 51
      · rw [if_pos c7] at H
        have c7b0 : (t144 == 51) = true := beq_iff_eq.mpr c7
        have c7b1 : (t144 != 51) = false := bne_eq_false_iff_eq.mpr c7
        clear c7
        replace H := Option.bind_eq_some_iff.mp H
        obtain ⟨t145, A80, H⟩ := H
        replace H : (if t145 = 21 then ((beaver_Opens.f k (([1, 2] : List Int)) (([3] : List Int)) (([(⟨2, 3, 1⟩ : S24), (⟨1, 1, 11⟩ : S24)] : List (S24)))).bind fun t155 => (if (t155.length : Int) = 1 then ((beaver_Closes.f k 1 (([(⟨t141, t142⟩ : S26)] : List (S26))) (([(⟨1, 1, 11⟩ : S24), (⟨2, 3, 1⟩ : S24)] : List (S24)))).bind fun t164 => ((symbolonref01_Same.f k t164 (([21] : List Int))).bind fun t170 => (some t170))) else (none))) else (none)) = some r := H
        have A8 := Aside0.mk A80
        clear A80
        by_cases c9 : t145 = 21
        · rw [if_pos c9] at H
          have c9b0 : (t145 == 21) = true := beq_iff_eq.mpr c9
          have c9b1 : (t145 != 21) = false := bne_eq_false_iff_eq.mpr c9
          clear c9
          obtain ⟨y146, hy146⟩ : ∃ y_ : List Int, y_ = (([1, 2] : List Int)) := ⟨_, rfl⟩
          replace H : ((beaver_Opens.f k y146 (([3] : List Int)) (([(⟨2, 3, 1⟩ : S24), (⟨1, 1, 11⟩ : S24)] : List (S24)))).bind fun t155 => (if (t155.length : Int) = 1 then ((beaver_Closes.f k 1 (([(⟨t141, t142⟩ : S26)] : List (S26))) (([(⟨1, 1, 11⟩ : S24), (⟨2, 3, 1⟩ : S24)] : List (S24)))).bind fun t164 => ((symbolonref01_Same.f k t164 (([21] : List Int))).bind fun t170 => (some t170))) else (none))) = some r := by first | (rw [hy146]; with_reducible exact H) | (have H2_ := (Option.bind_some _ _).symm.trans H; rw [hy146]; with_reducible exact H2_) | (have H2_ := (Option.bind_some _ _).symm.trans H; with_reducible exact H2_) | with_reducible exact H | (rw [hy146]; exact H) | exact H
          have Ny146 := Aside0.mk hy146
          clear hy146
          obtain ⟨y149, hy149⟩ : ∃ y_ : List Int, y_ = (([3] : List Int)) := ⟨_, rfl⟩
          replace H : ((beaver_Opens.f k y146 y149 (([(⟨2, 3, 1⟩ : S24), (⟨1, 1, 11⟩ : S24)] : List (S24)))).bind fun t155 => (if (t155.length : Int) = 1 then ((beaver_Closes.f k 1 (([(⟨t141, t142⟩ : S26)] : List (S26))) (([(⟨1, 1, 11⟩ : S24), (⟨2, 3, 1⟩ : S24)] : List (S24)))).bind fun t164 => ((symbolonref01_Same.f k t164 (([21] : List Int))).bind fun t170 => (some t170))) else (none))) = some r := by first | (rw [hy149]; with_reducible exact H) | (have H2_ := (Option.bind_some _ _).symm.trans H; rw [hy149]; with_reducible exact H2_) | (have H2_ := (Option.bind_some _ _).symm.trans H; with_reducible exact H2_) | with_reducible exact H | (rw [hy149]; exact H) | exact H
          have Ny149 := Aside0.mk hy149
          clear hy149
          obtain ⟨y152, hy152⟩ : ∃ y_ : List (S24), y_ = (([(⟨2, 3, 1⟩ : S24), (⟨1, 1, 11⟩ : S24)] : List (S24))) := ⟨_, rfl⟩
          replace H : ((beaver_Opens.f k y146 y149 y152).bind fun t155 => (if (t155.length : Int) = 1 then ((beaver_Closes.f k 1 (([(⟨t141, t142⟩ : S26)] : List (S26))) (([(⟨1, 1, 11⟩ : S24), (⟨2, 3, 1⟩ : S24)] : List (S24)))).bind fun t164 => ((symbolonref01_Same.f k t164 (([21] : List Int))).bind fun t170 => (some t170))) else (none))) = some r := by first | (rw [hy152]; with_reducible exact H) | (have H2_ := (Option.bind_some _ _).symm.trans H; rw [hy152]; with_reducible exact H2_) | (have H2_ := (Option.bind_some _ _).symm.trans H; with_reducible exact H2_) | with_reducible exact H | (rw [hy152]; exact H) | exact H
          have Ny152 := Aside0.mk hy152
          clear hy152
          replace H := Option.bind_eq_some_iff.mp H
          obtain ⟨t155, A100, H⟩ := H
          replace H : (if (t155.length : Int) = 1 then ((beaver_Closes.f k 1 (([(⟨t141, t142⟩ : S26)] : List (S26))) (([(⟨1, 1, 11⟩ : S24), (⟨2, 3, 1⟩ : S24)] : List (S24)))).bind fun t164 => ((symbolonref01_Same.f k t164 (([21] : List Int))).bind fun t170 => (some t170))) else (none)) = some r := H
          have A10 := Aside0.mk A100
          clear A100
          by_cases c11 : (t155.length : Int) = 1
          · rw [if_pos c11] at H
            have c11b0 : ((t155.length : Int) == 1) = true := beq_iff_eq.mpr c11
            have c11b1 : ((t155.length : Int) != 1) = false := bne_eq_false_iff_eq.mpr c11
            clear c11
            obtain ⟨y158, hy158⟩ : ∃ y_ : List (S26), y_ = (([(⟨t141, t142⟩ : S26)] : List (S26))) := ⟨_, rfl⟩
            replace H : ((beaver_Closes.f k 1 y158 (([(⟨1, 1, 11⟩ : S24), (⟨2, 3, 1⟩ : S24)] : List (S24)))).bind fun t164 => ((symbolonref01_Same.f k t164 (([21] : List Int))).bind fun t170 => (some t170))) = some r := by first | (rw [hy158]; with_reducible exact H) | (have H2_ := (Option.bind_some _ _).symm.trans H; rw [hy158]; with_reducible exact H2_) | (have H2_ := (Option.bind_some _ _).symm.trans H; with_reducible exact H2_) | with_reducible exact H | (rw [hy158]; exact H) | exact H
            have Ny158 := Aside0.mk hy158
            clear hy158
            obtain ⟨y161, hy161⟩ : ∃ y_ : List (S24), y_ = (([(⟨1, 1, 11⟩ : S24), (⟨2, 3, 1⟩ : S24)] : List (S24))) := ⟨_, rfl⟩
            replace H : ((beaver_Closes.f k 1 y158 y161).bind fun t164 => ((symbolonref01_Same.f k t164 (([21] : List Int))).bind fun t170 => (some t170))) = some r := by first | (rw [hy161]; with_reducible exact H) | (have H2_ := (Option.bind_some _ _).symm.trans H; rw [hy161]; with_reducible exact H2_) | (have H2_ := (Option.bind_some _ _).symm.trans H; with_reducible exact H2_) | with_reducible exact H | (rw [hy161]; exact H) | exact H
            have Ny161 := Aside0.mk hy161
            clear hy161
            replace H := Option.bind_eq_some_iff.mp H
            obtain ⟨t164, A120, H⟩ := H
            replace H : ((symbolonref01_Same.f k t164 (([21] : List Int))).bind fun t170 => (some t170)) = some r := H
            have A12 := Aside0.mk A120
            clear A120
            obtain ⟨y167, hy167⟩ : ∃ y_ : List Int, y_ = (([21] : List Int)) := ⟨_, rfl⟩
            replace H : ((symbolonref01_Same.f k t164 y167).bind fun t170 => (some t170)) = some r := by first | (rw [hy167]; with_reducible exact H) | (have H2_ := (Option.bind_some _ _).symm.trans H; rw [hy167]; with_reducible exact H2_) | (have H2_ := (Option.bind_some _ _).symm.trans H; with_reducible exact H2_) | with_reducible exact H | (rw [hy167]; exact H) | exact H
            have Ny167 := Aside0.mk hy167
            clear hy167
            replace H := Option.bind_eq_some_iff.mp H
            obtain ⟨t170, A130, H⟩ := H
            replace H : (some t170) = some r := H
            have A13 := Aside0.mk A130
            clear A130
            obtain rfl := Option.some.inj H
            go_enter Try.func9, Try.ntmps9
            try go_wp2_with (first | ((with_reducible refine gate_dst (N := 1) rfl ?_); (try (refine gate_guard (by rfl) ?_; dsimp only)); refine box_event ?hg (N := 1) ?hd (cs := #[.int .u64 0, .int .u64 0, .int .u64 0]) (t := 24) ?hr ?_; (case hd => rfl); (case hg => rfl); (case hr => first | (go_simp; done) | (go_simp; rfl)); intro gb134 hg w14 hbox hb; have n0_ := Aside0.mk (below_step (by repeat (first | (with_reducible first | exact HB.out | apply below_alloc | apply pw_below_drewN | apply below_drew1) | exact HB.out)) hb); have n1_ := Aside0.mk (hbox); have n2_ := Aside0.mk ((by rw [hg]; exact (below_size (by repeat (first | (with_reducible first | exact HB.out | apply below_alloc | apply pw_below_drewN | apply below_drew1) | exact HB.out))) : w.heap.size ≤ gb134)); have n3_ := Aside0.mk ((by rw [hg]; exact (below_size (by repeat (first | (with_reducible first | exact HB.out | apply below_alloc | apply pw_below_drewN | apply below_drew1) | exact HB.out))) : w.heap.size ≤ gb134)); clear HB; have HB := n0_; have BK134 := n1_; have GW134 := n2_; have GE134 := n3_; clear n0_ n1_ n2_ n3_; clear hb hbox hg; have hcz15_0 : w14.cell? ⟨gb134, 0, none⟩ = some (.int .u64 0) := (blk_cell BK134.out 0).trans rfl; have hcz15_1 : w14.cell? ⟨gb134, 1, none⟩ = some (.int .u64 0) := (blk_cell BK134.out 1).trans rfl; have hcz15_2 : w14.cell? ⟨gb134, 2, none⟩ = some (.int .u64 0) := (blk_cell BK134.out 2).trans rfl; have hfz15_0 := blk_frozen BK134.out 0; have hfz15_1 := blk_frozen BK134.out 1; have hfz15_2 := blk_frozen BK134.out 2) | ((with_reducible refine gate_dst (N := 2) rfl ?_); (try (refine gate_guard (by rfl) ?_; dsimp only)); refine box_event ?hg (N := 2) ?hd (cs := #[.int .u64 0, .int .u64 0, .int .u64 0]) (t := 24) ?hr ?_; (case hd => rfl); (case hg => rfl); (case hr => first | (go_simp; done) | (go_simp; rfl)); intro gb135 hg w16 hbox hb; have n0_ := Aside0.mk (blk_below (g := gb134) (o := .cells #[.int .u64 2, .int .u64 3, .int .u64 1] 24 (0, 0)) (by (with_reducible repeat (first | refine blk_drewN ?_ _ | refine blk_drew ?_ | refine blk_alloc ?_ _)); refine blk_put (cs := #[.int .u64 2, .int .u64 3, .int .u64 0]) ?_ 2 _ rfl; (with_reducible repeat (first | refine blk_drewN ?_ _ | refine blk_drew ?_ | refine blk_alloc ?_ _)); refine blk_put (cs := #[.int .u64 2, .int .u64 0, .int .u64 0]) ?_ 1 _ rfl; (with_reducible repeat (first | refine blk_drewN ?_ _ | refine blk_drew ?_ | refine blk_alloc ?_ _)); refine blk_put (cs := #[.int .u64 0, .int .u64 0, .int .u64 0]) ?_ 0 _ rfl; (with_reducible repeat (first | refine blk_drewN ?_ _ | refine blk_drew ?_ | refine blk_alloc ?_ _)); exact BK134.out) hb); have n1_ := Aside0.mk (below_step (by repeat (first | (with_reducible first | exact HB.out | apply below_alloc | apply pw_below_drewN | apply below_drew1 | refine below_set ?_ GE134.out) | exact HB.out)) hb); have n2_ := Aside0.mk (hbox); have n3_ := Aside0.mk ((by rw [hg]; exact (below_size (by repeat (first | (with_reducible first | exact HB.out | apply below_alloc | apply pw_below_drewN | apply below_drew1 | refine below_set ?_ GE134.out) | exact HB.out))) : w.heap.size ≤ gb135)); have n4_ := Aside0.mk ((by rw [hg]; exact (below_size (by repeat (first | (with_reducible first | exact HB.out | apply below_alloc | apply pw_below_drewN | apply below_drew1 | refine below_set ?_ GE134.out) | exact HB.out))) : w.heap.size ≤ gb135)); have n5_ := Aside0.mk ((by rw [hg]; exact Nat.ne_of_lt (blk_lt (g := gb134) (o := .cells #[.int .u64 2, .int .u64 3, .int .u64 1] 24 (0, 0)) (by (with_reducible repeat (first | refine blk_drewN ?_ _ | refine blk_drew ?_ | refine blk_alloc ?_ _)); refine blk_put (cs := #[.int .u64 2, .int .u64 3, .int .u64 0]) ?_ 2 _ rfl; (with_reducible repeat (first | refine blk_drewN ?_ _ | refine blk_drew ?_ | refine blk_alloc ?_ _)); refine blk_put (cs := #[.int .u64 2, .int .u64 0, .int .u64 0]) ?_ 1 _ rfl; (with_reducible repeat (first | refine blk_drewN ?_ _ | refine blk_drew ?_ | refine blk_alloc ?_ _)); refine blk_put (cs := #[.int .u64 0, .int .u64 0, .int .u64 0]) ?_ 0 _ rfl; (with_reducible repeat (first | refine blk_drewN ?_ _ | refine blk_drew ?_ | refine blk_alloc ?_ _)); exact BK134.out)) : gb134 ≠ gb135)); have n6_ := Aside0.mk ((by rw [hg]; exact Nat.ne_of_gt (blk_lt (g := gb134) (o := .cells #[.int .u64 2, .int .u64 3, .int .u64 1] 24 (0, 0)) (by (with_reducible repeat (first | refine blk_drewN ?_ _ | refine blk_drew ?_ | refine blk_alloc ?_ _)); refine blk_put (cs := #[.int .u64 2, .int .u64 3, .int .u64 0]) ?_ 2 _ rfl; (with_reducible repeat (first | refine blk_drewN ?_ _ | refine blk_drew ?_ | refine blk_alloc ?_ _)); refine blk_put (cs := #[.int .u64 2, .int .u64 0, .int .u64 0]) ?_ 1 _ rfl; (with_reducible repeat (first | refine blk_drewN ?_ _ | refine blk_drew ?_ | refine blk_alloc ?_ _)); refine blk_put (cs := #[.int .u64 0, .int .u64 0, .int .u64 0]) ?_ 0 _ rfl; (with_reducible repeat (first | refine blk_drewN ?_ _ | refine blk_drew ?_ | refine blk_alloc ?_ _)); exact BK134.out)) : gb135 ≠ gb134)); clear BK134; clear HB; have BK134 := n0_; have HB := n1_; have BK135 := n2_; have GW135 := n3_; have GE135 := n4_; have NB134_135 := n5_; have NB135_134 := n6_; clear n0_ n1_ n2_ n3_ n4_ n5_ n6_; clear hb hbox hg; have hnb17 := NB135_134.out; have hnc17 := NB134_135.out; have hcz18_0 : w16.cell? ⟨gb135, 0, none⟩ = some (.int .u64 0) := (blk_cell BK135.out 0).trans rfl; have hcz18_1 : w16.cell? ⟨gb135, 1, none⟩ = some (.int .u64 0) := (blk_cell BK135.out 1).trans rfl; have hcz18_2 : w16.cell? ⟨gb135, 2, none⟩ = some (.int .u64 0) := (blk_cell BK135.out 2).trans rfl; have hfz18_0 := blk_frozen BK135.out 0; have hfz18_1 := blk_frozen BK135.out 1; have hfz18_2 := blk_frozen BK135.out 2; have hcz19_0 : w16.cell? ⟨gb134, 0, none⟩ = some (.int .u64 2) := (blk_cell BK134.out 0).trans rfl; have hcz19_1 : w16.cell? ⟨gb134, 1, none⟩ = some (.int .u64 3) := (blk_cell BK134.out 1).trans rfl; have hcz19_2 : w16.cell? ⟨gb134, 2, none⟩ = some (.int .u64 1) := (blk_cell BK134.out 2).trans rfl; have hfz19_0 := blk_frozen BK134.out 0; have hfz19_1 := blk_frozen BK134.out 1; have hfz19_2 := blk_frozen BK134.out 2) | ((with_reducible refine gate_callee (f := 10) rfl ?_); refine goesL_ (some 8) rfl rfl Try.func10 (by kernel_rfl) rfl #[.int .u64 5, .int .u64 7, .agg #[.int .u64 2, .int .u64 3, .int .u64 1]] rfl (by (try simp only [List.map_toArray, List.map_cons, List.map_nil]); first | done | rfl | (simp only [List.length_drop, List.length_take]; rfl)) ?_; (with_reducible refine (beaver_Open.calls 5 7 2 3 1 t136 t137 _ A1.out).mono ?_); rintro e w20 ⟨rfl, hb⟩; refine ⟨_, rfl, ?_⟩; have n0_ := Aside0.mk (blk_below (g := gb134) (o := .cells #[.int .u64 2, .int .u64 3, .int .u64 1] 24 (0, 0)) (by (with_reducible repeat (first | refine blk_drewN ?_ _ | refine blk_drew ?_ | refine blk_alloc ?_ _)); refine blk_far ?_ NB134_135.out _; (with_reducible repeat (first | refine blk_drewN ?_ _ | refine blk_drew ?_ | refine blk_alloc ?_ _)); refine blk_far ?_ NB134_135.out _; (with_reducible repeat (first | refine blk_drewN ?_ _ | refine blk_drew ?_ | refine blk_alloc ?_ _)); refine blk_far ?_ NB134_135.out _; (with_reducible repeat (first | refine blk_drewN ?_ _ | refine blk_drew ?_ | refine blk_alloc ?_ _)); exact BK134.out) hb); have n1_ := Aside0.mk (blk_below (g := gb135) (o := .cells #[.int .u64 1, .int .u64 1, .int .u64 11] 24 (0, 0)) (by (with_reducible repeat (first | refine blk_drewN ?_ _ | refine blk_drew ?_ | refine blk_alloc ?_ _)); refine blk_put (cs := #[.int .u64 1, .int .u64 1, .int .u64 0]) ?_ 2 _ rfl; (with_reducible repeat (first | refine blk_drewN ?_ _ | refine blk_drew ?_ | refine blk_alloc ?_ _)); refine blk_put (cs := #[.int .u64 1, .int .u64 0, .int .u64 0]) ?_ 1 _ rfl; (with_reducible repeat (first | refine blk_drewN ?_ _ | refine blk_drew ?_ | refine blk_alloc ?_ _)); refine blk_put (cs := #[.int .u64 0, .int .u64 0, .int .u64 0]) ?_ 0 _ rfl; (with_reducible repeat (first | refine blk_drewN ?_ _ | refine blk_drew ?_ | refine blk_alloc ?_ _)); exact BK135.out) hb); have n2_ := Aside0.mk (below_step (by repeat (first | (with_reducible first | exact HB.out | apply below_alloc | apply pw_below_drewN | apply below_drew1 | refine below_set ?_ GE134.out | refine below_set ?_ GE135.out) | exact HB.out)) hb); clear BK134; clear BK135; clear HB; have BK134 := n0_; have BK135 := n1_; have HB := n2_; clear n0_ n1_ n2_; (try clear hb); (try clear hb2); (try clear hk); (try clear hi)) | ((with_reducible refine gate_dst (N := 3) rfl ?_); (try (refine gate_guard (by rfl) ?_; dsimp only)); refine box_event ?hg (N := 3) ?hd (cs := #[.int .u64 0, .int .u64 0]) (t := 26) ?hr ?_; (case hd => rfl); (case hg => rfl); (case hr => first | (go_simp; done) | (go_simp; rfl)); intro gb138 hg w21 hbox hb; have n0_ := Aside0.mk (blk_below (g := gb134) (o := .cells #[.int .u64 2, .int .u64 3, .int .u64 1] 24 (0, 0)) (by (with_reducible repeat (first | refine blk_drewN ?_ _ | refine blk_drew ?_ | refine blk_alloc ?_ _)); exact BK134.out) hb); have n1_ := Aside0.mk (blk_below (g := gb135) (o := .cells #[.int .u64 1, .int .u64 1, .int .u64 11] 24 (0, 0)) (by (with_reducible repeat (first | refine blk_drewN ?_ _ | refine blk_drew ?_ | refine blk_alloc ?_ _)); exact BK135.out) hb); have n2_ := Aside0.mk (below_step (by repeat (first | (with_reducible first | exact HB.out | apply below_alloc | apply pw_below_drewN | apply below_drew1 | refine below_set ?_ GE134.out | refine below_set ?_ GE135.out) | exact HB.out)) hb); have n3_ := Aside0.mk (hbox); have n4_ := Aside0.mk ((by rw [hg]; exact (below_size (by repeat (first | (with_reducible first | exact HB.out | apply below_alloc | apply pw_below_drewN | apply below_drew1 | refine below_set ?_ GE134.out | refine below_set ?_ GE135.out) | exact HB.out))) : w.heap.size ≤ gb138)); have n5_ := Aside0.mk ((by rw [hg]; exact (below_size (by repeat (first | (with_reducible first | exact HB.out | apply below_alloc | apply pw_below_drewN | apply below_drew1 | refine below_set ?_ GE134.out | refine below_set ?_ GE135.out) | exact HB.out))) : w.heap.size ≤ gb138)); have n6_ := Aside0.mk ((by rw [hg]; exact Nat.ne_of_lt (blk_lt (g := gb134) (o := .cells #[.int .u64 2, .int .u64 3, .int .u64 1] 24 (0, 0)) (by (with_reducible repeat (first | refine blk_drewN ?_ _ | refine blk_drew ?_ | refine blk_alloc ?_ _)); exact BK134.out)) : gb134 ≠ gb138)); have n7_ := Aside0.mk ((by rw [hg]; exact Nat.ne_of_gt (blk_lt (g := gb134) (o := .cells #[.int .u64 2, .int .u64 3, .int .u64 1] 24 (0, 0)) (by (with_reducible repeat (first | refine blk_drewN ?_ _ | refine blk_drew ?_ | refine blk_alloc ?_ _)); exact BK134.out)) : gb138 ≠ gb134)); have n8_ := Aside0.mk ((by rw [hg]; exact Nat.ne_of_lt (blk_lt (g := gb135) (o := .cells #[.int .u64 1, .int .u64 1, .int .u64 11] 24 (0, 0)) (by (with_reducible repeat (first | refine blk_drewN ?_ _ | refine blk_drew ?_ | refine blk_alloc ?_ _)); exact BK135.out)) : gb135 ≠ gb138)); have n9_ := Aside0.mk ((by rw [hg]; exact Nat.ne_of_gt (blk_lt (g := gb135) (o := .cells #[.int .u64 1, .int .u64 1, .int .u64 11] 24 (0, 0)) (by (with_reducible repeat (first | refine blk_drewN ?_ _ | refine blk_drew ?_ | refine blk_alloc ?_ _)); exact BK135.out)) : gb138 ≠ gb135)); clear BK134; clear BK135; clear HB; have BK134 := n0_; have BK135 := n1_; have HB := n2_; have BK138 := n3_; have GW138 := n4_; have GE138 := n5_; have NB134_138 := n6_; have NB138_134 := n7_; have NB135_138 := n8_; have NB138_135 := n9_; clear n0_ n1_ n2_ n3_ n4_ n5_ n6_ n7_ n8_ n9_; clear hb hbox hg; have hnb22 := NB138_134.out; have hnc22 := NB134_138.out; have hnb23 := NB138_135.out; have hnc23 := NB135_138.out; have hcz24_0 : w21.cell? ⟨gb138, 0, none⟩ = some (.int .u64 0) := (blk_cell BK138.out 0).trans rfl; have hcz24_1 : w21.cell? ⟨gb138, 1, none⟩ = some (.int .u64 0) := (blk_cell BK138.out 1).trans rfl; have hfz24_0 := blk_frozen BK138.out 0; have hfz24_1 := blk_frozen BK138.out 1))
            have n0_ : Aside0 (((w21.setCell ⟨gb138, 0, none⟩ (.int .u64 t136)).setCell ⟨gb138, 1, none⟩ (.int .u64 t137)).heap[gb134]? = some (.cells #[.int .u64 2, .int .u64 3, .int .u64 1] 24 (0, 0))) := ⟨by (with_reducible repeat (first | refine blk_drewN ?_ _ | refine blk_drew ?_ | refine blk_alloc ?_ _)); refine blk_far ?_ NB134_138.out _; (with_reducible repeat (first | refine blk_drewN ?_ _ | refine blk_drew ?_ | refine blk_alloc ?_ _)); refine blk_far ?_ NB134_138.out _; (with_reducible repeat (first | refine blk_drewN ?_ _ | refine blk_drew ?_ | refine blk_alloc ?_ _)); exact BK134.out⟩
            have n1_ : Aside0 (((w21.setCell ⟨gb138, 0, none⟩ (.int .u64 t136)).setCell ⟨gb138, 1, none⟩ (.int .u64 t137)).heap[gb135]? = some (.cells #[.int .u64 1, .int .u64 1, .int .u64 11] 24 (0, 0))) := ⟨by (with_reducible repeat (first | refine blk_drewN ?_ _ | refine blk_drew ?_ | refine blk_alloc ?_ _)); refine blk_far ?_ NB135_138.out _; (with_reducible repeat (first | refine blk_drewN ?_ _ | refine blk_drew ?_ | refine blk_alloc ?_ _)); refine blk_far ?_ NB135_138.out _; (with_reducible repeat (first | refine blk_drewN ?_ _ | refine blk_drew ?_ | refine blk_alloc ?_ _)); exact BK135.out⟩
            have n2_ : Aside0 (((w21.setCell ⟨gb138, 0, none⟩ (.int .u64 t136)).setCell ⟨gb138, 1, none⟩ (.int .u64 t137)).heap[gb138]? = some (.cells #[.int .u64 t136, .int .u64 t137] 26 (0, 0))) := ⟨by (with_reducible repeat (first | refine blk_drewN ?_ _ | refine blk_drew ?_ | refine blk_alloc ?_ _)); refine blk_put (cs := #[.int .u64 t136, .int .u64 0]) ?_ 1 _ rfl; (with_reducible repeat (first | refine blk_drewN ?_ _ | refine blk_drew ?_ | refine blk_alloc ?_ _)); refine blk_put (cs := #[.int .u64 0, .int .u64 0]) ?_ 0 _ rfl; (with_reducible repeat (first | refine blk_drewN ?_ _ | refine blk_drew ?_ | refine blk_alloc ?_ _)); exact BK138.out⟩
            have n3_ : Aside0 (Below w.heap.size w ((w21.setCell ⟨gb138, 0, none⟩ (.int .u64 t136)).setCell ⟨gb138, 1, none⟩ (.int .u64 t137))) := ⟨by repeat (first | (with_reducible first | exact HB.out | apply below_alloc | apply pw_below_drewN | apply below_drew1 | refine below_set ?_ GE134.out | refine below_set ?_ GE135.out | refine below_set ?_ GE138.out) | exact HB.out)⟩
            (try clear BK134)
            (try clear BK135)
            (try clear BK138)
            (try clear HB)
            generalize ((w21.setCell ⟨gb138, 0, none⟩ (.int .u64 t136)).setCell ⟨gb138, 1, none⟩ (.int .u64 t137)) = w25 at n0_ n1_ n2_ n3_ ⊢
            have BK134 := n0_
            have BK135 := n1_
            have BK138 := n2_
            have HB := n3_
            clear n0_ n1_ n2_ n3_
            have n0_ := Aside0.mk (blk_drew BK134.out)
            have n1_ := Aside0.mk (blk_drew BK135.out)
            have n2_ := Aside0.mk (blk_drew BK138.out)
            have n3_ := Aside0.mk (below_drew1 HB.out)
            clear BK134
            clear BK135
            clear BK138
            clear HB
            have BK134 := n0_
            have BK135 := n1_
            have BK138 := n2_
            have HB := n3_
            clear n0_ n1_ n2_ n3_
            refine start_ (n := 6) (S := fun w' => w'.cell? ⟨gb138, 0, none⟩ = some (.int .u64 t136) ∧ w'.cell? ⟨gb138, 1, none⟩ = some (.int .u64 t137) ∧ w'.cell? ⟨gb135, 0, none⟩ = some (.int .u64 1) ∧ w'.cell? ⟨gb135, 1, none⟩ = some (.int .u64 1) ∧ w'.cell? ⟨gb135, 2, none⟩ = some (.int .u64 11)) (ds := []) #[false, false, false, false, false, false] (by kernel_rfl) rfl rfl ⟨(blk_cell BK138.out 0).trans rfl, (blk_cell BK138.out 1).trans rfl, (blk_cell BK135.out 0).trans rfl, (blk_cell BK135.out 1).trans rfl, (blk_cell BK135.out 2).trans rfl⟩ (fun hHeld => ?_)
            generalize w25.drew = w26 at BK134 BK135 BK138 HB hHeld ⊢
            refine take_ (i := 0) (N := some 9) (v := ?_) (a' := ?_) #[true, false, false, false, false, false] rfl rfl (by kernel_rfl) (fun _ _ _ h => h) (Or.inl ⟨by rfl, ?_⟩) hHeld ?_ ?_
            rotate_left
            · rintro w' ⟨s0, s1, s2, s3, s4⟩
              go_simp
              with_reducible rfl
            rotate_left
            · simp only [Act.put, List.setIfInBounds_toArray, List.set_cons_zero, List.set_cons_succ, i64_w, i32_w]
              rfl
            refine take_ (i := 1) (N := some 10) (v := ?_) (a' := ?_) #[true, true, false, false, false, false] rfl rfl (by kernel_rfl) (fun _ _ _ h => h) (Or.inl ⟨by rfl, ?_⟩) hHeld ?_ ?_
            rotate_left
            · rintro w' ⟨s0, s1, s2, s3, s4⟩
              go_simp
              with_reducible rfl
            rotate_left
            · simp only [Act.put, List.setIfInBounds_toArray, List.set_cons_zero, List.set_cons_succ, i64_w, i32_w]
              rfl
            refine join_ (σ := Nat) 1 #[true, true, true, true, true, false] (fun s_ => [(11, .agg #[.int .u64 t139, .int .u64 t140]), (12, .agg #[.int .u64 t141, .int .u64 t142]), (4, .pointer (some ⟨s_, 0, none⟩))]) (fun s_ w' => (w'.cell? ⟨gb138, 0, none⟩ = some (.int .u64 t136) ∧ w'.cell? ⟨gb138, 1, none⟩ = some (.int .u64 t137) ∧ w'.cell? ⟨gb135, 0, none⟩ = some (.int .u64 1) ∧ w'.cell? ⟨gb135, 1, none⟩ = some (.int .u64 1) ∧ w'.cell? ⟨gb135, 2, none⟩ = some (.int .u64 11)) ∧ (w'.heap[gb134]? = some (.cells #[.int .u64 2, .int .u64 3, .int .u64 1] 24 (0, 0))) ∧ (w'.heap[gb135]? = some (.cells #[.int .u64 1, .int .u64 1, .int .u64 11] 24 (0, 0))) ∧ (w'.heap[gb138]? = some (.cells #[.int .u64 t136, .int .u64 t137] 26 (0, 0))) ∧ (w'.heap[s_]? = some (.cells #[.int .u64 0, .int .u64 0] 26 (0, 0))) ∧ (w.heap.size ≤ s_) ∧ (w.heap.size ≤ s_) ∧ (gb134 ≠ s_) ∧ (s_ ≠ gb134) ∧ (gb135 ≠ s_) ∧ (s_ ≠ gb135) ∧ (gb138 ≠ s_) ∧ (s_ ≠ gb138) ∧ (Below w.heap.size w w')) ?_ ?_
            rotate_left
            · intro hCont
              refine two_ (i := 2) (j := 4) (Ni := some 11) (Nj := some 4) #[true, true, true, false, false, false] #[true, true, false, false, true, false] rfl rfl rfl rfl (by kernel_rfl) (by decide) (by decide) (fun K hK => ?_) (fun K hK => ?_)
              · skip
                refine goes_ Try.func10 (by kernel_rfl) rfl #[.int .u64 4, .int .u64 1, .agg #[.int .u64 1, .int .u64 1, .int .u64 11]] (by rfl) rfl rfl (by (try simp only [List.map_toArray, List.map_cons, List.map_nil]); first | done | rfl | (simp only [List.length_drop, List.length_take]; rfl)) ?_
                with_reducible refine (beaver_Open.calls 4 1 1 1 11 t139 t140 _ A2.out).mono ?_
                rintro e w27 ⟨rfl, hb⟩
                refine ⟨_, rfl, ?_⟩
                have n0_ := Aside0.mk (blk_below (g := gb134) (o := .cells #[.int .u64 2, .int .u64 3, .int .u64 1] 24 (0, 0)) (by (with_reducible repeat (first | refine blk_drewN ?_ _ | refine blk_drew ?_ | refine blk_alloc ?_ _)); exact BK134.out) hb)
                have n1_ := Aside0.mk (blk_below (g := gb135) (o := .cells #[.int .u64 1, .int .u64 1, .int .u64 11] 24 (0, 0)) (by (with_reducible repeat (first | refine blk_drewN ?_ _ | refine blk_drew ?_ | refine blk_alloc ?_ _)); exact BK135.out) hb)
                have n2_ := Aside0.mk (blk_below (g := gb138) (o := .cells #[.int .u64 t136, .int .u64 t137] 26 (0, 0)) (by (with_reducible repeat (first | refine blk_drewN ?_ _ | refine blk_drew ?_ | refine blk_alloc ?_ _)); exact BK138.out) hb)
                have n3_ := Aside0.mk (below_step (by repeat (first | (with_reducible first | exact HB.out | apply below_alloc | apply pw_below_drewN | apply below_drew1 | refine below_set ?_ GE134.out | refine below_set ?_ GE135.out | refine below_set ?_ GE138.out) | exact HB.out)) hb)
                clear BK134
                clear BK135
                clear BK138
                clear HB
                have BK134 := n0_
                have BK135 := n1_
                have BK138 := n2_
                have HB := n3_
                clear n0_ n1_ n2_ n3_
                (try clear hb)
                (try clear hb2)
                (try clear hk)
                (try clear hi)
                refine hK.out _ _ ⟨(blk_cell BK138.out 0).trans rfl, (blk_cell BK138.out 1).trans rfl, (blk_cell BK135.out 0).trans rfl, (blk_cell BK135.out 1).trans rfl, (blk_cell BK135.out 2).trans rfl⟩ (fun hHeld => ?_)
                clear hK K
                refine norm_ (a' := ?_) ?_ ?_
                rotate_left
                · show Act.put _ (some 11) _ = _
                  simp only [Act.put, List.setIfInBounds_toArray, List.set_cons_zero, List.set_cons_succ, i64_w, i32_w]
                  rfl
                refine two_ (i := 3) (j := 4) (Ni := some 12) (Nj := some 4) #[true, true, true, true, false, false] #[true, true, true, false, true, false] rfl rfl rfl rfl (by kernel_rfl) (by decide) (by decide) (fun K hK => ?_) (fun K hK => ?_)
                · skip
                  refine goes_ Try.func12 (by kernel_rfl) rfl #[.agg #[.int .u64 t136, .int .u64 t137], .agg #[.int .u64 t139, .int .u64 t140]] (by rfl) rfl rfl (by (try simp only [List.map_toArray, List.map_cons, List.map_nil]); first | done | rfl | (simp only [List.length_drop, List.length_take]; rfl)) ?_
                  with_reducible refine (beaver_Sum.calls t136 t137 t139 t140 t141 t142 _ A3.out).mono ?_
                  rintro e w28 ⟨rfl, hb⟩
                  refine ⟨_, rfl, ?_⟩
                  have n0_ := Aside0.mk (blk_below (g := gb134) (o := .cells #[.int .u64 2, .int .u64 3, .int .u64 1] 24 (0, 0)) (by (with_reducible repeat (first | refine blk_drewN ?_ _ | refine blk_drew ?_ | refine blk_alloc ?_ _)); exact BK134.out) hb)
                  have n1_ := Aside0.mk (blk_below (g := gb135) (o := .cells #[.int .u64 1, .int .u64 1, .int .u64 11] 24 (0, 0)) (by (with_reducible repeat (first | refine blk_drewN ?_ _ | refine blk_drew ?_ | refine blk_alloc ?_ _)); exact BK135.out) hb)
                  have n2_ := Aside0.mk (blk_below (g := gb138) (o := .cells #[.int .u64 t136, .int .u64 t137] 26 (0, 0)) (by (with_reducible repeat (first | refine blk_drewN ?_ _ | refine blk_drew ?_ | refine blk_alloc ?_ _)); exact BK138.out) hb)
                  have n3_ := Aside0.mk (below_step (by repeat (first | (with_reducible first | exact HB.out | apply below_alloc | apply pw_below_drewN | apply below_drew1 | refine below_set ?_ GE134.out | refine below_set ?_ GE135.out | refine below_set ?_ GE138.out) | exact HB.out)) hb)
                  clear BK134
                  clear BK135
                  clear BK138
                  clear HB
                  have BK134 := n0_
                  have BK135 := n1_
                  have BK138 := n2_
                  have HB := n3_
                  clear n0_ n1_ n2_ n3_
                  (try clear hb)
                  (try clear hb2)
                  (try clear hk)
                  (try clear hi)
                  refine hK.out _ _ ⟨(blk_cell BK138.out 0).trans rfl, (blk_cell BK138.out 1).trans rfl, (blk_cell BK135.out 0).trans rfl, (blk_cell BK135.out 1).trans rfl, (blk_cell BK135.out 2).trans rfl⟩ (fun hHeld => ?_)
                  clear hK K
                  refine norm_ (a' := ?_) ?_ ?_
                  rotate_left
                  · show Act.put _ (some 12) _ = _
                    simp only [Act.put, List.setIfInBounds_toArray, List.set_cons_zero, List.set_cons_succ, i64_w, i32_w]
                    rfl
                  refine one_ (i := 4) (N := some 4) #[true, true, true, true, true, false] rfl rfl (by kernel_rfl) (by decide) (fun K hK => ?_)
                  refine box_step ?hg (N := 4) ?hd (cs := #[.int .u64 0, .int .u64 0]) (t := 26) ?hr ?_; (case hd => rfl); (case hg => rfl); (case hr => first | (go_simp; done) | (go_simp; rfl))
                  intro gb143 hg w29 hbox hb
                  have n0_ := Aside0.mk (blk_below (g := gb134) (o := .cells #[.int .u64 2, .int .u64 3, .int .u64 1] 24 (0, 0)) (by (with_reducible repeat (first | refine blk_drewN ?_ _ | refine blk_drew ?_ | refine blk_alloc ?_ _)); exact BK134.out) hb)
                  have n1_ := Aside0.mk (blk_below (g := gb135) (o := .cells #[.int .u64 1, .int .u64 1, .int .u64 11] 24 (0, 0)) (by (with_reducible repeat (first | refine blk_drewN ?_ _ | refine blk_drew ?_ | refine blk_alloc ?_ _)); exact BK135.out) hb)
                  have n2_ := Aside0.mk (blk_below (g := gb138) (o := .cells #[.int .u64 t136, .int .u64 t137] 26 (0, 0)) (by (with_reducible repeat (first | refine blk_drewN ?_ _ | refine blk_drew ?_ | refine blk_alloc ?_ _)); exact BK138.out) hb)
                  have n3_ := Aside0.mk (below_step (by repeat (first | (with_reducible first | exact HB.out | apply below_alloc | apply pw_below_drewN | apply below_drew1 | refine below_set ?_ GE134.out | refine below_set ?_ GE135.out | refine below_set ?_ GE138.out) | exact HB.out)) hb)
                  have n4_ := Aside0.mk (hbox)
                  have n5_ := Aside0.mk ((by rw [hg]; exact (below_size (by repeat (first | (with_reducible first | exact HB.out | apply below_alloc | apply pw_below_drewN | apply below_drew1 | refine below_set ?_ GE134.out | refine below_set ?_ GE135.out | refine below_set ?_ GE138.out) | exact HB.out))) : w.heap.size ≤ gb143))
                  have n6_ := Aside0.mk ((by rw [hg]; exact (below_size (by repeat (first | (with_reducible first | exact HB.out | apply below_alloc | apply pw_below_drewN | apply below_drew1 | refine below_set ?_ GE134.out | refine below_set ?_ GE135.out | refine below_set ?_ GE138.out) | exact HB.out))) : w.heap.size ≤ gb143))
                  have n7_ := Aside0.mk ((by rw [hg]; exact Nat.ne_of_lt (blk_lt (g := gb134) (o := .cells #[.int .u64 2, .int .u64 3, .int .u64 1] 24 (0, 0)) (by (with_reducible repeat (first | refine blk_drewN ?_ _ | refine blk_drew ?_ | refine blk_alloc ?_ _)); exact BK134.out)) : gb134 ≠ gb143))
                  have n8_ := Aside0.mk ((by rw [hg]; exact Nat.ne_of_gt (blk_lt (g := gb134) (o := .cells #[.int .u64 2, .int .u64 3, .int .u64 1] 24 (0, 0)) (by (with_reducible repeat (first | refine blk_drewN ?_ _ | refine blk_drew ?_ | refine blk_alloc ?_ _)); exact BK134.out)) : gb143 ≠ gb134))
                  have n9_ := Aside0.mk ((by rw [hg]; exact Nat.ne_of_lt (blk_lt (g := gb135) (o := .cells #[.int .u64 1, .int .u64 1, .int .u64 11] 24 (0, 0)) (by (with_reducible repeat (first | refine blk_drewN ?_ _ | refine blk_drew ?_ | refine blk_alloc ?_ _)); exact BK135.out)) : gb135 ≠ gb143))
                  have n10_ := Aside0.mk ((by rw [hg]; exact Nat.ne_of_gt (blk_lt (g := gb135) (o := .cells #[.int .u64 1, .int .u64 1, .int .u64 11] 24 (0, 0)) (by (with_reducible repeat (first | refine blk_drewN ?_ _ | refine blk_drew ?_ | refine blk_alloc ?_ _)); exact BK135.out)) : gb143 ≠ gb135))
                  have n11_ := Aside0.mk ((by rw [hg]; exact Nat.ne_of_lt (blk_lt (g := gb138) (o := .cells #[.int .u64 t136, .int .u64 t137] 26 (0, 0)) (by (with_reducible repeat (first | refine blk_drewN ?_ _ | refine blk_drew ?_ | refine blk_alloc ?_ _)); exact BK138.out)) : gb138 ≠ gb143))
                  have n12_ := Aside0.mk ((by rw [hg]; exact Nat.ne_of_gt (blk_lt (g := gb138) (o := .cells #[.int .u64 t136, .int .u64 t137] 26 (0, 0)) (by (with_reducible repeat (first | refine blk_drewN ?_ _ | refine blk_drew ?_ | refine blk_alloc ?_ _)); exact BK138.out)) : gb143 ≠ gb138))
                  clear BK134
                  clear BK135
                  clear BK138
                  clear HB
                  have BK134 := n0_
                  have BK135 := n1_
                  have BK138 := n2_
                  have HB := n3_
                  have BK143 := n4_
                  have GW143 := n5_
                  have GE143 := n6_
                  have NB134_143 := n7_
                  have NB143_134 := n8_
                  have NB135_143 := n9_
                  have NB143_135 := n10_
                  have NB138_143 := n11_
                  have NB143_138 := n12_
                  clear n0_ n1_ n2_ n3_ n4_ n5_ n6_ n7_ n8_ n9_ n10_ n11_ n12_
                  clear hb hbox hg
                  refine hK.out _ _ ⟨(blk_cell BK138.out 0).trans rfl, (blk_cell BK138.out 1).trans rfl, (blk_cell BK135.out 0).trans rfl, (blk_cell BK135.out 1).trans rfl, (blk_cell BK135.out 2).trans rfl⟩ (fun hHeld => ?_)
                  clear hK K
                  refine norm_ (a' := ?_) ?_ ?_
                  rotate_left
                  · show Act.put _ (some 4) _ = _
                    simp only [Act.put, List.setIfInBounds_toArray, List.set_cons_zero, List.set_cons_succ, i64_w, i32_w]
                    rfl
                  exact norm_ (by simp only [putAll, Act.put, List.setIfInBounds_toArray, List.set_cons_zero, List.set_cons_succ]) (hCont (gb143) _ ⟨hHeld, (by (with_reducible repeat (first | refine blk_drewN ?_ _ | refine blk_drew ?_ | refine blk_alloc ?_ _)); exact BK134.out), (by (with_reducible repeat (first | refine blk_drewN ?_ _ | refine blk_drew ?_ | refine blk_alloc ?_ _)); exact BK135.out), (by (with_reducible repeat (first | refine blk_drewN ?_ _ | refine blk_drew ?_ | refine blk_alloc ?_ _)); exact BK138.out), (by (with_reducible repeat (first | refine blk_drewN ?_ _ | refine blk_drew ?_ | refine blk_alloc ?_ _)); exact BK143.out), GW143.out, GE143.out, NB134_143.out, NB143_134.out, NB135_143.out, NB143_135.out, NB138_143.out, NB143_138.out, (by repeat (first | (with_reducible first | exact HB.out | apply below_alloc | apply pw_below_drewN | apply below_drew1 | refine below_set ?_ GE134.out | refine below_set ?_ GE135.out | refine below_set ?_ GE138.out | refine below_set ?_ GE143.out) | exact HB.out))⟩)
                · skip
                  refine box_step ?hg (N := 4) ?hd (cs := #[.int .u64 0, .int .u64 0]) (t := 26) ?hr ?_; (case hd => rfl); (case hg => rfl); (case hr => first | (go_simp; done) | (go_simp; rfl))
                  intro gb143 hg w28 hbox hb
                  have n0_ := Aside0.mk (blk_below (g := gb134) (o := .cells #[.int .u64 2, .int .u64 3, .int .u64 1] 24 (0, 0)) (by (with_reducible repeat (first | refine blk_drewN ?_ _ | refine blk_drew ?_ | refine blk_alloc ?_ _)); exact BK134.out) hb)
                  have n1_ := Aside0.mk (blk_below (g := gb135) (o := .cells #[.int .u64 1, .int .u64 1, .int .u64 11] 24 (0, 0)) (by (with_reducible repeat (first | refine blk_drewN ?_ _ | refine blk_drew ?_ | refine blk_alloc ?_ _)); exact BK135.out) hb)
                  have n2_ := Aside0.mk (blk_below (g := gb138) (o := .cells #[.int .u64 t136, .int .u64 t137] 26 (0, 0)) (by (with_reducible repeat (first | refine blk_drewN ?_ _ | refine blk_drew ?_ | refine blk_alloc ?_ _)); exact BK138.out) hb)
                  have n3_ := Aside0.mk (below_step (by repeat (first | (with_reducible first | exact HB.out | apply below_alloc | apply pw_below_drewN | apply below_drew1 | refine below_set ?_ GE134.out | refine below_set ?_ GE135.out | refine below_set ?_ GE138.out) | exact HB.out)) hb)
                  have n4_ := Aside0.mk (hbox)
                  have n5_ := Aside0.mk ((by rw [hg]; exact (below_size (by repeat (first | (with_reducible first | exact HB.out | apply below_alloc | apply pw_below_drewN | apply below_drew1 | refine below_set ?_ GE134.out | refine below_set ?_ GE135.out | refine below_set ?_ GE138.out) | exact HB.out))) : w.heap.size ≤ gb143))
                  have n6_ := Aside0.mk ((by rw [hg]; exact (below_size (by repeat (first | (with_reducible first | exact HB.out | apply below_alloc | apply pw_below_drewN | apply below_drew1 | refine below_set ?_ GE134.out | refine below_set ?_ GE135.out | refine below_set ?_ GE138.out) | exact HB.out))) : w.heap.size ≤ gb143))
                  have n7_ := Aside0.mk ((by rw [hg]; exact Nat.ne_of_lt (blk_lt (g := gb134) (o := .cells #[.int .u64 2, .int .u64 3, .int .u64 1] 24 (0, 0)) (by (with_reducible repeat (first | refine blk_drewN ?_ _ | refine blk_drew ?_ | refine blk_alloc ?_ _)); exact BK134.out)) : gb134 ≠ gb143))
                  have n8_ := Aside0.mk ((by rw [hg]; exact Nat.ne_of_gt (blk_lt (g := gb134) (o := .cells #[.int .u64 2, .int .u64 3, .int .u64 1] 24 (0, 0)) (by (with_reducible repeat (first | refine blk_drewN ?_ _ | refine blk_drew ?_ | refine blk_alloc ?_ _)); exact BK134.out)) : gb143 ≠ gb134))
                  have n9_ := Aside0.mk ((by rw [hg]; exact Nat.ne_of_lt (blk_lt (g := gb135) (o := .cells #[.int .u64 1, .int .u64 1, .int .u64 11] 24 (0, 0)) (by (with_reducible repeat (first | refine blk_drewN ?_ _ | refine blk_drew ?_ | refine blk_alloc ?_ _)); exact BK135.out)) : gb135 ≠ gb143))
                  have n10_ := Aside0.mk ((by rw [hg]; exact Nat.ne_of_gt (blk_lt (g := gb135) (o := .cells #[.int .u64 1, .int .u64 1, .int .u64 11] 24 (0, 0)) (by (with_reducible repeat (first | refine blk_drewN ?_ _ | refine blk_drew ?_ | refine blk_alloc ?_ _)); exact BK135.out)) : gb143 ≠ gb135))
                  have n11_ := Aside0.mk ((by rw [hg]; exact Nat.ne_of_lt (blk_lt (g := gb138) (o := .cells #[.int .u64 t136, .int .u64 t137] 26 (0, 0)) (by (with_reducible repeat (first | refine blk_drewN ?_ _ | refine blk_drew ?_ | refine blk_alloc ?_ _)); exact BK138.out)) : gb138 ≠ gb143))
                  have n12_ := Aside0.mk ((by rw [hg]; exact Nat.ne_of_gt (blk_lt (g := gb138) (o := .cells #[.int .u64 t136, .int .u64 t137] 26 (0, 0)) (by (with_reducible repeat (first | refine blk_drewN ?_ _ | refine blk_drew ?_ | refine blk_alloc ?_ _)); exact BK138.out)) : gb143 ≠ gb138))
                  clear BK134
                  clear BK135
                  clear BK138
                  clear HB
                  have BK134 := n0_
                  have BK135 := n1_
                  have BK138 := n2_
                  have HB := n3_
                  have BK143 := n4_
                  have GW143 := n5_
                  have GE143 := n6_
                  have NB134_143 := n7_
                  have NB143_134 := n8_
                  have NB135_143 := n9_
                  have NB143_135 := n10_
                  have NB138_143 := n11_
                  have NB143_138 := n12_
                  clear n0_ n1_ n2_ n3_ n4_ n5_ n6_ n7_ n8_ n9_ n10_ n11_ n12_
                  clear hb hbox hg
                  refine hK.out _ _ ⟨(blk_cell BK138.out 0).trans rfl, (blk_cell BK138.out 1).trans rfl, (blk_cell BK135.out 0).trans rfl, (blk_cell BK135.out 1).trans rfl, (blk_cell BK135.out 2).trans rfl⟩ (fun hHeld => ?_)
                  clear hK K
                  refine norm_ (a' := ?_) ?_ ?_
                  rotate_left
                  · show Act.put _ (some 4) _ = _
                    simp only [Act.put, List.setIfInBounds_toArray, List.set_cons_zero, List.set_cons_succ, i64_w, i32_w]
                    rfl
                  refine one_ (i := 3) (N := some 12) #[true, true, true, true, true, false] rfl rfl (by kernel_rfl) (by decide) (fun K hK => ?_)
                  refine goes_ Try.func12 (by kernel_rfl) rfl #[.agg #[.int .u64 t136, .int .u64 t137], .agg #[.int .u64 t139, .int .u64 t140]] (by rfl) rfl rfl (by (try simp only [List.map_toArray, List.map_cons, List.map_nil]); first | done | rfl | (simp only [List.length_drop, List.length_take]; rfl)) ?_
                  with_reducible refine (beaver_Sum.calls t136 t137 t139 t140 t141 t142 _ A3.out).mono ?_
                  rintro e w29 ⟨rfl, hb⟩
                  refine ⟨_, rfl, ?_⟩
                  have n0_ := Aside0.mk (blk_below (g := gb134) (o := .cells #[.int .u64 2, .int .u64 3, .int .u64 1] 24 (0, 0)) (by (with_reducible repeat (first | refine blk_drewN ?_ _ | refine blk_drew ?_ | refine blk_alloc ?_ _)); exact BK134.out) hb)
                  have n1_ := Aside0.mk (blk_below (g := gb135) (o := .cells #[.int .u64 1, .int .u64 1, .int .u64 11] 24 (0, 0)) (by (with_reducible repeat (first | refine blk_drewN ?_ _ | refine blk_drew ?_ | refine blk_alloc ?_ _)); exact BK135.out) hb)
                  have n2_ := Aside0.mk (blk_below (g := gb138) (o := .cells #[.int .u64 t136, .int .u64 t137] 26 (0, 0)) (by (with_reducible repeat (first | refine blk_drewN ?_ _ | refine blk_drew ?_ | refine blk_alloc ?_ _)); exact BK138.out) hb)
                  have n3_ := Aside0.mk (blk_below (g := gb143) (o := .cells #[.int .u64 0, .int .u64 0] 26 (0, 0)) (by (with_reducible repeat (first | refine blk_drewN ?_ _ | refine blk_drew ?_ | refine blk_alloc ?_ _)); exact BK143.out) hb)
                  have n4_ := Aside0.mk (below_step (by repeat (first | (with_reducible first | exact HB.out | apply below_alloc | apply pw_below_drewN | apply below_drew1 | refine below_set ?_ GE134.out | refine below_set ?_ GE135.out | refine below_set ?_ GE138.out | refine below_set ?_ GE143.out) | exact HB.out)) hb)
                  clear BK134
                  clear BK135
                  clear BK138
                  clear BK143
                  clear HB
                  have BK134 := n0_
                  have BK135 := n1_
                  have BK138 := n2_
                  have BK143 := n3_
                  have HB := n4_
                  clear n0_ n1_ n2_ n3_ n4_
                  (try clear hb)
                  (try clear hb2)
                  (try clear hk)
                  (try clear hi)
                  refine hK.out _ _ ⟨(blk_cell BK138.out 0).trans rfl, (blk_cell BK138.out 1).trans rfl, (blk_cell BK135.out 0).trans rfl, (blk_cell BK135.out 1).trans rfl, (blk_cell BK135.out 2).trans rfl⟩ (fun hHeld => ?_)
                  clear hK K
                  refine norm_ (a' := ?_) ?_ ?_
                  rotate_left
                  · show Act.put _ (some 12) _ = _
                    simp only [Act.put, List.setIfInBounds_toArray, List.set_cons_zero, List.set_cons_succ, i64_w, i32_w]
                    rfl
                  exact norm_ (by simp only [putAll, Act.put, List.setIfInBounds_toArray, List.set_cons_zero, List.set_cons_succ]) (hCont (gb143) _ ⟨hHeld, (by (with_reducible repeat (first | refine blk_drewN ?_ _ | refine blk_drew ?_ | refine blk_alloc ?_ _)); exact BK134.out), (by (with_reducible repeat (first | refine blk_drewN ?_ _ | refine blk_drew ?_ | refine blk_alloc ?_ _)); exact BK135.out), (by (with_reducible repeat (first | refine blk_drewN ?_ _ | refine blk_drew ?_ | refine blk_alloc ?_ _)); exact BK138.out), (by (with_reducible repeat (first | refine blk_drewN ?_ _ | refine blk_drew ?_ | refine blk_alloc ?_ _)); exact BK143.out), GW143.out, GE143.out, NB134_143.out, NB143_134.out, NB135_143.out, NB143_135.out, NB138_143.out, NB143_138.out, (by repeat (first | (with_reducible first | exact HB.out | apply below_alloc | apply pw_below_drewN | apply below_drew1 | refine below_set ?_ GE134.out | refine below_set ?_ GE135.out | refine below_set ?_ GE138.out | refine below_set ?_ GE143.out) | exact HB.out))⟩)
              · skip
                refine box_step ?hg (N := 4) ?hd (cs := #[.int .u64 0, .int .u64 0]) (t := 26) ?hr ?_; (case hd => rfl); (case hg => rfl); (case hr => first | (go_simp; done) | (go_simp; rfl))
                intro gb143 hg w27 hbox hb
                have n0_ := Aside0.mk (blk_below (g := gb134) (o := .cells #[.int .u64 2, .int .u64 3, .int .u64 1] 24 (0, 0)) (by (with_reducible repeat (first | refine blk_drewN ?_ _ | refine blk_drew ?_ | refine blk_alloc ?_ _)); exact BK134.out) hb)
                have n1_ := Aside0.mk (blk_below (g := gb135) (o := .cells #[.int .u64 1, .int .u64 1, .int .u64 11] 24 (0, 0)) (by (with_reducible repeat (first | refine blk_drewN ?_ _ | refine blk_drew ?_ | refine blk_alloc ?_ _)); exact BK135.out) hb)
                have n2_ := Aside0.mk (blk_below (g := gb138) (o := .cells #[.int .u64 t136, .int .u64 t137] 26 (0, 0)) (by (with_reducible repeat (first | refine blk_drewN ?_ _ | refine blk_drew ?_ | refine blk_alloc ?_ _)); exact BK138.out) hb)
                have n3_ := Aside0.mk (below_step (by repeat (first | (with_reducible first | exact HB.out | apply below_alloc | apply pw_below_drewN | apply below_drew1 | refine below_set ?_ GE134.out | refine below_set ?_ GE135.out | refine below_set ?_ GE138.out) | exact HB.out)) hb)
                have n4_ := Aside0.mk (hbox)
                have n5_ := Aside0.mk ((by rw [hg]; exact (below_size (by repeat (first | (with_reducible first | exact HB.out | apply below_alloc | apply pw_below_drewN | apply below_drew1 | refine below_set ?_ GE134.out | refine below_set ?_ GE135.out | refine below_set ?_ GE138.out) | exact HB.out))) : w.heap.size ≤ gb143))
                have n6_ := Aside0.mk ((by rw [hg]; exact (below_size (by repeat (first | (with_reducible first | exact HB.out | apply below_alloc | apply pw_below_drewN | apply below_drew1 | refine below_set ?_ GE134.out | refine below_set ?_ GE135.out | refine below_set ?_ GE138.out) | exact HB.out))) : w.heap.size ≤ gb143))
                have n7_ := Aside0.mk ((by rw [hg]; exact Nat.ne_of_lt (blk_lt (g := gb134) (o := .cells #[.int .u64 2, .int .u64 3, .int .u64 1] 24 (0, 0)) (by (with_reducible repeat (first | refine blk_drewN ?_ _ | refine blk_drew ?_ | refine blk_alloc ?_ _)); exact BK134.out)) : gb134 ≠ gb143))
                have n8_ := Aside0.mk ((by rw [hg]; exact Nat.ne_of_gt (blk_lt (g := gb134) (o := .cells #[.int .u64 2, .int .u64 3, .int .u64 1] 24 (0, 0)) (by (with_reducible repeat (first | refine blk_drewN ?_ _ | refine blk_drew ?_ | refine blk_alloc ?_ _)); exact BK134.out)) : gb143 ≠ gb134))
                have n9_ := Aside0.mk ((by rw [hg]; exact Nat.ne_of_lt (blk_lt (g := gb135) (o := .cells #[.int .u64 1, .int .u64 1, .int .u64 11] 24 (0, 0)) (by (with_reducible repeat (first | refine blk_drewN ?_ _ | refine blk_drew ?_ | refine blk_alloc ?_ _)); exact BK135.out)) : gb135 ≠ gb143))
                have n10_ := Aside0.mk ((by rw [hg]; exact Nat.ne_of_gt (blk_lt (g := gb135) (o := .cells #[.int .u64 1, .int .u64 1, .int .u64 11] 24 (0, 0)) (by (with_reducible repeat (first | refine blk_drewN ?_ _ | refine blk_drew ?_ | refine blk_alloc ?_ _)); exact BK135.out)) : gb143 ≠ gb135))
                have n11_ := Aside0.mk ((by rw [hg]; exact Nat.ne_of_lt (blk_lt (g := gb138) (o := .cells #[.int .u64 t136, .int .u64 t137] 26 (0, 0)) (by (with_reducible repeat (first | refine blk_drewN ?_ _ | refine blk_drew ?_ | refine blk_alloc ?_ _)); exact BK138.out)) : gb138 ≠ gb143))
                have n12_ := Aside0.mk ((by rw [hg]; exact Nat.ne_of_gt (blk_lt (g := gb138) (o := .cells #[.int .u64 t136, .int .u64 t137] 26 (0, 0)) (by (with_reducible repeat (first | refine blk_drewN ?_ _ | refine blk_drew ?_ | refine blk_alloc ?_ _)); exact BK138.out)) : gb143 ≠ gb138))
                clear BK134
                clear BK135
                clear BK138
                clear HB
                have BK134 := n0_
                have BK135 := n1_
                have BK138 := n2_
                have HB := n3_
                have BK143 := n4_
                have GW143 := n5_
                have GE143 := n6_
                have NB134_143 := n7_
                have NB143_134 := n8_
                have NB135_143 := n9_
                have NB143_135 := n10_
                have NB138_143 := n11_
                have NB143_138 := n12_
                clear n0_ n1_ n2_ n3_ n4_ n5_ n6_ n7_ n8_ n9_ n10_ n11_ n12_
                clear hb hbox hg
                refine hK.out _ _ ⟨(blk_cell BK138.out 0).trans rfl, (blk_cell BK138.out 1).trans rfl, (blk_cell BK135.out 0).trans rfl, (blk_cell BK135.out 1).trans rfl, (blk_cell BK135.out 2).trans rfl⟩ (fun hHeld => ?_)
                clear hK K
                refine norm_ (a' := ?_) ?_ ?_
                rotate_left
                · show Act.put _ (some 4) _ = _
                  simp only [Act.put, List.setIfInBounds_toArray, List.set_cons_zero, List.set_cons_succ, i64_w, i32_w]
                  rfl
                refine one_ (i := 2) (N := some 11) #[true, true, true, false, true, false] rfl rfl (by kernel_rfl) (by decide) (fun K hK => ?_)
                refine goes_ Try.func10 (by kernel_rfl) rfl #[.int .u64 4, .int .u64 1, .agg #[.int .u64 1, .int .u64 1, .int .u64 11]] (by rfl) rfl rfl (by (try simp only [List.map_toArray, List.map_cons, List.map_nil]); first | done | rfl | (simp only [List.length_drop, List.length_take]; rfl)) ?_
                with_reducible refine (beaver_Open.calls 4 1 1 1 11 t139 t140 _ A2.out).mono ?_
                rintro e w28 ⟨rfl, hb⟩
                refine ⟨_, rfl, ?_⟩
                have n0_ := Aside0.mk (blk_below (g := gb134) (o := .cells #[.int .u64 2, .int .u64 3, .int .u64 1] 24 (0, 0)) (by (with_reducible repeat (first | refine blk_drewN ?_ _ | refine blk_drew ?_ | refine blk_alloc ?_ _)); exact BK134.out) hb)
                have n1_ := Aside0.mk (blk_below (g := gb135) (o := .cells #[.int .u64 1, .int .u64 1, .int .u64 11] 24 (0, 0)) (by (with_reducible repeat (first | refine blk_drewN ?_ _ | refine blk_drew ?_ | refine blk_alloc ?_ _)); exact BK135.out) hb)
                have n2_ := Aside0.mk (blk_below (g := gb138) (o := .cells #[.int .u64 t136, .int .u64 t137] 26 (0, 0)) (by (with_reducible repeat (first | refine blk_drewN ?_ _ | refine blk_drew ?_ | refine blk_alloc ?_ _)); exact BK138.out) hb)
                have n3_ := Aside0.mk (blk_below (g := gb143) (o := .cells #[.int .u64 0, .int .u64 0] 26 (0, 0)) (by (with_reducible repeat (first | refine blk_drewN ?_ _ | refine blk_drew ?_ | refine blk_alloc ?_ _)); exact BK143.out) hb)
                have n4_ := Aside0.mk (below_step (by repeat (first | (with_reducible first | exact HB.out | apply below_alloc | apply pw_below_drewN | apply below_drew1 | refine below_set ?_ GE134.out | refine below_set ?_ GE135.out | refine below_set ?_ GE138.out | refine below_set ?_ GE143.out) | exact HB.out)) hb)
                clear BK134
                clear BK135
                clear BK138
                clear BK143
                clear HB
                have BK134 := n0_
                have BK135 := n1_
                have BK138 := n2_
                have BK143 := n3_
                have HB := n4_
                clear n0_ n1_ n2_ n3_ n4_
                (try clear hb)
                (try clear hb2)
                (try clear hk)
                (try clear hi)
                refine hK.out _ _ ⟨(blk_cell BK138.out 0).trans rfl, (blk_cell BK138.out 1).trans rfl, (blk_cell BK135.out 0).trans rfl, (blk_cell BK135.out 1).trans rfl, (blk_cell BK135.out 2).trans rfl⟩ (fun hHeld => ?_)
                clear hK K
                refine norm_ (a' := ?_) ?_ ?_
                rotate_left
                · show Act.put _ (some 11) _ = _
                  simp only [Act.put, List.setIfInBounds_toArray, List.set_cons_zero, List.set_cons_succ, i64_w, i32_w]
                  rfl
                refine one_ (i := 3) (N := some 12) #[true, true, true, true, true, false] rfl rfl (by kernel_rfl) (by decide) (fun K hK => ?_)
                refine goes_ Try.func12 (by kernel_rfl) rfl #[.agg #[.int .u64 t136, .int .u64 t137], .agg #[.int .u64 t139, .int .u64 t140]] (by rfl) rfl rfl (by (try simp only [List.map_toArray, List.map_cons, List.map_nil]); first | done | rfl | (simp only [List.length_drop, List.length_take]; rfl)) ?_
                with_reducible refine (beaver_Sum.calls t136 t137 t139 t140 t141 t142 _ A3.out).mono ?_
                rintro e w29 ⟨rfl, hb⟩
                refine ⟨_, rfl, ?_⟩
                have n0_ := Aside0.mk (blk_below (g := gb134) (o := .cells #[.int .u64 2, .int .u64 3, .int .u64 1] 24 (0, 0)) (by (with_reducible repeat (first | refine blk_drewN ?_ _ | refine blk_drew ?_ | refine blk_alloc ?_ _)); exact BK134.out) hb)
                have n1_ := Aside0.mk (blk_below (g := gb135) (o := .cells #[.int .u64 1, .int .u64 1, .int .u64 11] 24 (0, 0)) (by (with_reducible repeat (first | refine blk_drewN ?_ _ | refine blk_drew ?_ | refine blk_alloc ?_ _)); exact BK135.out) hb)
                have n2_ := Aside0.mk (blk_below (g := gb138) (o := .cells #[.int .u64 t136, .int .u64 t137] 26 (0, 0)) (by (with_reducible repeat (first | refine blk_drewN ?_ _ | refine blk_drew ?_ | refine blk_alloc ?_ _)); exact BK138.out) hb)
                have n3_ := Aside0.mk (blk_below (g := gb143) (o := .cells #[.int .u64 0, .int .u64 0] 26 (0, 0)) (by (with_reducible repeat (first | refine blk_drewN ?_ _ | refine blk_drew ?_ | refine blk_alloc ?_ _)); exact BK143.out) hb)
                have n4_ := Aside0.mk (below_step (by repeat (first | (with_reducible first | exact HB.out | apply below_alloc | apply pw_below_drewN | apply below_drew1 | refine below_set ?_ GE134.out | refine below_set ?_ GE135.out | refine below_set ?_ GE138.out | refine below_set ?_ GE143.out) | exact HB.out)) hb)
                clear BK134
                clear BK135
                clear BK138
                clear BK143
                clear HB
                have BK134 := n0_
                have BK135 := n1_
                have BK138 := n2_
                have BK143 := n3_
                have HB := n4_
                clear n0_ n1_ n2_ n3_ n4_
                (try clear hb)
                (try clear hb2)
                (try clear hk)
                (try clear hi)
                refine hK.out _ _ ⟨(blk_cell BK138.out 0).trans rfl, (blk_cell BK138.out 1).trans rfl, (blk_cell BK135.out 0).trans rfl, (blk_cell BK135.out 1).trans rfl, (blk_cell BK135.out 2).trans rfl⟩ (fun hHeld => ?_)
                clear hK K
                refine norm_ (a' := ?_) ?_ ?_
                rotate_left
                · show Act.put _ (some 12) _ = _
                  simp only [Act.put, List.setIfInBounds_toArray, List.set_cons_zero, List.set_cons_succ, i64_w, i32_w]
                  rfl
                exact norm_ (by simp only [putAll, Act.put, List.setIfInBounds_toArray, List.set_cons_zero, List.set_cons_succ]) (hCont (gb143) _ ⟨hHeld, (by (with_reducible repeat (first | refine blk_drewN ?_ _ | refine blk_drew ?_ | refine blk_alloc ?_ _)); exact BK134.out), (by (with_reducible repeat (first | refine blk_drewN ?_ _ | refine blk_drew ?_ | refine blk_alloc ?_ _)); exact BK135.out), (by (with_reducible repeat (first | refine blk_drewN ?_ _ | refine blk_drew ?_ | refine blk_alloc ?_ _)); exact BK138.out), (by (with_reducible repeat (first | refine blk_drewN ?_ _ | refine blk_drew ?_ | refine blk_alloc ?_ _)); exact BK143.out), GW143.out, GE143.out, NB134_143.out, NB143_134.out, NB135_143.out, NB143_135.out, NB138_143.out, NB143_138.out, (by repeat (first | (with_reducible first | exact HB.out | apply below_alloc | apply pw_below_drewN | apply below_drew1 | refine below_set ?_ GE134.out | refine below_set ?_ GE135.out | refine below_set ?_ GE138.out | refine below_set ?_ GE143.out) | exact HB.out))⟩)
            rintro gb143 w30 ⟨hS_, h0_, h1_, h2_, h3_, h4_, h5_, h6_, h7_, h8_, h9_, h10_, h11_, h12_⟩
            have n0_ : Aside0 (w30.heap[gb134]? = some (.cells #[.int .u64 2, .int .u64 3, .int .u64 1] 24 (0, 0))) := ⟨h0_⟩
            have n1_ : Aside0 (w30.heap[gb135]? = some (.cells #[.int .u64 1, .int .u64 1, .int .u64 11] 24 (0, 0))) := ⟨h1_⟩
            have n2_ : Aside0 (w30.heap[gb138]? = some (.cells #[.int .u64 t136, .int .u64 t137] 26 (0, 0))) := ⟨h2_⟩
            have n3_ : Aside0 (w30.heap[gb143]? = some (.cells #[.int .u64 0, .int .u64 0] 26 (0, 0))) := ⟨h3_⟩
            have n4_ : Aside0 (w.heap.size ≤ gb143) := ⟨h4_⟩
            have n5_ : Aside0 (w.heap.size ≤ gb143) := ⟨h5_⟩
            have n6_ : Aside0 (gb134 ≠ gb143) := ⟨h6_⟩
            have n7_ : Aside0 (gb143 ≠ gb134) := ⟨h7_⟩
            have n8_ : Aside0 (gb135 ≠ gb143) := ⟨h8_⟩
            have n9_ : Aside0 (gb143 ≠ gb135) := ⟨h9_⟩
            have n10_ : Aside0 (gb138 ≠ gb143) := ⟨h10_⟩
            have n11_ : Aside0 (gb143 ≠ gb138) := ⟨h11_⟩
            have n12_ : Aside0 (Below w.heap.size w w30) := ⟨h12_⟩
            clear BK134
            clear BK135
            clear BK138
            clear HB
            clear h0_ h1_ h2_ h3_ h4_ h5_ h6_ h7_ h8_ h9_ h10_ h11_ h12_
            have BK134 := n0_
            have BK135 := n1_
            have BK138 := n2_
            have BK143 := n3_
            have GW143 := n4_
            have GE143 := n5_
            have NB134_143 := n6_
            have NB143_134 := n7_
            have NB135_143 := n8_
            have NB143_135 := n9_
            have NB138_143 := n10_
            have NB143_138 := n11_
            have HB := n12_
            clear n0_ n1_ n2_ n3_ n4_ n5_ n6_ n7_ n8_ n9_ n10_ n11_ n12_
            have hHeld : w30.cell? ⟨gb138, 0, none⟩ = some (.int .u64 t136) ∧ w30.cell? ⟨gb138, 1, none⟩ = some (.int .u64 t137) ∧ w30.cell? ⟨gb135, 0, none⟩ = some (.int .u64 1) ∧ w30.cell? ⟨gb135, 1, none⟩ = some (.int .u64 1) ∧ w30.cell? ⟨gb135, 2, none⟩ = some (.int .u64 11) := hS_
            refine norm_ (a' := ?_) ?_ ?_
            rotate_left
            · simp only [putAll, Act.put, List.setIfInBounds_toArray, List.set_cons_zero, List.set_cons_succ]
              rfl
            refine one_ (i := 5) (N := none) #[true, true, true, true, true, true] rfl rfl (by kernel_rfl) (by decide) (fun K hK => ?_)
            have hs31 : w30.cell? ⟨gb143, 0, none⟩ = some (.int .u64 0) := (blk_cell BK143.out 0).trans rfl
            have hfs31 := blk_frozen BK143.out 0
            have hns31_0 := NB134_143.out
            have hns31_1 := NB135_143.out
            have hns31_2 := NB138_143.out
            have hms31_0 := NB143_134.out
            have hms31_1 := NB143_135.out
            have hms31_2 := NB143_138.out
            have hs32 : w30.cell? ⟨gb143, 1, none⟩ = some (.int .u64 0) := (blk_cell BK143.out 1).trans rfl
            have hfs32 := blk_frozen BK143.out 1
            have hns32_0 := NB134_143.out
            have hns32_1 := NB135_143.out
            have hns32_2 := NB138_143.out
            have hms32_0 := NB143_134.out
            have hms32_1 := NB143_135.out
            have hms32_2 := NB143_138.out
            refine skip_ (w1 := ?_) (by rfl) rfl ?_ ?_
            rotate_left
            · go_simp
              rfl
            refine hK.out _ _ ⟨((cell_far (p := ⟨gb143, _, none⟩) NB138_143.out _).trans (((cell_far (p := ⟨gb143, _, none⟩) NB138_143.out _).trans (hHeld.1)))), ((cell_far (p := ⟨gb143, _, none⟩) NB138_143.out _).trans (((cell_far (p := ⟨gb143, _, none⟩) NB138_143.out _).trans (hHeld.2.1)))), ((cell_far (p := ⟨gb143, _, none⟩) NB135_143.out _).trans (((cell_far (p := ⟨gb143, _, none⟩) NB135_143.out _).trans (hHeld.2.2.1)))), ((cell_far (p := ⟨gb143, _, none⟩) NB135_143.out _).trans (((cell_far (p := ⟨gb143, _, none⟩) NB135_143.out _).trans (hHeld.2.2.2.1)))), ((cell_far (p := ⟨gb143, _, none⟩) NB135_143.out _).trans (((cell_far (p := ⟨gb143, _, none⟩) NB135_143.out _).trans (hHeld.2.2.2.2))))⟩ (fun hHeld => ?_)
            clear hK K
            refine done_ (by kernel_rfl) ?_
            have hnb33 := NB138_143.out
            have hnc33 := NB143_138.out
            have hcz34_0 : w30.cell? ⟨gb138, 0, none⟩ = some (.int .u64 t136) := (blk_cell BK138.out 0).trans rfl
            have hcz34_1 : w30.cell? ⟨gb138, 1, none⟩ = some (.int .u64 t137) := (blk_cell BK138.out 1).trans rfl
            have hfz34_0 := blk_frozen BK138.out 0
            have hfz34_1 := blk_frozen BK138.out 1
            have hnb35 := NB143_134.out
            have hnc35 := NB134_143.out
            have hnb36 := NB143_135.out
            have hnc36 := NB135_143.out
            have hcz37_0 : w30.cell? ⟨gb143, 0, none⟩ = some (.int .u64 0) := (blk_cell BK143.out 0).trans rfl
            have hcz37_1 : w30.cell? ⟨gb143, 1, none⟩ = some (.int .u64 0) := (blk_cell BK143.out 1).trans rfl
            have hfz37_0 := blk_frozen BK143.out 0
            have hfz37_1 := blk_frozen BK143.out 1
            have hcz38_0 : w30.cell? ⟨gb134, 0, none⟩ = some (.int .u64 2) := (blk_cell BK134.out 0).trans rfl
            have hcz38_1 : w30.cell? ⟨gb134, 1, none⟩ = some (.int .u64 3) := (blk_cell BK134.out 1).trans rfl
            have hcz38_2 : w30.cell? ⟨gb134, 2, none⟩ = some (.int .u64 1) := (blk_cell BK134.out 2).trans rfl
            have hfz38_0 := blk_frozen BK134.out 0
            have hfz38_1 := blk_frozen BK134.out 1
            have hfz38_2 := blk_frozen BK134.out 2
            try go_wp2_with (first | (go_at_call 14; (with_reducible refine (beaver_Close.calls 0 t141 t142 2 3 1 t144 _ A6.out).mono ?_); rintro e w39 ⟨rfl, hb⟩; have n0_ := Aside0.mk (blk_below (g := gb134) (o := .cells #[.int .u64 2, .int .u64 3, .int .u64 1] 24 (0, 0)) (by (with_reducible repeat (first | refine blk_drewN ?_ _ | refine blk_drew ?_ | refine blk_alloc ?_ _)); refine blk_far ?_ NB134_143.out _; (with_reducible repeat (first | refine blk_drewN ?_ _ | refine blk_drew ?_ | refine blk_alloc ?_ _)); refine blk_far ?_ NB134_143.out _; (with_reducible repeat (first | refine blk_drewN ?_ _ | refine blk_drew ?_ | refine blk_alloc ?_ _)); exact BK134.out) hb); have n1_ := Aside0.mk (blk_below (g := gb135) (o := .cells #[.int .u64 1, .int .u64 1, .int .u64 11] 24 (0, 0)) (by (with_reducible repeat (first | refine blk_drewN ?_ _ | refine blk_drew ?_ | refine blk_alloc ?_ _)); refine blk_far ?_ NB135_143.out _; (with_reducible repeat (first | refine blk_drewN ?_ _ | refine blk_drew ?_ | refine blk_alloc ?_ _)); refine blk_far ?_ NB135_143.out _; (with_reducible repeat (first | refine blk_drewN ?_ _ | refine blk_drew ?_ | refine blk_alloc ?_ _)); exact BK135.out) hb); have n2_ := Aside0.mk (blk_below (g := gb138) (o := .cells #[.int .u64 t136, .int .u64 t137] 26 (0, 0)) (by (with_reducible repeat (first | refine blk_drewN ?_ _ | refine blk_drew ?_ | refine blk_alloc ?_ _)); refine blk_far ?_ NB138_143.out _; (with_reducible repeat (first | refine blk_drewN ?_ _ | refine blk_drew ?_ | refine blk_alloc ?_ _)); refine blk_far ?_ NB138_143.out _; (with_reducible repeat (first | refine blk_drewN ?_ _ | refine blk_drew ?_ | refine blk_alloc ?_ _)); exact BK138.out) hb); have n3_ := Aside0.mk (blk_below (g := gb143) (o := .cells #[.int .u64 t141, .int .u64 t142] 26 (0, 0)) (by (with_reducible repeat (first | refine blk_drewN ?_ _ | refine blk_drew ?_ | refine blk_alloc ?_ _)); refine blk_put (cs := #[.int .u64 t141, .int .u64 0]) ?_ 1 _ rfl; (with_reducible repeat (first | refine blk_drewN ?_ _ | refine blk_drew ?_ | refine blk_alloc ?_ _)); refine blk_put (cs := #[.int .u64 0, .int .u64 0]) ?_ 0 _ rfl; (with_reducible repeat (first | refine blk_drewN ?_ _ | refine blk_drew ?_ | refine blk_alloc ?_ _)); exact BK143.out) hb); have n4_ := Aside0.mk (below_step (by repeat (first | (with_reducible first | exact HB.out | apply below_alloc | apply pw_below_drewN | apply below_drew1 | refine below_set ?_ GE134.out | refine below_set ?_ GE135.out | refine below_set ?_ GE138.out | refine below_set ?_ GE143.out) | exact HB.out)) hb); clear BK134; clear BK135; clear BK138; clear BK143; clear HB; have BK134 := n0_; have BK135 := n1_; have BK138 := n2_; have BK143 := n3_; have HB := n4_; clear n0_ n1_ n2_ n3_ n4_; (try clear hb); (try clear hb2); (try clear hk); (try clear hi); have hcz40_0 : w39.cell? ⟨gb143, 0, none⟩ = some (.int .u64 t141) := (blk_cell BK143.out 0).trans rfl; have hcz40_1 : w39.cell? ⟨gb143, 1, none⟩ = some (.int .u64 t142) := (blk_cell BK143.out 1).trans rfl; have hfz40_0 := blk_frozen BK143.out 0; have hfz40_1 := blk_frozen BK143.out 1; have hcz41_0 : w39.cell? ⟨gb135, 0, none⟩ = some (.int .u64 1) := (blk_cell BK135.out 0).trans rfl; have hcz41_1 : w39.cell? ⟨gb135, 1, none⟩ = some (.int .u64 1) := (blk_cell BK135.out 1).trans rfl; have hcz41_2 : w39.cell? ⟨gb135, 2, none⟩ = some (.int .u64 11) := (blk_cell BK135.out 2).trans rfl; have hfz41_0 := blk_frozen BK135.out 0; have hfz41_1 := blk_frozen BK135.out 1; have hfz41_2 := blk_frozen BK135.out 2) | (go_at_call 14; (with_reducible refine (beaver_Close.calls 1 t141 t142 1 1 11 t145 _ A8.out).mono ?_); rintro e w42 ⟨rfl, hb⟩; have n0_ := Aside0.mk (blk_below (g := gb134) (o := .cells #[.int .u64 2, .int .u64 3, .int .u64 1] 24 (0, 0)) (by (with_reducible repeat (first | refine blk_drewN ?_ _ | refine blk_drew ?_ | refine blk_alloc ?_ _)); exact BK134.out) hb); have n1_ := Aside0.mk (blk_below (g := gb135) (o := .cells #[.int .u64 1, .int .u64 1, .int .u64 11] 24 (0, 0)) (by (with_reducible repeat (first | refine blk_drewN ?_ _ | refine blk_drew ?_ | refine blk_alloc ?_ _)); exact BK135.out) hb); have n2_ := Aside0.mk (blk_below (g := gb138) (o := .cells #[.int .u64 t136, .int .u64 t137] 26 (0, 0)) (by (with_reducible repeat (first | refine blk_drewN ?_ _ | refine blk_drew ?_ | refine blk_alloc ?_ _)); exact BK138.out) hb); have n3_ := Aside0.mk (blk_below (g := gb143) (o := .cells #[.int .u64 t141, .int .u64 t142] 26 (0, 0)) (by (with_reducible repeat (first | refine blk_drewN ?_ _ | refine blk_drew ?_ | refine blk_alloc ?_ _)); exact BK143.out) hb); have n4_ := Aside0.mk (below_step (by repeat (first | (with_reducible first | exact HB.out | apply below_alloc | apply pw_below_drewN | apply below_drew1 | refine below_set ?_ GE134.out | refine below_set ?_ GE135.out | refine below_set ?_ GE138.out | refine below_set ?_ GE143.out) | exact HB.out)) hb); clear BK134; clear BK135; clear BK138; clear BK143; clear HB; have BK134 := n0_; have BK135 := n1_; have BK138 := n2_; have BK143 := n3_; have HB := n4_; clear n0_ n1_ n2_ n3_ n4_; (try clear hb); (try clear hb2); (try clear hk); (try clear hi)) | ((with_reducible refine gate_dst (N := 34) rfl ?_); (try (refine gate_guard (by rfl) ?_; dsimp only)); refine Kd.R_lit (Kd.int .u64) _ 22 ?hg (N := 34) ?hd (xs := ([1, 2] : List Int)) (inner := [.int .u64 1, .int .u64 2]) (ok := fun _ => True) (okp := fun _ => True) ?hr ?hp (fun _ hk => hk) trivial (Below.refl _ _) (Nat.le_refl _) (by simp) ?_; (case hd => rfl); (case hg => rfl); (case hr => first | (go_simp; done) | (go_simp; rfl)); (case hp => exact (Reps.one (show Kd.M (Kd.int .u64) _ _ _ 1 [.int .u64 1] from rfl) (Reps.one (show Kd.M (Kd.int .u64) _ _ _ 2 [.int .u64 2] from rfl) (Reps.none _ _)))); intro v147 w43 ho44 hb hg_ hnew_; clear hg_ hnew_; (first | rw [← Ny146.out] at ho44 | (simp only [Int.reduceToNat] at ho44; rw [← Ny146.out] at ho44)); have n0_ := Aside0.mk (Kd.R_lower ho44 (below_size (by repeat (first | (with_reducible first | exact HB.out | apply below_alloc | apply pw_below_drewN | apply below_drew1 | refine below_set ?_ GE134.out | refine below_set ?_ GE135.out | refine below_set ?_ GE138.out | refine below_set ?_ GE143.out) | exact HB.out)))); have n1_ := Aside0.mk (blk_below (g := gb134) (o := .cells #[.int .u64 2, .int .u64 3, .int .u64 1] 24 (0, 0)) (by (with_reducible repeat (first | refine blk_drewN ?_ _ | refine blk_drew ?_ | refine blk_alloc ?_ _)); exact BK134.out) hb); have n2_ := Aside0.mk (blk_below (g := gb135) (o := .cells #[.int .u64 1, .int .u64 1, .int .u64 11] 24 (0, 0)) (by (with_reducible repeat (first | refine blk_drewN ?_ _ | refine blk_drew ?_ | refine blk_alloc ?_ _)); exact BK135.out) hb); have n3_ := Aside0.mk (blk_below (g := gb138) (o := .cells #[.int .u64 t136, .int .u64 t137] 26 (0, 0)) (by (with_reducible repeat (first | refine blk_drewN ?_ _ | refine blk_drew ?_ | refine blk_alloc ?_ _)); exact BK138.out) hb); have n4_ := Aside0.mk (blk_below (g := gb143) (o := .cells #[.int .u64 t141, .int .u64 t142] 26 (0, 0)) (by (with_reducible repeat (first | refine blk_drewN ?_ _ | refine blk_drew ?_ | refine blk_alloc ?_ _)); exact BK143.out) hb); have n5_ := Aside0.mk (below_step (by repeat (first | (with_reducible first | exact HB.out | apply below_alloc | apply pw_below_drewN | apply below_drew1 | refine below_set ?_ GE134.out | refine below_set ?_ GE135.out | refine below_set ?_ GE138.out | refine below_set ?_ GE143.out) | exact HB.out)) hb); clear BK134; clear BK135; clear BK138; clear BK143; clear HB; have HO148 := n0_; have BK134 := n1_; have BK135 := n2_; have BK138 := n3_; have BK143 := n4_; have HB := n5_; clear n0_ n1_ n2_ n3_ n4_ n5_; clear hb ho44) | ((with_reducible refine gate_dst (N := 35) rfl ?_); (try (refine gate_guard (by rfl) ?_; dsimp only)); refine Kd.R_lit (Kd.int .u64) _ 22 ?hg (N := 35) ?hd (xs := ([3] : List Int)) (inner := [.int .u64 3]) (ok := fun _ => True) (okp := fun _ => True) ?hr ?hp (fun _ hk => hk) trivial (Below.refl _ _) (Nat.le_refl _) (by simp) ?_; (case hd => rfl); (case hg => rfl); (case hr => first | (go_simp; done) | (go_simp; rfl)); (case hp => exact (Reps.one (show Kd.M (Kd.int .u64) _ _ _ 3 [.int .u64 3] from rfl) (Reps.none _ _))); intro v150 w45 ho46 hb hg_ hnew_; clear hg_ hnew_; (first | rw [← Ny149.out] at ho46 | (simp only [Int.reduceToNat] at ho46; rw [← Ny149.out] at ho46)); have n0_ := Aside0.mk (Kd.R_elder' (by (with_reducible repeat (first | apply Kd.R_alloc | apply Kd.R_drewN | apply Kd.R_drew)); exact HO148.out) (Kd.R_base ho46) hb); have n1_ := Aside0.mk (Kd.R_lower (Kd.R_new' ho46 (Kd.R_lt (by (with_reducible repeat (first | apply Kd.R_alloc | apply Kd.R_drewN | apply Kd.R_drew)); exact HO148.out))) (below_size (by repeat (first | (with_reducible first | exact HB.out | apply below_alloc | apply pw_below_drewN | apply below_drew1 | refine below_set ?_ GE134.out | refine below_set ?_ GE135.out | refine below_set ?_ GE138.out | refine below_set ?_ GE143.out) | exact HB.out)))); have n2_ := Aside0.mk (blk_below (g := gb134) (o := .cells #[.int .u64 2, .int .u64 3, .int .u64 1] 24 (0, 0)) (by (with_reducible repeat (first | refine blk_drewN ?_ _ | refine blk_drew ?_ | refine blk_alloc ?_ _)); exact BK134.out) hb); have n3_ := Aside0.mk (blk_below (g := gb135) (o := .cells #[.int .u64 1, .int .u64 1, .int .u64 11] 24 (0, 0)) (by (with_reducible repeat (first | refine blk_drewN ?_ _ | refine blk_drew ?_ | refine blk_alloc ?_ _)); exact BK135.out) hb); have n4_ := Aside0.mk (blk_below (g := gb138) (o := .cells #[.int .u64 t136, .int .u64 t137] 26 (0, 0)) (by (with_reducible repeat (first | refine blk_drewN ?_ _ | refine blk_drew ?_ | refine blk_alloc ?_ _)); exact BK138.out) hb); have n5_ := Aside0.mk (blk_below (g := gb143) (o := .cells #[.int .u64 t141, .int .u64 t142] 26 (0, 0)) (by (with_reducible repeat (first | refine blk_drewN ?_ _ | refine blk_drew ?_ | refine blk_alloc ?_ _)); exact BK143.out) hb); have n6_ := Aside0.mk (below_step (by repeat (first | (with_reducible first | exact HB.out | apply below_alloc | apply pw_below_drewN | apply below_drew1 | refine below_set ?_ GE134.out | refine below_set ?_ GE135.out | refine below_set ?_ GE138.out | refine below_set ?_ GE143.out) | exact HB.out)) hb); clear HO148; clear BK134; clear BK135; clear BK138; clear BK143; clear HB; have HO148 := n0_; have HO151 := n1_; have BK134 := n2_; have BK135 := n3_; have BK138 := n4_; have BK143 := n5_; have HB := n6_; clear n0_ n1_ n2_ n3_ n4_ n5_ n6_; clear hb ho46; have hcz47_0 : w45.cell? ⟨gb134, 0, none⟩ = some (.int .u64 2) := (blk_cell BK134.out 0).trans rfl; have hcz47_1 : w45.cell? ⟨gb134, 1, none⟩ = some (.int .u64 3) := (blk_cell BK134.out 1).trans rfl; have hcz47_2 : w45.cell? ⟨gb134, 2, none⟩ = some (.int .u64 1) := (blk_cell BK134.out 2).trans rfl; have hfz47_0 := blk_frozen BK134.out 0; have hfz47_1 := blk_frozen BK134.out 1; have hfz47_2 := blk_frozen BK134.out 2; have hcz48_0 : w45.cell? ⟨gb135, 0, none⟩ = some (.int .u64 1) := (blk_cell BK135.out 0).trans rfl; have hcz48_1 : w45.cell? ⟨gb135, 1, none⟩ = some (.int .u64 1) := (blk_cell BK135.out 1).trans rfl; have hcz48_2 : w45.cell? ⟨gb135, 2, none⟩ = some (.int .u64 11) := (blk_cell BK135.out 2).trans rfl; have hfz48_0 := blk_frozen BK135.out 0; have hfz48_1 := blk_frozen BK135.out 1; have hfz48_2 := blk_frozen BK135.out 2) | ((with_reducible refine gate_dst (N := 38) rfl ?_); (try (refine gate_guard (by rfl) ?_; dsimp only)); refine Kd.R_lit k24 _ 24 ?hg (N := 38) ?hd (xs := ([(⟨2, 3, 1⟩ : S24), (⟨1, 1, 11⟩ : S24)] : List (S24))) (inner := [.int .u64 2, .int .u64 3, .int .u64 1, .int .u64 1, .int .u64 1, .int .u64 11]) (ok := fun _ => True) (okp := fun _ => True) ?hr ?hp (fun _ hk => hk) trivial (Below.refl _ _) (Nat.le_refl _) (by simp) ?_; (case hd => rfl); (case hg => rfl); (case hr => first | (go_simp; done) | (go_simp; rfl)); (case hp => exact (Reps.c3 (show Kd.M k24 _ _ _ (⟨2, 3, 1⟩ : S24) [.int .u64 2, .int .u64 3, .int .u64 1] from (k24_mkM _ _ _ (⟨2, 3, 1⟩ : S24) )) (Reps.c3 (show Kd.M k24 _ _ _ (⟨1, 1, 11⟩ : S24) [.int .u64 1, .int .u64 1, .int .u64 11] from (k24_mkM _ _ _ (⟨1, 1, 11⟩ : S24) )) (Reps.none _ _)))); intro v153 w49 ho50 hb hg_ hnew_; clear hg_ hnew_; (first | rw [← Ny152.out] at ho50 | (simp only [Int.reduceToNat] at ho50; rw [← Ny152.out] at ho50)); have n0_ := Aside0.mk (Kd.R_below (by (with_reducible repeat (first | apply Kd.R_alloc | apply Kd.R_drewN | apply Kd.R_drew)); exact HO148.out) hb); have n1_ := Aside0.mk (Kd.R_below (by (with_reducible repeat (first | apply Kd.R_alloc | apply Kd.R_drewN | apply Kd.R_drew)); exact HO151.out) hb); have n2_ := Aside0.mk (Kd.R_lower (Kd.R_newB (Kd.R_newB ho50 (g := gb134) (o := .cells #[.int .u64 2, .int .u64 3, .int .u64 1] 24 (0, 0)) (by (with_reducible repeat (first | refine blk_drewN ?_ _ | refine blk_drew ?_ | refine blk_alloc ?_ _)); exact BK134.out)) (g := gb135) (o := .cells #[.int .u64 1, .int .u64 1, .int .u64 11] 24 (0, 0)) (by (with_reducible repeat (first | refine blk_drewN ?_ _ | refine blk_drew ?_ | refine blk_alloc ?_ _)); exact BK135.out)) (below_size (by repeat (first | (with_reducible first | exact HB.out | apply below_alloc | apply pw_below_drewN | apply below_drew1 | refine below_set ?_ GE134.out | refine below_set ?_ GE135.out | refine below_set ?_ GE138.out | refine below_set ?_ GE143.out) | exact HB.out)))); have n3_ := Aside0.mk (blk_below (g := gb134) (o := .cells #[.int .u64 2, .int .u64 3, .int .u64 1] 24 (0, 0)) (by (with_reducible repeat (first | refine blk_drewN ?_ _ | refine blk_drew ?_ | refine blk_alloc ?_ _)); exact BK134.out) hb); have n4_ := Aside0.mk (blk_below (g := gb135) (o := .cells #[.int .u64 1, .int .u64 1, .int .u64 11] 24 (0, 0)) (by (with_reducible repeat (first | refine blk_drewN ?_ _ | refine blk_drew ?_ | refine blk_alloc ?_ _)); exact BK135.out) hb); have n5_ := Aside0.mk (blk_below (g := gb138) (o := .cells #[.int .u64 t136, .int .u64 t137] 26 (0, 0)) (by (with_reducible repeat (first | refine blk_drewN ?_ _ | refine blk_drew ?_ | refine blk_alloc ?_ _)); exact BK138.out) hb); have n6_ := Aside0.mk (blk_below (g := gb143) (o := .cells #[.int .u64 t141, .int .u64 t142] 26 (0, 0)) (by (with_reducible repeat (first | refine blk_drewN ?_ _ | refine blk_drew ?_ | refine blk_alloc ?_ _)); exact BK143.out) hb); have n7_ := Aside0.mk (below_step (by repeat (first | (with_reducible first | exact HB.out | apply below_alloc | apply pw_below_drewN | apply below_drew1 | refine below_set ?_ GE134.out | refine below_set ?_ GE135.out | refine below_set ?_ GE138.out | refine below_set ?_ GE143.out) | exact HB.out)) hb); clear HO148; clear HO151; clear BK134; clear BK135; clear BK138; clear BK143; clear HB; have HO148 := n0_; have HO151 := n1_; have HO154 := n2_; have BK134 := n3_; have BK135 := n4_; have BK138 := n5_; have BK143 := n6_; have HB := n7_; clear n0_ n1_ n2_ n3_ n4_ n5_ n6_ n7_; clear hb ho50; obtain ⟨Ao51, co51, eo51⟩ := Kd.R_slice HO148.out; subst eo51; obtain ⟨Ao52, co52, eo52⟩ := Kd.R_slice HO151.out; subst eo52; obtain ⟨Ao53, co53, eo53⟩ := Kd.R_slice HO154.out; subst eo53) | (go_at_call 18; (with_reducible refine (beaver_Opens.calls k _ _ y146 _ _ y149 _ _ y152 t155 _ ?side1 ?side2 ?side3 ?side4 ?side5 ?side6 A10.out).mono ?_); (case side1 => repeat (first | exact (Kd.R_reads' HO148.out).2.2 | (with_reducible refine Kd.C_alloc ?_ _) | (with_reducible refine Kd.C_drewN ?_ _) | (with_reducible refine Kd.C_drew ?_))); (case side2 => exact (Kd.R_reads' HO148.out).2.1); (case side3 => repeat (first | exact (Kd.R_reads' HO151.out).2.2 | (with_reducible refine Kd.C_alloc ?_ _) | (with_reducible refine Kd.C_drewN ?_ _) | (with_reducible refine Kd.C_drew ?_))); (case side4 => exact (Kd.R_reads' HO151.out).2.1); (case side5 => repeat (first | exact (Kd.R_reads' HO154.out).2.2 | (with_reducible refine Kd.C_alloc ?_ _) | (with_reducible refine Kd.C_drewN ?_ _) | (with_reducible refine Kd.C_drew ?_))); (case side6 => exact (Kd.R_reads' HO154.out).2.1); rintro e w54 ⟨v156, rfl, ho0, hb⟩; have n0_ := Aside0.mk (Kd.R_below (by (with_reducible repeat (first | apply Kd.R_alloc | apply Kd.R_drewN | apply Kd.R_drew)); exact HO148.out) hb); have n1_ := Aside0.mk (Kd.R_below (by (with_reducible repeat (first | apply Kd.R_alloc | apply Kd.R_drewN | apply Kd.R_drew)); exact HO151.out) hb); have n2_ := Aside0.mk (Kd.R_below (by (with_reducible repeat (first | apply Kd.R_alloc | apply Kd.R_drewN | apply Kd.R_drew)); exact HO154.out) hb); have n3_ := Aside0.mk (Kd.R_lower (Kd.R_newB (Kd.R_newB ho0 (g := gb138) (o := .cells #[.int .u64 t136, .int .u64 t137] 26 (0, 0)) (by (with_reducible repeat (first | refine blk_drewN ?_ _ | refine blk_drew ?_ | refine blk_alloc ?_ _)); exact BK138.out)) (g := gb143) (o := .cells #[.int .u64 t141, .int .u64 t142] 26 (0, 0)) (by (with_reducible repeat (first | refine blk_drewN ?_ _ | refine blk_drew ?_ | refine blk_alloc ?_ _)); exact BK143.out)) (below_size (by repeat (first | (with_reducible first | exact HB.out | apply below_alloc | apply pw_below_drewN | apply below_drew1 | refine below_set ?_ GE134.out | refine below_set ?_ GE135.out | refine below_set ?_ GE138.out | refine below_set ?_ GE143.out) | exact HB.out)))); have n4_ := Aside0.mk (blk_below (g := gb134) (o := .cells #[.int .u64 2, .int .u64 3, .int .u64 1] 24 (0, 0)) (by (with_reducible repeat (first | refine blk_drewN ?_ _ | refine blk_drew ?_ | refine blk_alloc ?_ _)); exact BK134.out) hb); have n5_ := Aside0.mk (blk_below (g := gb135) (o := .cells #[.int .u64 1, .int .u64 1, .int .u64 11] 24 (0, 0)) (by (with_reducible repeat (first | refine blk_drewN ?_ _ | refine blk_drew ?_ | refine blk_alloc ?_ _)); exact BK135.out) hb); have n6_ := Aside0.mk (blk_below (g := gb138) (o := .cells #[.int .u64 t136, .int .u64 t137] 26 (0, 0)) (by (with_reducible repeat (first | refine blk_drewN ?_ _ | refine blk_drew ?_ | refine blk_alloc ?_ _)); exact BK138.out) hb); have n7_ := Aside0.mk (blk_below (g := gb143) (o := .cells #[.int .u64 t141, .int .u64 t142] 26 (0, 0)) (by (with_reducible repeat (first | refine blk_drewN ?_ _ | refine blk_drew ?_ | refine blk_alloc ?_ _)); exact BK143.out) hb); have n8_ := Aside0.mk (below_step (by repeat (first | (with_reducible first | exact HB.out | apply below_alloc | apply pw_below_drewN | apply below_drew1 | refine below_set ?_ GE134.out | refine below_set ?_ GE135.out | refine below_set ?_ GE138.out | refine below_set ?_ GE143.out) | exact HB.out)) hb); clear HO148; clear HO151; clear HO154; clear BK134; clear BK135; clear BK138; clear BK143; clear HB; have HO148 := n0_; have HO151 := n1_; have HO154 := n2_; have HO157 := n3_; have BK134 := n4_; have BK135 := n5_; have BK138 := n6_; have BK143 := n7_; have HB := n8_; clear n0_ n1_ n2_ n3_ n4_ n5_ n6_ n7_ n8_; (try clear hb); (try clear hb2); (try clear hk); (try clear hi); (try clear ho0); obtain ⟨Ao55, co55, eo55⟩ := Kd.R_slice HO157.out; subst eo55; have hcz56_0 : w54.cell? ⟨gb143, 0, none⟩ = some (.int .u64 t141) := (blk_cell BK143.out 0).trans rfl; have hcz56_1 : w54.cell? ⟨gb143, 1, none⟩ = some (.int .u64 t142) := (blk_cell BK143.out 1).trans rfl; have hfz56_0 := blk_frozen BK143.out 0; have hfz56_1 := blk_frozen BK143.out 1) | ((with_reducible refine gate_dst (N := 45) rfl ?_); (try (refine gate_guard (by rfl) ?_; dsimp only)); refine Kd.R_lit k26 _ 26 ?hg (N := 45) ?hd (xs := ([(⟨t141, t142⟩ : S26)] : List (S26))) (inner := [.int .u64 t141, .int .u64 t142]) (ok := fun _ => True) (okp := fun _ => True) ?hr ?hp (fun _ hk => hk) trivial (Below.refl _ _) (Nat.le_refl _) (by simp) ?_; (case hd => rfl); (case hg => rfl); (case hr => first | (go_simp; done) | (go_simp; rfl)); (case hp => exact (Reps.c2 (show Kd.M k26 _ _ _ (⟨t141, t142⟩ : S26) [.int .u64 t141, .int .u64 t142] from (k26_mkM _ _ _ (⟨t141, t142⟩ : S26) )) (Reps.none _ _))); intro v159 w57 ho58 hb hg_ hnew_; clear hg_ hnew_; (first | rw [← Ny158.out] at ho58 | (simp only [Int.reduceToNat] at ho58; rw [← Ny158.out] at ho58)); have n0_ := Aside0.mk (Kd.R_below (by (with_reducible repeat (first | apply Kd.R_alloc | apply Kd.R_drewN | apply Kd.R_drew)); exact HO148.out) hb); have n1_ := Aside0.mk (Kd.R_below (by (with_reducible repeat (first | apply Kd.R_alloc | apply Kd.R_drewN | apply Kd.R_drew)); exact HO151.out) hb); have n2_ := Aside0.mk (Kd.R_below (by (with_reducible repeat (first | apply Kd.R_alloc | apply Kd.R_drewN | apply Kd.R_drew)); exact HO154.out) hb); have n3_ := Aside0.mk (Kd.R_elder' (by (with_reducible repeat (first | apply Kd.R_alloc | apply Kd.R_drewN | apply Kd.R_drew)); exact HO157.out) (Kd.R_base ho58) hb); have n4_ := Aside0.mk (Kd.R_lower (Kd.R_newB (Kd.R_newB (Kd.R_new' ho58 (Kd.R_lt (by (with_reducible repeat (first | apply Kd.R_alloc | apply Kd.R_drewN | apply Kd.R_drew)); exact HO157.out))) (g := gb138) (o := .cells #[.int .u64 t136, .int .u64 t137] 26 (0, 0)) (by (with_reducible repeat (first | refine blk_drewN ?_ _ | refine blk_drew ?_ | refine blk_alloc ?_ _)); exact BK138.out)) (g := gb143) (o := .cells #[.int .u64 t141, .int .u64 t142] 26 (0, 0)) (by (with_reducible repeat (first | refine blk_drewN ?_ _ | refine blk_drew ?_ | refine blk_alloc ?_ _)); exact BK143.out)) (below_size (by repeat (first | (with_reducible first | exact HB.out | apply below_alloc | apply pw_below_drewN | apply below_drew1 | refine below_set ?_ GE134.out | refine below_set ?_ GE135.out | refine below_set ?_ GE138.out | refine below_set ?_ GE143.out) | exact HB.out)))); have n5_ := Aside0.mk (blk_below (g := gb134) (o := .cells #[.int .u64 2, .int .u64 3, .int .u64 1] 24 (0, 0)) (by (with_reducible repeat (first | refine blk_drewN ?_ _ | refine blk_drew ?_ | refine blk_alloc ?_ _)); exact BK134.out) hb); have n6_ := Aside0.mk (blk_below (g := gb135) (o := .cells #[.int .u64 1, .int .u64 1, .int .u64 11] 24 (0, 0)) (by (with_reducible repeat (first | refine blk_drewN ?_ _ | refine blk_drew ?_ | refine blk_alloc ?_ _)); exact BK135.out) hb); have n7_ := Aside0.mk (blk_below (g := gb138) (o := .cells #[.int .u64 t136, .int .u64 t137] 26 (0, 0)) (by (with_reducible repeat (first | refine blk_drewN ?_ _ | refine blk_drew ?_ | refine blk_alloc ?_ _)); exact BK138.out) hb); have n8_ := Aside0.mk (blk_below (g := gb143) (o := .cells #[.int .u64 t141, .int .u64 t142] 26 (0, 0)) (by (with_reducible repeat (first | refine blk_drewN ?_ _ | refine blk_drew ?_ | refine blk_alloc ?_ _)); exact BK143.out) hb); have n9_ := Aside0.mk (below_step (by repeat (first | (with_reducible first | exact HB.out | apply below_alloc | apply pw_below_drewN | apply below_drew1 | refine below_set ?_ GE134.out | refine below_set ?_ GE135.out | refine below_set ?_ GE138.out | refine below_set ?_ GE143.out) | exact HB.out)) hb); clear HO148; clear HO151; clear HO154; clear HO157; clear BK134; clear BK135; clear BK138; clear BK143; clear HB; have HO148 := n0_; have HO151 := n1_; have HO154 := n2_; have HO157 := n3_; have HO160 := n4_; have BK134 := n5_; have BK135 := n6_; have BK138 := n7_; have BK143 := n8_; have HB := n9_; clear n0_ n1_ n2_ n3_ n4_ n5_ n6_ n7_ n8_ n9_; clear hb ho58; have hcz59_0 : w57.cell? ⟨gb135, 0, none⟩ = some (.int .u64 1) := (blk_cell BK135.out 0).trans rfl; have hcz59_1 : w57.cell? ⟨gb135, 1, none⟩ = some (.int .u64 1) := (blk_cell BK135.out 1).trans rfl; have hcz59_2 : w57.cell? ⟨gb135, 2, none⟩ = some (.int .u64 11) := (blk_cell BK135.out 2).trans rfl; have hfz59_0 := blk_frozen BK135.out 0; have hfz59_1 := blk_frozen BK135.out 1; have hfz59_2 := blk_frozen BK135.out 2; have hcz60_0 : w57.cell? ⟨gb134, 0, none⟩ = some (.int .u64 2) := (blk_cell BK134.out 0).trans rfl; have hcz60_1 : w57.cell? ⟨gb134, 1, none⟩ = some (.int .u64 3) := (blk_cell BK134.out 1).trans rfl; have hcz60_2 : w57.cell? ⟨gb134, 2, none⟩ = some (.int .u64 1) := (blk_cell BK134.out 2).trans rfl; have hfz60_0 := blk_frozen BK134.out 0; have hfz60_1 := blk_frozen BK134.out 1; have hfz60_2 := blk_frozen BK134.out 2) | ((with_reducible refine gate_dst (N := 48) rfl ?_); (try (refine gate_guard (by rfl) ?_; dsimp only)); refine Kd.R_lit k24 _ 24 ?hg (N := 48) ?hd (xs := ([(⟨1, 1, 11⟩ : S24), (⟨2, 3, 1⟩ : S24)] : List (S24))) (inner := [.int .u64 1, .int .u64 1, .int .u64 11, .int .u64 2, .int .u64 3, .int .u64 1]) (ok := fun _ => True) (okp := fun _ => True) ?hr ?hp (fun _ hk => hk) trivial (Below.refl _ _) (Nat.le_refl _) (by simp) ?_; (case hd => rfl); (case hg => rfl); (case hr => first | (go_simp; done) | (go_simp; rfl)); (case hp => exact (Reps.c3 (show Kd.M k24 _ _ _ (⟨1, 1, 11⟩ : S24) [.int .u64 1, .int .u64 1, .int .u64 11] from (k24_mkM _ _ _ (⟨1, 1, 11⟩ : S24) )) (Reps.c3 (show Kd.M k24 _ _ _ (⟨2, 3, 1⟩ : S24) [.int .u64 2, .int .u64 3, .int .u64 1] from (k24_mkM _ _ _ (⟨2, 3, 1⟩ : S24) )) (Reps.none _ _)))); intro v162 w61 ho62 hb hg_ hnew_; clear hg_ hnew_; (first | rw [← Ny161.out] at ho62 | (simp only [Int.reduceToNat] at ho62; rw [← Ny161.out] at ho62)); have n0_ := Aside0.mk (Kd.R_below (by (with_reducible repeat (first | apply Kd.R_alloc | apply Kd.R_drewN | apply Kd.R_drew)); exact HO148.out) hb); have n1_ := Aside0.mk (Kd.R_below (by (with_reducible repeat (first | apply Kd.R_alloc | apply Kd.R_drewN | apply Kd.R_drew)); exact HO151.out) hb); have n2_ := Aside0.mk (Kd.R_elder' (by (with_reducible repeat (first | apply Kd.R_alloc | apply Kd.R_drewN | apply Kd.R_drew)); exact HO154.out) (Kd.R_base ho62) hb); have n3_ := Aside0.mk (Kd.R_below (by (with_reducible repeat (first | apply Kd.R_alloc | apply Kd.R_drewN | apply Kd.R_drew)); exact HO157.out) hb); have n4_ := Aside0.mk (Kd.R_below (by (with_reducible repeat (first | apply Kd.R_alloc | apply Kd.R_drewN | apply Kd.R_drew)); exact HO160.out) hb); have n5_ := Aside0.mk (Kd.R_lower (Kd.R_newB (Kd.R_newB (Kd.R_new' ho62 (Kd.R_lt (by (with_reducible repeat (first | apply Kd.R_alloc | apply Kd.R_drewN | apply Kd.R_drew)); exact HO154.out))) (g := gb134) (o := .cells #[.int .u64 2, .int .u64 3, .int .u64 1] 24 (0, 0)) (by (with_reducible repeat (first | refine blk_drewN ?_ _ | refine blk_drew ?_ | refine blk_alloc ?_ _)); exact BK134.out)) (g := gb135) (o := .cells #[.int .u64 1, .int .u64 1, .int .u64 11] 24 (0, 0)) (by (with_reducible repeat (first | refine blk_drewN ?_ _ | refine blk_drew ?_ | refine blk_alloc ?_ _)); exact BK135.out)) (below_size (by repeat (first | (with_reducible first | exact HB.out | apply below_alloc | apply pw_below_drewN | apply below_drew1 | refine below_set ?_ GE134.out | refine below_set ?_ GE135.out | refine below_set ?_ GE138.out | refine below_set ?_ GE143.out) | exact HB.out)))); have n6_ := Aside0.mk (blk_below (g := gb134) (o := .cells #[.int .u64 2, .int .u64 3, .int .u64 1] 24 (0, 0)) (by (with_reducible repeat (first | refine blk_drewN ?_ _ | refine blk_drew ?_ | refine blk_alloc ?_ _)); exact BK134.out) hb); have n7_ := Aside0.mk (blk_below (g := gb135) (o := .cells #[.int .u64 1, .int .u64 1, .int .u64 11] 24 (0, 0)) (by (with_reducible repeat (first | refine blk_drewN ?_ _ | refine blk_drew ?_ | refine blk_alloc ?_ _)); exact BK135.out) hb); have n8_ := Aside0.mk (blk_below (g := gb138) (o := .cells #[.int .u64 t136, .int .u64 t137] 26 (0, 0)) (by (with_reducible repeat (first | refine blk_drewN ?_ _ | refine blk_drew ?_ | refine blk_alloc ?_ _)); exact BK138.out) hb); have n9_ := Aside0.mk (blk_below (g := gb143) (o := .cells #[.int .u64 t141, .int .u64 t142] 26 (0, 0)) (by (with_reducible repeat (first | refine blk_drewN ?_ _ | refine blk_drew ?_ | refine blk_alloc ?_ _)); exact BK143.out) hb); have n10_ := Aside0.mk (below_step (by repeat (first | (with_reducible first | exact HB.out | apply below_alloc | apply pw_below_drewN | apply below_drew1 | refine below_set ?_ GE134.out | refine below_set ?_ GE135.out | refine below_set ?_ GE138.out | refine below_set ?_ GE143.out) | exact HB.out)) hb); clear HO148; clear HO151; clear HO154; clear HO157; clear HO160; clear BK134; clear BK135; clear BK138; clear BK143; clear HB; have HO148 := n0_; have HO151 := n1_; have HO154 := n2_; have HO157 := n3_; have HO160 := n4_; have HO163 := n5_; have BK134 := n6_; have BK135 := n7_; have BK138 := n8_; have BK143 := n9_; have HB := n10_; clear n0_ n1_ n2_ n3_ n4_ n5_ n6_ n7_ n8_ n9_ n10_; clear hb ho62; obtain ⟨Ao63, co63, eo63⟩ := Kd.R_slice HO160.out; subst eo63; obtain ⟨Ao64, co64, eo64⟩ := Kd.R_slice HO163.out; subst eo64) | (go_at_call 19; (with_reducible refine (beaver_Closes.calls k 1 _ _ y158 _ _ y161 t164 _ ?side1 ?side2 ?side3 ?side4 A12.out).mono ?_); (case side1 => repeat (first | exact (Kd.R_reads' HO160.out).2.2 | (with_reducible refine Kd.C_alloc ?_ _) | (with_reducible refine Kd.C_drewN ?_ _) | (with_reducible refine Kd.C_drew ?_))); (case side2 => exact (Kd.R_reads' HO160.out).2.1); (case side3 => repeat (first | exact (Kd.R_reads' HO163.out).2.2 | (with_reducible refine Kd.C_alloc ?_ _) | (with_reducible refine Kd.C_drewN ?_ _) | (with_reducible refine Kd.C_drew ?_))); (case side4 => exact (Kd.R_reads' HO163.out).2.1); rintro e w65 ⟨v165, rfl, ho0, hb⟩; have n0_ := Aside0.mk (Kd.R_elder' (by (with_reducible repeat (first | apply Kd.R_alloc | apply Kd.R_drewN | apply Kd.R_drew)); exact HO148.out) (Kd.R_base ho0) hb); have n1_ := Aside0.mk (Kd.R_elder' (by (with_reducible repeat (first | apply Kd.R_alloc | apply Kd.R_drewN | apply Kd.R_drew)); exact HO151.out) (Kd.R_base ho0) hb); have n2_ := Aside0.mk (Kd.R_below (by (with_reducible repeat (first | apply Kd.R_alloc | apply Kd.R_drewN | apply Kd.R_drew)); exact HO154.out) hb); have n3_ := Aside0.mk (Kd.R_below (by (with_reducible repeat (first | apply Kd.R_alloc | apply Kd.R_drewN | apply Kd.R_drew)); exact HO157.out) hb); have n4_ := Aside0.mk (Kd.R_below (by (with_reducible repeat (first | apply Kd.R_alloc | apply Kd.R_drewN | apply Kd.R_drew)); exact HO160.out) hb); have n5_ := Aside0.mk (Kd.R_below (by (with_reducible repeat (first | apply Kd.R_alloc | apply Kd.R_drewN | apply Kd.R_drew)); exact HO163.out) hb); have n6_ := Aside0.mk (Kd.R_lower (Kd.R_new' (Kd.R_new' ho0 (Kd.R_lt (by (with_reducible repeat (first | apply Kd.R_alloc | apply Kd.R_drewN | apply Kd.R_drew)); exact HO148.out))) (Kd.R_lt (by (with_reducible repeat (first | apply Kd.R_alloc | apply Kd.R_drewN | apply Kd.R_drew)); exact HO151.out))) (below_size (by repeat (first | (with_reducible first | exact HB.out | apply below_alloc | apply pw_below_drewN | apply below_drew1 | refine below_set ?_ GE134.out | refine below_set ?_ GE135.out | refine below_set ?_ GE138.out | refine below_set ?_ GE143.out) | exact HB.out)))); have n7_ := Aside0.mk (blk_below (g := gb134) (o := .cells #[.int .u64 2, .int .u64 3, .int .u64 1] 24 (0, 0)) (by (with_reducible repeat (first | refine blk_drewN ?_ _ | refine blk_drew ?_ | refine blk_alloc ?_ _)); exact BK134.out) hb); have n8_ := Aside0.mk (blk_below (g := gb135) (o := .cells #[.int .u64 1, .int .u64 1, .int .u64 11] 24 (0, 0)) (by (with_reducible repeat (first | refine blk_drewN ?_ _ | refine blk_drew ?_ | refine blk_alloc ?_ _)); exact BK135.out) hb); have n9_ := Aside0.mk (blk_below (g := gb138) (o := .cells #[.int .u64 t136, .int .u64 t137] 26 (0, 0)) (by (with_reducible repeat (first | refine blk_drewN ?_ _ | refine blk_drew ?_ | refine blk_alloc ?_ _)); exact BK138.out) hb); have n10_ := Aside0.mk (blk_below (g := gb143) (o := .cells #[.int .u64 t141, .int .u64 t142] 26 (0, 0)) (by (with_reducible repeat (first | refine blk_drewN ?_ _ | refine blk_drew ?_ | refine blk_alloc ?_ _)); exact BK143.out) hb); have n11_ := Aside0.mk (below_step (by repeat (first | (with_reducible first | exact HB.out | apply below_alloc | apply pw_below_drewN | apply below_drew1 | refine below_set ?_ GE134.out | refine below_set ?_ GE135.out | refine below_set ?_ GE138.out | refine below_set ?_ GE143.out) | exact HB.out)) hb); clear HO148; clear HO151; clear HO154; clear HO157; clear HO160; clear HO163; clear BK134; clear BK135; clear BK138; clear BK143; clear HB; have HO148 := n0_; have HO151 := n1_; have HO154 := n2_; have HO157 := n3_; have HO160 := n4_; have HO163 := n5_; have HO166 := n6_; have BK134 := n7_; have BK135 := n8_; have BK138 := n9_; have BK143 := n10_; have HB := n11_; clear n0_ n1_ n2_ n3_ n4_ n5_ n6_ n7_ n8_ n9_ n10_ n11_; (try clear hb); (try clear hb2); (try clear hk); (try clear hi); (try clear ho0)) | ((with_reducible refine gate_dst (N := 50) rfl ?_); (try (refine gate_guard (by rfl) ?_; dsimp only)); refine Kd.R_lit (Kd.int .u64) _ 22 ?hg (N := 50) ?hd (xs := ([21] : List Int)) (inner := [.int .u64 21]) (ok := fun _ => True) (okp := fun _ => True) ?hr ?hp (fun _ hk => hk) trivial (Below.refl _ _) (Nat.le_refl _) (by simp) ?_; (case hd => rfl); (case hg => rfl); (case hr => first | (go_simp; done) | (go_simp; rfl)); (case hp => exact (Reps.one (show Kd.M (Kd.int .u64) _ _ _ 21 [.int .u64 21] from rfl) (Reps.none _ _))); intro v168 w66 ho67 hb hg_ hnew_; clear hg_ hnew_; (first | rw [← Ny167.out] at ho67 | (simp only [Int.reduceToNat] at ho67; rw [← Ny167.out] at ho67)); have n0_ := Aside0.mk (Kd.R_elder' (by (with_reducible repeat (first | apply Kd.R_alloc | apply Kd.R_drewN | apply Kd.R_drew)); exact HO148.out) (Kd.R_base ho67) hb); have n1_ := Aside0.mk (Kd.R_elder' (by (with_reducible repeat (first | apply Kd.R_alloc | apply Kd.R_drewN | apply Kd.R_drew)); exact HO151.out) (Kd.R_base ho67) hb); have n2_ := Aside0.mk (Kd.R_below (by (with_reducible repeat (first | apply Kd.R_alloc | apply Kd.R_drewN | apply Kd.R_drew)); exact HO154.out) hb); have n3_ := Aside0.mk (Kd.R_below (by (with_reducible repeat (first | apply Kd.R_alloc | apply Kd.R_drewN | apply Kd.R_drew)); exact HO157.out) hb); have n4_ := Aside0.mk (Kd.R_below (by (with_reducible repeat (first | apply Kd.R_alloc | apply Kd.R_drewN | apply Kd.R_drew)); exact HO160.out) hb); have n5_ := Aside0.mk (Kd.R_below (by (with_reducible repeat (first | apply Kd.R_alloc | apply Kd.R_drewN | apply Kd.R_drew)); exact HO163.out) hb); have n6_ := Aside0.mk (Kd.R_elder' (by (with_reducible repeat (first | apply Kd.R_alloc | apply Kd.R_drewN | apply Kd.R_drew)); exact HO166.out) (Kd.R_base ho67) hb); have n7_ := Aside0.mk (Kd.R_lower (Kd.R_new' (Kd.R_new' (Kd.R_new' ho67 (Kd.R_lt (by (with_reducible repeat (first | apply Kd.R_alloc | apply Kd.R_drewN | apply Kd.R_drew)); exact HO148.out))) (Kd.R_lt (by (with_reducible repeat (first | apply Kd.R_alloc | apply Kd.R_drewN | apply Kd.R_drew)); exact HO151.out))) (Kd.R_lt (by (with_reducible repeat (first | apply Kd.R_alloc | apply Kd.R_drewN | apply Kd.R_drew)); exact HO166.out))) (below_size (by repeat (first | (with_reducible first | exact HB.out | apply below_alloc | apply pw_below_drewN | apply below_drew1 | refine below_set ?_ GE134.out | refine below_set ?_ GE135.out | refine below_set ?_ GE138.out | refine below_set ?_ GE143.out) | exact HB.out)))); have n8_ := Aside0.mk (blk_below (g := gb134) (o := .cells #[.int .u64 2, .int .u64 3, .int .u64 1] 24 (0, 0)) (by (with_reducible repeat (first | refine blk_drewN ?_ _ | refine blk_drew ?_ | refine blk_alloc ?_ _)); exact BK134.out) hb); have n9_ := Aside0.mk (blk_below (g := gb135) (o := .cells #[.int .u64 1, .int .u64 1, .int .u64 11] 24 (0, 0)) (by (with_reducible repeat (first | refine blk_drewN ?_ _ | refine blk_drew ?_ | refine blk_alloc ?_ _)); exact BK135.out) hb); have n10_ := Aside0.mk (blk_below (g := gb138) (o := .cells #[.int .u64 t136, .int .u64 t137] 26 (0, 0)) (by (with_reducible repeat (first | refine blk_drewN ?_ _ | refine blk_drew ?_ | refine blk_alloc ?_ _)); exact BK138.out) hb); have n11_ := Aside0.mk (blk_below (g := gb143) (o := .cells #[.int .u64 t141, .int .u64 t142] 26 (0, 0)) (by (with_reducible repeat (first | refine blk_drewN ?_ _ | refine blk_drew ?_ | refine blk_alloc ?_ _)); exact BK143.out) hb); have n12_ := Aside0.mk (below_step (by repeat (first | (with_reducible first | exact HB.out | apply below_alloc | apply pw_below_drewN | apply below_drew1 | refine below_set ?_ GE134.out | refine below_set ?_ GE135.out | refine below_set ?_ GE138.out | refine below_set ?_ GE143.out) | exact HB.out)) hb); clear HO148; clear HO151; clear HO154; clear HO157; clear HO160; clear HO163; clear HO166; clear BK134; clear BK135; clear BK138; clear BK143; clear HB; have HO148 := n0_; have HO151 := n1_; have HO154 := n2_; have HO157 := n3_; have HO160 := n4_; have HO163 := n5_; have HO166 := n6_; have HO169 := n7_; have BK134 := n8_; have BK135 := n9_; have BK138 := n10_; have BK143 := n11_; have HB := n12_; clear n0_ n1_ n2_ n3_ n4_ n5_ n6_ n7_ n8_ n9_ n10_ n11_ n12_; clear hb ho67; obtain ⟨Ao68, co68, eo68⟩ := Kd.R_slice HO166.out; subst eo68; obtain ⟨Ao69, co69, eo69⟩ := Kd.R_slice HO169.out; subst eo69) | (go_at_call 20; (with_reducible refine (symbolonref01_Same.calls k _ _ t164 _ _ y167 t170 _ ?side1 ?side2 ?side3 ?side4 A13.out).mono ?_); (case side1 => repeat (first | exact (Kd.R_reads' HO166.out).2.2 | (with_reducible refine Kd.C_alloc ?_ _) | (with_reducible refine Kd.C_drewN ?_ _) | (with_reducible refine Kd.C_drew ?_))); (case side2 => exact (Kd.R_reads' HO166.out).2.1); (case side3 => repeat (first | exact (Kd.R_reads' HO169.out).2.2 | (with_reducible refine Kd.C_alloc ?_ _) | (with_reducible refine Kd.C_drewN ?_ _) | (with_reducible refine Kd.C_drew ?_))); (case side4 => exact (Kd.R_reads' HO169.out).2.1); rintro e w' ⟨rfl, ⟨nd, rfl⟩⟩))
            go_ret
            exact ⟨by first | rfl | (simp [errW_none, errW_some] <;> rfl) | (simp [*, errW_none, errW_some] <;> rfl), by repeat (first | (with_reducible first | exact HB.out | apply below_alloc | apply pw_below_drewN | apply below_drew1 | refine below_set ?_ GE134.out | refine below_set ?_ GE135.out | refine below_set ?_ GE138.out | refine below_set ?_ GE143.out) | exact HB.out)⟩
          · rw [if_neg c11] at H
            exact absurd H (by simp)
        · rw [if_neg c9] at H
          exact absurd H (by simp)
      · rw [if_neg c7] at H
        exact absurd H (by simp)
    · rw [if_neg c5] at H
      exact absurd H (by simp)
  · rw [if_neg c4] at H
    exact absurd H (by simp)

end Go.Proofs.Ytgbabmenfegepaa.Q
