-- Laid by a program of this session (wip/myprint.py) in the form of the kit's print; a text of this claim, checked by Lean like any other.
import Derived.Test.YtgbabmenfegepaaQ0
import Derived.Test.YtgbabmenfegepaaQ3
import Derived.Test.YtgbabmenfegepaaQ4
import Derived.Test.YtgbabmenfegepaaQ6
import Derived.Test.YtgbabmenfegepaaQ10
namespace Go.Proofs.Ytgbabmenfegepaa.Q
open Go.RowKit Go.Proofs.YtgbabmenfegepaaW.PrintWords Go.Proofs.YtgbabmenfegepaaW.PrintLast Go.Proofs.YtgbabmenfegepaaW.PrintMore
attribute [local go_sem] max2_int min2_int max_two min_two max_three min_three max_four min_four   -- for this text's walks alone
set_option linter.unusedVariables false
set_option linter.unusedSimpArgs false

/-! ### symbolonlaw12_BeaverAny: function 5 -/
def symbolonlaw12_BeaverAny.f (k : Nat) (a0 : Int) (a1 : Int) (a2 : Int) (a3 : Int) (a4_0 : Int) (a4_1 : Int) (a4_2 : Int) (a5_0 : Int) (a5_1 : Int) (a5_2 : Int) : Option (Bool) := (symbolonlaw12_head.f k).bind fun t221 => ((beaver_Open.f a0 a2 a4_0 a4_1 a4_2).bind fun bt222 => ((beaver_Open.f a1 a3 a5_0 a5_1 a5_2).bind fun bt224 => ((beaver_Sum.f bt222.1 bt222.2 bt224.1 bt224.2).bind fun bt226 => (if t221 = true then ((beaver_Close.f 0 bt226.1 bt226.2 a4_0 a4_1 a4_2).bind fun t229 => ((beaver_Close.f 1 bt226.1 bt226.2 a5_0 a5_1 a5_2).bind fun t230 => (some ((IntKind.u64.wrap (t229 + t230)) == (IntKind.u64.wrap ((IntKind.u64.wrap ((IntKind.u64.wrap (a0 + a1)) * (IntKind.u64.wrap (a2 + a3)))) + (IntKind.u64.wrap ((IntKind.u64.wrap (a4_2 + a5_2)) - (IntKind.u64.wrap ((IntKind.u64.wrap (a4_0 + a5_0)) * (IntKind.u64.wrap (a4_1 + a5_1)))))))))))) else (none)))))
theorem symbolonlaw12_BeaverAny.mono : ∀ a0 a1 a2 a3 a4 a5 a6 a7 a8 a9 k, LeO (symbolonlaw12_BeaverAny.f k a0 a1 a2 a3 a4 a5 a6 a7 a8 a9) (symbolonlaw12_BeaverAny.f (k + 1) a0 a1 a2 a3 a4 a5 a6 a7 a8 a9) := by
  intro a0 a1 a2 a3 a4 a5 a6 a7 a8 a9 k
  unfold symbolonlaw12_BeaverAny.f
  repeat' first
      | (with_reducible exact symbolonlaw12_head.mono _)
      | (with_reducible exact LeO.refl _)
      | (with_reducible exact LeO.none _)
      | (with_reducible refine LeO.ite ?_ ?_)
      | (with_reducible refine LeO.bind ?_ (fun _ => ?_))
      | exact symbolonlaw12_head.mono _
      | exact LeO.none _
      | refine LeO.ite ?_ ?_
      | refine LeO.bind ?_ (fun _ => ?_)
def symbolonlaw12_BeaverAny.T2 : Bool × List (List Nat × List Nat) := (true, [([], []), ([], []), ([], []), ([0, 1, 2], [0, 1, 2]), ([], []), ([], []), ([], []), ([4, 5, 6, 3], [4, 5, 6]), ([3, 7, 7], [3, 7]), ([], []), ([9, 8, 8, 0, 1, 2, 3, 4, 5, 6, 7, 8, 9], [8, 9])])
def symbolonlaw12_BeaverAny.B2 : List Nat := [0, 0, 0, 7, 0, 0, 0, 127, 255, 0, 1023]
theorem symbolonlaw12_BeaverAny.tab2 : rtab .any (opsOf Try.f5 2) = symbolonlaw12_BeaverAny.T2 := by kernel_rfl
theorem symbolonlaw12_BeaverAny.bits2 : waitsOk symbolonlaw12_BeaverAny.T2.2 symbolonlaw12_BeaverAny.B2 = true := by kernel_rfl
def symbolonlaw12_BeaverAny.T4 : Bool × List (List Nat × List Nat) := (true, [([], []), ([0], [0]), ([1], [1]), ([1], [1]), ([2, 3, 1, 1], [1, 2, 3]), ([1], [1]), ([1], [1]), ([5, 6, 4, 1], [1, 5, 6]), ([4, 7, 1], [1, 4, 7]), ([1], [1]), ([1], [1]), ([9, 10, 1], [1, 9, 10]), ([1], [1]), ([1], [1]), ([12, 13, 1], [1, 12, 13]), ([11, 14, 1], [1, 11, 14]), ([1], [1]), ([15, 16, 1], [1, 15, 16]), ([8, 17, 1], [1, 8, 17]), ([1, 18], [1, 18]), ([19, 7, 0, 1, 2, 3, 4, 5, 6, 7, 8, 9, 10, 11, 12, 13, 14, 15, 16, 17, 18, 19], [19])])
def symbolonlaw12_BeaverAny.B4 : List Nat := [0, 1, 3, 3, 15, 3, 3, 127, 255, 3, 3, 1539, 3, 3, 12291, 32259, 3, 130563, 262143, 524287, 1048575]
theorem symbolonlaw12_BeaverAny.tab4 : rtab .any (opsOf Try.f5 4) = symbolonlaw12_BeaverAny.T4 := by kernel_rfl
theorem symbolonlaw12_BeaverAny.bits4 : waitsOk symbolonlaw12_BeaverAny.T4.2 symbolonlaw12_BeaverAny.B4 = true := by kernel_rfl
set_option maxHeartbeats 8000000 in
set_option maxRecDepth 100000 in
theorem symbolonlaw12_BeaverAny.calls (k : Nat) (a0 : Int) (a1 : Int) (a2 : Int) (a3 : Int) (a4_0 : Int) (a4_1 : Int) (a4_2 : Int) (a5_0 : Int) (a5_1 : Int) (a5_2 : Int) (r : Bool) (w : World) (h : symbolonlaw12_BeaverAny.f k a0 a1 a2 a3 a4_0 a4_1 a4_2 a5_0 a5_1 a5_2 = some r) :
    Calls Try.prog 5 #[.int .u64 a0, .int .u64 a1, .int .u64 a2, .int .u64 a3, .agg #[.int .u64 a4_0, .int .u64 a4_1, .int .u64 a4_2], .agg #[.int .u64 a5_0, .int .u64 a5_1, .int .u64 a5_2]] w fun e w' => e = .returned (.bool r) ∧ Below w.heap.size w w' := by
  have hu24 := Try.underlying24
  have hu26 := Try.underlying26
  have HB := Aside0.mk (Below.refl w.heap.size w)
  have H : ((symbolonlaw12_head.f k).bind fun t221 => ((beaver_Open.f a0 a2 a4_0 a4_1 a4_2).bind fun bt222 => ((beaver_Open.f a1 a3 a5_0 a5_1 a5_2).bind fun bt224 => ((beaver_Sum.f bt222.1 bt222.2 bt224.1 bt224.2).bind fun bt226 => (if t221 = true then ((beaver_Close.f 0 bt226.1 bt226.2 a4_0 a4_1 a4_2).bind fun t229 => ((beaver_Close.f 1 bt226.1 bt226.2 a5_0 a5_1 a5_2).bind fun t230 => (some ((IntKind.u64.wrap (t229 + t230)) == (IntKind.u64.wrap ((IntKind.u64.wrap ((IntKind.u64.wrap (a0 + a1)) * (IntKind.u64.wrap (a2 + a3)))) + (IntKind.u64.wrap ((IntKind.u64.wrap (a4_2 + a5_2)) - (IntKind.u64.wrap ((IntKind.u64.wrap (a4_0 + a5_0)) * (IntKind.u64.wrap (a4_1 + a5_1)))))))))))) else (none)))))) = some r := h
  clear h
  replace H := Option.bind_eq_some_iff.mp H
  obtain ⟨t221, A70, H⟩ := H
  replace H : ((beaver_Open.f a0 a2 a4_0 a4_1 a4_2).bind fun bt222 => ((beaver_Open.f a1 a3 a5_0 a5_1 a5_2).bind fun bt224 => ((beaver_Sum.f bt222.1 bt222.2 bt224.1 bt224.2).bind fun bt226 => (if t221 = true then ((beaver_Close.f 0 bt226.1 bt226.2 a4_0 a4_1 a4_2).bind fun t229 => ((beaver_Close.f 1 bt226.1 bt226.2 a5_0 a5_1 a5_2).bind fun t230 => (some ((IntKind.u64.wrap (t229 + t230)) == (IntKind.u64.wrap ((IntKind.u64.wrap ((IntKind.u64.wrap (a0 + a1)) * (IntKind.u64.wrap (a2 + a3)))) + (IntKind.u64.wrap ((IntKind.u64.wrap (a4_2 + a5_2)) - (IntKind.u64.wrap ((IntKind.u64.wrap (a4_0 + a5_0)) * (IntKind.u64.wrap (a4_1 + a5_1)))))))))))) else (none))))) = some r := H
  have A7 := Aside0.mk A70
  clear A70
  replace H := Option.bind_eq_some_iff.mp H
  obtain ⟨⟨t222, t223⟩, A80, H⟩ := H
  replace H : ((beaver_Open.f a1 a3 a5_0 a5_1 a5_2).bind fun bt224 => ((beaver_Sum.f t222 t223 bt224.1 bt224.2).bind fun bt226 => (if t221 = true then ((beaver_Close.f 0 bt226.1 bt226.2 a4_0 a4_1 a4_2).bind fun t229 => ((beaver_Close.f 1 bt226.1 bt226.2 a5_0 a5_1 a5_2).bind fun t230 => (some ((IntKind.u64.wrap (t229 + t230)) == (IntKind.u64.wrap ((IntKind.u64.wrap ((IntKind.u64.wrap (a0 + a1)) * (IntKind.u64.wrap (a2 + a3)))) + (IntKind.u64.wrap ((IntKind.u64.wrap (a4_2 + a5_2)) - (IntKind.u64.wrap ((IntKind.u64.wrap (a4_0 + a5_0)) * (IntKind.u64.wrap (a4_1 + a5_1)))))))))))) else (none)))) = some r := H
  have A8 := Aside0.mk A80
  clear A80
  replace H := Option.bind_eq_some_iff.mp H
  obtain ⟨⟨t224, t225⟩, A90, H⟩ := H
  replace H : ((beaver_Sum.f t222 t223 t224 t225).bind fun bt226 => (if t221 = true then ((beaver_Close.f 0 bt226.1 bt226.2 a4_0 a4_1 a4_2).bind fun t229 => ((beaver_Close.f 1 bt226.1 bt226.2 a5_0 a5_1 a5_2).bind fun t230 => (some ((IntKind.u64.wrap (t229 + t230)) == (IntKind.u64.wrap ((IntKind.u64.wrap ((IntKind.u64.wrap (a0 + a1)) * (IntKind.u64.wrap (a2 + a3)))) + (IntKind.u64.wrap ((IntKind.u64.wrap (a4_2 + a5_2)) - (IntKind.u64.wrap ((IntKind.u64.wrap (a4_0 + a5_0)) * (IntKind.u64.wrap (a4_1 + a5_1)))))))))))) else (none))) = some r := H
  have A9 := Aside0.mk A90
  clear A90
  replace H := Option.bind_eq_some_iff.mp H
  obtain ⟨⟨t226, t227⟩, A100, H⟩ := H
  replace H : (if t221 = true then ((beaver_Close.f 0 t226 t227 a4_0 a4_1 a4_2).bind fun t229 => ((beaver_Close.f 1 t226 t227 a5_0 a5_1 a5_2).bind fun t230 => (some ((IntKind.u64.wrap (t229 + t230)) == (IntKind.u64.wrap ((IntKind.u64.wrap ((IntKind.u64.wrap (a0 + a1)) * (IntKind.u64.wrap (a2 + a3)))) + (IntKind.u64.wrap ((IntKind.u64.wrap (a4_2 + a5_2)) - (IntKind.u64.wrap ((IntKind.u64.wrap (a4_0 + a5_0)) * (IntKind.u64.wrap (a4_1 + a5_1)))))))))))) else (none)) = some r := H
  have A10 := Aside0.mk A100
  clear A100
  by_cases c11 : t221 = true
  · subst c11
    have H1 : ((beaver_Close.f 0 t226 t227 a4_0 a4_1 a4_2).bind fun t229 => ((beaver_Close.f 1 t226 t227 a5_0 a5_1 a5_2).bind fun t230 => (some ((IntKind.u64.wrap (t229 + t230)) == (IntKind.u64.wrap ((IntKind.u64.wrap ((IntKind.u64.wrap (a0 + a1)) * (IntKind.u64.wrap (a2 + a3)))) + (IntKind.u64.wrap ((IntKind.u64.wrap (a4_2 + a5_2)) - (IntKind.u64.wrap ((IntKind.u64.wrap (a4_0 + a5_0)) * (IntKind.u64.wrap (a4_1 + a5_1)))))))))))) = some r := by rw [if_pos rfl] at H; exact H
    clear H
    have H := H1
    clear H1
    replace H := Option.bind_eq_some_iff.mp H
    obtain ⟨t229, A120, H⟩ := H
    replace H : ((beaver_Close.f 1 t226 t227 a5_0 a5_1 a5_2).bind fun t230 => (some ((IntKind.u64.wrap (t229 + t230)) == (IntKind.u64.wrap ((IntKind.u64.wrap ((IntKind.u64.wrap (a0 + a1)) * (IntKind.u64.wrap (a2 + a3)))) + (IntKind.u64.wrap ((IntKind.u64.wrap (a4_2 + a5_2)) - (IntKind.u64.wrap ((IntKind.u64.wrap (a4_0 + a5_0)) * (IntKind.u64.wrap (a4_1 + a5_1))))))))))) = some r := H
    have A12 := Aside0.mk A120
    clear A120
    replace H := Option.bind_eq_some_iff.mp H
    obtain ⟨t230, A130, H⟩ := H
    replace H : (some ((IntKind.u64.wrap (t229 + t230)) == (IntKind.u64.wrap ((IntKind.u64.wrap ((IntKind.u64.wrap (a0 + a1)) * (IntKind.u64.wrap (a2 + a3)))) + (IntKind.u64.wrap ((IntKind.u64.wrap (a4_2 + a5_2)) - (IntKind.u64.wrap ((IntKind.u64.wrap (a4_0 + a5_0)) * (IntKind.u64.wrap (a4_1 + a5_1)))))))))) = some r := H
    have A13 := Aside0.mk A130
    clear A130
    obtain rfl := Option.some.inj H
    go_enter Try.func5, Try.ntmps5
    try go_wp2_with (first | ((with_reducible refine gate_dst (N := 10) rfl ?_); refine box_event ?hg (N := 10) ?hd (cs := #[.int .u64 a4_0, .int .u64 a4_1, .int .u64 a4_2]) (t := 24) ?hr ?_; (case hd => rfl); (case hg => rfl); (case hr => first | (go_simp; done) | (go_simp; rfl)); intro gb219 hg w14 hbox hb; have n0_ := Aside0.mk (below_step (by repeat (first | (with_reducible first | exact HB.out | apply below_alloc | apply pw_below_drewN | apply below_drew1) | exact HB.out)) hb); have n1_ := Aside0.mk (hbox); have n2_ := Aside0.mk ((by rw [hg]; exact (below_size (by repeat (first | (with_reducible first | exact HB.out | apply below_alloc | apply pw_below_drewN | apply below_drew1) | exact HB.out))) : w.heap.size ≤ gb219)); have n3_ := Aside0.mk ((by rw [hg]; exact (below_size (by repeat (first | (with_reducible first | exact HB.out | apply below_alloc | apply pw_below_drewN | apply below_drew1) | exact HB.out))) : w.heap.size ≤ gb219)); clear HB; have HB := n0_; have BK219 := n1_; have GW219 := n2_; have GE219 := n3_; clear n0_ n1_ n2_ n3_; clear hb hbox hg) | ((with_reducible refine gate_dst (N := 11) rfl ?_); refine box_event ?hg (N := 11) ?hd (cs := #[.int .u64 a5_0, .int .u64 a5_1, .int .u64 a5_2]) (t := 24) ?hr ?_; (case hd => rfl); (case hg => rfl); (case hr => first | (go_simp; done) | (go_simp; rfl)); intro gb220 hg w15 hbox hb; have n0_ := Aside0.mk (blk_below (g := gb219) (o := .cells #[.int .u64 a4_0, .int .u64 a4_1, .int .u64 a4_2] 24 (0, 0)) (by (with_reducible repeat (first | refine blk_drewN ?_ _ | refine blk_drew ?_ | refine blk_alloc ?_ _)); exact BK219.out) hb); have n1_ := Aside0.mk (below_step (by repeat (first | (with_reducible first | exact HB.out | apply below_alloc | apply pw_below_drewN | apply below_drew1 | refine below_set ?_ GE219.out) | exact HB.out)) hb); have n2_ := Aside0.mk (hbox); have n3_ := Aside0.mk ((by rw [hg]; exact (below_size (by repeat (first | (with_reducible first | exact HB.out | apply below_alloc | apply pw_below_drewN | apply below_drew1 | refine below_set ?_ GE219.out) | exact HB.out))) : w.heap.size ≤ gb220)); have n4_ := Aside0.mk ((by rw [hg]; exact (below_size (by repeat (first | (with_reducible first | exact HB.out | apply below_alloc | apply pw_below_drewN | apply below_drew1 | refine below_set ?_ GE219.out) | exact HB.out))) : w.heap.size ≤ gb220)); have n5_ := Aside0.mk ((by rw [hg]; exact Nat.ne_of_lt (blk_lt (g := gb219) (o := .cells #[.int .u64 a4_0, .int .u64 a4_1, .int .u64 a4_2] 24 (0, 0)) (by (with_reducible repeat (first | refine blk_drewN ?_ _ | refine blk_drew ?_ | refine blk_alloc ?_ _)); exact BK219.out)) : gb219 ≠ gb220)); have n6_ := Aside0.mk ((by rw [hg]; exact Nat.ne_of_gt (blk_lt (g := gb219) (o := .cells #[.int .u64 a4_0, .int .u64 a4_1, .int .u64 a4_2] 24 (0, 0)) (by (with_reducible repeat (first | refine blk_drewN ?_ _ | refine blk_drew ?_ | refine blk_alloc ?_ _)); exact BK219.out)) : gb220 ≠ gb219)); clear BK219; clear HB; have BK219 := n0_; have HB := n1_; have BK220 := n2_; have GW220 := n3_; have GE220 := n4_; have NB219_220 := n5_; have NB220_219 := n6_; clear n0_ n1_ n2_ n3_ n4_ n5_ n6_; clear hb hbox hg) | ((with_reducible refine gate_callee (f := 9) rfl ?_); refine goesL_ (some 16) rfl rfl Try.func9 (by kernel_rfl) rfl #[] rfl (by (try simp only [List.map_toArray, List.map_cons, List.map_nil]); first | done | rfl | (simp only [List.length_drop, List.length_take]; rfl)) ?_; (with_reducible refine (symbolonlaw12_head.calls k  true _ A7.out).mono ?_); rintro e w16 ⟨rfl, hb⟩; refine ⟨_, rfl, ?_⟩; have n0_ := Aside0.mk (blk_below (g := gb219) (o := .cells #[.int .u64 a4_0, .int .u64 a4_1, .int .u64 a4_2] 24 (0, 0)) (by (with_reducible repeat (first | refine blk_drewN ?_ _ | refine blk_drew ?_ | refine blk_alloc ?_ _)); exact BK219.out) hb); have n1_ := Aside0.mk (blk_below (g := gb220) (o := .cells #[.int .u64 a5_0, .int .u64 a5_1, .int .u64 a5_2] 24 (0, 0)) (by (with_reducible repeat (first | refine blk_drewN ?_ _ | refine blk_drew ?_ | refine blk_alloc ?_ _)); exact BK220.out) hb); have n2_ := Aside0.mk (below_step (by repeat (first | (with_reducible first | exact HB.out | apply below_alloc | apply pw_below_drewN | apply below_drew1 | refine below_set ?_ GE219.out | refine below_set ?_ GE220.out) | exact HB.out)) hb); clear BK219; clear BK220; clear HB; have BK219 := n0_; have BK220 := n1_; have HB := n2_; clear n0_ n1_ n2_; (try clear hb); (try clear hb2); (try clear hk); (try clear hi)))
    have n0_ := Aside0.mk (blk_drew BK219.out)
    have n1_ := Aside0.mk (blk_drew BK220.out)
    have n2_ := Aside0.mk (below_drew1 HB.out)
    clear BK219
    clear BK220
    clear HB
    have BK219 := n0_
    have BK220 := n1_
    have HB := n2_
    clear n0_ n1_ n2_
    refine start_ (n := 11) (S := fun w' => w'.cell? ⟨gb219, 0, none⟩ = some (.int .u64 a4_0) ∧ w'.cell? ⟨gb219, 1, none⟩ = some (.int .u64 a4_1) ∧ w'.cell? ⟨gb219, 2, none⟩ = some (.int .u64 a4_2) ∧ w'.cell? ⟨gb220, 0, none⟩ = some (.int .u64 a5_0) ∧ w'.cell? ⟨gb220, 1, none⟩ = some (.int .u64 a5_1) ∧ w'.cell? ⟨gb220, 2, none⟩ = some (.int .u64 a5_2)) (ds := []) #[false, false, false, false, false, false, false, false, false, false, false] (by kernel_rfl) rfl rfl ⟨(blk_cell BK219.out 0).trans rfl, (blk_cell BK219.out 1).trans rfl, (blk_cell BK219.out 2).trans rfl, (blk_cell BK220.out 0).trans rfl, (blk_cell BK220.out 1).trans rfl, (blk_cell BK220.out 2).trans rfl⟩ (fun hHeld => ?_); refine with_tabW symbolonlaw12_BeaverAny.tab2 symbolonlaw12_BeaverAny.bits2 (fun HT_ HW_ => ?_)
    generalize w16.drew = w17 at BK219 BK220 HB hHeld ⊢
    refine pure_ (i := 0) (N := some 17) (v := ?_) (a' := ?_) #[true, false, false, false, false, false, false, false, false, false, false] rfl rfl (any_of HT_.out (by kernel_rfl)) (fun _ _ _ h => h) (Or.inl ⟨by rfl, ?_⟩) ?_ ?_
    rotate_left
    · intro w'
      go_simp
      with_reducible rfl
    rotate_left
    · simp only [Act.put, List.setIfInBounds_toArray, List.set_cons_zero, List.set_cons_succ, i64_w, i32_w]
      rfl
    refine pure_ (i := 1) (N := some 18) (v := ?_) (a' := ?_) #[true, true, false, false, false, false, false, false, false, false, false] rfl rfl (any_of HT_.out (by kernel_rfl)) (fun _ _ _ h => h) (Or.inl ⟨by rfl, ?_⟩) ?_ ?_
    rotate_left
    · intro w'
      go_simp
      with_reducible rfl
    rotate_left
    · simp only [Act.put, List.setIfInBounds_toArray, List.set_cons_zero, List.set_cons_succ, i64_w, i32_w]
      rfl
    refine pure_ (i := 4) (N := some 21) (v := ?_) (a' := ?_) #[true, true, false, false, true, false, false, false, false, false, false] rfl rfl (any_of HT_.out (by kernel_rfl)) (fun _ _ _ h => h) (Or.inl ⟨by rfl, ?_⟩) ?_ ?_
    rotate_left
    · intro w'
      go_simp
      with_reducible rfl
    rotate_left
    · simp only [Act.put, List.setIfInBounds_toArray, List.set_cons_zero, List.set_cons_succ, i64_w, i32_w]
      rfl
    refine pure_ (i := 5) (N := some 22) (v := ?_) (a' := ?_) #[true, true, false, false, true, true, false, false, false, false, false] rfl rfl (any_of HT_.out (by kernel_rfl)) (fun _ _ _ h => h) (Or.inl ⟨by rfl, ?_⟩) ?_ ?_
    rotate_left
    · intro w'
      go_simp
      with_reducible rfl
    rotate_left
    · simp only [Act.put, List.setIfInBounds_toArray, List.set_cons_zero, List.set_cons_succ, i64_w, i32_w]
      rfl
    refine take_ (i := 2) (N := some 19) (v := ?_) (a' := ?_) #[true, true, true, false, true, true, false, false, false, false, false] rfl rfl (take_ofW HT_.out HW_.out (by kernel_rfl)) (fun _ _ _ h => h) (Or.inl ⟨by rfl, ?_⟩) hHeld ?_ ?_
    rotate_left
    · rintro w' ⟨s0, s1, s2, s3, s4, s5⟩
      go_simp
      with_reducible rfl
    rotate_left
    · simp only [Act.put, List.setIfInBounds_toArray, List.set_cons_zero, List.set_cons_succ, i64_w, i32_w]
      rfl
    refine take_ (i := 6) (N := some 23) (v := ?_) (a' := ?_) #[true, true, true, false, true, true, true, false, false, false, false] rfl rfl (take_ofW HT_.out HW_.out (by kernel_rfl)) (fun _ _ _ h => h) (Or.inl ⟨by rfl, ?_⟩) hHeld ?_ ?_
    rotate_left
    · rintro w' ⟨s0, s1, s2, s3, s4, s5⟩
      go_simp
      with_reducible rfl
    rotate_left
    · simp only [Act.put, List.setIfInBounds_toArray, List.set_cons_zero, List.set_cons_succ, i64_w, i32_w]
      rfl
    refine join_ (σ := Nat) 1 #[true, true, true, true, true, true, true, true, true, true, false] (fun s_ => [(20, .agg #[.int .u64 t222, .int .u64 t223]), (24, .agg #[.int .u64 t224, .int .u64 t225]), (25, .agg #[.int .u64 t226, .int .u64 t227]), (14, .pointer (some ⟨s_, 0, none⟩))]) (fun s_ w' => (w'.cell? ⟨gb219, 0, none⟩ = some (.int .u64 a4_0) ∧ w'.cell? ⟨gb219, 1, none⟩ = some (.int .u64 a4_1) ∧ w'.cell? ⟨gb219, 2, none⟩ = some (.int .u64 a4_2) ∧ w'.cell? ⟨gb220, 0, none⟩ = some (.int .u64 a5_0) ∧ w'.cell? ⟨gb220, 1, none⟩ = some (.int .u64 a5_1) ∧ w'.cell? ⟨gb220, 2, none⟩ = some (.int .u64 a5_2)) ∧ (w'.heap[gb219]? = some (.cells #[.int .u64 a4_0, .int .u64 a4_1, .int .u64 a4_2] 24 (0, 0))) ∧ (w'.heap[gb220]? = some (.cells #[.int .u64 a5_0, .int .u64 a5_1, .int .u64 a5_2] 24 (0, 0))) ∧ (w'.heap[s_]? = some (.cells #[.int .u64 0, .int .u64 0] 26 (0, 0))) ∧ (w.heap.size ≤ s_) ∧ (w.heap.size ≤ s_) ∧ (gb219 ≠ s_) ∧ (s_ ≠ gb219) ∧ (gb220 ≠ s_) ∧ (s_ ≠ gb220) ∧ (Below w.heap.size w w')) ?_ ?_
    rotate_left
    · intro hCont
      refine two_ (i := 3) (j := 9) (Ni := some 20) (Nj := some 14) #[true, true, true, true, true, true, true, false, false, false, false] #[true, true, true, false, true, true, true, false, false, true, false] rfl rfl rfl rfl (two_of HT_.out (by kernel_rfl)) (by decide) (by decide) (fun K hK => ?_) (fun K hK => ?_)
      · skip
        refine goes_ Try.func10 (by kernel_rfl) rfl #[.int .u64 a0, .int .u64 a2, .agg #[.int .u64 a4_0, .int .u64 a4_1, .int .u64 a4_2]] (by rfl) rfl rfl (by (try simp only [List.map_toArray, List.map_cons, List.map_nil]); first | done | rfl | (simp only [List.length_drop, List.length_take]; rfl)) ?_
        with_reducible refine (beaver_Open.calls a0 a2 a4_0 a4_1 a4_2 t222 t223 _ A8.out).mono ?_
        rintro e w18 ⟨rfl, hb⟩
        refine ⟨_, rfl, ?_⟩
        have n0_ := Aside0.mk (blk_below (g := gb219) (o := .cells #[.int .u64 a4_0, .int .u64 a4_1, .int .u64 a4_2] 24 (0, 0)) (by (with_reducible repeat (first | refine blk_drewN ?_ _ | refine blk_drew ?_ | refine blk_alloc ?_ _)); exact BK219.out) hb)
        have n1_ := Aside0.mk (blk_below (g := gb220) (o := .cells #[.int .u64 a5_0, .int .u64 a5_1, .int .u64 a5_2] 24 (0, 0)) (by (with_reducible repeat (first | refine blk_drewN ?_ _ | refine blk_drew ?_ | refine blk_alloc ?_ _)); exact BK220.out) hb)
        have n2_ := Aside0.mk (below_step (by repeat (first | (with_reducible first | exact HB.out | apply below_alloc | apply pw_below_drewN | apply below_drew1 | refine below_set ?_ GE219.out | refine below_set ?_ GE220.out) | exact HB.out)) hb)
        clear BK219
        clear BK220
        clear HB
        have BK219 := n0_
        have BK220 := n1_
        have HB := n2_
        clear n0_ n1_ n2_
        (try clear hb)
        (try clear hb2)
        (try clear hk)
        (try clear hi)
        refine hK.out _ _ ⟨(blk_cell BK219.out 0).trans rfl, (blk_cell BK219.out 1).trans rfl, (blk_cell BK219.out 2).trans rfl, (blk_cell BK220.out 0).trans rfl, (blk_cell BK220.out 1).trans rfl, (blk_cell BK220.out 2).trans rfl⟩ (fun hHeld => ?_)
        clear hK K
        refine norm_ (a' := ?_) ?_ ?_
        rotate_left
        · show Act.put _ (some 20) _ = _
          simp only [Act.put, List.setIfInBounds_toArray, List.set_cons_zero, List.set_cons_succ, i64_w, i32_w]
          rfl
        refine two_ (i := 7) (j := 9) (Ni := some 24) (Nj := some 14) #[true, true, true, true, true, true, true, true, false, false, false] #[true, true, true, true, true, true, true, false, false, true, false] rfl rfl rfl rfl (two_of HT_.out (by kernel_rfl)) (by decide) (by decide) (fun K hK => ?_) (fun K hK => ?_)
        · skip
          refine goes_ Try.func10 (by kernel_rfl) rfl #[.int .u64 a1, .int .u64 a3, .agg #[.int .u64 a5_0, .int .u64 a5_1, .int .u64 a5_2]] (by rfl) rfl rfl (by (try simp only [List.map_toArray, List.map_cons, List.map_nil]); first | done | rfl | (simp only [List.length_drop, List.length_take]; rfl)) ?_
          with_reducible refine (beaver_Open.calls a1 a3 a5_0 a5_1 a5_2 t224 t225 _ A9.out).mono ?_
          rintro e w19 ⟨rfl, hb⟩
          refine ⟨_, rfl, ?_⟩
          have n0_ := Aside0.mk (blk_below (g := gb219) (o := .cells #[.int .u64 a4_0, .int .u64 a4_1, .int .u64 a4_2] 24 (0, 0)) (by (with_reducible repeat (first | refine blk_drewN ?_ _ | refine blk_drew ?_ | refine blk_alloc ?_ _)); exact BK219.out) hb)
          have n1_ := Aside0.mk (blk_below (g := gb220) (o := .cells #[.int .u64 a5_0, .int .u64 a5_1, .int .u64 a5_2] 24 (0, 0)) (by (with_reducible repeat (first | refine blk_drewN ?_ _ | refine blk_drew ?_ | refine blk_alloc ?_ _)); exact BK220.out) hb)
          have n2_ := Aside0.mk (below_step (by repeat (first | (with_reducible first | exact HB.out | apply below_alloc | apply pw_below_drewN | apply below_drew1 | refine below_set ?_ GE219.out | refine below_set ?_ GE220.out) | exact HB.out)) hb)
          clear BK219
          clear BK220
          clear HB
          have BK219 := n0_
          have BK220 := n1_
          have HB := n2_
          clear n0_ n1_ n2_
          (try clear hb)
          (try clear hb2)
          (try clear hk)
          (try clear hi)
          refine hK.out _ _ ⟨(blk_cell BK219.out 0).trans rfl, (blk_cell BK219.out 1).trans rfl, (blk_cell BK219.out 2).trans rfl, (blk_cell BK220.out 0).trans rfl, (blk_cell BK220.out 1).trans rfl, (blk_cell BK220.out 2).trans rfl⟩ (fun hHeld => ?_)
          clear hK K
          refine norm_ (a' := ?_) ?_ ?_
          rotate_left
          · show Act.put _ (some 24) _ = _
            simp only [Act.put, List.setIfInBounds_toArray, List.set_cons_zero, List.set_cons_succ, i64_w, i32_w]
            rfl
          refine two_ (i := 8) (j := 9) (Ni := some 25) (Nj := some 14) #[true, true, true, true, true, true, true, true, true, false, false] #[true, true, true, true, true, true, true, true, false, true, false] rfl rfl rfl rfl (two_of HT_.out (by kernel_rfl)) (by decide) (by decide) (fun K hK => ?_) (fun K hK => ?_)
          · skip
            refine goes_ Try.func12 (by kernel_rfl) rfl #[.agg #[.int .u64 t222, .int .u64 t223], .agg #[.int .u64 t224, .int .u64 t225]] (by rfl) rfl rfl (by (try simp only [List.map_toArray, List.map_cons, List.map_nil]); first | done | rfl | (simp only [List.length_drop, List.length_take]; rfl)) ?_
            with_reducible refine (beaver_Sum.calls t222 t223 t224 t225 t226 t227 _ A10.out).mono ?_
            rintro e w20 ⟨rfl, hb⟩
            refine ⟨_, rfl, ?_⟩
            have n0_ := Aside0.mk (blk_below (g := gb219) (o := .cells #[.int .u64 a4_0, .int .u64 a4_1, .int .u64 a4_2] 24 (0, 0)) (by (with_reducible repeat (first | refine blk_drewN ?_ _ | refine blk_drew ?_ | refine blk_alloc ?_ _)); exact BK219.out) hb)
            have n1_ := Aside0.mk (blk_below (g := gb220) (o := .cells #[.int .u64 a5_0, .int .u64 a5_1, .int .u64 a5_2] 24 (0, 0)) (by (with_reducible repeat (first | refine blk_drewN ?_ _ | refine blk_drew ?_ | refine blk_alloc ?_ _)); exact BK220.out) hb)
            have n2_ := Aside0.mk (below_step (by repeat (first | (with_reducible first | exact HB.out | apply below_alloc | apply pw_below_drewN | apply below_drew1 | refine below_set ?_ GE219.out | refine below_set ?_ GE220.out) | exact HB.out)) hb)
            clear BK219
            clear BK220
            clear HB
            have BK219 := n0_
            have BK220 := n1_
            have HB := n2_
            clear n0_ n1_ n2_
            (try clear hb)
            (try clear hb2)
            (try clear hk)
            (try clear hi)
            refine hK.out _ _ ⟨(blk_cell BK219.out 0).trans rfl, (blk_cell BK219.out 1).trans rfl, (blk_cell BK219.out 2).trans rfl, (blk_cell BK220.out 0).trans rfl, (blk_cell BK220.out 1).trans rfl, (blk_cell BK220.out 2).trans rfl⟩ (fun hHeld => ?_)
            clear hK K
            refine norm_ (a' := ?_) ?_ ?_
            rotate_left
            · show Act.put _ (some 25) _ = _
              simp only [Act.put, List.setIfInBounds_toArray, List.set_cons_zero, List.set_cons_succ, i64_w, i32_w]
              rfl
            refine one_ (i := 9) (N := some 14) #[true, true, true, true, true, true, true, true, true, true, false] rfl rfl (one_of HT_.out (by kernel_rfl)) (by decide) (fun K hK => ?_)
            refine box_step ?hg (N := 14) ?hd (cs := #[.int .u64 0, .int .u64 0]) (t := 26) ?hr ?_; (case hd => rfl); (case hg => rfl); (case hr => first | (go_simp; done) | (go_simp; rfl))
            intro gb228 hg w21 hbox hb
            have n0_ := Aside0.mk (blk_below (g := gb219) (o := .cells #[.int .u64 a4_0, .int .u64 a4_1, .int .u64 a4_2] 24 (0, 0)) (by (with_reducible repeat (first | refine blk_drewN ?_ _ | refine blk_drew ?_ | refine blk_alloc ?_ _)); exact BK219.out) hb)
            have n1_ := Aside0.mk (blk_below (g := gb220) (o := .cells #[.int .u64 a5_0, .int .u64 a5_1, .int .u64 a5_2] 24 (0, 0)) (by (with_reducible repeat (first | refine blk_drewN ?_ _ | refine blk_drew ?_ | refine blk_alloc ?_ _)); exact BK220.out) hb)
            have n2_ := Aside0.mk (below_step (by repeat (first | (with_reducible first | exact HB.out | apply below_alloc | apply pw_below_drewN | apply below_drew1 | refine below_set ?_ GE219.out | refine below_set ?_ GE220.out) | exact HB.out)) hb)
            have n3_ := Aside0.mk (hbox)
            have n4_ := Aside0.mk ((by rw [hg]; exact (below_size (by repeat (first | (with_reducible first | exact HB.out | apply below_alloc | apply pw_below_drewN | apply below_drew1 | refine below_set ?_ GE219.out | refine below_set ?_ GE220.out) | exact HB.out))) : w.heap.size ≤ gb228))
            have n5_ := Aside0.mk ((by rw [hg]; exact (below_size (by repeat (first | (with_reducible first | exact HB.out | apply below_alloc | apply pw_below_drewN | apply below_drew1 | refine below_set ?_ GE219.out | refine below_set ?_ GE220.out) | exact HB.out))) : w.heap.size ≤ gb228))
            have n6_ := Aside0.mk ((by rw [hg]; exact Nat.ne_of_lt (blk_lt (g := gb219) (o := .cells #[.int .u64 a4_0, .int .u64 a4_1, .int .u64 a4_2] 24 (0, 0)) (by (with_reducible repeat (first | refine blk_drewN ?_ _ | refine blk_drew ?_ | refine blk_alloc ?_ _)); exact BK219.out)) : gb219 ≠ gb228))
            have n7_ := Aside0.mk ((by rw [hg]; exact Nat.ne_of_gt (blk_lt (g := gb219) (o := .cells #[.int .u64 a4_0, .int .u64 a4_1, .int .u64 a4_2] 24 (0, 0)) (by (with_reducible repeat (first | refine blk_drewN ?_ _ | refine blk_drew ?_ | refine blk_alloc ?_ _)); exact BK219.out)) : gb228 ≠ gb219))
            have n8_ := Aside0.mk ((by rw [hg]; exact Nat.ne_of_lt (blk_lt (g := gb220) (o := .cells #[.int .u64 a5_0, .int .u64 a5_1, .int .u64 a5_2] 24 (0, 0)) (by (with_reducible repeat (first | refine blk_drewN ?_ _ | refine blk_drew ?_ | refine blk_alloc ?_ _)); exact BK220.out)) : gb220 ≠ gb228))
            have n9_ := Aside0.mk ((by rw [hg]; exact Nat.ne_of_gt (blk_lt (g := gb220) (o := .cells #[.int .u64 a5_0, .int .u64 a5_1, .int .u64 a5_2] 24 (0, 0)) (by (with_reducible repeat (first | refine blk_drewN ?_ _ | refine blk_drew ?_ | refine blk_alloc ?_ _)); exact BK220.out)) : gb228 ≠ gb220))
            clear BK219
            clear BK220
            clear HB
            have BK219 := n0_
            have BK220 := n1_
            have HB := n2_
            have BK228 := n3_
            have GW228 := n4_
            have GE228 := n5_
            have NB219_228 := n6_
            have NB228_219 := n7_
            have NB220_228 := n8_
            have NB228_220 := n9_
            clear n0_ n1_ n2_ n3_ n4_ n5_ n6_ n7_ n8_ n9_
            clear hb hbox hg
            refine hK.out _ _ ⟨(blk_cell BK219.out 0).trans rfl, (blk_cell BK219.out 1).trans rfl, (blk_cell BK219.out 2).trans rfl, (blk_cell BK220.out 0).trans rfl, (blk_cell BK220.out 1).trans rfl, (blk_cell BK220.out 2).trans rfl⟩ (fun hHeld => ?_)
            clear hK K
            refine norm_ (a' := ?_) ?_ ?_
            rotate_left
            · show Act.put _ (some 14) _ = _
              simp only [Act.put, List.setIfInBounds_toArray, List.set_cons_zero, List.set_cons_succ, i64_w, i32_w]
              rfl
            exact norm_ (by simp only [putAll, Act.put, List.setIfInBounds_toArray, List.set_cons_zero, List.set_cons_succ]) (hCont (gb228) _ ⟨hHeld, (by (with_reducible repeat (first | refine blk_drewN ?_ _ | refine blk_drew ?_ | refine blk_alloc ?_ _)); exact BK219.out), (by (with_reducible repeat (first | refine blk_drewN ?_ _ | refine blk_drew ?_ | refine blk_alloc ?_ _)); exact BK220.out), (by (with_reducible repeat (first | refine blk_drewN ?_ _ | refine blk_drew ?_ | refine blk_alloc ?_ _)); exact BK228.out), GW228.out, GE228.out, NB219_228.out, NB228_219.out, NB220_228.out, NB228_220.out, (by repeat (first | (with_reducible first | exact HB.out | apply below_alloc | apply pw_below_drewN | apply below_drew1 | refine below_set ?_ GE219.out | refine below_set ?_ GE220.out | refine below_set ?_ GE228.out) | exact HB.out))⟩)
          · skip
            refine box_step ?hg (N := 14) ?hd (cs := #[.int .u64 0, .int .u64 0]) (t := 26) ?hr ?_; (case hd => rfl); (case hg => rfl); (case hr => first | (go_simp; done) | (go_simp; rfl))
            intro gb228 hg w20 hbox hb
            have n0_ := Aside0.mk (blk_below (g := gb219) (o := .cells #[.int .u64 a4_0, .int .u64 a4_1, .int .u64 a4_2] 24 (0, 0)) (by (with_reducible repeat (first | refine blk_drewN ?_ _ | refine blk_drew ?_ | refine blk_alloc ?_ _)); exact BK219.out) hb)
            have n1_ := Aside0.mk (blk_below (g := gb220) (o := .cells #[.int .u64 a5_0, .int .u64 a5_1, .int .u64 a5_2] 24 (0, 0)) (by (with_reducible repeat (first | refine blk_drewN ?_ _ | refine blk_drew ?_ | refine blk_alloc ?_ _)); exact BK220.out) hb)
            have n2_ := Aside0.mk (below_step (by repeat (first | (with_reducible first | exact HB.out | apply below_alloc | apply pw_below_drewN | apply below_drew1 | refine below_set ?_ GE219.out | refine below_set ?_ GE220.out) | exact HB.out)) hb)
            have n3_ := Aside0.mk (hbox)
            have n4_ := Aside0.mk ((by rw [hg]; exact (below_size (by repeat (first | (with_reducible first | exact HB.out | apply below_alloc | apply pw_below_drewN | apply below_drew1 | refine below_set ?_ GE219.out | refine below_set ?_ GE220.out) | exact HB.out))) : w.heap.size ≤ gb228))
            have n5_ := Aside0.mk ((by rw [hg]; exact (below_size (by repeat (first | (with_reducible first | exact HB.out | apply below_alloc | apply pw_below_drewN | apply below_drew1 | refine below_set ?_ GE219.out | refine below_set ?_ GE220.out) | exact HB.out))) : w.heap.size ≤ gb228))
            have n6_ := Aside0.mk ((by rw [hg]; exact Nat.ne_of_lt (blk_lt (g := gb219) (o := .cells #[.int .u64 a4_0, .int .u64 a4_1, .int .u64 a4_2] 24 (0, 0)) (by (with_reducible repeat (first | refine blk_drewN ?_ _ | refine blk_drew ?_ | refine blk_alloc ?_ _)); exact BK219.out)) : gb219 ≠ gb228))
            have n7_ := Aside0.mk ((by rw [hg]; exact Nat.ne_of_gt (blk_lt (g := gb219) (o := .cells #[.int .u64 a4_0, .int .u64 a4_1, .int .u64 a4_2] 24 (0, 0)) (by (with_reducible repeat (first | refine blk_drewN ?_ _ | refine blk_drew ?_ | refine blk_alloc ?_ _)); exact BK219.out)) : gb228 ≠ gb219))
            have n8_ := Aside0.mk ((by rw [hg]; exact Nat.ne_of_lt (blk_lt (g := gb220) (o := .cells #[.int .u64 a5_0, .int .u64 a5_1, .int .u64 a5_2] 24 (0, 0)) (by (with_reducible repeat (first | refine blk_drewN ?_ _ | refine blk_drew ?_ | refine blk_alloc ?_ _)); exact BK220.out)) : gb220 ≠ gb228))
            have n9_ := Aside0.mk ((by rw [hg]; exact Nat.ne_of_gt (blk_lt (g := gb220) (o := .cells #[.int .u64 a5_0, .int .u64 a5_1, .int .u64 a5_2] 24 (0, 0)) (by (with_reducible repeat (first | refine blk_drewN ?_ _ | refine blk_drew ?_ | refine blk_alloc ?_ _)); exact BK220.out)) : gb228 ≠ gb220))
            clear BK219
            clear BK220
            clear HB
            have BK219 := n0_
            have BK220 := n1_
            have HB := n2_
            have BK228 := n3_
            have GW228 := n4_
            have GE228 := n5_
            have NB219_228 := n6_
            have NB228_219 := n7_
            have NB220_228 := n8_
            have NB228_220 := n9_
            clear n0_ n1_ n2_ n3_ n4_ n5_ n6_ n7_ n8_ n9_
            clear hb hbox hg
            refine hK.out _ _ ⟨(blk_cell BK219.out 0).trans rfl, (blk_cell BK219.out 1).trans rfl, (blk_cell BK219.out 2).trans rfl, (blk_cell BK220.out 0).trans rfl, (blk_cell BK220.out 1).trans rfl, (blk_cell BK220.out 2).trans rfl⟩ (fun hHeld => ?_)
            clear hK K
            refine norm_ (a' := ?_) ?_ ?_
            rotate_left
            · show Act.put _ (some 14) _ = _
              simp only [Act.put, List.setIfInBounds_toArray, List.set_cons_zero, List.set_cons_succ, i64_w, i32_w]
              rfl
            refine one_ (i := 8) (N := some 25) #[true, true, true, true, true, true, true, true, true, true, false] rfl rfl (one_of HT_.out (by kernel_rfl)) (by decide) (fun K hK => ?_)
            refine goes_ Try.func12 (by kernel_rfl) rfl #[.agg #[.int .u64 t222, .int .u64 t223], .agg #[.int .u64 t224, .int .u64 t225]] (by rfl) rfl rfl (by (try simp only [List.map_toArray, List.map_cons, List.map_nil]); first | done | rfl | (simp only [List.length_drop, List.length_take]; rfl)) ?_
            with_reducible refine (beaver_Sum.calls t222 t223 t224 t225 t226 t227 _ A10.out).mono ?_
            rintro e w21 ⟨rfl, hb⟩
            refine ⟨_, rfl, ?_⟩
            have n0_ := Aside0.mk (blk_below (g := gb219) (o := .cells #[.int .u64 a4_0, .int .u64 a4_1, .int .u64 a4_2] 24 (0, 0)) (by (with_reducible repeat (first | refine blk_drewN ?_ _ | refine blk_drew ?_ | refine blk_alloc ?_ _)); exact BK219.out) hb)
            have n1_ := Aside0.mk (blk_below (g := gb220) (o := .cells #[.int .u64 a5_0, .int .u64 a5_1, .int .u64 a5_2] 24 (0, 0)) (by (with_reducible repeat (first | refine blk_drewN ?_ _ | refine blk_drew ?_ | refine blk_alloc ?_ _)); exact BK220.out) hb)
            have n2_ := Aside0.mk (blk_below (g := gb228) (o := .cells #[.int .u64 0, .int .u64 0] 26 (0, 0)) (by (with_reducible repeat (first | refine blk_drewN ?_ _ | refine blk_drew ?_ | refine blk_alloc ?_ _)); exact BK228.out) hb)
            have n3_ := Aside0.mk (below_step (by repeat (first | (with_reducible first | exact HB.out | apply below_alloc | apply pw_below_drewN | apply below_drew1 | refine below_set ?_ GE219.out | refine below_set ?_ GE220.out | refine below_set ?_ GE228.out) | exact HB.out)) hb)
            clear BK219
            clear BK220
            clear BK228
            clear HB
            have BK219 := n0_
            have BK220 := n1_
            have BK228 := n2_
            have HB := n3_
            clear n0_ n1_ n2_ n3_
            (try clear hb)
            (try clear hb2)
            (try clear hk)
            (try clear hi)
            refine hK.out _ _ ⟨(blk_cell BK219.out 0).trans rfl, (blk_cell BK219.out 1).trans rfl, (blk_cell BK219.out 2).trans rfl, (blk_cell BK220.out 0).trans rfl, (blk_cell BK220.out 1).trans rfl, (blk_cell BK220.out 2).trans rfl⟩ (fun hHeld => ?_)
            clear hK K
            refine norm_ (a' := ?_) ?_ ?_
            rotate_left
            · show Act.put _ (some 25) _ = _
              simp only [Act.put, List.setIfInBounds_toArray, List.set_cons_zero, List.set_cons_succ, i64_w, i32_w]
              rfl
            exact norm_ (by simp only [putAll, Act.put, List.setIfInBounds_toArray, List.set_cons_zero, List.set_cons_succ]) (hCont (gb228) _ ⟨hHeld, (by (with_reducible repeat (first | refine blk_drewN ?_ _ | refine blk_drew ?_ | refine blk_alloc ?_ _)); exact BK219.out), (by (with_reducible repeat (first | refine blk_drewN ?_ _ | refine blk_drew ?_ | refine blk_alloc ?_ _)); exact BK220.out), (by (with_reducible repeat (first | refine blk_drewN ?_ _ | refine blk_drew ?_ | refine blk_alloc ?_ _)); exact BK228.out), GW228.out, GE228.out, NB219_228.out, NB228_219.out, NB220_228.out, NB228_220.out, (by repeat (first | (with_reducible first | exact HB.out | apply below_alloc | apply pw_below_drewN | apply below_drew1 | refine below_set ?_ GE219.out | refine below_set ?_ GE220.out | refine below_set ?_ GE228.out) | exact HB.out))⟩)
        · skip
          refine box_step ?hg (N := 14) ?hd (cs := #[.int .u64 0, .int .u64 0]) (t := 26) ?hr ?_; (case hd => rfl); (case hg => rfl); (case hr => first | (go_simp; done) | (go_simp; rfl))
          intro gb228 hg w19 hbox hb
          have n0_ := Aside0.mk (blk_below (g := gb219) (o := .cells #[.int .u64 a4_0, .int .u64 a4_1, .int .u64 a4_2] 24 (0, 0)) (by (with_reducible repeat (first | refine blk_drewN ?_ _ | refine blk_drew ?_ | refine blk_alloc ?_ _)); exact BK219.out) hb)
          have n1_ := Aside0.mk (blk_below (g := gb220) (o := .cells #[.int .u64 a5_0, .int .u64 a5_1, .int .u64 a5_2] 24 (0, 0)) (by (with_reducible repeat (first | refine blk_drewN ?_ _ | refine blk_drew ?_ | refine blk_alloc ?_ _)); exact BK220.out) hb)
          have n2_ := Aside0.mk (below_step (by repeat (first | (with_reducible first | exact HB.out | apply below_alloc | apply pw_below_drewN | apply below_drew1 | refine below_set ?_ GE219.out | refine below_set ?_ GE220.out) | exact HB.out)) hb)
          have n3_ := Aside0.mk (hbox)
          have n4_ := Aside0.mk ((by rw [hg]; exact (below_size (by repeat (first | (with_reducible first | exact HB.out | apply below_alloc | apply pw_below_drewN | apply below_drew1 | refine below_set ?_ GE219.out | refine below_set ?_ GE220.out) | exact HB.out))) : w.heap.size ≤ gb228))
          have n5_ := Aside0.mk ((by rw [hg]; exact (below_size (by repeat (first | (with_reducible first | exact HB.out | apply below_alloc | apply pw_below_drewN | apply below_drew1 | refine below_set ?_ GE219.out | refine below_set ?_ GE220.out) | exact HB.out))) : w.heap.size ≤ gb228))
          have n6_ := Aside0.mk ((by rw [hg]; exact Nat.ne_of_lt (blk_lt (g := gb219) (o := .cells #[.int .u64 a4_0, .int .u64 a4_1, .int .u64 a4_2] 24 (0, 0)) (by (with_reducible repeat (first | refine blk_drewN ?_ _ | refine blk_drew ?_ | refine blk_alloc ?_ _)); exact BK219.out)) : gb219 ≠ gb228))
          have n7_ := Aside0.mk ((by rw [hg]; exact Nat.ne_of_gt (blk_lt (g := gb219) (o := .cells #[.int .u64 a4_0, .int .u64 a4_1, .int .u64 a4_2] 24 (0, 0)) (by (with_reducible repeat (first | refine blk_drewN ?_ _ | refine blk_drew ?_ | refine blk_alloc ?_ _)); exact BK219.out)) : gb228 ≠ gb219))
          have n8_ := Aside0.mk ((by rw [hg]; exact Nat.ne_of_lt (blk_lt (g := gb220) (o := .cells #[.int .u64 a5_0, .int .u64 a5_1, .int .u64 a5_2] 24 (0, 0)) (by (with_reducible repeat (first | refine blk_drewN ?_ _ | refine blk_drew ?_ | refine blk_alloc ?_ _)); exact BK220.out)) : gb220 ≠ gb228))
          have n9_ := Aside0.mk ((by rw [hg]; exact Nat.ne_of_gt (blk_lt (g := gb220) (o := .cells #[.int .u64 a5_0, .int .u64 a5_1, .int .u64 a5_2] 24 (0, 0)) (by (with_reducible repeat (first | refine blk_drewN ?_ _ | refine blk_drew ?_ | refine blk_alloc ?_ _)); exact BK220.out)) : gb228 ≠ gb220))
          clear BK219
          clear BK220
          clear HB
          have BK219 := n0_
          have BK220 := n1_
          have HB := n2_
          have BK228 := n3_
          have GW228 := n4_
          have GE228 := n5_
          have NB219_228 := n6_
          have NB228_219 := n7_
          have NB220_228 := n8_
          have NB228_220 := n9_
          clear n0_ n1_ n2_ n3_ n4_ n5_ n6_ n7_ n8_ n9_
          clear hb hbox hg
          refine hK.out _ _ ⟨(blk_cell BK219.out 0).trans rfl, (blk_cell BK219.out 1).trans rfl, (blk_cell BK219.out 2).trans rfl, (blk_cell BK220.out 0).trans rfl, (blk_cell BK220.out 1).trans rfl, (blk_cell BK220.out 2).trans rfl⟩ (fun hHeld => ?_)
          clear hK K
          refine norm_ (a' := ?_) ?_ ?_
          rotate_left
          · show Act.put _ (some 14) _ = _
            simp only [Act.put, List.setIfInBounds_toArray, List.set_cons_zero, List.set_cons_succ, i64_w, i32_w]
            rfl
          refine one_ (i := 7) (N := some 24) #[true, true, true, true, true, true, true, true, false, true, false] rfl rfl (one_of HT_.out (by kernel_rfl)) (by decide) (fun K hK => ?_)
          refine goes_ Try.func10 (by kernel_rfl) rfl #[.int .u64 a1, .int .u64 a3, .agg #[.int .u64 a5_0, .int .u64 a5_1, .int .u64 a5_2]] (by rfl) rfl rfl (by (try simp only [List.map_toArray, List.map_cons, List.map_nil]); first | done | rfl | (simp only [List.length_drop, List.length_take]; rfl)) ?_
          with_reducible refine (beaver_Open.calls a1 a3 a5_0 a5_1 a5_2 t224 t225 _ A9.out).mono ?_
          rintro e w20 ⟨rfl, hb⟩
          refine ⟨_, rfl, ?_⟩
          have n0_ := Aside0.mk (blk_below (g := gb219) (o := .cells #[.int .u64 a4_0, .int .u64 a4_1, .int .u64 a4_2] 24 (0, 0)) (by (with_reducible repeat (first | refine blk_drewN ?_ _ | refine blk_drew ?_ | refine blk_alloc ?_ _)); exact BK219.out) hb)
          have n1_ := Aside0.mk (blk_below (g := gb220) (o := .cells #[.int .u64 a5_0, .int .u64 a5_1, .int .u64 a5_2] 24 (0, 0)) (by (with_reducible repeat (first | refine blk_drewN ?_ _ | refine blk_drew ?_ | refine blk_alloc ?_ _)); exact BK220.out) hb)
          have n2_ := Aside0.mk (blk_below (g := gb228) (o := .cells #[.int .u64 0, .int .u64 0] 26 (0, 0)) (by (with_reducible repeat (first | refine blk_drewN ?_ _ | refine blk_drew ?_ | refine blk_alloc ?_ _)); exact BK228.out) hb)
          have n3_ := Aside0.mk (below_step (by repeat (first | (with_reducible first | exact HB.out | apply below_alloc | apply pw_below_drewN | apply below_drew1 | refine below_set ?_ GE219.out | refine below_set ?_ GE220.out | refine below_set ?_ GE228.out) | exact HB.out)) hb)
          clear BK219
          clear BK220
          clear BK228
          clear HB
          have BK219 := n0_
          have BK220 := n1_
          have BK228 := n2_
          have HB := n3_
          clear n0_ n1_ n2_ n3_
          (try clear hb)
          (try clear hb2)
          (try clear hk)
          (try clear hi)
          refine hK.out _ _ ⟨(blk_cell BK219.out 0).trans rfl, (blk_cell BK219.out 1).trans rfl, (blk_cell BK219.out 2).trans rfl, (blk_cell BK220.out 0).trans rfl, (blk_cell BK220.out 1).trans rfl, (blk_cell BK220.out 2).trans rfl⟩ (fun hHeld => ?_)
          clear hK K
          refine norm_ (a' := ?_) ?_ ?_
          rotate_left
          · show Act.put _ (some 24) _ = _
            simp only [Act.put, List.setIfInBounds_toArray, List.set_cons_zero, List.set_cons_succ, i64_w, i32_w]
            rfl
          refine one_ (i := 8) (N := some 25) #[true, true, true, true, true, true, true, true, true, true, false] rfl rfl (one_of HT_.out (by kernel_rfl)) (by decide) (fun K hK => ?_)
          refine goes_ Try.func12 (by kernel_rfl) rfl #[.agg #[.int .u64 t222, .int .u64 t223], .agg #[.int .u64 t224, .int .u64 t225]] (by rfl) rfl rfl (by (try simp only [List.map_toArray, List.map_cons, List.map_nil]); first | done | rfl | (simp only [List.length_drop, List.length_take]; rfl)) ?_
          with_reducible refine (beaver_Sum.calls t222 t223 t224 t225 t226 t227 _ A10.out).mono ?_
          rintro e w21 ⟨rfl, hb⟩
          refine ⟨_, rfl, ?_⟩
          have n0_ := Aside0.mk (blk_below (g := gb219) (o := .cells #[.int .u64 a4_0, .int .u64 a4_1, .int .u64 a4_2] 24 (0, 0)) (by (with_reducible repeat (first | refine blk_drewN ?_ _ | refine blk_drew ?_ | refine blk_alloc ?_ _)); exact BK219.out) hb)
          have n1_ := Aside0.mk (blk_below (g := gb220) (o := .cells #[.int .u64 a5_0, .int .u64 a5_1, .int .u64 a5_2] 24 (0, 0)) (by (with_reducible repeat (first | refine blk_drewN ?_ _ | refine blk_drew ?_ | refine blk_alloc ?_ _)); exact BK220.out) hb)
          have n2_ := Aside0.mk (blk_below (g := gb228) (o := .cells #[.int .u64 0, .int .u64 0] 26 (0, 0)) (by (with_reducible repeat (first | refine blk_drewN ?_ _ | refine blk_drew ?_ | refine blk_alloc ?_ _)); exact BK228.out) hb)
          have n3_ := Aside0.mk (below_step (by repeat (first | (with_reducible first | exact HB.out | apply below_alloc | apply pw_below_drewN | apply below_drew1 | refine below_set ?_ GE219.out | refine below_set ?_ GE220.out | refine below_set ?_ GE228.out) | exact HB.out)) hb)
          clear BK219
          clear BK220
          clear BK228
          clear HB
          have BK219 := n0_
          have BK220 := n1_
          have BK228 := n2_
          have HB := n3_
          clear n0_ n1_ n2_ n3_
          (try clear hb)
          (try clear hb2)
          (try clear hk)
          (try clear hi)
          refine hK.out _ _ ⟨(blk_cell BK219.out 0).trans rfl, (blk_cell BK219.out 1).trans rfl, (blk_cell BK219.out 2).trans rfl, (blk_cell BK220.out 0).trans rfl, (blk_cell BK220.out 1).trans rfl, (blk_cell BK220.out 2).trans rfl⟩ (fun hHeld => ?_)
          clear hK K
          refine norm_ (a' := ?_) ?_ ?_
          rotate_left
          · show Act.put _ (some 25) _ = _
            simp only [Act.put, List.setIfInBounds_toArray, List.set_cons_zero, List.set_cons_succ, i64_w, i32_w]
            rfl
          exact norm_ (by simp only [putAll, Act.put, List.setIfInBounds_toArray, List.set_cons_zero, List.set_cons_succ]) (hCont (gb228) _ ⟨hHeld, (by (with_reducible repeat (first | refine blk_drewN ?_ _ | refine blk_drew ?_ | refine blk_alloc ?_ _)); exact BK219.out), (by (with_reducible repeat (first | refine blk_drewN ?_ _ | refine blk_drew ?_ | refine blk_alloc ?_ _)); exact BK220.out), (by (with_reducible repeat (first | refine blk_drewN ?_ _ | refine blk_drew ?_ | refine blk_alloc ?_ _)); exact BK228.out), GW228.out, GE228.out, NB219_228.out, NB228_219.out, NB220_228.out, NB228_220.out, (by repeat (first | (with_reducible first | exact HB.out | apply below_alloc | apply pw_below_drewN | apply below_drew1 | refine below_set ?_ GE219.out | refine below_set ?_ GE220.out | refine below_set ?_ GE228.out) | exact HB.out))⟩)
      · skip
        refine box_step ?hg (N := 14) ?hd (cs := #[.int .u64 0, .int .u64 0]) (t := 26) ?hr ?_; (case hd => rfl); (case hg => rfl); (case hr => first | (go_simp; done) | (go_simp; rfl))
        intro gb228 hg w18 hbox hb
        have n0_ := Aside0.mk (blk_below (g := gb219) (o := .cells #[.int .u64 a4_0, .int .u64 a4_1, .int .u64 a4_2] 24 (0, 0)) (by (with_reducible repeat (first | refine blk_drewN ?_ _ | refine blk_drew ?_ | refine blk_alloc ?_ _)); exact BK219.out) hb)
        have n1_ := Aside0.mk (blk_below (g := gb220) (o := .cells #[.int .u64 a5_0, .int .u64 a5_1, .int .u64 a5_2] 24 (0, 0)) (by (with_reducible repeat (first | refine blk_drewN ?_ _ | refine blk_drew ?_ | refine blk_alloc ?_ _)); exact BK220.out) hb)
        have n2_ := Aside0.mk (below_step (by repeat (first | (with_reducible first | exact HB.out | apply below_alloc | apply pw_below_drewN | apply below_drew1 | refine below_set ?_ GE219.out | refine below_set ?_ GE220.out) | exact HB.out)) hb)
        have n3_ := Aside0.mk (hbox)
        have n4_ := Aside0.mk ((by rw [hg]; exact (below_size (by repeat (first | (with_reducible first | exact HB.out | apply below_alloc | apply pw_below_drewN | apply below_drew1 | refine below_set ?_ GE219.out | refine below_set ?_ GE220.out) | exact HB.out))) : w.heap.size ≤ gb228))
        have n5_ := Aside0.mk ((by rw [hg]; exact (below_size (by repeat (first | (with_reducible first | exact HB.out | apply below_alloc | apply pw_below_drewN | apply below_drew1 | refine below_set ?_ GE219.out | refine below_set ?_ GE220.out) | exact HB.out))) : w.heap.size ≤ gb228))
        have n6_ := Aside0.mk ((by rw [hg]; exact Nat.ne_of_lt (blk_lt (g := gb219) (o := .cells #[.int .u64 a4_0, .int .u64 a4_1, .int .u64 a4_2] 24 (0, 0)) (by (with_reducible repeat (first | refine blk_drewN ?_ _ | refine blk_drew ?_ | refine blk_alloc ?_ _)); exact BK219.out)) : gb219 ≠ gb228))
        have n7_ := Aside0.mk ((by rw [hg]; exact Nat.ne_of_gt (blk_lt (g := gb219) (o := .cells #[.int .u64 a4_0, .int .u64 a4_1, .int .u64 a4_2] 24 (0, 0)) (by (with_reducible repeat (first | refine blk_drewN ?_ _ | refine blk_drew ?_ | refine blk_alloc ?_ _)); exact BK219.out)) : gb228 ≠ gb219))
        have n8_ := Aside0.mk ((by rw [hg]; exact Nat.ne_of_lt (blk_lt (g := gb220) (o := .cells #[.int .u64 a5_0, .int .u64 a5_1, .int .u64 a5_2] 24 (0, 0)) (by (with_reducible repeat (first | refine blk_drewN ?_ _ | refine blk_drew ?_ | refine blk_alloc ?_ _)); exact BK220.out)) : gb220 ≠ gb228))
        have n9_ := Aside0.mk ((by rw [hg]; exact Nat.ne_of_gt (blk_lt (g := gb220) (o := .cells #[.int .u64 a5_0, .int .u64 a5_1, .int .u64 a5_2] 24 (0, 0)) (by (with_reducible repeat (first | refine blk_drewN ?_ _ | refine blk_drew ?_ | refine blk_alloc ?_ _)); exact BK220.out)) : gb228 ≠ gb220))
        clear BK219
        clear BK220
        clear HB
        have BK219 := n0_
        have BK220 := n1_
        have HB := n2_
        have BK228 := n3_
        have GW228 := n4_
        have GE228 := n5_
        have NB219_228 := n6_
        have NB228_219 := n7_
        have NB220_228 := n8_
        have NB228_220 := n9_
        clear n0_ n1_ n2_ n3_ n4_ n5_ n6_ n7_ n8_ n9_
        clear hb hbox hg
        refine hK.out _ _ ⟨(blk_cell BK219.out 0).trans rfl, (blk_cell BK219.out 1).trans rfl, (blk_cell BK219.out 2).trans rfl, (blk_cell BK220.out 0).trans rfl, (blk_cell BK220.out 1).trans rfl, (blk_cell BK220.out 2).trans rfl⟩ (fun hHeld => ?_)
        clear hK K
        refine norm_ (a' := ?_) ?_ ?_
        rotate_left
        · show Act.put _ (some 14) _ = _
          simp only [Act.put, List.setIfInBounds_toArray, List.set_cons_zero, List.set_cons_succ, i64_w, i32_w]
          rfl
        refine one_ (i := 3) (N := some 20) #[true, true, true, true, true, true, true, false, false, true, false] rfl rfl (one_of HT_.out (by kernel_rfl)) (by decide) (fun K hK => ?_)
        refine goes_ Try.func10 (by kernel_rfl) rfl #[.int .u64 a0, .int .u64 a2, .agg #[.int .u64 a4_0, .int .u64 a4_1, .int .u64 a4_2]] (by rfl) rfl rfl (by (try simp only [List.map_toArray, List.map_cons, List.map_nil]); first | done | rfl | (simp only [List.length_drop, List.length_take]; rfl)) ?_
        with_reducible refine (beaver_Open.calls a0 a2 a4_0 a4_1 a4_2 t222 t223 _ A8.out).mono ?_
        rintro e w19 ⟨rfl, hb⟩
        refine ⟨_, rfl, ?_⟩
        have n0_ := Aside0.mk (blk_below (g := gb219) (o := .cells #[.int .u64 a4_0, .int .u64 a4_1, .int .u64 a4_2] 24 (0, 0)) (by (with_reducible repeat (first | refine blk_drewN ?_ _ | refine blk_drew ?_ | refine blk_alloc ?_ _)); exact BK219.out) hb)
        have n1_ := Aside0.mk (blk_below (g := gb220) (o := .cells #[.int .u64 a5_0, .int .u64 a5_1, .int .u64 a5_2] 24 (0, 0)) (by (with_reducible repeat (first | refine blk_drewN ?_ _ | refine blk_drew ?_ | refine blk_alloc ?_ _)); exact BK220.out) hb)
        have n2_ := Aside0.mk (blk_below (g := gb228) (o := .cells #[.int .u64 0, .int .u64 0] 26 (0, 0)) (by (with_reducible repeat (first | refine blk_drewN ?_ _ | refine blk_drew ?_ | refine blk_alloc ?_ _)); exact BK228.out) hb)
        have n3_ := Aside0.mk (below_step (by repeat (first | (with_reducible first | exact HB.out | apply below_alloc | apply pw_below_drewN | apply below_drew1 | refine below_set ?_ GE219.out | refine below_set ?_ GE220.out | refine below_set ?_ GE228.out) | exact HB.out)) hb)
        clear BK219
        clear BK220
        clear BK228
        clear HB
        have BK219 := n0_
        have BK220 := n1_
        have BK228 := n2_
        have HB := n3_
        clear n0_ n1_ n2_ n3_
        (try clear hb)
        (try clear hb2)
        (try clear hk)
        (try clear hi)
        refine hK.out _ _ ⟨(blk_cell BK219.out 0).trans rfl, (blk_cell BK219.out 1).trans rfl, (blk_cell BK219.out 2).trans rfl, (blk_cell BK220.out 0).trans rfl, (blk_cell BK220.out 1).trans rfl, (blk_cell BK220.out 2).trans rfl⟩ (fun hHeld => ?_)
        clear hK K
        refine norm_ (a' := ?_) ?_ ?_
        rotate_left
        · show Act.put _ (some 20) _ = _
          simp only [Act.put, List.setIfInBounds_toArray, List.set_cons_zero, List.set_cons_succ, i64_w, i32_w]
          rfl
        refine one_ (i := 7) (N := some 24) #[true, true, true, true, true, true, true, true, false, true, false] rfl rfl (one_of HT_.out (by kernel_rfl)) (by decide) (fun K hK => ?_)
        refine goes_ Try.func10 (by kernel_rfl) rfl #[.int .u64 a1, .int .u64 a3, .agg #[.int .u64 a5_0, .int .u64 a5_1, .int .u64 a5_2]] (by rfl) rfl rfl (by (try simp only [List.map_toArray, List.map_cons, List.map_nil]); first | done | rfl | (simp only [List.length_drop, List.length_take]; rfl)) ?_
        with_reducible refine (beaver_Open.calls a1 a3 a5_0 a5_1 a5_2 t224 t225 _ A9.out).mono ?_
        rintro e w20 ⟨rfl, hb⟩
        refine ⟨_, rfl, ?_⟩
        have n0_ := Aside0.mk (blk_below (g := gb219) (o := .cells #[.int .u64 a4_0, .int .u64 a4_1, .int .u64 a4_2] 24 (0, 0)) (by (with_reducible repeat (first | refine blk_drewN ?_ _ | refine blk_drew ?_ | refine blk_alloc ?_ _)); exact BK219.out) hb)
        have n1_ := Aside0.mk (blk_below (g := gb220) (o := .cells #[.int .u64 a5_0, .int .u64 a5_1, .int .u64 a5_2] 24 (0, 0)) (by (with_reducible repeat (first | refine blk_drewN ?_ _ | refine blk_drew ?_ | refine blk_alloc ?_ _)); exact BK220.out) hb)
        have n2_ := Aside0.mk (blk_below (g := gb228) (o := .cells #[.int .u64 0, .int .u64 0] 26 (0, 0)) (by (with_reducible repeat (first | refine blk_drewN ?_ _ | refine blk_drew ?_ | refine blk_alloc ?_ _)); exact BK228.out) hb)
        have n3_ := Aside0.mk (below_step (by repeat (first | (with_reducible first | exact HB.out | apply below_alloc | apply pw_below_drewN | apply below_drew1 | refine below_set ?_ GE219.out | refine below_set ?_ GE220.out | refine below_set ?_ GE228.out) | exact HB.out)) hb)
        clear BK219
        clear BK220
        clear BK228
        clear HB
        have BK219 := n0_
        have BK220 := n1_
        have BK228 := n2_
        have HB := n3_
        clear n0_ n1_ n2_ n3_
        (try clear hb)
        (try clear hb2)
        (try clear hk)
        (try clear hi)
        refine hK.out _ _ ⟨(blk_cell BK219.out 0).trans rfl, (blk_cell BK219.out 1).trans rfl, (blk_cell BK219.out 2).trans rfl, (blk_cell BK220.out 0).trans rfl, (blk_cell BK220.out 1).trans rfl, (blk_cell BK220.out 2).trans rfl⟩ (fun hHeld => ?_)
        clear hK K
        refine norm_ (a' := ?_) ?_ ?_
        rotate_left
        · show Act.put _ (some 24) _ = _
          simp only [Act.put, List.setIfInBounds_toArray, List.set_cons_zero, List.set_cons_succ, i64_w, i32_w]
          rfl
        refine one_ (i := 8) (N := some 25) #[true, true, true, true, true, true, true, true, true, true, false] rfl rfl (one_of HT_.out (by kernel_rfl)) (by decide) (fun K hK => ?_)
        refine goes_ Try.func12 (by kernel_rfl) rfl #[.agg #[.int .u64 t222, .int .u64 t223], .agg #[.int .u64 t224, .int .u64 t225]] (by rfl) rfl rfl (by (try simp only [List.map_toArray, List.map_cons, List.map_nil]); first | done | rfl | (simp only [List.length_drop, List.length_take]; rfl)) ?_
        with_reducible refine (beaver_Sum.calls t222 t223 t224 t225 t226 t227 _ A10.out).mono ?_
        rintro e w21 ⟨rfl, hb⟩
        refine ⟨_, rfl, ?_⟩
        have n0_ := Aside0.mk (blk_below (g := gb219) (o := .cells #[.int .u64 a4_0, .int .u64 a4_1, .int .u64 a4_2] 24 (0, 0)) (by (with_reducible repeat (first | refine blk_drewN ?_ _ | refine blk_drew ?_ | refine blk_alloc ?_ _)); exact BK219.out) hb)
        have n1_ := Aside0.mk (blk_below (g := gb220) (o := .cells #[.int .u64 a5_0, .int .u64 a5_1, .int .u64 a5_2] 24 (0, 0)) (by (with_reducible repeat (first | refine blk_drewN ?_ _ | refine blk_drew ?_ | refine blk_alloc ?_ _)); exact BK220.out) hb)
        have n2_ := Aside0.mk (blk_below (g := gb228) (o := .cells #[.int .u64 0, .int .u64 0] 26 (0, 0)) (by (with_reducible repeat (first | refine blk_drewN ?_ _ | refine blk_drew ?_ | refine blk_alloc ?_ _)); exact BK228.out) hb)
        have n3_ := Aside0.mk (below_step (by repeat (first | (with_reducible first | exact HB.out | apply below_alloc | apply pw_below_drewN | apply below_drew1 | refine below_set ?_ GE219.out | refine below_set ?_ GE220.out | refine below_set ?_ GE228.out) | exact HB.out)) hb)
        clear BK219
        clear BK220
        clear BK228
        clear HB
        have BK219 := n0_
        have BK220 := n1_
        have BK228 := n2_
        have HB := n3_
        clear n0_ n1_ n2_ n3_
        (try clear hb)
        (try clear hb2)
        (try clear hk)
        (try clear hi)
        refine hK.out _ _ ⟨(blk_cell BK219.out 0).trans rfl, (blk_cell BK219.out 1).trans rfl, (blk_cell BK219.out 2).trans rfl, (blk_cell BK220.out 0).trans rfl, (blk_cell BK220.out 1).trans rfl, (blk_cell BK220.out 2).trans rfl⟩ (fun hHeld => ?_)
        clear hK K
        refine norm_ (a' := ?_) ?_ ?_
        rotate_left
        · show Act.put _ (some 25) _ = _
          simp only [Act.put, List.setIfInBounds_toArray, List.set_cons_zero, List.set_cons_succ, i64_w, i32_w]
          rfl
        exact norm_ (by simp only [putAll, Act.put, List.setIfInBounds_toArray, List.set_cons_zero, List.set_cons_succ]) (hCont (gb228) _ ⟨hHeld, (by (with_reducible repeat (first | refine blk_drewN ?_ _ | refine blk_drew ?_ | refine blk_alloc ?_ _)); exact BK219.out), (by (with_reducible repeat (first | refine blk_drewN ?_ _ | refine blk_drew ?_ | refine blk_alloc ?_ _)); exact BK220.out), (by (with_reducible repeat (first | refine blk_drewN ?_ _ | refine blk_drew ?_ | refine blk_alloc ?_ _)); exact BK228.out), GW228.out, GE228.out, NB219_228.out, NB228_219.out, NB220_228.out, NB228_220.out, (by repeat (first | (with_reducible first | exact HB.out | apply below_alloc | apply pw_below_drewN | apply below_drew1 | refine below_set ?_ GE219.out | refine below_set ?_ GE220.out | refine below_set ?_ GE228.out) | exact HB.out))⟩)
    rintro gb228 w22 ⟨hS_, h0_, h1_, h2_, h3_, h4_, h5_, h6_, h7_, h8_, h9_⟩
    have n0_ : Aside0 (w22.heap[gb219]? = some (.cells #[.int .u64 a4_0, .int .u64 a4_1, .int .u64 a4_2] 24 (0, 0))) := ⟨h0_⟩
    have n1_ : Aside0 (w22.heap[gb220]? = some (.cells #[.int .u64 a5_0, .int .u64 a5_1, .int .u64 a5_2] 24 (0, 0))) := ⟨h1_⟩
    have n2_ : Aside0 (w22.heap[gb228]? = some (.cells #[.int .u64 0, .int .u64 0] 26 (0, 0))) := ⟨h2_⟩
    have n3_ : Aside0 (w.heap.size ≤ gb228) := ⟨h3_⟩
    have n4_ : Aside0 (w.heap.size ≤ gb228) := ⟨h4_⟩
    have n5_ : Aside0 (gb219 ≠ gb228) := ⟨h5_⟩
    have n6_ : Aside0 (gb228 ≠ gb219) := ⟨h6_⟩
    have n7_ : Aside0 (gb220 ≠ gb228) := ⟨h7_⟩
    have n8_ : Aside0 (gb228 ≠ gb220) := ⟨h8_⟩
    have n9_ : Aside0 (Below w.heap.size w w22) := ⟨h9_⟩
    clear BK219
    clear BK220
    clear HB
    clear h0_ h1_ h2_ h3_ h4_ h5_ h6_ h7_ h8_ h9_
    have BK219 := n0_
    have BK220 := n1_
    have BK228 := n2_
    have GW228 := n3_
    have GE228 := n4_
    have NB219_228 := n5_
    have NB228_219 := n6_
    have NB220_228 := n7_
    have NB228_220 := n8_
    have HB := n9_
    clear n0_ n1_ n2_ n3_ n4_ n5_ n6_ n7_ n8_ n9_
    have hHeld : w22.cell? ⟨gb219, 0, none⟩ = some (.int .u64 a4_0) ∧ w22.cell? ⟨gb219, 1, none⟩ = some (.int .u64 a4_1) ∧ w22.cell? ⟨gb219, 2, none⟩ = some (.int .u64 a4_2) ∧ w22.cell? ⟨gb220, 0, none⟩ = some (.int .u64 a5_0) ∧ w22.cell? ⟨gb220, 1, none⟩ = some (.int .u64 a5_1) ∧ w22.cell? ⟨gb220, 2, none⟩ = some (.int .u64 a5_2) := hS_
    refine norm_ (a' := ?_) ?_ ?_
    rotate_left
    · simp only [putAll, Act.put, List.setIfInBounds_toArray, List.set_cons_zero, List.set_cons_succ]
      rfl
    refine one_ (i := 10) (N := none) #[true, true, true, true, true, true, true, true, true, true, true] rfl rfl (one_of HT_.out (by kernel_rfl)) (by decide) (fun K hK => ?_)
    have hs23 : w22.cell? ⟨gb228, 0, none⟩ = some (.int .u64 0) := (blk_cell BK228.out 0).trans rfl
    have hfs23 := blk_frozen BK228.out 0
    have hns23_0 := NB219_228.out
    have hns23_1 := NB220_228.out
    have hms23_0 := NB228_219.out
    have hms23_1 := NB228_220.out
    have hs24 : w22.cell? ⟨gb228, 1, none⟩ = some (.int .u64 0) := (blk_cell BK228.out 1).trans rfl
    have hfs24 := blk_frozen BK228.out 1
    have hns24_0 := NB219_228.out
    have hns24_1 := NB220_228.out
    have hms24_0 := NB228_219.out
    have hms24_1 := NB228_220.out
    refine skip_ (w1 := ?_) (by rfl) rfl ?_ ?_
    rotate_left
    · go_simp
      rfl
    refine hK.out _ _ ⟨((cell_far (p := ⟨gb228, _, none⟩) NB219_228.out _).trans (((cell_far (p := ⟨gb228, _, none⟩) NB219_228.out _).trans (hHeld.1)))), ((cell_far (p := ⟨gb228, _, none⟩) NB219_228.out _).trans (((cell_far (p := ⟨gb228, _, none⟩) NB219_228.out _).trans (hHeld.2.1)))), ((cell_far (p := ⟨gb228, _, none⟩) NB219_228.out _).trans (((cell_far (p := ⟨gb228, _, none⟩) NB219_228.out _).trans (hHeld.2.2.1)))), ((cell_far (p := ⟨gb228, _, none⟩) NB220_228.out _).trans (((cell_far (p := ⟨gb228, _, none⟩) NB220_228.out _).trans (hHeld.2.2.2.1)))), ((cell_far (p := ⟨gb228, _, none⟩) NB220_228.out _).trans (((cell_far (p := ⟨gb228, _, none⟩) NB220_228.out _).trans (hHeld.2.2.2.2.1)))), ((cell_far (p := ⟨gb228, _, none⟩) NB220_228.out _).trans (((cell_far (p := ⟨gb228, _, none⟩) NB220_228.out _).trans (hHeld.2.2.2.2.2))))⟩ (fun hHeld => ?_)
    clear hK K
    refine done_ (done_of HT_.out (by kernel_rfl)) ?_
    have hnb25 := NB219_220.out
    have hnc25 := NB220_219.out
    have hnb26 := NB219_228.out
    have hnc26 := NB228_219.out
    have hcz27_0 : w22.cell? ⟨gb219, 0, none⟩ = some (.int .u64 a4_0) := (blk_cell BK219.out 0).trans rfl
    have hcz27_1 : w22.cell? ⟨gb219, 1, none⟩ = some (.int .u64 a4_1) := (blk_cell BK219.out 1).trans rfl
    have hcz27_2 : w22.cell? ⟨gb219, 2, none⟩ = some (.int .u64 a4_2) := (blk_cell BK219.out 2).trans rfl
    have hfz27_0 := blk_frozen BK219.out 0
    have hfz27_1 := blk_frozen BK219.out 1
    have hfz27_2 := blk_frozen BK219.out 2
    have hnb28 := NB220_228.out
    have hnc28 := NB228_220.out
    have hcz29_0 : w22.cell? ⟨gb220, 0, none⟩ = some (.int .u64 a5_0) := (blk_cell BK220.out 0).trans rfl
    have hcz29_1 : w22.cell? ⟨gb220, 1, none⟩ = some (.int .u64 a5_1) := (blk_cell BK220.out 1).trans rfl
    have hcz29_2 : w22.cell? ⟨gb220, 2, none⟩ = some (.int .u64 a5_2) := (blk_cell BK220.out 2).trans rfl
    have hfz29_0 := blk_frozen BK220.out 0
    have hfz29_1 := blk_frozen BK220.out 1
    have hfz29_2 := blk_frozen BK220.out 2
    try go_wp2
    have n0_ : Aside0 (((w22.setCell ⟨gb228, 0, none⟩ (.int .u64 t226)).setCell ⟨gb228, 1, none⟩ (.int .u64 t227)).heap[gb219]? = some (.cells #[.int .u64 a4_0, .int .u64 a4_1, .int .u64 a4_2] 24 (0, 0))) := ⟨by (with_reducible repeat (first | refine blk_drewN ?_ _ | refine blk_drew ?_ | refine blk_alloc ?_ _)); refine blk_far ?_ NB219_228.out _; (with_reducible repeat (first | refine blk_drewN ?_ _ | refine blk_drew ?_ | refine blk_alloc ?_ _)); refine blk_far ?_ NB219_228.out _; (with_reducible repeat (first | refine blk_drewN ?_ _ | refine blk_drew ?_ | refine blk_alloc ?_ _)); exact BK219.out⟩
    have n1_ : Aside0 (((w22.setCell ⟨gb228, 0, none⟩ (.int .u64 t226)).setCell ⟨gb228, 1, none⟩ (.int .u64 t227)).heap[gb220]? = some (.cells #[.int .u64 a5_0, .int .u64 a5_1, .int .u64 a5_2] 24 (0, 0))) := ⟨by (with_reducible repeat (first | refine blk_drewN ?_ _ | refine blk_drew ?_ | refine blk_alloc ?_ _)); refine blk_far ?_ NB220_228.out _; (with_reducible repeat (first | refine blk_drewN ?_ _ | refine blk_drew ?_ | refine blk_alloc ?_ _)); refine blk_far ?_ NB220_228.out _; (with_reducible repeat (first | refine blk_drewN ?_ _ | refine blk_drew ?_ | refine blk_alloc ?_ _)); exact BK220.out⟩
    have n2_ : Aside0 (((w22.setCell ⟨gb228, 0, none⟩ (.int .u64 t226)).setCell ⟨gb228, 1, none⟩ (.int .u64 t227)).heap[gb228]? = some (.cells #[.int .u64 t226, .int .u64 t227] 26 (0, 0))) := ⟨by (with_reducible repeat (first | refine blk_drewN ?_ _ | refine blk_drew ?_ | refine blk_alloc ?_ _)); refine blk_put (cs := #[.int .u64 t226, .int .u64 0]) ?_ 1 _ rfl; (with_reducible repeat (first | refine blk_drewN ?_ _ | refine blk_drew ?_ | refine blk_alloc ?_ _)); refine blk_put (cs := #[.int .u64 0, .int .u64 0]) ?_ 0 _ rfl; (with_reducible repeat (first | refine blk_drewN ?_ _ | refine blk_drew ?_ | refine blk_alloc ?_ _)); exact BK228.out⟩
    have n3_ : Aside0 (Below w.heap.size w ((w22.setCell ⟨gb228, 0, none⟩ (.int .u64 t226)).setCell ⟨gb228, 1, none⟩ (.int .u64 t227))) := ⟨by repeat (first | (with_reducible first | exact HB.out | apply below_alloc | apply pw_below_drewN | apply below_drew1 | refine below_set ?_ GE219.out | refine below_set ?_ GE220.out | refine below_set ?_ GE228.out) | exact HB.out)⟩
    (try clear BK219)
    (try clear BK220)
    (try clear BK228)
    (try clear HB)
    generalize ((w22.setCell ⟨gb228, 0, none⟩ (.int .u64 t226)).setCell ⟨gb228, 1, none⟩ (.int .u64 t227)) = w30 at n0_ n1_ n2_ n3_ ⊢
    have BK219 := n0_
    have BK220 := n1_
    have BK228 := n2_
    have HB := n3_
    clear n0_ n1_ n2_ n3_
    have n0_ := Aside0.mk (blk_drew BK219.out)
    have n1_ := Aside0.mk (blk_drew BK220.out)
    have n2_ := Aside0.mk (blk_drew BK228.out)
    have n3_ := Aside0.mk (below_drew1 HB.out)
    clear BK219
    clear BK220
    clear BK228
    clear HB
    have BK219 := n0_
    have BK220 := n1_
    have BK228 := n2_
    have HB := n3_
    clear n0_ n1_ n2_ n3_
    refine start_ (n := 21) (S := fun w' => w'.cell? ⟨gb228, 0, none⟩ = some (.int .u64 t226) ∧ w'.cell? ⟨gb228, 1, none⟩ = some (.int .u64 t227) ∧ w'.cell? ⟨gb219, 0, none⟩ = some (.int .u64 a4_0) ∧ w'.cell? ⟨gb219, 1, none⟩ = some (.int .u64 a4_1) ∧ w'.cell? ⟨gb219, 2, none⟩ = some (.int .u64 a4_2) ∧ w'.cell? ⟨gb220, 0, none⟩ = some (.int .u64 a5_0) ∧ w'.cell? ⟨gb220, 1, none⟩ = some (.int .u64 a5_1) ∧ w'.cell? ⟨gb220, 2, none⟩ = some (.int .u64 a5_2)) (ds := []) #[false, false, false, false, false, false, false, false, false, false, false, false, false, false, false, false, false, false, false, false, false] (by kernel_rfl) rfl rfl ⟨(blk_cell BK228.out 0).trans rfl, (blk_cell BK228.out 1).trans rfl, (blk_cell BK219.out 0).trans rfl, (blk_cell BK219.out 1).trans rfl, (blk_cell BK219.out 2).trans rfl, (blk_cell BK220.out 0).trans rfl, (blk_cell BK220.out 1).trans rfl, (blk_cell BK220.out 2).trans rfl⟩ (fun hHeld => ?_); refine with_tabW symbolonlaw12_BeaverAny.tab4 symbolonlaw12_BeaverAny.bits4 (fun HT_ HW_ => ?_)
    generalize w30.drew = w31 at BK219 BK220 BK228 HB hHeld ⊢
    refine pure_ (i := 0) (N := some 43) (v := ?_) (a' := ?_) #[true, false, false, false, false, false, false, false, false, false, false, false, false, false, false, false, false, false, false, false, false] rfl rfl (any_of HT_.out (by kernel_rfl)) (fun _ _ _ h => h) (Or.inl ⟨by rfl, ?_⟩) ?_ ?_
    rotate_left
    · intro w'
      go_simp
      with_reducible rfl
    rotate_left
    · simp only [Act.put, List.setIfInBounds_toArray, List.set_cons_zero, List.set_cons_succ, i64_w, i32_w]
      rfl
    refine pure_ (i := 1) (N := some 44) (v := ?_) (a' := ?_) #[true, true, false, false, false, false, false, false, false, false, false, false, false, false, false, false, false, false, false, false, false] rfl rfl (any_of HT_.out (by kernel_rfl)) (fun _ _ _ h => h) (Or.inl ⟨by rfl, ?_⟩) ?_ ?_
    rotate_left
    · intro w'
      go_simp
      with_reducible rfl
    rotate_left
    · simp only [Act.put, List.setIfInBounds_toArray, List.set_cons_zero, List.set_cons_succ, i64_w, i32_w]
      rfl
    refine pure_ (i := 9) (N := some 52) (v := ?_) (a' := ?_) #[true, true, false, false, false, false, false, false, false, true, false, false, false, false, false, false, false, false, false, false, false] rfl rfl (any_of HT_.out (by kernel_rfl)) (fun _ _ _ h => h) (Or.inl ⟨by rfl, ?_⟩) ?_ ?_
    rotate_left
    · intro w'
      go_simp
      with_reducible rfl
    rotate_left
    · simp only [Act.put, List.setIfInBounds_toArray, List.set_cons_zero, List.set_cons_succ, i64_w, i32_w]
      rfl
    refine pure_ (i := 10) (N := some 53) (v := ?_) (a' := ?_) #[true, true, false, false, false, false, false, false, false, true, true, false, false, false, false, false, false, false, false, false, false] rfl rfl (any_of HT_.out (by kernel_rfl)) (fun _ _ _ h => h) (Or.inl ⟨by rfl, ?_⟩) ?_ ?_
    rotate_left
    · intro w'
      go_simp
      with_reducible rfl
    rotate_left
    · simp only [Act.put, List.setIfInBounds_toArray, List.set_cons_zero, List.set_cons_succ, i64_w, i32_w]
      rfl
    refine pure_ (i := 11) (N := some 54) (v := ?_) (a' := ?_) #[true, true, false, false, false, false, false, false, false, true, true, true, false, false, false, false, false, false, false, false, false] rfl rfl (any_of HT_.out (by kernel_rfl)) (fun _ _ _ h => h) (Or.inl ⟨by rfl, ?_⟩) ?_ ?_
    rotate_left
    · intro w'
      go_simp
      with_reducible rfl
    rotate_left
    · simp only [Act.put, List.setIfInBounds_toArray, List.set_cons_zero, List.set_cons_succ, i64_w, i32_w]
      rfl
    refine pure_ (i := 12) (N := some 55) (v := ?_) (a' := ?_) #[true, true, false, false, false, false, false, false, false, true, true, true, true, false, false, false, false, false, false, false, false] rfl rfl (any_of HT_.out (by kernel_rfl)) (fun _ _ _ h => h) (Or.inl ⟨by rfl, ?_⟩) ?_ ?_
    rotate_left
    · intro w'
      go_simp
      with_reducible rfl
    rotate_left
    · simp only [Act.put, List.setIfInBounds_toArray, List.set_cons_zero, List.set_cons_succ, i64_w, i32_w]
      rfl
    refine pure_ (i := 13) (N := some 56) (v := ?_) (a' := ?_) #[true, true, false, false, false, false, false, false, false, true, true, true, true, true, false, false, false, false, false, false, false] rfl rfl (any_of HT_.out (by kernel_rfl)) (fun _ _ _ h => h) (Or.inl ⟨by rfl, ?_⟩) ?_ ?_
    rotate_left
    · intro w'
      go_simp
      with_reducible rfl
    rotate_left
    · simp only [Act.put, List.setIfInBounds_toArray, List.set_cons_zero, List.set_cons_succ, i64_w, i32_w]
      rfl
    refine pure_ (i := 14) (N := some 57) (v := ?_) (a' := ?_) #[true, true, false, false, false, false, false, false, false, true, true, true, true, true, true, false, false, false, false, false, false] rfl rfl (any_of HT_.out (by kernel_rfl)) (fun _ _ _ h => h) (Or.inl ⟨by rfl, ?_⟩) ?_ ?_
    rotate_left
    · intro w'
      go_simp
      with_reducible rfl
    rotate_left
    · simp only [Act.put, List.setIfInBounds_toArray, List.set_cons_zero, List.set_cons_succ, i64_w, i32_w]
      rfl
    refine pure_ (i := 15) (N := some 58) (v := ?_) (a' := ?_) #[true, true, false, false, false, false, false, false, false, true, true, true, true, true, true, true, false, false, false, false, false] rfl rfl (any_of HT_.out (by kernel_rfl)) (fun _ _ _ h => h) (Or.inl ⟨by rfl, ?_⟩) ?_ ?_
    rotate_left
    · intro w'
      go_simp
      with_reducible rfl
    rotate_left
    · simp only [Act.put, List.setIfInBounds_toArray, List.set_cons_zero, List.set_cons_succ, i64_w, i32_w]
      rfl
    refine pure_ (i := 16) (N := some 59) (v := ?_) (a' := ?_) #[true, true, false, false, false, false, false, false, false, true, true, true, true, true, true, true, true, false, false, false, false] rfl rfl (any_of HT_.out (by kernel_rfl)) (fun _ _ _ h => h) (Or.inl ⟨by rfl, ?_⟩) ?_ ?_
    rotate_left
    · intro w'
      go_simp
      with_reducible rfl
    rotate_left
    · simp only [Act.put, List.setIfInBounds_toArray, List.set_cons_zero, List.set_cons_succ, i64_w, i32_w]
      rfl
    refine pure_ (i := 17) (N := some 60) (v := ?_) (a' := ?_) #[true, true, false, false, false, false, false, false, false, true, true, true, true, true, true, true, true, true, false, false, false] rfl rfl (any_of HT_.out (by kernel_rfl)) (fun _ _ _ h => h) (Or.inl ⟨by rfl, ?_⟩) ?_ ?_
    rotate_left
    · intro w'
      go_simp
      with_reducible rfl
    rotate_left
    · simp only [Act.put, List.setIfInBounds_toArray, List.set_cons_zero, List.set_cons_succ, i64_w, i32_w]
      rfl
    refine take_ (i := 2) (N := some 45) (v := ?_) (a' := ?_) #[true, true, true, false, false, false, false, false, false, true, true, true, true, true, true, true, true, true, false, false, false] rfl rfl (take_ofW HT_.out HW_.out (by kernel_rfl)) (fun _ _ _ h => h) (Or.inl ⟨by rfl, ?_⟩) hHeld ?_ ?_
    rotate_left
    · rintro w' ⟨s0, s1, s2, s3, s4, s5, s6, s7⟩
      go_simp
      with_reducible rfl
    rotate_left
    · simp only [Act.put, List.setIfInBounds_toArray, List.set_cons_zero, List.set_cons_succ, i64_w, i32_w]
      rfl
    refine take_ (i := 3) (N := some 46) (v := ?_) (a' := ?_) #[true, true, true, true, false, false, false, false, false, true, true, true, true, true, true, true, true, true, false, false, false] rfl rfl (take_ofW HT_.out HW_.out (by kernel_rfl)) (fun _ _ _ h => h) (Or.inl ⟨by rfl, ?_⟩) hHeld ?_ ?_
    rotate_left
    · rintro w' ⟨s0, s1, s2, s3, s4, s5, s6, s7⟩
      go_simp
      with_reducible rfl
    rotate_left
    · simp only [Act.put, List.setIfInBounds_toArray, List.set_cons_zero, List.set_cons_succ, i64_w, i32_w]
      rfl
    refine take_ (i := 5) (N := some 48) (v := ?_) (a' := ?_) #[true, true, true, true, false, true, false, false, false, true, true, true, true, true, true, true, true, true, false, false, false] rfl rfl (take_ofW HT_.out HW_.out (by kernel_rfl)) (fun _ _ _ h => h) (Or.inl ⟨by rfl, ?_⟩) hHeld ?_ ?_
    rotate_left
    · rintro w' ⟨s0, s1, s2, s3, s4, s5, s6, s7⟩
      go_simp
      with_reducible rfl
    rotate_left
    · simp only [Act.put, List.setIfInBounds_toArray, List.set_cons_zero, List.set_cons_succ, i64_w, i32_w]
      rfl
    refine take_ (i := 6) (N := some 49) (v := ?_) (a' := ?_) #[true, true, true, true, false, true, true, false, false, true, true, true, true, true, true, true, true, true, false, false, false] rfl rfl (take_ofW HT_.out HW_.out (by kernel_rfl)) (fun _ _ _ h => h) (Or.inl ⟨by rfl, ?_⟩) hHeld ?_ ?_
    rotate_left
    · rintro w' ⟨s0, s1, s2, s3, s4, s5, s6, s7⟩
      go_simp
      with_reducible rfl
    rotate_left
    · simp only [Act.put, List.setIfInBounds_toArray, List.set_cons_zero, List.set_cons_succ, i64_w, i32_w]
      rfl
    refine one_ (i := 4) (N := some 47) #[true, true, true, true, true, true, true, false, false, true, true, true, true, true, true, true, true, true, false, false, false] rfl rfl (one_of HT_.out (by kernel_rfl)) (by decide) (fun K hK => ?_)
    refine goes_ Try.func14 (by kernel_rfl) rfl #[.int .i64 0, .agg #[.int .u64 t226, .int .u64 t227], .agg #[.int .u64 a4_0, .int .u64 a4_1, .int .u64 a4_2]] (by rfl) rfl rfl (by (try simp only [List.map_toArray, List.map_cons, List.map_nil]); first | done | rfl | (simp only [List.length_drop, List.length_take]; rfl)) ?_
    with_reducible refine (beaver_Close.calls 0 t226 t227 a4_0 a4_1 a4_2 t229 _ A12.out).mono ?_
    rintro e w32 ⟨rfl, hb⟩
    refine ⟨_, rfl, ?_⟩
    have n0_ := Aside0.mk (blk_below (g := gb219) (o := .cells #[.int .u64 a4_0, .int .u64 a4_1, .int .u64 a4_2] 24 (0, 0)) (by (with_reducible repeat (first | refine blk_drewN ?_ _ | refine blk_drew ?_ | refine blk_alloc ?_ _)); exact BK219.out) hb)
    have n1_ := Aside0.mk (blk_below (g := gb220) (o := .cells #[.int .u64 a5_0, .int .u64 a5_1, .int .u64 a5_2] 24 (0, 0)) (by (with_reducible repeat (first | refine blk_drewN ?_ _ | refine blk_drew ?_ | refine blk_alloc ?_ _)); exact BK220.out) hb)
    have n2_ := Aside0.mk (blk_below (g := gb228) (o := .cells #[.int .u64 t226, .int .u64 t227] 26 (0, 0)) (by (with_reducible repeat (first | refine blk_drewN ?_ _ | refine blk_drew ?_ | refine blk_alloc ?_ _)); exact BK228.out) hb)
    have n3_ := Aside0.mk (below_step (by repeat (first | (with_reducible first | exact HB.out | apply below_alloc | apply pw_below_drewN | apply below_drew1 | refine below_set ?_ GE219.out | refine below_set ?_ GE220.out | refine below_set ?_ GE228.out) | exact HB.out)) hb)
    clear BK219
    clear BK220
    clear BK228
    clear HB
    have BK219 := n0_
    have BK220 := n1_
    have BK228 := n2_
    have HB := n3_
    clear n0_ n1_ n2_ n3_
    (try clear hb)
    (try clear hb2)
    (try clear hk)
    (try clear hi)
    refine hK.out _ _ ⟨(blk_cell BK228.out 0).trans rfl, (blk_cell BK228.out 1).trans rfl, (blk_cell BK219.out 0).trans rfl, (blk_cell BK219.out 1).trans rfl, (blk_cell BK219.out 2).trans rfl, (blk_cell BK220.out 0).trans rfl, (blk_cell BK220.out 1).trans rfl, (blk_cell BK220.out 2).trans rfl⟩ (fun hHeld => ?_)
    clear hK K
    refine norm_ (a' := ?_) ?_ ?_
    rotate_left
    · show Act.put _ (some 47) _ = _
      simp only [Act.put, List.setIfInBounds_toArray, List.set_cons_zero, List.set_cons_succ, i64_w, i32_w]
      rfl
    refine one_ (i := 7) (N := some 50) #[true, true, true, true, true, true, true, true, false, true, true, true, true, true, true, true, true, true, false, false, false] rfl rfl (one_of HT_.out (by kernel_rfl)) (by decide) (fun K hK => ?_)
    refine goes_ Try.func14 (by kernel_rfl) rfl #[.int .i64 1, .agg #[.int .u64 t226, .int .u64 t227], .agg #[.int .u64 a5_0, .int .u64 a5_1, .int .u64 a5_2]] (by rfl) rfl rfl (by (try simp only [List.map_toArray, List.map_cons, List.map_nil]); first | done | rfl | (simp only [List.length_drop, List.length_take]; rfl)) ?_
    with_reducible refine (beaver_Close.calls 1 t226 t227 a5_0 a5_1 a5_2 t230 _ A13.out).mono ?_
    rintro e w33 ⟨rfl, hb⟩
    refine ⟨_, rfl, ?_⟩
    have n0_ := Aside0.mk (blk_below (g := gb219) (o := .cells #[.int .u64 a4_0, .int .u64 a4_1, .int .u64 a4_2] 24 (0, 0)) (by (with_reducible repeat (first | refine blk_drewN ?_ _ | refine blk_drew ?_ | refine blk_alloc ?_ _)); exact BK219.out) hb)
    have n1_ := Aside0.mk (blk_below (g := gb220) (o := .cells #[.int .u64 a5_0, .int .u64 a5_1, .int .u64 a5_2] 24 (0, 0)) (by (with_reducible repeat (first | refine blk_drewN ?_ _ | refine blk_drew ?_ | refine blk_alloc ?_ _)); exact BK220.out) hb)
    have n2_ := Aside0.mk (blk_below (g := gb228) (o := .cells #[.int .u64 t226, .int .u64 t227] 26 (0, 0)) (by (with_reducible repeat (first | refine blk_drewN ?_ _ | refine blk_drew ?_ | refine blk_alloc ?_ _)); exact BK228.out) hb)
    have n3_ := Aside0.mk (below_step (by repeat (first | (with_reducible first | exact HB.out | apply below_alloc | apply pw_below_drewN | apply below_drew1 | refine below_set ?_ GE219.out | refine below_set ?_ GE220.out | refine below_set ?_ GE228.out) | exact HB.out)) hb)
    clear BK219
    clear BK220
    clear BK228
    clear HB
    have BK219 := n0_
    have BK220 := n1_
    have BK228 := n2_
    have HB := n3_
    clear n0_ n1_ n2_ n3_
    (try clear hb)
    (try clear hb2)
    (try clear hk)
    (try clear hi)
    refine hK.out _ _ ⟨(blk_cell BK228.out 0).trans rfl, (blk_cell BK228.out 1).trans rfl, (blk_cell BK219.out 0).trans rfl, (blk_cell BK219.out 1).trans rfl, (blk_cell BK219.out 2).trans rfl, (blk_cell BK220.out 0).trans rfl, (blk_cell BK220.out 1).trans rfl, (blk_cell BK220.out 2).trans rfl⟩ (fun hHeld => ?_)
    clear hK K
    refine norm_ (a' := ?_) ?_ ?_
    rotate_left
    · show Act.put _ (some 50) _ = _
      simp only [Act.put, List.setIfInBounds_toArray, List.set_cons_zero, List.set_cons_succ, i64_w, i32_w]
      rfl
    refine pure_ (i := 8) (N := some 51) (v := ?_) (a' := ?_) #[true, true, true, true, true, true, true, true, true, true, true, true, true, true, true, true, true, true, false, false, false] rfl rfl (any_of HT_.out (by kernel_rfl)) (fun _ _ _ h => h) (Or.inl ⟨by rfl, ?_⟩) ?_ ?_
    rotate_left
    · intro w'
      go_simp
      with_reducible rfl
    rotate_left
    · simp only [Act.put, List.setIfInBounds_toArray, List.set_cons_zero, List.set_cons_succ, i64_w, i32_w]
      rfl
    refine pure_ (i := 18) (N := some 61) (v := ?_) (a' := ?_) #[true, true, true, true, true, true, true, true, true, true, true, true, true, true, true, true, true, true, true, false, false] rfl rfl (any_of HT_.out (by kernel_rfl)) (fun _ _ _ h => h) (Or.inl ⟨by rfl, ?_⟩) ?_ ?_
    rotate_left
    · intro w'
      go_simp
      with_reducible rfl
    rotate_left
    · simp only [Act.put, List.setIfInBounds_toArray, List.set_cons_zero, List.set_cons_succ, i64_w, i32_w]
      rfl
    refine pure_ (i := 19) (N := some 62) (v := ?_) (a' := ?_) #[true, true, true, true, true, true, true, true, true, true, true, true, true, true, true, true, true, true, true, true, false] rfl rfl (any_of HT_.out (by kernel_rfl)) (fun _ _ _ h => h) (Or.inl ⟨by rfl, ?_⟩) ?_ ?_
    rotate_left
    · intro w'
      go_simp
      with_reducible rfl
    rotate_left
    · simp only [Act.put, List.setIfInBounds_toArray, List.set_cons_zero, List.set_cons_succ, i64_w, i32_w]
      rfl
    refine pure_ (i := 20) (N := some 12) (v := ?_) (a' := ?_) #[true, true, true, true, true, true, true, true, true, true, true, true, true, true, true, true, true, true, true, true, true] rfl rfl (any_of HT_.out (by kernel_rfl)) (fun _ _ _ h => h) (Or.inl ⟨by rfl, ?_⟩) ?_ ?_
    rotate_left
    · intro w'
      go_simp
      with_reducible rfl
    rotate_left
    · simp only [Act.put, List.setIfInBounds_toArray, List.set_cons_zero, List.set_cons_succ, i64_w, i32_w]
      rfl
    refine done_ (done_of HT_.out (by kernel_rfl)) ?_
    try go_wp2
    go_ret
    exact ⟨by first | rfl | (simp [errW_none, errW_some] <;> rfl) | (simp [*, errW_none, errW_some] <;> rfl), by repeat (first | (with_reducible first | exact HB.out | apply below_alloc | apply pw_below_drewN | apply below_drew1 | refine below_set ?_ GE219.out | refine below_set ?_ GE220.out | refine below_set ?_ GE228.out) | exact HB.out)⟩
  · replace c11 := Bool.eq_false_iff.mpr c11
    subst c11
    have H1 : (none) = some r := by rw [if_neg (show ¬ (false = true) by decide)] at H; exact H
    clear H
    have H := H1
    clear H1
    exact absurd H (by simp)

/-- THE ONE PURE STATEMENT of symbolonlaw12_BeaverAny. -/
def symbolonlaw12_BeaverAny.Pure : Prop := ∀ (a0 : Int) (a1 : Int) (a2 : Int) (a3 : Int) (a4_0 : Int) (a4_1 : Int) (a4_2 : Int) (a5_0 : Int) (a5_1 : Int) (a5_2 : Int), ((Lit.int .u64 a0).wf = true) → ((Lit.int .u64 a1).wf = true) → ((Lit.int .u64 a2).wf = true) → ((Lit.int .u64 a3).wf = true) → ((Lit.int .u64 a4_0).wf = true) → ((Lit.int .u64 a4_1).wf = true) → ((Lit.int .u64 a4_2).wf = true) → ((Lit.int .u64 a5_0).wf = true) → ((Lit.int .u64 a5_1).wf = true) → ((Lit.int .u64 a5_2).wf = true) → ∃ k, symbolonlaw12_BeaverAny.f k a0 a1 a2 a3 a4_0 a4_1 a4_2 a5_0 a5_1 a5_2 = some true
theorem symbolonlaw12_BeaverAny.walk (P : symbolonlaw12_BeaverAny.Pure) (a0 : Int) (a1 : Int) (a2 : Int) (a3 : Int) (a4_0 : Int) (a4_1 : Int) (a4_2 : Int) (a5_0 : Int) (a5_1 : Int) (a5_2 : Int) (w : World) (w0 : (Lit.int .u64 a0).wf = true) (w1 : (Lit.int .u64 a1).wf = true) (w2 : (Lit.int .u64 a2).wf = true) (w3 : (Lit.int .u64 a3).wf = true) (w4_0 : (Lit.int .u64 a4_0).wf = true) (w4_1 : (Lit.int .u64 a4_1).wf = true) (w4_2 : (Lit.int .u64 a4_2).wf = true) (w5_0 : (Lit.int .u64 a5_0).wf = true) (w5_1 : (Lit.int .u64 a5_1).wf = true) (w5_2 : (Lit.int .u64 a5_2).wf = true) :
    Calls Try.prog 5 #[.int .u64 a0, .int .u64 a1, .int .u64 a2, .int .u64 a3, .agg #[.int .u64 a4_0, .int .u64 a4_1, .int .u64 a4_2], .agg #[.int .u64 a5_0, .int .u64 a5_1, .int .u64 a5_2]] w fun e w' => e = .returned (.bool true) ∧ Below w.heap.size w w' := by
  obtain ⟨k, h⟩ := P a0 a1 a2 a3 a4_0 a4_1 a4_2 a5_0 a5_1 a5_2 w0 w1 w2 w3 w4_0 w4_1 w4_2 w5_0 w5_1 w5_2
  refine (symbolonlaw12_BeaverAny.calls k a0 a1 a2 a3 a4_0 a4_1 a4_2 a5_0 a5_1 a5_2 true w h).mono ?_
  rintro e w' ⟨rfl, hd⟩
  exact ⟨rfl, hd⟩

end Go.Proofs.Ytgbabmenfegepaa.Q
