/-
'sized' under the closure of Conv. Condition: the captured variables' cells.
-/
import Derived.Test.YthoahkpbbepneaaSConvSide
namespace Go.Proofs.Ythoahkpbbepneaa.S
open Go.RowKit Go.Proofs.YthoahkpbbepneaaW.PrintWords Go.Proofs.Ythoahkpbbepneaa.Q
set_option linter.unusedVariables false
set_option linter.unusedSimpArgs false
set_option maxHeartbeats 4000000 in
theorem sized_conv (c y x ch size step : Int) (r1 r2 : Bool) (b1 b2 : Nat) (w : World) (h1 : Has w b1 size) (h2 : Has w b2 step)
    (g1 : shape_Right.f c y x = some r1) (g2 : shape_Right.f ch (side y size step) (side x size step) = some r2) :
    Calls Try.prog 24 #[.agg #[.int .i64 c, .int .i64 y, .int .i64 x], .int .i64 ch, .func (.func 25) #[] #[.pointer (some ⟨b1, 0, none⟩), .pointer (some ⟨b2, 0, none⟩)]] w fun e w' =>
      (e = .returned (if r1 && r2 then .tuple #[.agg #[.int .i64 ch, .int .i64 (side y size step), .int .i64 (side x size step)], .bool true] else .tuple #[.agg #[.int .i64 0, .int .i64 0, .int .i64 0], .bool false])) ∧ Below w.heap.size w w' := by
  have hu23 := Try.underlying23
  have G1 := Lib.hid g1
  have G2 := Lib.hid g2
  clear g1 g2
  go_enter Try.func24, Try.ntmps24
  go_upto_region 1 with fail
  go_cut [8] (fun s8 wx => ∃ g : Nat, s8 = .pointer (some ⟨g, 0, none⟩) ∧ Rel w wx g c y x ch (side y size step) (side x size step))
  case first =>
    go_region_with (first | (go_at_call 25; refine (side_calls _ size step _ _ _ ?_ ?_).mono ?_; (exact Has.out (by repeat (first | exact h1 | apply Has.drewN | apply Has.drew | apply Has.alloc))); (exact Has.out (by repeat (first | exact h2 | apply Has.drewN | apply Has.drew | apply Has.alloc))); rintro e w1 ⟨rfl, hd⟩; obtain ⟨k, rfl⟩ := hd.out))
    all_goals
      go_wp2_with fail
      go_meet
      refine ⟨w.heap.size + 1 + 1, rfl, ?_⟩
      first | (with_reducible exact rel1 _ _ _ _ _ _ _ _) | (with_reducible exact rel2 _ _ _ _ _ _ _ _ _) | (with_reducible exact rel3 _ _ _ _ _ _ _ _)
  case rest =>
    obtain ⟨g, rfl, R⟩ := hcut
    have c0 : wc.cell? ⟨w.heap.size, 0, none⟩ = some (.int .i64 c) := (blk_cell R.s 0).trans rfl
    have c1 : wc.cell? ⟨w.heap.size, 1, none⟩ = some (.int .i64 y) := (blk_cell R.s 1).trans rfl
    have c2 : wc.cell? ⟨w.heap.size, 2, none⟩ = some (.int .i64 x) := (blk_cell R.s 2).trans rfl
    go_wp2_with fail
    refine (shape_Right.calls c y x r1 _ G1.out).mono ?_
    rintro e w1 ⟨rfl, hb1⟩
    have HB := below_step R.b hb1
    have B1 := blk_below R.z hb1
    have B2 := blk_below R.t hb1
    have d0 : w1.cell? ⟨g, 0, none⟩ = some (.int .i64 ch) := (blk_cell B2 0).trans rfl
    have d1 : w1.cell? ⟨g, 1, none⟩ = some (.int .i64 (side y size step)) := (blk_cell B2 1).trans rfl
    have d2 : w1.cell? ⟨g, 2, none⟩ = some (.int .i64 (side x size step)) := (blk_cell B2 2).trans rfl
    have k0 : w1.cell? ⟨w.heap.size + 1, 0, none⟩ = some (.int .i64 0) := (blk_cell B1 0).trans rfl
    have k1 : w1.cell? ⟨w.heap.size + 1, 1, none⟩ = some (.int .i64 0) := (blk_cell B1 1).trans rfl
    have k2 : w1.cell? ⟨w.heap.size + 1, 2, none⟩ = some (.int .i64 0) := (blk_cell B1 2).trans rfl
    have z0 := blk_frozen B1 0
    have z1 := blk_frozen B1 1
    have z2 := blk_frozen B1 2
    cases r1 with
    | false =>
      go_wp2_with fail
      refine bodyPost_ret (results_ct rfl _ _ (w.heap.size + 1) 23 #[.int .i64 0, .int .i64 0, .int .i64 0] (0, 0) _ rfl (blk_put (cs := #[.int .i64 0, .int .i64 0, .int .i64 0]) (blk_put (cs := #[.int .i64 0, .int .i64 0, .int .i64 0]) (blk_put B1 0 _ rfl) 1 _ rfl) 2 _ rfl) Try.underlying23 rfl (by kernel_rfl)) rfl ?_
      exact ⟨rfl, below_set (below_set (below_set HB (by omega)) (by omega)) (by omega)⟩
    | true =>
      go_wp2_with fail
      refine (shape_Right.calls ch _ _ r2 _ G2.out).mono ?_
      rintro e w2 ⟨rfl, hb2⟩
      have HB2 := below_step HB hb2
      have B3 := blk_below B1 hb2
      have B4 := blk_below B2 hb2
      have f0 : w2.cell? ⟨g, 0, none⟩ = some (.int .i64 ch) := (blk_cell B4 0).trans rfl
      have f1 : w2.cell? ⟨g, 1, none⟩ = some (.int .i64 (side y size step)) := (blk_cell B4 1).trans rfl
      have f2 : w2.cell? ⟨g, 2, none⟩ = some (.int .i64 (side x size step)) := (blk_cell B4 2).trans rfl
      have k0 : w2.cell? ⟨w.heap.size + 1, 0, none⟩ = some (.int .i64 0) := (blk_cell B3 0).trans rfl
      have k1 : w2.cell? ⟨w.heap.size + 1, 1, none⟩ = some (.int .i64 0) := (blk_cell B3 1).trans rfl
      have k2 : w2.cell? ⟨w.heap.size + 1, 2, none⟩ = some (.int .i64 0) := (blk_cell B3 2).trans rfl
      have z0 := blk_frozen B3 0
      have z1 := blk_frozen B3 1
      have z2 := blk_frozen B3 2
      cases r2 with
      | false =>
        go_wp2_with fail
        refine bodyPost_ret (results_ct rfl _ _ (w.heap.size + 1) 23 #[.int .i64 0, .int .i64 0, .int .i64 0] (0, 0) _ rfl (blk_put (cs := #[.int .i64 0, .int .i64 0, .int .i64 0]) (blk_put (cs := #[.int .i64 0, .int .i64 0, .int .i64 0]) (blk_put B3 0 _ rfl) 1 _ rfl) 2 _ rfl) Try.underlying23 rfl (by kernel_rfl)) rfl ?_
        exact ⟨rfl, below_set (below_set (below_set HB2 (by omega)) (by omega)) (by omega)⟩
      | true =>
        go_wp2_with fail
        refine bodyPost_ret (results_ct rfl _ _ (w.heap.size + 1) 23 #[.int .i64 ch, .int .i64 (side y size step), .int .i64 (side x size step)] (0, 0) _ rfl (blk_put (cs := #[.int .i64 ch, .int .i64 (side y size step), .int .i64 0]) (blk_put (cs := #[.int .i64 ch, .int .i64 0, .int .i64 0]) (blk_put B3 0 _ rfl) 1 _ rfl) 2 _ rfl) Try.underlying23 rfl (by kernel_rfl)) rfl ?_
        exact ⟨rfl, below_set (below_set (below_set HB2 (by omega)) (by omega)) (by omega)⟩
end Go.Proofs.Ythoahkpbbepneaa.S
