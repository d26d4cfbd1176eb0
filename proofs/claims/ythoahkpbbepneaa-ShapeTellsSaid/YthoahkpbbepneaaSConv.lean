/-
shape.Conv comes to 'conv', a plain function of numbers. No condition.
-/
import Derived.Test.YthoahkpbbepneaaSConvSized
namespace Go.Proofs.Ythoahkpbbepneaa.S
open Go.RowKit Go.Proofs.YthoahkpbbepneaaW.PrintWords Go.Proofs.Ythoahkpbbepneaa.Q
set_option linter.unusedVariables false
set_option linter.unusedSimpArgs false
/-- Conv, as the code has it. -/
def conv (c h x ch size step : Int) : Option (Int × Int × Int × Bool) := (shape_Right.f c h x).bind fun r1 => (shape_Right.f ch (side h size step) (side x size step)).bind fun r2 => if r1 && r2 then some (ch, side h size step, side x size step, true) else some (0, 0, 0, false)
set_option maxHeartbeats 4000000 in
theorem conv_calls (a0_0 a0_1 a0_2 a1 a2 a3 r1 r2 r3 : Int) (r4 : Bool) (w : World) (h : conv a0_0 a0_1 a0_2 a1 a2 a3 = some (r1, r2, r3, r4)) :
    Calls Try.prog 13 #[.agg #[.int .i64 a0_0, .int .i64 a0_1, .int .i64 a0_2], .int .i64 a1, .int .i64 a2, .int .i64 a3] w fun e w' => e = .returned (.tuple #[.agg #[.int .i64 r1, .int .i64 r2, .int .i64 r3], .bool r4]) ∧ Below w.heap.size w w' := by
  unfold conv at h
  obtain ⟨q1, g1, h⟩ := Option.bind_eq_some_iff.mp h
  obtain ⟨q2, g2, h⟩ := Option.bind_eq_some_iff.mp h
  have hend : (if q1 && q2 then .tuple #[.agg #[.int .i64 a1, .int .i64 (side a0_1 a2 a3), .int .i64 (side a0_2 a2 a3)], .bool true] else .tuple #[.agg #[.int .i64 0, .int .i64 0, .int .i64 0], .bool false] : Value) = .tuple #[.agg #[.int .i64 r1, .int .i64 r2, .int .i64 r3], .bool r4] := by
    by_cases hq : (q1 && q2) = true
    · rw [if_pos hq] at h ⊢
      simp only [Option.some.injEq, Prod.mk.injEq] at h
      obtain ⟨rfl, rfl, rfl, rfl⟩ := h
      rfl
    · rw [if_neg hq] at h ⊢
      simp only [Option.some.injEq, Prod.mk.injEq] at h
      obtain ⟨rfl, rfl, rfl, rfl⟩ := h
      rfl
  have HE := Lib.hid hend
  have G1 := Lib.hid g1
  have G2 := Lib.hid g2
  clear hend h g1 g2
  have hu23 := Try.underlying23
  have hmf : ∀ (fn : Fn) (first cap : Array Value) (w : World), (Instr.makeFunc fn first cap).run Try.prog w = .ok (.func fn first cap) w := fun _ _ _ _ => rfl
  go_enter Try.func13, Try.ntmps13
  go_wp2_with fail
  refine (sized_conv _ _ _ _ a2 a3 q1 q2 _ _ _ ⟨(blk_cell (blk_alloc (blk_alloc (new1 w _ _) _) _) 0).trans rfl⟩ ⟨(blk_cell (blk_alloc (new3 w _ _ _) _) 0).trans rfl⟩ G1.out G2.out).mono ?_
  rintro e w1 ⟨rfl, hb⟩
  rw [HE.out]
  have B1 := blk_below (new4 w _ _ _ _) hb
  have HB := below_step (below_alloc (below_alloc (below_alloc (below_alloc (Below.refl w.heap.size w) _) _) _) _) hb
  have k0 : w1.cell? ⟨w.heap.size + 1 + 1 + 1, 0, none⟩ = some (.int .i64 0) := (blk_cell B1 0).trans rfl
  have k1 : w1.cell? ⟨w.heap.size + 1 + 1 + 1, 1, none⟩ = some (.int .i64 0) := (blk_cell B1 1).trans rfl
  have k2 : w1.cell? ⟨w.heap.size + 1 + 1 + 1, 2, none⟩ = some (.int .i64 0) := (blk_cell B1 2).trans rfl
  have z0 := blk_frozen B1 0
  have z1 := blk_frozen B1 1
  have z2 := blk_frozen B1 2
  go_wp2_with fail
  refine bodyPost_ret (results_ct rfl _ _ (w.heap.size + 1 + 1 + 1) 23 #[.int .i64 r1, .int .i64 r2, .int .i64 r3] (0, 0) _ rfl (blk_put (cs := #[.int .i64 r1, .int .i64 r2, .int .i64 0]) (blk_put (cs := #[.int .i64 r1, .int .i64 0, .int .i64 0]) (blk_put B1 0 _ rfl) 1 _ rfl) 2 _ rfl) Try.underlying23 rfl (by kernel_rfl)) rfl ?_
  exact ⟨rfl, below_set (below_set (below_set HB (by omega)) (by omega)) (by omega)⟩
end Go.Proofs.Ythoahkpbbepneaa.S
