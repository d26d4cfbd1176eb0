/-
Words for the walks of Conv and Pool: a number within two, a captured variable in a later world, three blocks of shapes. No condition.
-/
import Derived.Test.YthoahkpbbepneaaQ0
import Derived.Test.YthoahkpbbepneaaQ2
import Derived.Test.YthoahkpbbepneaaQ3
import Derived.Deep.RegionWith
import Derived.WalkSpells
import Derived.WalkLawsBesides
import Derived.Lib.Hide
namespace Go.Proofs.Ythoahkpbbepneaa.S
open Go.RowKit Go.Proofs.YthoahkpbbepneaaW.PrintWords Go.Proofs.Ythoahkpbbepneaa.Q
set_option linter.unusedVariables false
set_option linter.unusedSimpArgs false
theorem within_yes (n a b : Int) (w : World) (h1 : a ≤ n) (h2 : n ≤ b) : Calls Try.prog 23 #[.int .i64 n, .int .i64 a, .int .i64 b] w fun e w' => e = .returned (.bool true) ∧ Drawn0 w w' :=
  shape_within.calls n a b true w (by unfold shape_within.f; rw [if_pos h1, decide_eq_true h2])
theorem within_no (n a b : Int) (w : World) (h : ¬ (a ≤ n ∧ n ≤ b)) : Calls Try.prog 23 #[.int .i64 n, .int .i64 a, .int .i64 b] w fun e w' => e = .returned (.bool false) ∧ Drawn0 w w' :=
  shape_within.calls n a b false w (by
    unfold shape_within.f
    by_cases h1 : n ≥ a
    · rw [if_pos h1, decide_eq_false (fun h2 => h ⟨h1, h2⟩)]
    · rw [if_neg h1])
/-- A captured variable's number, in any later world. -/
structure Has (w : World) (b : Nat) (n : Int) : Prop where mk :: (out : w.cell? ⟨b, 0, none⟩ = some (.int .i64 n))
theorem Has.below {w w1 : World} {b : Nat} {n : Int} (h : Has w b n) (hb : Below w.heap.size w w1) : Has w1 b n := ⟨pw_cell_below hb h.out⟩
theorem Has.alloc {w : World} {b : Nat} {n : Int} (h : Has w b n) (o : Obj) : Has (w.alloc o) b n := h.below (below_alloc (Below.refl _ _) o)
theorem Has.drew {w : World} {b : Nat} {n : Int} (h : Has w b n) : Has w.drew b n := h.below (below_drew1 (Below.refl _ _))
theorem Has.drewN {w : World} {b : Nat} {n : Int} (h : Has w b n) (m : Nat) : Has (w.drewN m) b n := h.below (pw_below_drewN (Below.refl _ _) m)
theorem new1 (w : World) (o1 o2 : Obj) : ((w.alloc o1).alloc o2).heap[w.heap.size + 1]? = some o2 := by
  have h := heap_alloc_new (w.alloc o1) o2
  simpa using h
theorem new2 (w : World) (o1 o2 o3 : Obj) (m : Nat) : ((((w.alloc o1).alloc o2).drewN m).alloc o3).heap[w.heap.size + 1 + 1]? = some o3 := by
  have h := heap_alloc_new (((w.alloc o1).alloc o2).drewN m) o3
  simpa using h
theorem new3 (w : World) (o1 o2 o3 : Obj) : (((w.alloc o1).alloc o2).alloc o3).heap[w.heap.size + 1 + 1]? = some o3 := by
  have h := heap_alloc_new ((w.alloc o1).alloc o2) o3
  simpa using h
theorem new4 (w : World) (o1 o2 o3 o4 : Obj) : ((((w.alloc o1).alloc o2).alloc o3).alloc o4).heap[w.heap.size + 1 + 1 + 1]? = some o4 := by
  have h := heap_alloc_new (((w.alloc o1).alloc o2).alloc o3) o4
  simpa using h
/-- What the region of 'sized' leaves: three blocks of shapes, of which the third one is new. -/
structure Rel (w wx : World) (g : Nat) (c h x p q r : Int) : Prop where mk ::
  (s : wx.heap[w.heap.size]? = some (.cells #[.int .i64 c, .int .i64 h, .int .i64 x] 23 (0, 0)))
  (z : wx.heap[w.heap.size + 1]? = some (.cells #[.int .i64 0, .int .i64 0, .int .i64 0] 23 (0, 0)))
  (t : wx.heap[g]? = some (.cells #[.int .i64 p, .int .i64 q, .int .i64 r] 23 (0, 0)))
  (g : w.heap.size + 1 < g)
  (b : Below w.heap.size w wx)
theorem rel1 (w : World) (c h x p q r : Int) (m : Nat) : Rel w ((((w.alloc (.cells #[.int .i64 c, .int .i64 h, .int .i64 x] 23)).alloc (.cells #[.int .i64 0, .int .i64 0, .int .i64 0] 23)).drewN m).alloc (.cells #[.int .i64 p, .int .i64 q, .int .i64 r] 23)) (w.heap.size + 1 + 1) c h x p q r where
  s := blk_alloc (blk_drewN (blk_alloc (heap_alloc_new w _) _) m) _
  z := blk_alloc (blk_drewN (new1 w _ _) m) _
  t := new2 w _ _ _ m
  g := by omega
  b := below_alloc (pw_below_drewN (below_alloc (below_alloc (Below.refl _ _) _) _) m) _
theorem rel2 (w : World) (c h x p q r : Int) (m k : Nat) : Rel w ((((((((w.alloc (.cells #[.int .i64 c, .int .i64 h, .int .i64 x] 23)).alloc (.cells #[.int .i64 0, .int .i64 0, .int .i64 0] 23)).drewN m).alloc (.cells #[.int .i64 0, .int .i64 0, .int .i64 0] 23)).drewN k).setCell ⟨w.heap.size + 1 + 1, 0, none⟩ (.int .i64 p)).setCell ⟨w.heap.size + 1 + 1, 1, none⟩ (.int .i64 q)).setCell ⟨w.heap.size + 1 + 1, 2, none⟩ (.int .i64 r)) (w.heap.size + 1 + 1) c h x p q r where
  s := blk_far (blk_far (blk_far (blk_drewN (blk_alloc (blk_drewN (blk_alloc (heap_alloc_new w _) _) m) _) k) (by simp; omega) _) (by simp; omega) _) (by simp; omega) _
  z := blk_far (blk_far (blk_far (blk_drewN (blk_alloc (blk_drewN (new1 w _ _) m) _) k) (by simp) _) (by simp) _) (by simp) _
  t := blk_put (blk_put (blk_put (blk_drewN (new2 w _ _ _ m) k) 0 _ rfl) 1 _ rfl) 2 _ rfl
  g := by omega
  b := below_set (below_set (below_set (pw_below_drewN (below_alloc (pw_below_drewN (below_alloc (below_alloc (Below.refl _ _) _) _) m) _) k) (by omega)) (by omega)) (by omega)
theorem rel3 (w : World) (c h x p q r : Int) (k : Nat) : Rel w (((((((w.alloc (.cells #[.int .i64 c, .int .i64 h, .int .i64 x] 23)).alloc (.cells #[.int .i64 0, .int .i64 0, .int .i64 0] 23)).alloc (.cells #[.int .i64 0, .int .i64 0, .int .i64 0] 23)).drewN k).setCell ⟨w.heap.size + 1 + 1, 0, none⟩ (.int .i64 p)).setCell ⟨w.heap.size + 1 + 1, 1, none⟩ (.int .i64 q)).setCell ⟨w.heap.size + 1 + 1, 2, none⟩ (.int .i64 r)) (w.heap.size + 1 + 1) c h x p q r where
  s := blk_far (blk_far (blk_far (blk_drewN (blk_alloc (blk_alloc (heap_alloc_new w _) _) _) k) (by simp; omega) _) (by simp; omega) _) (by simp; omega) _
  z := blk_far (blk_far (blk_far (blk_drewN (blk_alloc (new1 w _ _) _) k) (by simp) _) (by simp) _) (by simp) _
  t := blk_put (blk_put (blk_put (blk_drewN (new3 w _ _ _) k) 0 _ rfl) 1 _ rfl) 2 _ rfl
  g := by omega
  b := below_set (below_set (below_set (pw_below_drewN (below_alloc (below_alloc (below_alloc (Below.refl _ _) _) _) _) k) (by omega)) (by omega)) (by omega)
end Go.Proofs.Ythoahkpbbepneaa.S
