-- Laid by a program of this session (wip/myprint.py) in the form of the kit's print; a text of this claim, checked by Lean like any other.
import Derived.Test.YtgbabmenfegepaaQ0
import Derived.Test.YtgbabmenfegepaaQ1
import Derived.Test.YtgbabmenfegepaaQ3
import Derived.Test.YtgbabmenfegepaaQ4
import Derived.Test.YtgbabmenfegepaaQ7
import Derived.Test.YtgbabmenfegepaaQ8
import Derived.Test.YtgbabmenfegepaaQ9
import Derived.Test.YtgbabmenfegepaaQ10
import Derived.Test.YtgbabmenfegepaaQ21
import Derived.Test.YtgbabmenfegepaaQ22
import Derived.Test.YtgbabmenfegepaaQ23
namespace Go.Proofs.Ytgbabmenfegepaa.Q
open Go.RowKit Go.Proofs.YtgbabmenfegepaaW.PrintWords Go.Proofs.YtgbabmenfegepaaW.PrintLast Go.Proofs.YtgbabmenfegepaaW.PrintMore
attribute [local go_sem] max2_int min2_int max_two min_two max_three min_three max_four min_four   -- for this text's walks alone
set_option linter.unusedVariables false
set_option linter.unusedSimpArgs false

attribute [local go_sem high] eqA26
/-! ### symbolonlaw12_BeaverRows: function 7 -/
mutual
def symbolonlaw12_BeaverRows.j0 : Nat → List Int → List Int → List Int → List Int → Int → Bool → Int → Bool → Option (Bool)
  | 0, _, _, _, _, _, _, _, _ => none
  | k + 1, x0, x1, x2, x3, x4, x11, x12, x48 => if x48 = true then (some x11) else ((symbolonref11_Row.f k x4 0 0 x12).bind fun t258 => ((symbolonref11_Row.f k x4 1 0 x12).bind fun t261 => ((beaver_Opens.f k x0 x2 t258).bind fun t264 => ((beaver_Opens.f k x1 x3 t261).bind fun t267 => (if (t264.length : Int) = x12 then (symbolonlaw12_BeaverRows.j1 k x0 x1 x2 x3 x11 x12 t258 t261 t264 t267 ((t267.length : Int) != x12)) else (symbolonlaw12_BeaverRows.j1 k x0 x1 x2 x3 x11 x12 t258 t261 t264 t267 true))))))
def symbolonlaw12_BeaverRows.j1 : Nat → List Int → List Int → List Int → List Int → Bool → Int → List (S24) → List (S24) → List (S26) → List (S26) → Bool → Option (Bool)
  | 0, _, _, _, _, _, _, _, _, _, _, _ => none
  | k + 1, x0, x1, x2, x3, x11, x12, x13, x14, x15, x16, x73 => if x73 = true then (none) else (symbolonlaw12_BeaverRows.l0 k x0 x1 x2 x3 x11 x12 x13 x14 x15 x16 ([] : List (S26)) 0)
def symbolonlaw12_BeaverRows.l0 : Nat → List Int → List Int → List Int → List Int → Bool → Int → List (S24) → List (S24) → List (S26) → List (S26) → List (S26) → Int → Option (Bool)
  | 0, _, _, _, _, _, _, _, _, _, _, _, _ => none
  | k + 1, x0, x1, x2, x3, x11, x12, x13, x14, x15, x16, x17, x18 => if x18 < x12 then (if 0 ≤ x18 then (if x18 < (x15.length : Int) then (if x18 < (x0.length : Int) then (if x18 < (x2.length : Int) then (if x18 < (x13.length : Int) then ((beaver_Open.f (rd x0 x18) (rd x2 x18) ((rd_T24 x13 x18).f0) ((rd_T24 x13 x18).f1) ((rd_T24 x13 x18).f2)).bind fun bt274 => (if (!(((rd_T26 x15 x18).f0) == bt274.1) || (!(((rd_T26 x15 x18).f1) == bt274.2))) = true then (none) else (if x18 < (x16.length : Int) then ((beaver_Sum.f ((rd_T26 x15 x18).f0) ((rd_T26 x15 x18).f1) ((rd_T26 x16 x18).f0) ((rd_T26 x16 x18).f1)).bind fun bt278 => (if x17.length < 8796093022208 then (symbolonlaw12_BeaverRows.l0 k x0 x1 x2 x3 x11 x12 x13 x14 x15 x16 (x17 ++ [(⟨bt278.1, bt278.2⟩ : S26)]) (wrap64 (x18 + 1))) else (none))) else (none)))) else (none)) else (none)) else (none)) else (none)) else (none)) else ((beaver_Closes.f k 0 x17 x13).bind fun t283 => ((beaver_Closes.f k 1 x17 x14).bind fun t286 => (if x11 = true then ((symbolonref01_Add.f k t283 t286).bind fun t289 => (if 0 ≤ x12 then (if x12 ≤ (x0.length : Int) then (if x12 ≤ (x1.length : Int) then ((symbolonref01_Add.f k (x0.take (x12 : Int).toNat) (x1.take (x12 : Int).toNat)).bind fun t294 => (if x12 ≤ (x2.length : Int) then (if x12 ≤ (x3.length : Int) then ((symbolonref01_Add.f k (x2.take (x12 : Int).toNat) (x3.take (x12 : Int).toNat)).bind fun t299 => ((symbolonref01_Mul.f k t294 t299).bind fun t302 => ((symbolonref01_Same.f k t289 t302).bind fun t305 => (if t305 = true then (if (t283.length : Int) = x12 then (if (t286.length : Int) = x12 then ((beaver_Closes.f k 0 x17 ([] : List (S24))).bind fun t306 => (some ((t306.length : Int) == 0))) else (none)) else (none)) else (none))))) else (none)) else (none))) else (none)) else (none)) else (none))) else (none))))
end
def symbolonlaw12_BeaverRows.f (k : Nat) (l0 : List Int) (l1 : List Int) (l2 : List Int) (l3 : List Int) (a4 : Int) : Option (Bool) := (symbolonlaw12_head.f k).bind fun t257 => (if (l0.length : Int) > 900 then (symbolonlaw12_BeaverRows.j0 k l0 l1 l2 l3 a4 t257 (mn (mn (mn (l0.length : Int) (l1.length : Int)) (l2.length : Int)) (l3.length : Int)) true) else (if (l1.length : Int) > 900 then (symbolonlaw12_BeaverRows.j0 k l0 l1 l2 l3 a4 t257 (mn (mn (mn (l0.length : Int) (l1.length : Int)) (l2.length : Int)) (l3.length : Int)) true) else (if (l2.length : Int) > 900 then (symbolonlaw12_BeaverRows.j0 k l0 l1 l2 l3 a4 t257 (mn (mn (mn (l0.length : Int) (l1.length : Int)) (l2.length : Int)) (l3.length : Int)) true) else (symbolonlaw12_BeaverRows.j0 k l0 l1 l2 l3 a4 t257 (mn (mn (mn (l0.length : Int) (l1.length : Int)) (l2.length : Int)) (l3.length : Int)) (decide ((l3.length : Int) > 900))))))
theorem symbolonlaw12_BeaverRows.mono_l : ∀ k, (∀ y0 y1 y2 y3 y4 y5 y6 y7, LeO (symbolonlaw12_BeaverRows.j0 k y0 y1 y2 y3 y4 y5 y6 y7) (symbolonlaw12_BeaverRows.j0 (k + 1) y0 y1 y2 y3 y4 y5 y6 y7)) ∧ (∀ y0 y1 y2 y3 y4 y5 y6 y7 y8 y9 y10, LeO (symbolonlaw12_BeaverRows.j1 k y0 y1 y2 y3 y4 y5 y6 y7 y8 y9 y10) (symbolonlaw12_BeaverRows.j1 (k + 1) y0 y1 y2 y3 y4 y5 y6 y7 y8 y9 y10)) ∧ (∀ y0 y1 y2 y3 y4 y5 y6 y7 y8 y9 y10 y11, LeO (symbolonlaw12_BeaverRows.l0 k y0 y1 y2 y3 y4 y5 y6 y7 y8 y9 y10 y11) (symbolonlaw12_BeaverRows.l0 (k + 1) y0 y1 y2 y3 y4 y5 y6 y7 y8 y9 y10 y11))
  | 0 => ⟨fun _ _ _ _ _ _ _ _ r h => by simp [symbolonlaw12_BeaverRows.j0] at h, fun _ _ _ _ _ _ _ _ _ _ _ r h => by simp [symbolonlaw12_BeaverRows.j1] at h, fun _ _ _ _ _ _ _ _ _ _ _ _ r h => by simp [symbolonlaw12_BeaverRows.l0] at h⟩
  | k + 1 => by
    obtain ⟨ih0, ih1, ih2⟩ := symbolonlaw12_BeaverRows.mono_l k
    refine ⟨?_, ?_, ?_⟩
    · intro y0 y1 y2 y3 y4 y5 y6 y7
      unfold symbolonlaw12_BeaverRows.j0
      repeat' first
      | (with_reducible exact ih0 _ _ _ _ _ _ _ _)
      | (with_reducible exact ih1 _ _ _ _ _ _ _ _ _ _ _)
      | (with_reducible exact ih2 _ _ _ _ _ _ _ _ _ _ _ _)
      | (with_reducible exact beaver_Closes.mono _ _ _ _)
      | (with_reducible exact beaver_Opens.mono _ _ _ _)
      | (with_reducible exact symbolonlaw12_head.mono _)
      | (with_reducible exact symbolonref01_Add.mono _ _ _)
      | (with_reducible exact symbolonref01_Mul.mono _ _ _)
      | (with_reducible exact symbolonref01_Same.mono _ _ _)
      | (with_reducible exact symbolonref11_Row.mono _ _ _ _ _)
      | (with_reducible exact LeO.refl _)
      | (with_reducible exact LeO.none _)
      | (with_reducible refine LeO.ite ?_ ?_)
      | (with_reducible refine LeO.bind ?_ (fun _ => ?_))
      | exact ih0 _ _ _ _ _ _ _ _
      | exact ih1 _ _ _ _ _ _ _ _ _ _ _
      | exact ih2 _ _ _ _ _ _ _ _ _ _ _ _
      | exact beaver_Closes.mono _ _ _ _
      | exact beaver_Opens.mono _ _ _ _
      | exact symbolonlaw12_head.mono _
      | exact symbolonref01_Add.mono _ _ _
      | exact symbolonref01_Mul.mono _ _ _
      | exact symbolonref01_Same.mono _ _ _
      | exact symbolonref11_Row.mono _ _ _ _ _
      | exact LeO.none _
      | refine LeO.ite ?_ ?_
      | refine LeO.bind ?_ (fun _ => ?_)
    · intro y0 y1 y2 y3 y4 y5 y6 y7 y8 y9 y10
      unfold symbolonlaw12_BeaverRows.j1
      repeat' first
      | (with_reducible exact ih0 _ _ _ _ _ _ _ _)
      | (with_reducible exact ih1 _ _ _ _ _ _ _ _ _ _ _)
      | (with_reducible exact ih2 _ _ _ _ _ _ _ _ _ _ _ _)
      | (with_reducible exact beaver_Closes.mono _ _ _ _)
      | (with_reducible exact beaver_Opens.mono _ _ _ _)
      | (with_reducible exact symbolonlaw12_head.mono _)
      | (with_reducible exact symbolonref01_Add.mono _ _ _)
      | (with_reducible exact symbolonref01_Mul.mono _ _ _)
      | (with_reducible exact symbolonref01_Same.mono _ _ _)
      | (with_reducible exact symbolonref11_Row.mono _ _ _ _ _)
      | (with_reducible exact LeO.refl _)
      | (with_reducible exact LeO.none _)
      | (with_reducible refine LeO.ite ?_ ?_)
      | (with_reducible refine LeO.bind ?_ (fun _ => ?_))
      | exact ih0 _ _ _ _ _ _ _ _
      | exact ih1 _ _ _ _ _ _ _ _ _ _ _
      | exact ih2 _ _ _ _ _ _ _ _ _ _ _ _
      | exact beaver_Closes.mono _ _ _ _
      | exact beaver_Opens.mono _ _ _ _
      | exact symbolonlaw12_head.mono _
      | exact symbolonref01_Add.mono _ _ _
      | exact symbolonref01_Mul.mono _ _ _
      | exact symbolonref01_Same.mono _ _ _
      | exact symbolonref11_Row.mono _ _ _ _ _
      | exact LeO.none _
      | refine LeO.ite ?_ ?_
      | refine LeO.bind ?_ (fun _ => ?_)
    · intro y0 y1 y2 y3 y4 y5 y6 y7 y8 y9 y10 y11
      unfold symbolonlaw12_BeaverRows.l0
      repeat' first
      | (with_reducible exact ih0 _ _ _ _ _ _ _ _)
      | (with_reducible exact ih1 _ _ _ _ _ _ _ _ _ _ _)
      | (with_reducible exact ih2 _ _ _ _ _ _ _ _ _ _ _ _)
      | (with_reducible exact beaver_Closes.mono _ _ _ _)
      | (with_reducible exact beaver_Opens.mono _ _ _ _)
      | (with_reducible exact symbolonlaw12_head.mono _)
      | (with_reducible exact symbolonref01_Add.mono _ _ _)
      | (with_reducible exact symbolonref01_Mul.mono _ _ _)
      | (with_reducible exact symbolonref01_Same.mono _ _ _)
      | (with_reducible exact symbolonref11_Row.mono _ _ _ _ _)
      | (with_reducible exact LeO.refl _)
      | (with_reducible exact LeO.none _)
      | (with_reducible refine LeO.ite ?_ ?_)
      | (with_reducible refine LeO.bind ?_ (fun _ => ?_))
      | exact ih0 _ _ _ _ _ _ _ _
      | exact ih1 _ _ _ _ _ _ _ _ _ _ _
      | exact ih2 _ _ _ _ _ _ _ _ _ _ _ _
      | exact beaver_Closes.mono _ _ _ _
      | exact beaver_Opens.mono _ _ _ _
      | exact symbolonlaw12_head.mono _
      | exact symbolonref01_Add.mono _ _ _
      | exact symbolonref01_Mul.mono _ _ _
      | exact symbolonref01_Same.mono _ _ _
      | exact symbolonref11_Row.mono _ _ _ _ _
      | exact LeO.none _
      | refine LeO.ite ?_ ?_
      | refine LeO.bind ?_ (fun _ => ?_)
theorem symbolonlaw12_BeaverRows.mono : ∀ a0 a1 a2 a3 a4 k, LeO (symbolonlaw12_BeaverRows.f k a0 a1 a2 a3 a4) (symbolonlaw12_BeaverRows.f (k + 1) a0 a1 a2 a3 a4) := by
  intro a0 a1 a2 a3 a4 k
  obtain ⟨ih0, ih1, ih2⟩ := symbolonlaw12_BeaverRows.mono_l k
  unfold symbolonlaw12_BeaverRows.f
  repeat' first
      | (with_reducible exact ih0 _ _ _ _ _ _ _ _)
      | (with_reducible exact ih1 _ _ _ _ _ _ _ _ _ _ _)
      | (with_reducible exact ih2 _ _ _ _ _ _ _ _ _ _ _ _)
      | (with_reducible exact beaver_Closes.mono _ _ _ _)
      | (with_reducible exact beaver_Opens.mono _ _ _ _)
      | (with_reducible exact symbolonlaw12_head.mono _)
      | (with_reducible exact symbolonref01_Add.mono _ _ _)
      | (with_reducible exact symbolonref01_Mul.mono _ _ _)
      | (with_reducible exact symbolonref01_Same.mono _ _ _)
      | (with_reducible exact symbolonref11_Row.mono _ _ _ _ _)
      | (with_reducible exact LeO.refl _)
      | (with_reducible exact LeO.none _)
      | (with_reducible refine LeO.ite ?_ ?_)
      | (with_reducible refine LeO.bind ?_ (fun _ => ?_))
      | exact ih0 _ _ _ _ _ _ _ _
      | exact ih1 _ _ _ _ _ _ _ _ _ _ _
      | exact ih2 _ _ _ _ _ _ _ _ _ _ _ _
      | exact beaver_Closes.mono _ _ _ _
      | exact beaver_Opens.mono _ _ _ _
      | exact symbolonlaw12_head.mono _
      | exact symbolonref01_Add.mono _ _ _
      | exact symbolonref01_Mul.mono _ _ _
      | exact symbolonref01_Same.mono _ _ _
      | exact symbolonref11_Row.mono _ _ _ _ _
      | exact LeO.none _
      | refine LeO.ite ?_ ?_
      | refine LeO.bind ?_ (fun _ => ?_)
def symbolonlaw12_BeaverRows.T15 : Bool × List (List Nat × List Nat) := (true, [([], []), ([], []), ([0, 1], [0, 1]), ([2], [2]), ([], []), ([], []), ([4, 5], [4, 5]), ([6], [6]), ([], []), ([], []), ([8, 9], [8, 9]), ([10], [10]), ([], []), ([], []), ([12, 13], [12, 13]), ([14], [14]), ([7, 11, 15], [7, 11, 15]), ([3, 16], [3, 16])])
def symbolonlaw12_BeaverRows.B15 : List Nat := [0, 0, 3, 7, 0, 0, 48, 112, 0, 0, 768, 1792, 0, 0, 12288, 28672, 65520, 131071]
theorem symbolonlaw12_BeaverRows.tab15 : rtab .any (opsOf Try.f7 15) = symbolonlaw12_BeaverRows.T15 := by kernel_rfl
theorem symbolonlaw12_BeaverRows.bits15 : waitsOk symbolonlaw12_BeaverRows.T15.2 symbolonlaw12_BeaverRows.B15 = true := by kernel_rfl
def symbolonlaw12_BeaverRows.T17 : Bool × List (List Nat × List Nat) := (true, [([], []), ([], []), ([], []), ([1, 2], [1, 2]), ([3], [3]), ([], []), ([], []), ([5, 6], [5, 6]), ([7], [7]), ([4, 8], [4, 8]), ([9], [9]), ([0, 10, 9], [0, 10]), ([11, 11, 0, 1, 2, 3, 4, 5, 6, 7, 8, 9, 10, 11], [0, 11])])
def symbolonlaw12_BeaverRows.B17 : List Nat := [0, 0, 0, 6, 14, 0, 0, 96, 224, 510, 1022, 2047, 4095]
theorem symbolonlaw12_BeaverRows.tab17 : rtab .any (opsOf Try.f7 17) = symbolonlaw12_BeaverRows.T17 := by kernel_rfl
theorem symbolonlaw12_BeaverRows.bits17 : waitsOk symbolonlaw12_BeaverRows.T17.2 symbolonlaw12_BeaverRows.B17 = true := by kernel_rfl
def symbolonlaw12_BeaverRows.T20 : Bool × List (List Nat × List Nat) := (true, [([], []), ([0], [0]), ([1], [1]), ([1], [1]), ([2, 3, 1, 1], [1, 2, 3]), ([1], [1]), ([1], [1]), ([5, 6, 1], [1, 5, 6]), ([1], [1]), ([1], [1]), ([8, 9, 1], [1, 8, 9]), ([7, 10, 4, 1], [1, 7, 10]), ([1], [1]), ([1], [1]), ([12, 13, 1], [1, 12, 13]), ([1], [1]), ([1], [1]), ([15, 16, 1], [1, 15, 16]), ([14, 17, 11, 1], [1, 14, 17]), ([11, 18, 18, 1], [1, 11, 18]), ([4, 19, 19, 1], [1, 4, 19]), ([1, 20], [1, 20]), ([21, 20], [21]), ([22], [22]), ([23, 22], [22, 23]), ([22], [22]), ([24, 25, 22], [22, 24, 25]), ([22, 26], [22, 26]), ([27, 22], [27]), ([28], [28]), ([29, 28], [28, 29]), ([28], [28]), ([30, 31, 28], [28, 30, 31]), ([28, 32], [28, 32]), ([33, 28], [33]), ([34], [34]), ([35, 34, 34], [34, 35]), ([36, 34], [34, 36]), ([37, 34], [34, 37]), ([34, 38], [34, 38]), ([39, 36, 0, 1, 2, 3, 4, 5, 6, 7, 8, 9, 10, 11, 12, 13, 14, 15, 16, 17, 18, 19, 20, 21, 22, 23, 24, 25, 26, 27, 28, 29, 30, 31, 32, 33, 34, 35, 36, 37, 38, 39], [39])])
def symbolonlaw12_BeaverRows.B20 : List Nat := [0, 1, 3, 3, 15, 3, 3, 99, 3, 3, 771, 2047, 3, 3, 12291, 3, 3, 98307, 262143, 524287, 1048575, 2097151, 4194303, 8388607, 16777215, 8388607, 67108863, 134217727, 268435455, 536870911, 1073741823, 536870911, 4294967295, 8589934591, 17179869183, 34359738367, 68719476735, 137438953471, 274877906943, 549755813887, 1099511627775]
theorem symbolonlaw12_BeaverRows.tab20 : rtab .any (opsOf Try.f7 20) = symbolonlaw12_BeaverRows.T20 := by kernel_rfl
theorem symbolonlaw12_BeaverRows.bits20 : waitsOk symbolonlaw12_BeaverRows.T20.2 symbolonlaw12_BeaverRows.B20 = true := by kernel_rfl
set_option maxHeartbeats 8000000 in
set_option maxRecDepth 100000 in
theorem symbolonlaw12_BeaverRows.calls (k : Nat) (A0 : Option Addr) (c0 : Nat) (l0 : List Int) (A1 : Option Addr) (c1 : Nat) (l1 : List Int) (A2 : Option Addr) (c2 : Nat) (l2 : List Int) (A3 : Option Addr) (c3 : Nat) (l3 : List Int) (a4 : Int) (r : Bool) (w : World) (hr0 : Kd.C (Kd.int .u64) w A0 l0.length l0) (hc0 : l0.length ≤ c0) (hr1 : Kd.C (Kd.int .u64) w A1 l1.length l1) (hc1 : l1.length ≤ c1) (hr2 : Kd.C (Kd.int .u64) w A2 l2.length l2) (hc2 : l2.length ≤ c2) (hr3 : Kd.C (Kd.int .u64) w A3 l3.length l3) (hc3 : l3.length ≤ c3) (h : symbolonlaw12_BeaverRows.f k l0 l1 l2 l3 a4 = some r) :
    Calls Try.prog 7 #[.slice A0 l0.length c0, .slice A1 l1.length c1, .slice A2 l2.length c2, .slice A3 l3.length c3, .int .u64 a4] w fun e w' => e = .returned (.bool r) ∧ Below w.heap.size w w' := by
  have hu26 := Try.underlying26
  have hu24 := Try.underlying24
  have HR0 := Aside0.mk hr0
  have HC0 := Aside0.mk hc0
  clear hr0 hc0
  have HR1 := Aside0.mk hr1
  have HC1 := Aside0.mk hc1
  clear hr1 hc1
  have HR2 := Aside0.mk hr2
  have HC2 := Aside0.mk hc2
  clear hr2 hc2
  have HR3 := Aside0.mk hr3
  have HC3 := Aside0.mk hc3
  clear hr3 hc3
  have HB := Aside0.mk (Below.refl w.heap.size w)
  have H : ((symbolonlaw12_head.f k).bind fun t257 => (if (l0.length : Int) > 900 then (symbolonlaw12_BeaverRows.j0 k l0 l1 l2 l3 a4 t257 (mn (mn (mn (l0.length : Int) (l1.length : Int)) (l2.length : Int)) (l3.length : Int)) true) else (if (l1.length : Int) > 900 then (symbolonlaw12_BeaverRows.j0 k l0 l1 l2 l3 a4 t257 (mn (mn (mn (l0.length : Int) (l1.length : Int)) (l2.length : Int)) (l3.length : Int)) true) else (if (l2.length : Int) > 900 then (symbolonlaw12_BeaverRows.j0 k l0 l1 l2 l3 a4 t257 (mn (mn (mn (l0.length : Int) (l1.length : Int)) (l2.length : Int)) (l3.length : Int)) true) else (symbolonlaw12_BeaverRows.j0 k l0 l1 l2 l3 a4 t257 (mn (mn (mn (l0.length : Int) (l1.length : Int)) (l2.length : Int)) (l3.length : Int)) (decide ((l3.length : Int) > 900))))))) = some r := h
  clear h
  replace H := Option.bind_eq_some_iff.mp H
  obtain ⟨t257, A60, H⟩ := H
  replace H : (if (l0.length : Int) > 900 then (symbolonlaw12_BeaverRows.j0 k l0 l1 l2 l3 a4 t257 (mn (mn (mn (l0.length : Int) (l1.length : Int)) (l2.length : Int)) (l3.length : Int)) true) else (if (l1.length : Int) > 900 then (symbolonlaw12_BeaverRows.j0 k l0 l1 l2 l3 a4 t257 (mn (mn (mn (l0.length : Int) (l1.length : Int)) (l2.length : Int)) (l3.length : Int)) true) else (if (l2.length : Int) > 900 then (symbolonlaw12_BeaverRows.j0 k l0 l1 l2 l3 a4 t257 (mn (mn (mn (l0.length : Int) (l1.length : Int)) (l2.length : Int)) (l3.length : Int)) true) else (symbolonlaw12_BeaverRows.j0 k l0 l1 l2 l3 a4 t257 (mn (mn (mn (l0.length : Int) (l1.length : Int)) (l2.length : Int)) (l3.length : Int)) (decide ((l3.length : Int) > 900)))))) = some r := H
  have A6 := Aside0.mk A60
  clear A60
  obtain ⟨ji7, hji7⟩ : ∃ j_ : Int, (mn (l0.length : Int) (l1.length : Int)) = j_ := ⟨_, rfl⟩
  replace H : (if (l0.length : Int) > 900 then (symbolonlaw12_BeaverRows.j0 k l0 l1 l2 l3 a4 t257 (mn (mn (ji7) (l2.length : Int)) (l3.length : Int)) true) else (if (l1.length : Int) > 900 then (symbolonlaw12_BeaverRows.j0 k l0 l1 l2 l3 a4 t257 (mn (mn (ji7) (l2.length : Int)) (l3.length : Int)) true) else (if (l2.length : Int) > 900 then (symbolonlaw12_BeaverRows.j0 k l0 l1 l2 l3 a4 t257 (mn (mn (ji7) (l2.length : Int)) (l3.length : Int)) true) else (symbolonlaw12_BeaverRows.j0 k l0 l1 l2 l3 a4 t257 (mn (mn (ji7) (l2.length : Int)) (l3.length : Int)) (decide ((l3.length : Int) > 900)))))) = some r := by first | (rw [hji7] at H; exact H) | (simp only [hji7] at H ⊢; exact H)
  (try rw [hji7] at A6)
  (try (have hji7l : 0 ≤ ji7 := by (rw [← hji7]; unfold mn; (repeat' split) <;> omega)))
  (try (have hji7m : 0 ≤ ji7 := by omega))
  have hji7_ : (if (l1.length : Int) < (l0.length : Int) then (l1.length : Int) else (l0.length : Int)) = ji7 := hji7
  have hji7N : (if l1.length < l0.length then (l1.length : Int) else (l0.length : Int)) = ji7 := (by simp only [Int.ofNat_lt] : (if l1.length < l0.length then (l1.length : Int) else (l0.length : Int)) = (if (l1.length : Int) < (l0.length : Int) then (l1.length : Int) else (l0.length : Int))).trans hji7_
  obtain ⟨ji8, hji8⟩ : ∃ j_ : Int, (mn (ji7) (l2.length : Int)) = j_ := ⟨_, rfl⟩
  replace H : (if (l0.length : Int) > 900 then (symbolonlaw12_BeaverRows.j0 k l0 l1 l2 l3 a4 t257 (mn (ji8) (l3.length : Int)) true) else (if (l1.length : Int) > 900 then (symbolonlaw12_BeaverRows.j0 k l0 l1 l2 l3 a4 t257 (mn (ji8) (l3.length : Int)) true) else (if (l2.length : Int) > 900 then (symbolonlaw12_BeaverRows.j0 k l0 l1 l2 l3 a4 t257 (mn (ji8) (l3.length : Int)) true) else (symbolonlaw12_BeaverRows.j0 k l0 l1 l2 l3 a4 t257 (mn (ji8) (l3.length : Int)) (decide ((l3.length : Int) > 900)))))) = some r := by first | (rw [hji8] at H; exact H) | (simp only [hji8] at H ⊢; exact H)
  (try rw [hji8] at A6)
  have hji8_ : (if (l2.length : Int) < (ji7) then (l2.length : Int) else (ji7)) = ji8 := hji8
  obtain ⟨ji9, hji9⟩ : ∃ j_ : Int, (mn (ji8) (l3.length : Int)) = j_ := ⟨_, rfl⟩
  replace H : (if (l0.length : Int) > 900 then (symbolonlaw12_BeaverRows.j0 k l0 l1 l2 l3 a4 t257 ji9 true) else (if (l1.length : Int) > 900 then (symbolonlaw12_BeaverRows.j0 k l0 l1 l2 l3 a4 t257 ji9 true) else (if (l2.length : Int) > 900 then (symbolonlaw12_BeaverRows.j0 k l0 l1 l2 l3 a4 t257 ji9 true) else (symbolonlaw12_BeaverRows.j0 k l0 l1 l2 l3 a4 t257 ji9 (decide ((l3.length : Int) > 900)))))) = some r := by first | (rw [hji9] at H; exact H) | (simp only [hji9] at H ⊢; exact H)
  (try rw [hji9] at A6)
  have hji9_ : (if (l3.length : Int) < (ji8) then (l3.length : Int) else (ji8)) = ji9 := hji9
  have HC10 := Aside0.mk H
  clear H
  go_enter Try.func7, Try.ntmps7
  go_upto_region 3 with (first | ((with_reducible refine gate_callee (f := 9) rfl ?_); refine goesL_ (some 21) rfl rfl Try.func9 (by kernel_rfl) rfl #[] rfl (by (try simp only [List.map_toArray, List.map_cons, List.map_nil]); first | done | rfl | (simp only [List.length_drop, List.length_take]; rfl)) ?_; (with_reducible refine (symbolonlaw12_head.calls k  t257 _ A6.out).mono ?_); rintro e w11 ⟨rfl, hb⟩; refine ⟨_, rfl, ?_⟩; have n0_ := Aside0.mk (below_step (by repeat (first | (with_reducible first | exact HB.out | apply below_alloc | apply pw_below_drewN | apply below_drew1) | exact HB.out)) hb); clear HB; have HB := n0_; clear n0_; (try clear hb); (try clear hb2); (try clear hk); (try clear hi)))
  (try simp only [Act.put, List.setIfInBounds_toArray, List.set_cons_zero, List.set_cons_succ])
  go_cut [48] (fun v48 wc => ∃ (kq : Nat) (x48_9 : Bool), v48 = .bool x48_9 ∧ Aside0 (symbolonlaw12_BeaverRows.j0 kq l0 l1 l2 l3 a4 t257 ji9 x48_9 = some r) ∧ Aside0 (kq ≤ k) ∧ Aside0 (Below w.heap.size w wc))
  case first =>
    have H := HC10.out
    clear HC10
    by_cases c12 : (l0.length : Int) > 900
    · rw [if_pos c12] at H
      have c12b0 : decide (900 < (l0.length : Int)) = true := decide_eq_true c12
      have c12b1 : decide (900 < l0.length) = true := decide_eq_true (by omega)
      clear c12
      (first | rw [c12b0] | (simp only [i64_w, i32_w]; rw [c12b0]) | skip)
      have H' := Aside0.mk H
      clear H
      go_wp2
      go_meet
      case rel => exact ⟨_, (true), (by first | rfl | (simp; done) | (simp [*]; done)), H', ⟨by first | omega | exact Nat.le_refl _⟩, ⟨by repeat (first | (with_reducible first | exact HB.out | apply below_alloc | apply pw_below_drewN | apply below_drew1) | exact HB.out)⟩⟩
    · rw [if_neg c12] at H
      have c12b0 : decide (900 < (l0.length : Int)) = false := decide_eq_false c12
      have c12b1 : decide (900 < l0.length) = false := decide_eq_false (by omega)
      clear c12
      (first | rw [c12b0] | (simp only [i64_w, i32_w]; rw [c12b0]) | skip)
      by_cases c13 : (l1.length : Int) > 900
      · rw [if_pos c13] at H
        have c13b0 : decide (900 < (l1.length : Int)) = true := decide_eq_true c13
        have c13b1 : decide (900 < l1.length) = true := decide_eq_true (by omega)
        clear c13
        have H' := Aside0.mk H
        clear H
        go_wp2
        go_meet
        case rel => exact ⟨_, (true), (by first | rfl | (simp; done) | (simp [*]; done)), H', ⟨by first | omega | exact Nat.le_refl _⟩, ⟨by repeat (first | (with_reducible first | exact HB.out | apply below_alloc | apply pw_below_drewN | apply below_drew1) | exact HB.out)⟩⟩
      · rw [if_neg c13] at H
        have c13b0 : decide (900 < (l1.length : Int)) = false := decide_eq_false c13
        have c13b1 : decide (900 < l1.length) = false := decide_eq_false (by omega)
        clear c13
        by_cases c14 : (l2.length : Int) > 900
        · rw [if_pos c14] at H
          have c14b0 : decide (900 < (l2.length : Int)) = true := decide_eq_true c14
          have c14b1 : decide (900 < l2.length) = true := decide_eq_true (by omega)
          clear c14
          have H' := Aside0.mk H
          clear H
          go_wp2
          go_meet
          case rel => exact ⟨_, (true), (by first | rfl | (simp; done) | (simp [*]; done)), H', ⟨by first | omega | exact Nat.le_refl _⟩, ⟨by repeat (first | (with_reducible first | exact HB.out | apply below_alloc | apply pw_below_drewN | apply below_drew1) | exact HB.out)⟩⟩
        · rw [if_neg c14] at H
          have c14b0 : decide (900 < (l2.length : Int)) = false := decide_eq_false c14
          have c14b1 : decide (900 < l2.length) = false := decide_eq_false (by omega)
          clear c14
          have H' := Aside0.mk H
          clear H
          go_wp2
          go_meet
          case rel => exact ⟨_, (decide ((l3.length : Int) > 900)), (by first | rfl | (simp; done) | (simp [*]; done)), H', ⟨by first | omega | exact Nat.le_refl _⟩, ⟨by repeat (first | (with_reducible first | exact HB.out | apply below_alloc | apply pw_below_drewN | apply below_drew1) | exact HB.out)⟩⟩
  case rest =>
    clear HC10
    try clear c1
    try clear c2
    try clear p2
    try clear c3
    try clear c7
    try clear c9
    try clear c12
    try clear c12b0
    try clear c12b1
    try clear c13
    try clear c13b0
    try clear c13b1
    try clear c14
    try clear c14b0
    try clear c14b1
    obtain ⟨kq, x48_9, rfl, HA, HJ9, HB⟩ := hcut
    cases kq with
    | zero => exact absurd HA.out (by simp [symbolonlaw12_BeaverRows.j0])
    | succ kj9 =>
      have H := HA.out
      clear HA
      simp only [symbolonlaw12_BeaverRows.j0] at H
      by_cases c15 : x48_9 = true
      · subst c15
        have H1 : (some t257) = some r := by rw [if_pos rfl] at H; exact H
        clear H
        have H := H1
        clear H1
        obtain rfl := Option.some.inj H
        go_wp2
        go_ret
        exact ⟨by first | rfl | (simp [errW_none, errW_some] <;> rfl) | (simp only [← hji7, ← hji8, ← hji9]; first | rfl | (simp [errW_none, errW_some] <;> rfl)) | (simp [*, errW_none, errW_some] <;> rfl), by repeat (first | (with_reducible first | exact HB.out | apply below_alloc | apply pw_below_drewN | apply below_drew1) | exact HB.out)⟩
      · replace c15 := Bool.eq_false_iff.mpr c15
        subst c15
        have H1 : ((symbolonref11_Row.f kj9 a4 0 0 ji9).bind fun t258 => ((symbolonref11_Row.f kj9 a4 1 0 ji9).bind fun t261 => ((beaver_Opens.f kj9 l0 l2 t258).bind fun t264 => ((beaver_Opens.f kj9 l1 l3 t261).bind fun t267 => (if (t264.length : Int) = ji9 then (symbolonlaw12_BeaverRows.j1 kj9 l0 l1 l2 l3 t257 ji9 t258 t261 t264 t267 ((t267.length : Int) != ji9)) else (symbolonlaw12_BeaverRows.j1 kj9 l0 l1 l2 l3 t257 ji9 t258 t261 t264 t267 true)))))) = some r := by rw [if_neg (show ¬ (false = true) by decide)] at H; exact H
        clear H
        have H := H1
        clear H1
        replace H := Option.bind_eq_some_iff.mp H
        obtain ⟨t258, A160, H⟩ := H
        replace H : ((symbolonref11_Row.f kj9 a4 1 0 ji9).bind fun t261 => ((beaver_Opens.f kj9 l0 l2 t258).bind fun t264 => ((beaver_Opens.f kj9 l1 l3 t261).bind fun t267 => (if (t264.length : Int) = ji9 then (symbolonlaw12_BeaverRows.j1 kj9 l0 l1 l2 l3 t257 ji9 t258 t261 t264 t267 ((t267.length : Int) != ji9)) else (symbolonlaw12_BeaverRows.j1 kj9 l0 l1 l2 l3 t257 ji9 t258 t261 t264 t267 true))))) = some r := H
        have A16 := Aside0.mk A160
        clear A160
        replace H := Option.bind_eq_some_iff.mp H
        obtain ⟨t261, A170, H⟩ := H
        replace H : ((beaver_Opens.f kj9 l0 l2 t258).bind fun t264 => ((beaver_Opens.f kj9 l1 l3 t261).bind fun t267 => (if (t264.length : Int) = ji9 then (symbolonlaw12_BeaverRows.j1 kj9 l0 l1 l2 l3 t257 ji9 t258 t261 t264 t267 ((t267.length : Int) != ji9)) else (symbolonlaw12_BeaverRows.j1 kj9 l0 l1 l2 l3 t257 ji9 t258 t261 t264 t267 true)))) = some r := H
        have A17 := Aside0.mk A170
        clear A170
        replace H := Option.bind_eq_some_iff.mp H
        obtain ⟨t264, A180, H⟩ := H
        replace H : ((beaver_Opens.f kj9 l1 l3 t261).bind fun t267 => (if (t264.length : Int) = ji9 then (symbolonlaw12_BeaverRows.j1 kj9 l0 l1 l2 l3 t257 ji9 t258 t261 t264 t267 ((t267.length : Int) != ji9)) else (symbolonlaw12_BeaverRows.j1 kj9 l0 l1 l2 l3 t257 ji9 t258 t261 t264 t267 true))) = some r := H
        have A18 := Aside0.mk A180
        clear A180
        replace H := Option.bind_eq_some_iff.mp H
        obtain ⟨t267, A190, H⟩ := H
        replace H : (if (t264.length : Int) = ji9 then (symbolonlaw12_BeaverRows.j1 kj9 l0 l1 l2 l3 t257 ji9 t258 t261 t264 t267 ((t267.length : Int) != ji9)) else (symbolonlaw12_BeaverRows.j1 kj9 l0 l1 l2 l3 t257 ji9 t258 t261 t264 t267 true)) = some r := H
        have A19 := Aside0.mk A190
        clear A190
        have HC20 := Aside0.mk H
        clear H
        go_upto_region 9 with (first | ((with_reducible refine gate_callee (f := 17) rfl ?_); refine goesL_ (some 52) rfl rfl Try.func17 (by kernel_rfl) rfl #[.int .u64 a4, .int .i64 0, .int .u64 0, .int .i64 ji9] rfl (by (try simp only [List.map_toArray, List.map_cons, List.map_nil]); first | done | (simp only [hji9]; rfl) | rfl | (simp only [List.length_drop, List.length_take]; rfl)) ?_; (with_reducible refine (symbolonref11_Row.calls kj9 a4 0 0 ji9 t258 _ A16.out).mono ?_); rintro e w21 ⟨v259, rfl, ho0, hb⟩; refine ⟨_, rfl, ?_⟩; have n0_ := Aside0.mk (Kd.R_lower ho0 (below_size (by repeat (first | (with_reducible first | exact HB.out | apply below_alloc | apply pw_below_drewN | apply below_drew1) | exact HB.out)))); have n1_ := Aside0.mk (below_step (by repeat (first | (with_reducible first | exact HB.out | apply below_alloc | apply pw_below_drewN | apply below_drew1) | exact HB.out)) hb); clear HB; have HO260 := n0_; have HB := n1_; clear n0_ n1_; (try clear hb); (try clear hb2); (try clear hk); (try clear hi); (try clear ho0)) | ((with_reducible refine gate_callee (f := 17) rfl ?_); refine goesL_ (some 55) rfl rfl Try.func17 (by kernel_rfl) rfl #[.int .u64 a4, .int .i64 1, .int .u64 0, .int .i64 ji9] rfl (by (try simp only [List.map_toArray, List.map_cons, List.map_nil]); first | done | (simp only [hji9]; rfl) | rfl | (simp only [List.length_drop, List.length_take]; rfl)) ?_; (with_reducible refine (symbolonref11_Row.calls kj9 a4 1 0 ji9 t261 _ A17.out).mono ?_); rintro e w22 ⟨v262, rfl, ho0, hb⟩; refine ⟨_, rfl, ?_⟩; have n0_ := Aside0.mk (Kd.R_elder' (by (with_reducible repeat (first | apply Kd.R_alloc | apply Kd.R_drewN | apply Kd.R_drew)); exact HO260.out) (Kd.R_base ho0) hb); have n1_ := Aside0.mk (Kd.R_lower (Kd.R_new' ho0 (Kd.R_lt (by (with_reducible repeat (first | apply Kd.R_alloc | apply Kd.R_drewN | apply Kd.R_drew)); exact HO260.out))) (below_size (by repeat (first | (with_reducible first | exact HB.out | apply below_alloc | apply pw_below_drewN | apply below_drew1) | exact HB.out)))); have n2_ := Aside0.mk (below_step (by repeat (first | (with_reducible first | exact HB.out | apply below_alloc | apply pw_below_drewN | apply below_drew1) | exact HB.out)) hb); clear HO260; clear HB; have HO260 := n0_; have HO263 := n1_; have HB := n2_; clear n0_ n1_ n2_; (try clear hb); (try clear hb2); (try clear hk); (try clear hi); (try clear ho0); obtain ⟨Ao23, co23, eo23⟩ := Kd.R_slice HO260.out; subst eo23) | ((with_reducible refine gate_callee (f := 18) rfl ?_); refine goesL_ (some 59) rfl rfl Try.func18 (by kernel_rfl) rfl #[.slice A0 l0.length c0, .slice A2 l2.length c2, .slice Ao23 t258.length co23] rfl (by (try simp only [List.map_toArray, List.map_cons, List.map_nil]); first | done | rfl | (simp only [List.length_drop, List.length_take]; rfl)) ?_; (with_reducible refine (beaver_Opens.calls kj9 _ _ l0 _ _ l2 _ _ t258 t264 _ ?side1 ?side2 ?side3 ?side4 ?side5 ?side6 A18.out).mono ?_); (case side1 => repeat (first | exact (Kd.C_below HR0.out HB.out) | (with_reducible refine Kd.C_alloc ?_ _) | (with_reducible refine Kd.C_drewN ?_ _) | (with_reducible refine Kd.C_drew ?_))); (case side2 => exact HC0.out); (case side3 => repeat (first | exact (Kd.C_below HR2.out HB.out) | (with_reducible refine Kd.C_alloc ?_ _) | (with_reducible refine Kd.C_drewN ?_ _) | (with_reducible refine Kd.C_drew ?_))); (case side4 => exact HC2.out); (case side5 => repeat (first | exact (Kd.R_reads' HO260.out).2.2 | (with_reducible refine Kd.C_alloc ?_ _) | (with_reducible refine Kd.C_drewN ?_ _) | (with_reducible refine Kd.C_drew ?_))); (case side6 => exact (Kd.R_reads' HO260.out).2.1); rintro e w24 ⟨v265, rfl, ho0, hb⟩; refine ⟨_, rfl, ?_⟩; have n0_ := Aside0.mk (Kd.R_below (by (with_reducible repeat (first | apply Kd.R_alloc | apply Kd.R_drewN | apply Kd.R_drew)); exact HO260.out) hb); have n1_ := Aside0.mk (Kd.R_below (by (with_reducible repeat (first | apply Kd.R_alloc | apply Kd.R_drewN | apply Kd.R_drew)); exact HO263.out) hb); have n2_ := Aside0.mk (Kd.R_lower ho0 (below_size (by repeat (first | (with_reducible first | exact HB.out | apply below_alloc | apply pw_below_drewN | apply below_drew1) | exact HB.out)))); have n3_ := Aside0.mk (below_step (by repeat (first | (with_reducible first | exact HB.out | apply below_alloc | apply pw_below_drewN | apply below_drew1) | exact HB.out)) hb); clear HO260; clear HO263; clear HB; have HO260 := n0_; have HO263 := n1_; have HO266 := n2_; have HB := n3_; clear n0_ n1_ n2_ n3_; (try clear hb); (try clear hb2); (try clear hk); (try clear hi); (try clear ho0); obtain ⟨Ao25, co25, eo25⟩ := Kd.R_slice HO263.out; subst eo25) | ((with_reducible refine gate_callee (f := 18) rfl ?_); refine goesL_ (some 63) rfl rfl Try.func18 (by kernel_rfl) rfl #[.slice A1 l1.length c1, .slice A3 l3.length c3, .slice Ao25 t261.length co25] rfl (by (try simp only [List.map_toArray, List.map_cons, List.map_nil]); first | done | rfl | (simp only [List.length_drop, List.length_take]; rfl)) ?_; (with_reducible refine (beaver_Opens.calls kj9 _ _ l1 _ _ l3 _ _ t261 t267 _ ?side1 ?side2 ?side3 ?side4 ?side5 ?side6 A19.out).mono ?_); (case side1 => repeat (first | exact (Kd.C_below HR1.out HB.out) | (with_reducible refine Kd.C_alloc ?_ _) | (with_reducible refine Kd.C_drewN ?_ _) | (with_reducible refine Kd.C_drew ?_))); (case side2 => exact HC1.out); (case side3 => repeat (first | exact (Kd.C_below HR3.out HB.out) | (with_reducible refine Kd.C_alloc ?_ _) | (with_reducible refine Kd.C_drewN ?_ _) | (with_reducible refine Kd.C_drew ?_))); (case side4 => exact HC3.out); (case side5 => repeat (first | exact (Kd.R_reads' HO263.out).2.2 | (with_reducible refine Kd.C_alloc ?_ _) | (with_reducible refine Kd.C_drewN ?_ _) | (with_reducible refine Kd.C_drew ?_))); (case side6 => exact (Kd.R_reads' HO263.out).2.1); rintro e w26 ⟨v268, rfl, ho0, hb⟩; refine ⟨_, rfl, ?_⟩; have n0_ := Aside0.mk (Kd.R_below (by (with_reducible repeat (first | apply Kd.R_alloc | apply Kd.R_drewN | apply Kd.R_drew)); exact HO260.out) hb); have n1_ := Aside0.mk (Kd.R_below (by (with_reducible repeat (first | apply Kd.R_alloc | apply Kd.R_drewN | apply Kd.R_drew)); exact HO263.out) hb); have n2_ := Aside0.mk (Kd.R_elder' (by (with_reducible repeat (first | apply Kd.R_alloc | apply Kd.R_drewN | apply Kd.R_drew)); exact HO266.out) (Kd.R_base ho0) hb); have n3_ := Aside0.mk (Kd.R_lower (Kd.R_new' ho0 (Kd.R_lt (by (with_reducible repeat (first | apply Kd.R_alloc | apply Kd.R_drewN | apply Kd.R_drew)); exact HO266.out))) (below_size (by repeat (first | (with_reducible first | exact HB.out | apply below_alloc | apply pw_below_drewN | apply below_drew1) | exact HB.out)))); have n4_ := Aside0.mk (below_step (by repeat (first | (with_reducible first | exact HB.out | apply below_alloc | apply pw_below_drewN | apply below_drew1) | exact HB.out)) hb); clear HO260; clear HO263; clear HO266; clear HB; have HO260 := n0_; have HO263 := n1_; have HO266 := n2_; have HO269 := n3_; have HB := n4_; clear n0_ n1_ n2_ n3_ n4_; (try clear hb); (try clear hb2); (try clear hk); (try clear hi); (try clear ho0)))
        (try simp only [Act.put, List.setIfInBounds_toArray, List.set_cons_zero, List.set_cons_succ])
        go_cut [73] (fun v73 wc => ∃ (kq : Nat) (x73_19 : Bool), v73 = .bool x73_19 ∧ Aside0 (symbolonlaw12_BeaverRows.j1 kq l0 l1 l2 l3 t257 ji9 t258 t261 t264 t267 x73_19 = some r) ∧ Aside0 (kq ≤ kj9) ∧ Aside0 (Kd.R k24 24 wc w.heap.size (fun k_ => some k_ ≠ ((.slice Ao25 t261.length co25) : Value).ownBlock) (.slice Ao23 t258.length co23) t258) ∧ Aside0 (Kd.R k24 24 wc w.heap.size (fun k_ => some k_ ≠ ((.slice Ao23 t258.length co23) : Value).ownBlock) (.slice Ao25 t261.length co25) t261) ∧ Aside0 (Kd.R k26 26 wc w.heap.size (fun k_ => some k_ ≠ (v268 : Value).ownBlock) v265 t264) ∧ Aside0 (Kd.R k26 26 wc w.heap.size (fun k_ => some k_ ≠ (v265 : Value).ownBlock) v268 t267) ∧ Aside0 (Below w.heap.size w wc))
        case first =>
          have H := HC20.out
          clear HC20
          by_cases c27 : (t264.length : Int) = ji9
          · rw [if_pos c27] at H
            have c27b0 : ((t264.length : Int) == ji9) = true := beq_iff_eq.mpr c27
            have c27b1 : ((t264.length : Int) != ji9) = false := bne_eq_false_iff_eq.mpr c27
            clear c27
            (first | rw [c27b0] | (simp only [i64_w, i32_w]; rw [c27b0]) | skip)
            have H' := Aside0.mk H
            clear H
            obtain ⟨Ao28, co28, eo28⟩ := Kd.R_slice HO266.out
            subst eo28
            obtain ⟨Ao29, co29, eo29⟩ := Kd.R_slice HO269.out
            subst eo29
            go_wp2
            go_meet
            case rel => exact ⟨_, (((t267.length : Int) != ji9)), (by first | rfl | (simp; done) | (simp only [← hji9] <;> (first | rfl | simp)) | (simp [*]; done)), H', ⟨by have := HJ9.out; first | omega | exact Nat.le_refl _⟩, ⟨by (with_reducible repeat (first | apply Kd.R_alloc | apply Kd.R_drewN | apply Kd.R_drew)); exact Kd.R_mono HO260.out (fun _ hk => hk.2)⟩, ⟨by (with_reducible repeat (first | apply Kd.R_alloc | apply Kd.R_drewN | apply Kd.R_drew)); exact Kd.R_mono HO263.out (fun _ hk => hk.2)⟩, ⟨by (with_reducible repeat (first | apply Kd.R_alloc | apply Kd.R_drewN | apply Kd.R_drew)); exact Kd.R_mono HO266.out (fun _ hk => hk.2)⟩, ⟨by (with_reducible repeat (first | apply Kd.R_alloc | apply Kd.R_drewN | apply Kd.R_drew)); exact Kd.R_mono HO269.out (fun _ hk => hk.2)⟩, ⟨by repeat (first | (with_reducible first | exact HB.out | apply below_alloc | apply pw_below_drewN | apply below_drew1) | exact HB.out)⟩⟩
          · rw [if_neg c27] at H
            have c27b0 : ((t264.length : Int) == ji9) = false := beq_eq_false_iff_ne.mpr c27
            have c27b1 : ((t264.length : Int) != ji9) = true := bne_iff_ne.mpr c27
            (first | rw [c27b0] | (simp only [i64_w, i32_w]; rw [c27b0]) | skip)
            have H' := Aside0.mk H
            clear H
            obtain ⟨Ao30, co30, eo30⟩ := Kd.R_slice HO266.out
            subst eo30
            go_wp2
            go_meet
            case rel => exact ⟨_, (true), (by first | rfl | (simp; done) | (simp [*]; done)), H', ⟨by have := HJ9.out; first | omega | exact Nat.le_refl _⟩, ⟨by (with_reducible repeat (first | apply Kd.R_alloc | apply Kd.R_drewN | apply Kd.R_drew)); exact Kd.R_mono HO260.out (fun _ hk => hk.2)⟩, ⟨by (with_reducible repeat (first | apply Kd.R_alloc | apply Kd.R_drewN | apply Kd.R_drew)); exact Kd.R_mono HO263.out (fun _ hk => hk.2)⟩, ⟨by (with_reducible repeat (first | apply Kd.R_alloc | apply Kd.R_drewN | apply Kd.R_drew)); exact Kd.R_mono HO266.out (fun _ hk => hk.2)⟩, ⟨by (with_reducible repeat (first | apply Kd.R_alloc | apply Kd.R_drewN | apply Kd.R_drew)); exact Kd.R_mono HO269.out (fun _ hk => hk.2)⟩, ⟨by repeat (first | (with_reducible first | exact HB.out | apply below_alloc | apply pw_below_drewN | apply below_drew1) | exact HB.out)⟩⟩
        case rest =>
          clear HC20
          try clear c1
          try clear c2
          try clear p2
          try clear c3
          try clear c7
          try clear c9
          try clear c12
          try clear c12b0
          try clear c12b1
          try clear c13
          try clear c13b0
          try clear c13b1
          try clear c14
          try clear c14b0
          try clear c14b1
          try clear c15
          try clear c17
          try clear c18
          try clear c27
          try clear c27b0
          try clear c27b1
          try clear p2
          obtain ⟨kq, x73_19, rfl, HA, HJ19, HO_13, HO_14, HO_15, HO_16, HB⟩ := hcut
          cases kq with
          | zero => exact absurd HA.out (by simp [symbolonlaw12_BeaverRows.j1])
          | succ kj19 =>
            have H := HA.out
            clear HA
            simp only [symbolonlaw12_BeaverRows.j1] at H
            by_cases c31 : x73_19 = true
            · subst c31
              have H1 : (none) = some r := by rw [if_pos rfl] at H; exact H
              clear H
              have H := H1
              clear H1
              exact absurd H (by simp)
            · replace c31 := Bool.eq_false_iff.mpr c31
              subst c31
              have H1 : (symbolonlaw12_BeaverRows.l0 kj19 l0 l1 l2 l3 t257 ji9 t258 t261 t264 t267 ([] : List (S26)) 0) = some r := by rw [if_neg (show ¬ (false = true) by decide)] at H; exact H
              clear H
              have H := H1
              clear H1
              have H' := Aside0.mk H
              clear H
              go_wp2
              go_loopg [17, 18] kj19 (fun kq v17 v18 w' => ∃ (x17_3 : List (S26)) (x18_3 : Int), v18 = .int .i64 x18_3 ∧ Aside0 (symbolonlaw12_BeaverRows.l0 kq l0 l1 l2 l3 t257 ji9 t258 t261 t264 t267 x17_3 x18_3 = some r) ∧ Aside0 (kq ≤ kj19) ∧ Aside0 (Kd.R k24 24 w' w.heap.size (fun k_ => some k_ ≠ ((.slice Ao25 t261.length co25) : Value).ownBlock) (.slice Ao23 t258.length co23) t258) ∧ Aside0 (Kd.R k24 24 w' w.heap.size (fun k_ => some k_ ≠ ((.slice Ao23 t258.length co23) : Value).ownBlock) (.slice Ao25 t261.length co25) t261) ∧ Aside0 (Kd.R k26 26 w' w.heap.size (fun k_ => some k_ ≠ (v268 : Value).ownBlock ∧ some k_ ≠ (v17 : Value).ownBlock) v265 t264) ∧ Aside0 (Kd.R k26 26 w' w.heap.size (fun k_ => some k_ ≠ (v265 : Value).ownBlock ∧ some k_ ≠ (v17 : Value).ownBlock) v268 t267) ∧ Aside0 (Kd.R k26 26 w' w.heap.size (fun k_ => some k_ ≠ (v265 : Value).ownBlock ∧ some k_ ≠ (v268 : Value).ownBlock) v17 x17_3) ∧ Aside0 (Below w.heap.size w w'))
              case atStart => exact ⟨(([] : List (S26))), (0), (by first | rfl | (simp; done) | (simp [*]; done)), H', ⟨Nat.le_refl _⟩, ⟨by (with_reducible repeat (first | apply Kd.R_alloc | apply Kd.R_drewN | apply Kd.R_drew)); exact HO_13.out⟩, ⟨by (with_reducible repeat (first | apply Kd.R_alloc | apply Kd.R_drewN | apply Kd.R_drew)); exact HO_14.out⟩, ⟨by (with_reducible repeat (first | apply Kd.R_alloc | apply Kd.R_drewN | apply Kd.R_drew)); exact Kd.R_mono HO_15.out (fun _ hk => ⟨hk, (by simp [Value.ownBlock])⟩)⟩, ⟨by (with_reducible repeat (first | apply Kd.R_alloc | apply Kd.R_drewN | apply Kd.R_drew)); exact Kd.R_mono HO_16.out (fun _ hk => ⟨hk, (by simp [Value.ownBlock])⟩)⟩, ⟨by first | exact Kd.R_nil _ _ _ _ _ | exact Kd.N_nil _ _ _ _ _ | exact Kd.V_nil _ _ _ _ _ | exact Kd.Q_nil _ _ _ _ _ | exact Kd.S_nil _ _ _ _ _⟩, ⟨by repeat (first | (with_reducible first | exact HB.out | apply below_alloc | apply pw_below_drewN | apply below_drew1) | exact HB.out)⟩⟩
              case round =>
                clear H'
                try clear c1
                try clear c2
                try clear p2
                try clear c3
                try clear c7
                try clear c9
                try clear c12
                try clear c12b0
                try clear c12b1
                try clear c13
                try clear c13b0
                try clear c13b1
                try clear c14
                try clear c14b0
                try clear c14b1
                try clear c15
                try clear c17
                try clear c18
                try clear c27
                try clear c27b0
                try clear c27b1
                try clear c31
                try clear p2
                obtain ⟨x17_3, x18_3, rfl, HA, HK3, HO_13, HO_14, HO_15, HO_16, HO_17, HB⟩ := hrel
                cases gk with
                | zero => exact absurd HA.out (by simp [symbolonlaw12_BeaverRows.l0])
                | succ k3 =>
                  have H := HA.out
                  clear HA
                  simp only [symbolonlaw12_BeaverRows.l0] at H
                  by_cases c32 : x18_3 < ji9
                  · rw [if_pos c32] at H
                    have c32b0 : decide (x18_3 < ji9) = true := decide_eq_true c32
                    clear c32
                    by_cases c33 : 0 ≤ x18_3
                    · rw [if_pos c33] at H
                      have c33b0 : decide (0 ≤ x18_3) = true := decide_eq_true c33
                      clear c33
                      by_cases c34 : x18_3 < (t264.length : Int)
                      · rw [if_pos c34] at H
                        have c34b0 : decide (x18_3 < (t264.length : Int)) = true := decide_eq_true c34
                        clear c34
                        by_cases c35 : x18_3 < (l0.length : Int)
                        · rw [if_pos c35] at H
                          have c35b0 : decide (x18_3 < (l0.length : Int)) = true := decide_eq_true c35
                          clear c35
                          by_cases c36 : x18_3 < (l2.length : Int)
                          · rw [if_pos c36] at H
                            have c36b0 : decide (x18_3 < (l2.length : Int)) = true := decide_eq_true c36
                            clear c36
                            by_cases c37 : x18_3 < (t258.length : Int)
                            · rw [if_pos c37] at H
                              have c37b0 : decide (x18_3 < (t258.length : Int)) = true := decide_eq_true c37
                              clear c37
                              replace H := Option.bind_eq_some_iff.mp H
                              obtain ⟨⟨t274, t275⟩, A380, H⟩ := H
                              replace H : (if (!(((rd_T26 t264 x18_3).f0) == t274) || (!(((rd_T26 t264 x18_3).f1) == t275))) = true then (none) else (if x18_3 < (t267.length : Int) then ((beaver_Sum.f ((rd_T26 t264 x18_3).f0) ((rd_T26 t264 x18_3).f1) ((rd_T26 t267 x18_3).f0) ((rd_T26 t267 x18_3).f1)).bind fun bt278 => (if x17_3.length < 8796093022208 then (symbolonlaw12_BeaverRows.l0 k3 l0 l1 l2 l3 t257 ji9 t258 t261 t264 t267 (x17_3 ++ [(⟨bt278.1, bt278.2⟩ : S26)]) (wrap64 (x18_3 + 1))) else (none))) else (none))) = some r := H
                              have A38 := Aside0.mk A380
                              clear A380
                              by_cases c39 : (!(((rd_T26 t264 x18_3).f0) == t274) || (!(((rd_T26 t264 x18_3).f1) == t275))) = true
                              · rw [if_pos c39] at H
                                exact absurd H (by simp)
                              · rw [if_neg c39] at H
                                have c39b0 : (!(((rd_T26 t264 x18_3).f0) == t274) || (!(((rd_T26 t264 x18_3).f1) == t275))) = false := by simpa using c39
                                clear c39
                                by_cases c40 : x18_3 < (t267.length : Int)
                                · rw [if_pos c40] at H
                                  have c40b0 : decide (x18_3 < (t267.length : Int)) = true := decide_eq_true c40
                                  clear c40
                                  replace H := Option.bind_eq_some_iff.mp H
                                  obtain ⟨⟨t278, t279⟩, A410, H⟩ := H
                                  replace H : (if x17_3.length < 8796093022208 then (symbolonlaw12_BeaverRows.l0 k3 l0 l1 l2 l3 t257 ji9 t258 t261 t264 t267 (x17_3 ++ [(⟨t278, t279⟩ : S26)]) (wrap64 (x18_3 + 1))) else (none)) = some r := H
                                  have A41 := Aside0.mk A410
                                  clear A410
                                  by_cases c42 : x17_3.length < 8796093022208
                                  · rw [if_pos c42] at H
                                    have LMc42 := Aside0.mk c42
                                    clear c42
                                    obtain ⟨y280, hy280⟩ : ∃ y_ : List (S26), y_ = (x17_3 ++ [(⟨t278, t279⟩ : S26)]) := ⟨_, rfl⟩
                                    replace H : (symbolonlaw12_BeaverRows.l0 k3 l0 l1 l2 l3 t257 ji9 t258 t261 t264 t267 y280 (wrap64 (x18_3 + 1))) = some r := by first | (rw [hy280]; with_reducible exact H) | (have H2_ := (Option.bind_some _ _).symm.trans H; rw [hy280]; with_reducible exact H2_) | (have H2_ := (Option.bind_some _ _).symm.trans H; with_reducible exact H2_) | with_reducible exact H | (rw [hy280]; exact H) | exact H
                                    have Ny280 := Aside0.mk hy280
                                    clear hy280
                                    have H' := Aside0.mk H
                                    clear H
                                    try go_wp2
                                    have n0_ := Aside0.mk (Kd.R_drew HO_13.out)
                                    have n1_ := Aside0.mk (Kd.R_drew HO_14.out)
                                    have n2_ := Aside0.mk (Kd.R_drew HO_15.out)
                                    have n3_ := Aside0.mk (Kd.R_drew HO_16.out)
                                    have n4_ := Aside0.mk (Kd.R_drew HO_17.out)
                                    have n5_ := Aside0.mk (below_drew1 HB.out)
                                    clear HO_13
                                    clear HO_14
                                    clear HO_15
                                    clear HO_16
                                    clear HO_17
                                    clear HB
                                    have HO_13 := n0_
                                    have HO_14 := n1_
                                    have HO_15 := n2_
                                    have HO_16 := n3_
                                    have HO_17 := n4_
                                    have HB := n5_
                                    clear n0_ n1_ n2_ n3_ n4_ n5_
                                    obtain ⟨Ao44, co44, eo44⟩ := Kd.R_slice HO_15.out
                                    (first | subst eo44 | (injection eo44 with f1_ f2_ f3_; have f4_ := f1_.symm; have f5_ := f3_.symm; clear f1_ f2_ f3_; subst f4_; subst f5_))
                                    have p270 : 0 ≤ (x18_3 : Int) := of_decide_eq_true (by first | (with_reducible assumption) | assumption)
                                    have q270 : x18_3 < (t264.length : Int) := of_decide_eq_true (by first | (with_reducible assumption) | assumption)
                                    obtain ⟨ad270, e270, hx270_0, hx270_1⟩ := at_T26 (Kd.R_reads' HO_15.out).2.2 x18_3 p270 q270
                                    cases e270
                                    replace p270 := eq_true p270
                                    replace q270 := eq_true q270
                                    have p271 : 0 ≤ (x18_3 : Int) := of_decide_eq_true (by first | (with_reducible assumption) | assumption)
                                    have q271 : x18_3 < (l0.length : Int) := of_decide_eq_true (by first | (with_reducible assumption) | assumption)
                                    obtain ⟨ad271, e271, hx271_0⟩ := Kd.at_int HR0.out x18_3 p271 q271
                                    have hw271_0 := hx271_0
                                    cases e271
                                    replace hx271_0 := (HB.out.cell (World.block_lt_of_cell? w _ hx271_0)).trans hx271_0
                                    replace p271 := eq_true p271
                                    replace q271 := eq_true q271
                                    have p272 : 0 ≤ (x18_3 : Int) := of_decide_eq_true (by first | (with_reducible assumption) | assumption)
                                    have q272 : x18_3 < (l2.length : Int) := of_decide_eq_true (by first | (with_reducible assumption) | assumption)
                                    obtain ⟨ad272, e272, hx272_0⟩ := Kd.at_int HR2.out x18_3 p272 q272
                                    have hw272_0 := hx272_0
                                    cases e272
                                    replace hx272_0 := (HB.out.cell (World.block_lt_of_cell? w _ hx272_0)).trans hx272_0
                                    replace p272 := eq_true p272
                                    replace q272 := eq_true q272
                                    have p273 : 0 ≤ (x18_3 : Int) := of_decide_eq_true (by first | (with_reducible assumption) | assumption)
                                    have q273 : x18_3 < (t258.length : Int) := of_decide_eq_true (by first | (with_reducible assumption) | assumption)
                                    obtain ⟨ad273, e273, hx273_0, hx273_1, hx273_2⟩ := at_T24 (Kd.R_reads' HO_13.out).2.2 x18_3 p273 q273
                                    cases e273
                                    replace p273 := eq_true p273
                                    replace q273 := eq_true q273
                                    refine start_ (n := 18) (S := fun w' => w'.cell? (ad270.add ((x18_3).toNat * 2)) = some (.int .u64 ((rd_T26 t264 x18_3).f0)) ∧ w'.cell? ⟨(ad270.add ((x18_3).toNat * 2)).block, (ad270.add ((x18_3).toNat * 2)).off + 1, none⟩ = some (.int .u64 ((rd_T26 t264 x18_3).f1)) ∧ w'.cell? (ad271.add (x18_3).toNat) = some (.int .u64 (rd l0 x18_3)) ∧ w'.cell? (ad272.add (x18_3).toNat) = some (.int .u64 (rd l2 x18_3)) ∧ w'.cell? (ad273.add ((x18_3).toNat * 3)) = some (.int .u64 ((rd_T24 t258 x18_3).f0)) ∧ w'.cell? ⟨(ad273.add ((x18_3).toNat * 3)).block, (ad273.add ((x18_3).toNat * 3)).off + 1, none⟩ = some (.int .u64 ((rd_T24 t258 x18_3).f1)) ∧ w'.cell? ⟨(ad273.add ((x18_3).toNat * 3)).block, (ad273.add ((x18_3).toNat * 3)).off + 2, none⟩ = some (.int .u64 ((rd_T24 t258 x18_3).f2))) (ds := []) #[false, false, false, false, false, false, false, false, false, false, false, false, false, false, false, false, false, false] (by kernel_rfl) rfl rfl ⟨hx270_0, hx270_1, ((HB.out.cell (World.block_lt_of_cell? w _ hw271_0)).trans hw271_0), ((HB.out.cell (World.block_lt_of_cell? w _ hw272_0)).trans hw272_0), hx273_0, hx273_1, hx273_2⟩ (fun hHeld => ?_); refine with_tabW symbolonlaw12_BeaverRows.tab15 symbolonlaw12_BeaverRows.bits15 (fun HT_ HW_ => ?_)
                                    generalize wr.drew = w43 at HO_13 HO_14 HO_15 HO_16 HO_17 HB hx270_0 hx270_1 hx271_0 hx272_0 hx273_0 hx273_1 hx273_2 hHeld ⊢
                                    refine pure_ (i := 0) (N := some 79) (v := ?_) (a' := ?_) #[true, false, false, false, false, false, false, false, false, false, false, false, false, false, false, false, false, false] rfl rfl (any_of HT_.out (by kernel_rfl)) (fun _ _ _ h => h) (Or.inl ⟨by rfl, ?_⟩) ?_ ?_
                                    rotate_left
                                    · intro w'
                                      go_simp
                                      with_reducible rfl
                                    rotate_left
                                    · simp only [Act.put, List.setIfInBounds_toArray, List.set_cons_zero, List.set_cons_succ, i64_w, i32_w]
                                      rfl
                                    refine pure_ (i := 1) (N := some 80) (v := ?_) (a' := ?_) #[true, true, false, false, false, false, false, false, false, false, false, false, false, false, false, false, false, false] rfl rfl (any_of HT_.out (by kernel_rfl)) (fun _ _ _ h => h) (Or.inl ⟨by rfl, ?_⟩) ?_ ?_
                                    rotate_left
                                    · intro w'
                                      go_simp
                                      with_reducible rfl
                                    rotate_left
                                    · simp only [Act.put, List.setIfInBounds_toArray, List.set_cons_zero, List.set_cons_succ, i64_w, i32_w]
                                      rfl
                                    refine pure_ (i := 2) (N := some 81) (v := ?_) (a' := ?_) #[true, true, true, false, false, false, false, false, false, false, false, false, false, false, false, false, false, false] rfl rfl (any_of HT_.out (by kernel_rfl)) (fun _ _ _ h => h) (Or.inl ⟨by rfl, ?_⟩) ?_ ?_
                                    rotate_left
                                    · intro w'
                                      go_simp
                                      with_reducible rfl
                                    rotate_left
                                    · simp only [Act.put, List.setIfInBounds_toArray, List.set_cons_zero, List.set_cons_succ, i64_w, i32_w]
                                      rfl
                                    refine pure_ (i := 4) (N := some 83) (v := ?_) (a' := ?_) #[true, true, true, false, true, false, false, false, false, false, false, false, false, false, false, false, false, false] rfl rfl (any_of HT_.out (by kernel_rfl)) (fun _ _ _ h => h) (Or.inl ⟨by rfl, ?_⟩) ?_ ?_
                                    rotate_left
                                    · intro w'
                                      go_simp
                                      with_reducible rfl
                                    rotate_left
                                    · simp only [Act.put, List.setIfInBounds_toArray, List.set_cons_zero, List.set_cons_succ, i64_w, i32_w]
                                      rfl
                                    refine pure_ (i := 5) (N := some 84) (v := ?_) (a' := ?_) #[true, true, true, false, true, true, false, false, false, false, false, false, false, false, false, false, false, false] rfl rfl (any_of HT_.out (by kernel_rfl)) (fun _ _ _ h => h) (Or.inl ⟨by rfl, ?_⟩) ?_ ?_
                                    rotate_left
                                    · intro w'
                                      go_simp
                                      with_reducible rfl
                                    rotate_left
                                    · simp only [Act.put, List.setIfInBounds_toArray, List.set_cons_zero, List.set_cons_succ, i64_w, i32_w]
                                      rfl
                                    refine pure_ (i := 6) (N := some 85) (v := ?_) (a' := ?_) #[true, true, true, false, true, true, true, false, false, false, false, false, false, false, false, false, false, false] rfl rfl (any_of HT_.out (by kernel_rfl)) (fun _ _ _ h => h) (Or.inl ⟨by rfl, ?_⟩) ?_ ?_
                                    rotate_left
                                    · intro w'
                                      go_simp
                                      with_reducible rfl
                                    rotate_left
                                    · simp only [Act.put, List.setIfInBounds_toArray, List.set_cons_zero, List.set_cons_succ, i64_w, i32_w]
                                      rfl
                                    refine pure_ (i := 8) (N := some 87) (v := ?_) (a' := ?_) #[true, true, true, false, true, true, true, false, true, false, false, false, false, false, false, false, false, false] rfl rfl (any_of HT_.out (by kernel_rfl)) (fun _ _ _ h => h) (Or.inl ⟨by rfl, ?_⟩) ?_ ?_
                                    rotate_left
                                    · intro w'
                                      go_simp
                                      with_reducible rfl
                                    rotate_left
                                    · simp only [Act.put, List.setIfInBounds_toArray, List.set_cons_zero, List.set_cons_succ, i64_w, i32_w]
                                      rfl
                                    refine pure_ (i := 9) (N := some 88) (v := ?_) (a' := ?_) #[true, true, true, false, true, true, true, false, true, true, false, false, false, false, false, false, false, false] rfl rfl (any_of HT_.out (by kernel_rfl)) (fun _ _ _ h => h) (Or.inl ⟨by rfl, ?_⟩) ?_ ?_
                                    rotate_left
                                    · intro w'
                                      go_simp
                                      with_reducible rfl
                                    rotate_left
                                    · simp only [Act.put, List.setIfInBounds_toArray, List.set_cons_zero, List.set_cons_succ, i64_w, i32_w]
                                      rfl
                                    refine pure_ (i := 10) (N := some 89) (v := ?_) (a' := ?_) #[true, true, true, false, true, true, true, false, true, true, true, false, false, false, false, false, false, false] rfl rfl (any_of HT_.out (by kernel_rfl)) (fun _ _ _ h => h) (Or.inl ⟨by rfl, ?_⟩) ?_ ?_
                                    rotate_left
                                    · intro w'
                                      go_simp
                                      with_reducible rfl
                                    rotate_left
                                    · simp only [Act.put, List.setIfInBounds_toArray, List.set_cons_zero, List.set_cons_succ, i64_w, i32_w]
                                      rfl
                                    refine pure_ (i := 12) (N := some 91) (v := ?_) (a' := ?_) #[true, true, true, false, true, true, true, false, true, true, true, false, true, false, false, false, false, false] rfl rfl (any_of HT_.out (by kernel_rfl)) (fun _ _ _ h => h) (Or.inl ⟨by rfl, ?_⟩) ?_ ?_
                                    rotate_left
                                    · intro w'
                                      go_simp
                                      with_reducible rfl
                                    rotate_left
                                    · simp only [Act.put, List.setIfInBounds_toArray, List.set_cons_zero, List.set_cons_succ, i64_w, i32_w]
                                      rfl
                                    refine pure_ (i := 13) (N := some 92) (v := ?_) (a' := ?_) #[true, true, true, false, true, true, true, false, true, true, true, false, true, true, false, false, false, false] rfl rfl (any_of HT_.out (by kernel_rfl)) (fun _ _ _ h => h) (Or.inl ⟨by rfl, ?_⟩) ?_ ?_
                                    rotate_left
                                    · intro w'
                                      go_simp
                                      with_reducible rfl
                                    rotate_left
                                    · simp only [Act.put, List.setIfInBounds_toArray, List.set_cons_zero, List.set_cons_succ, i64_w, i32_w]
                                      rfl
                                    refine pure_ (i := 14) (N := some 93) (v := ?_) (a' := ?_) #[true, true, true, false, true, true, true, false, true, true, true, false, true, true, true, false, false, false] rfl rfl (any_of HT_.out (by kernel_rfl)) (fun _ _ _ h => h) (Or.inl ⟨by rfl, ?_⟩) ?_ ?_
                                    rotate_left
                                    · intro w'
                                      go_simp
                                      with_reducible rfl
                                    rotate_left
                                    · simp only [Act.put, List.setIfInBounds_toArray, List.set_cons_zero, List.set_cons_succ, i64_w, i32_w]
                                      rfl
                                    refine take_ (i := 3) (N := some 82) (v := ?_) (a' := ?_) #[true, true, true, true, true, true, true, false, true, true, true, false, true, true, true, false, false, false] rfl rfl (take_ofW HT_.out HW_.out (by kernel_rfl)) (fun _ _ _ h => h) (Or.inl ⟨by rfl, ?_⟩) hHeld ?_ ?_
                                    rotate_left
                                    · rintro w' ⟨s0, s1, s2, s3, s4, s5, s6⟩
                                      go_simp
                                      with_reducible rfl
                                    rotate_left
                                    · simp only [Act.put, List.setIfInBounds_toArray, List.set_cons_zero, List.set_cons_succ, i64_w, i32_w]
                                      rfl
                                    refine take_ (i := 7) (N := some 86) (v := ?_) (a' := ?_) #[true, true, true, true, true, true, true, true, true, true, true, false, true, true, true, false, false, false] rfl rfl (take_ofW HT_.out HW_.out (by kernel_rfl)) (fun _ _ _ h => h) (Or.inl ⟨by rfl, ?_⟩) hHeld ?_ ?_
                                    rotate_left
                                    · rintro w' ⟨s0, s1, s2, s3, s4, s5, s6⟩
                                      go_simp
                                      with_reducible rfl
                                    rotate_left
                                    · simp only [Act.put, List.setIfInBounds_toArray, List.set_cons_zero, List.set_cons_succ, i64_w, i32_w]
                                      rfl
                                    refine take_ (i := 11) (N := some 90) (v := ?_) (a' := ?_) #[true, true, true, true, true, true, true, true, true, true, true, true, true, true, true, false, false, false] rfl rfl (take_ofW HT_.out HW_.out (by kernel_rfl)) (fun _ _ _ h => h) (Or.inl ⟨by rfl, ?_⟩) hHeld ?_ ?_
                                    rotate_left
                                    · rintro w' ⟨s0, s1, s2, s3, s4, s5, s6⟩
                                      go_simp
                                      with_reducible rfl
                                    rotate_left
                                    · simp only [Act.put, List.setIfInBounds_toArray, List.set_cons_zero, List.set_cons_succ, i64_w, i32_w]
                                      rfl
                                    refine take_ (i := 15) (N := some 94) (v := ?_) (a' := ?_) #[true, true, true, true, true, true, true, true, true, true, true, true, true, true, true, true, false, false] rfl rfl (take_ofW HT_.out HW_.out (by kernel_rfl)) (fun _ _ _ h => h) (Or.inl ⟨by rfl, ?_⟩) hHeld ?_ ?_
                                    rotate_left
                                    · rintro w' ⟨s0, s1, s2, s3, s4, s5, s6⟩
                                      go_simp
                                      with_reducible rfl
                                    rotate_left
                                    · simp only [Act.put, List.setIfInBounds_toArray, List.set_cons_zero, List.set_cons_succ, i64_w, i32_w]
                                      rfl
                                    refine one_ (i := 16) (N := some 95) #[true, true, true, true, true, true, true, true, true, true, true, true, true, true, true, true, true, false] rfl rfl (one_of HT_.out (by kernel_rfl)) (by decide) (fun K hK => ?_)
                                    refine goes_ Try.func10 (by kernel_rfl) rfl #[.int .u64 (rd l0 x18_3), .int .u64 (rd l2 x18_3), .agg #[.int .u64 ((rd_T24 t258 x18_3).f0), .int .u64 ((rd_T24 t258 x18_3).f1), .int .u64 ((rd_T24 t258 x18_3).f2)]] (by rfl) rfl rfl (by (try simp only [List.map_toArray, List.map_cons, List.map_nil]); first | done | rfl | (simp only [List.length_drop, List.length_take]; rfl)) ?_
                                    with_reducible refine (beaver_Open.calls (rd l0 x18_3) (rd l2 x18_3) ((rd_T24 t258 x18_3).f0) ((rd_T24 t258 x18_3).f1) ((rd_T24 t258 x18_3).f2) t274 t275 _ A38.out).mono ?_
                                    rintro e w45 ⟨rfl, hb⟩
                                    have HS0_ := (hb.cell (World.block_lt_of_cell? _ _ (hHeld.1))).trans (hHeld.1)
                                    have HS1_ := (hb.cell (World.block_lt_of_cell? _ _ (hHeld.2.1))).trans (hHeld.2.1)
                                    have HS4_ := (hb.cell (World.block_lt_of_cell? _ _ (hHeld.2.2.2.2.1))).trans (hHeld.2.2.2.2.1)
                                    have HS5_ := (hb.cell (World.block_lt_of_cell? _ _ (hHeld.2.2.2.2.2.1))).trans (hHeld.2.2.2.2.2.1)
                                    have HS6_ := (hb.cell (World.block_lt_of_cell? _ _ (hHeld.2.2.2.2.2.2))).trans (hHeld.2.2.2.2.2.2)
                                    refine ⟨_, rfl, ?_⟩
                                    have n0_ := Aside0.mk (Kd.R_below (by (with_reducible repeat (first | apply Kd.R_alloc | apply Kd.R_drewN | apply Kd.R_drew)); exact HO_13.out) hb)
                                    have n1_ := Aside0.mk (Kd.R_below (by (with_reducible repeat (first | apply Kd.R_alloc | apply Kd.R_drewN | apply Kd.R_drew)); exact HO_14.out) hb)
                                    have n2_ := Aside0.mk (Kd.R_below (by (with_reducible repeat (first | apply Kd.R_alloc | apply Kd.R_drewN | apply Kd.R_drew)); exact HO_15.out) hb)
                                    have n3_ := Aside0.mk (Kd.R_below (by (with_reducible repeat (first | apply Kd.R_alloc | apply Kd.R_drewN | apply Kd.R_drew)); exact HO_16.out) hb)
                                    have n4_ := Aside0.mk (Kd.R_below (by (with_reducible repeat (first | apply Kd.R_alloc | apply Kd.R_drewN | apply Kd.R_drew)); exact HO_17.out) hb)
                                    have n5_ := Aside0.mk (below_step (by repeat (first | (with_reducible first | exact HB.out | apply below_alloc | apply pw_below_drewN | apply below_drew1) | exact HB.out)) hb)
                                    clear HO_13
                                    clear HO_14
                                    clear HO_15
                                    clear HO_16
                                    clear HO_17
                                    clear HB
                                    have HO_13 := n0_
                                    have HO_14 := n1_
                                    have HO_15 := n2_
                                    have HO_16 := n3_
                                    have HO_17 := n4_
                                    have HB := n5_
                                    clear n0_ n1_ n2_ n3_ n4_ n5_
                                    (try clear hb)
                                    (try clear hb2)
                                    (try clear hk)
                                    (try clear hi)
                                    refine hK.out _ _ ⟨HS0_, HS1_, ((HB.out.cell (World.block_lt_of_cell? w _ hw271_0)).trans hw271_0), ((HB.out.cell (World.block_lt_of_cell? w _ hw272_0)).trans hw272_0), HS4_, HS5_, HS6_⟩ (fun hHeld => ?_)
                                    clear hK K
                                    refine norm_ (a' := ?_) ?_ ?_
                                    rotate_left
                                    · show Act.put _ (some 95) _ = _
                                      simp only [Act.put, List.setIfInBounds_toArray, List.set_cons_zero, List.set_cons_succ, i64_w, i32_w]
                                      rfl
                                    refine pure_ (i := 17) (N := some 96) (v := ?_) (a' := ?_) #[true, true, true, true, true, true, true, true, true, true, true, true, true, true, true, true, true, true] rfl rfl (any_of HT_.out (by kernel_rfl)) (fun _ _ _ h => h) (Or.inl ⟨by rfl, ?_⟩) ?_ ?_
                                    rotate_left
                                    · intro w'
                                      go_simp
                                      with_reducible rfl
                                    rotate_left
                                    · simp only [Act.put, List.setIfInBounds_toArray, List.set_cons_zero, List.set_cons_succ, i64_w, i32_w]
                                      rfl
                                    refine done_ (done_of HT_.out (by kernel_rfl)) ?_
                                    try go_wp2
                                    have n0_ := Aside0.mk (Kd.R_drew HO_13.out)
                                    have n1_ := Aside0.mk (Kd.R_drew HO_14.out)
                                    have n2_ := Aside0.mk (Kd.R_drew HO_15.out)
                                    have n3_ := Aside0.mk (Kd.R_drew HO_16.out)
                                    have n4_ := Aside0.mk (Kd.R_drew HO_17.out)
                                    have n5_ := Aside0.mk (below_drew1 HB.out)
                                    clear HO_13
                                    clear HO_14
                                    clear HO_15
                                    clear HO_16
                                    clear HO_17
                                    clear HB
                                    have HO_13 := n0_
                                    have HO_14 := n1_
                                    have HO_15 := n2_
                                    have HO_16 := n3_
                                    have HO_17 := n4_
                                    have HB := n5_
                                    clear n0_ n1_ n2_ n3_ n4_ n5_
                                    have p276 : 0 ≤ (x18_3 : Int) := of_decide_eq_true (by first | (with_reducible assumption) | assumption)
                                    have q276 : x18_3 < (t264.length : Int) := of_decide_eq_true (by first | (with_reducible assumption) | assumption)
                                    obtain ⟨ad276, e276, hx276_0, hx276_1⟩ := at_T26 (Kd.R_reads' HO_15.out).2.2 x18_3 p276 q276
                                    obtain rfl : ad270 = ad276 := (by injection e276)
                                    replace p276 := eq_true p276
                                    replace q276 := eq_true q276
                                    obtain ⟨Ao47, co47, eo47⟩ := Kd.R_slice HO_16.out
                                    (first | subst eo47 | (injection eo47 with f1_ f2_ f3_; have f4_ := f1_.symm; have f5_ := f3_.symm; clear f1_ f2_ f3_; subst f4_; subst f5_))
                                    have p277 : 0 ≤ (x18_3 : Int) := of_decide_eq_true (by first | (with_reducible assumption) | assumption)
                                    have q277 : x18_3 < (t267.length : Int) := of_decide_eq_true (by first | (with_reducible assumption) | assumption)
                                    obtain ⟨ad277, e277, hx277_0, hx277_1⟩ := at_T26 (Kd.R_reads' HO_16.out).2.2 x18_3 p277 q277
                                    cases e277
                                    replace p277 := eq_true p277
                                    replace q277 := eq_true q277
                                    refine start_ (n := 13) (S := fun w' => w'.cell? (ad270.add ((x18_3).toNat * 2)) = some (.int .u64 ((rd_T26 t264 x18_3).f0)) ∧ w'.cell? ⟨(ad270.add ((x18_3).toNat * 2)).block, (ad270.add ((x18_3).toNat * 2)).off + 1, none⟩ = some (.int .u64 ((rd_T26 t264 x18_3).f1)) ∧ w'.cell? (ad277.add ((x18_3).toNat * 2)) = some (.int .u64 ((rd_T26 t267 x18_3).f0)) ∧ w'.cell? ⟨(ad277.add ((x18_3).toNat * 2)).block, (ad277.add ((x18_3).toNat * 2)).off + 1, none⟩ = some (.int .u64 ((rd_T26 t267 x18_3).f1))) (ds := [10, 11]) #[false, false, false, false, false, false, false, false, false, false, false, false, false] (by kernel_rfl) rfl rfl ⟨hx276_0, hx276_1, hx277_0, hx277_1⟩ (fun hHeld => ?_); refine with_tabW symbolonlaw12_BeaverRows.tab17 symbolonlaw12_BeaverRows.bits17 (fun HT_ HW_ => ?_)
                                    generalize w45.drew = w46 at HO_13 HO_14 HO_15 HO_16 HO_17 HB hx276_0 hx276_1 hx277_0 hx277_1 hHeld ⊢
                                    refine pure_ (i := 0) (N := some 97) (v := ?_) (a' := ?_) #[true, false, false, false, false, false, false, false, false, false, false, false, false] rfl rfl (any_of HT_.out (by kernel_rfl)) (fun _ _ _ h => h) (Or.inl ⟨by rfl, ?_⟩) ?_ ?_
                                    rotate_left
                                    · intro w'
                                      go_simp
                                      with_reducible rfl
                                    rotate_left
                                    · simp only [Act.put, List.setIfInBounds_toArray, List.set_cons_zero, List.set_cons_succ, i64_w, i32_w]
                                      rfl
                                    refine pure_ (i := 1) (N := some 98) (v := ?_) (a' := ?_) #[true, true, false, false, false, false, false, false, false, false, false, false, false] rfl rfl (any_of HT_.out (by kernel_rfl)) (fun _ _ _ h => h) (Or.inl ⟨by rfl, ?_⟩) ?_ ?_
                                    rotate_left
                                    · intro w'
                                      go_simp
                                      with_reducible rfl
                                    rotate_left
                                    · simp only [Act.put, List.setIfInBounds_toArray, List.set_cons_zero, List.set_cons_succ, i64_w, i32_w]
                                      rfl
                                    refine pure_ (i := 2) (N := some 99) (v := ?_) (a' := ?_) #[true, true, true, false, false, false, false, false, false, false, false, false, false] rfl rfl (any_of HT_.out (by kernel_rfl)) (fun _ _ _ h => h) (Or.inl ⟨by rfl, ?_⟩) ?_ ?_
                                    rotate_left
                                    · intro w'
                                      go_simp
                                      with_reducible rfl
                                    rotate_left
                                    · simp only [Act.put, List.setIfInBounds_toArray, List.set_cons_zero, List.set_cons_succ, i64_w, i32_w]
                                      rfl
                                    refine pure_ (i := 3) (N := some 100) (v := ?_) (a' := ?_) #[true, true, true, true, false, false, false, false, false, false, false, false, false] rfl rfl (any_of HT_.out (by kernel_rfl)) (fun _ _ _ h => h) (Or.inl ⟨by rfl, ?_⟩) ?_ ?_
                                    rotate_left
                                    · intro w'
                                      go_simp
                                      with_reducible rfl
                                    rotate_left
                                    · simp only [Act.put, List.setIfInBounds_toArray, List.set_cons_zero, List.set_cons_succ, i64_w, i32_w]
                                      rfl
                                    refine pure_ (i := 5) (N := some 102) (v := ?_) (a' := ?_) #[true, true, true, true, false, true, false, false, false, false, false, false, false] rfl rfl (any_of HT_.out (by kernel_rfl)) (fun _ _ _ h => h) (Or.inl ⟨by rfl, ?_⟩) ?_ ?_
                                    rotate_left
                                    · intro w'
                                      go_simp
                                      with_reducible rfl
                                    rotate_left
                                    · simp only [Act.put, List.setIfInBounds_toArray, List.set_cons_zero, List.set_cons_succ, i64_w, i32_w]
                                      rfl
                                    refine pure_ (i := 6) (N := some 103) (v := ?_) (a' := ?_) #[true, true, true, true, false, true, true, false, false, false, false, false, false] rfl rfl (any_of HT_.out (by kernel_rfl)) (fun _ _ _ h => h) (Or.inl ⟨by rfl, ?_⟩) ?_ ?_
                                    rotate_left
                                    · intro w'
                                      go_simp
                                      with_reducible rfl
                                    rotate_left
                                    · simp only [Act.put, List.setIfInBounds_toArray, List.set_cons_zero, List.set_cons_succ, i64_w, i32_w]
                                      rfl
                                    refine pure_ (i := 7) (N := some 104) (v := ?_) (a' := ?_) #[true, true, true, true, false, true, true, true, false, false, false, false, false] rfl rfl (any_of HT_.out (by kernel_rfl)) (fun _ _ _ h => h) (Or.inl ⟨by rfl, ?_⟩) ?_ ?_
                                    rotate_left
                                    · intro w'
                                      go_simp
                                      with_reducible rfl
                                    rotate_left
                                    · simp only [Act.put, List.setIfInBounds_toArray, List.set_cons_zero, List.set_cons_succ, i64_w, i32_w]
                                      rfl
                                    refine take_ (i := 4) (N := some 101) (v := ?_) (a' := ?_) #[true, true, true, true, true, true, true, true, false, false, false, false, false] rfl rfl (take_ofW HT_.out HW_.out (by kernel_rfl)) (fun _ _ _ h => h) (Or.inl ⟨by rfl, ?_⟩) hHeld ?_ ?_
                                    rotate_left
                                    · rintro w' ⟨s0, s1, s2, s3⟩
                                      go_simp
                                      with_reducible rfl
                                    rotate_left
                                    · simp only [Act.put, List.setIfInBounds_toArray, List.set_cons_zero, List.set_cons_succ, i64_w, i32_w]
                                      rfl
                                    refine take_ (i := 8) (N := some 105) (v := ?_) (a' := ?_) #[true, true, true, true, true, true, true, true, true, false, false, false, false] rfl rfl (take_ofW HT_.out HW_.out (by kernel_rfl)) (fun _ _ _ h => h) (Or.inl ⟨by rfl, ?_⟩) hHeld ?_ ?_
                                    rotate_left
                                    · rintro w' ⟨s0, s1, s2, s3⟩
                                      go_simp
                                      with_reducible rfl
                                    rotate_left
                                    · simp only [Act.put, List.setIfInBounds_toArray, List.set_cons_zero, List.set_cons_succ, i64_w, i32_w]
                                      rfl
                                    refine one_ (i := 9) (N := some 106) #[true, true, true, true, true, true, true, true, true, true, false, false, false] rfl rfl (one_of HT_.out (by kernel_rfl)) (by decide) (fun K hK => ?_)
                                    refine goes_ Try.func12 (by kernel_rfl) rfl #[.agg #[.int .u64 ((rd_T26 t264 x18_3).f0), .int .u64 ((rd_T26 t264 x18_3).f1)], .agg #[.int .u64 ((rd_T26 t267 x18_3).f0), .int .u64 ((rd_T26 t267 x18_3).f1)]] (by rfl) rfl rfl (by (try simp only [List.map_toArray, List.map_cons, List.map_nil]); first | done | rfl | (simp only [List.length_drop, List.length_take]; rfl)) ?_
                                    with_reducible refine (beaver_Sum.calls ((rd_T26 t264 x18_3).f0) ((rd_T26 t264 x18_3).f1) ((rd_T26 t267 x18_3).f0) ((rd_T26 t267 x18_3).f1) t278 t279 _ A41.out).mono ?_
                                    rintro e w48 ⟨rfl, hb⟩
                                    have HS0_ := (hb.cell (World.block_lt_of_cell? _ _ (hHeld.1))).trans (hHeld.1)
                                    have HS1_ := (hb.cell (World.block_lt_of_cell? _ _ (hHeld.2.1))).trans (hHeld.2.1)
                                    have HS2_ := (hb.cell (World.block_lt_of_cell? _ _ (hHeld.2.2.1))).trans (hHeld.2.2.1)
                                    have HS3_ := (hb.cell (World.block_lt_of_cell? _ _ (hHeld.2.2.2))).trans (hHeld.2.2.2)
                                    refine ⟨_, rfl, ?_⟩
                                    have n0_ := Aside0.mk (Kd.R_below (by (with_reducible repeat (first | apply Kd.R_alloc | apply Kd.R_drewN | apply Kd.R_drew)); exact HO_13.out) hb)
                                    have n1_ := Aside0.mk (Kd.R_below (by (with_reducible repeat (first | apply Kd.R_alloc | apply Kd.R_drewN | apply Kd.R_drew)); exact HO_14.out) hb)
                                    have n2_ := Aside0.mk (Kd.R_below (by (with_reducible repeat (first | apply Kd.R_alloc | apply Kd.R_drewN | apply Kd.R_drew)); exact HO_15.out) hb)
                                    have n3_ := Aside0.mk (Kd.R_below (by (with_reducible repeat (first | apply Kd.R_alloc | apply Kd.R_drewN | apply Kd.R_drew)); exact HO_16.out) hb)
                                    have n4_ := Aside0.mk (Kd.R_below (by (with_reducible repeat (first | apply Kd.R_alloc | apply Kd.R_drewN | apply Kd.R_drew)); exact HO_17.out) hb)
                                    have n5_ := Aside0.mk (below_step (by repeat (first | (with_reducible first | exact HB.out | apply below_alloc | apply pw_below_drewN | apply below_drew1) | exact HB.out)) hb)
                                    clear HO_13
                                    clear HO_14
                                    clear HO_15
                                    clear HO_16
                                    clear HO_17
                                    clear HB
                                    have HO_13 := n0_
                                    have HO_14 := n1_
                                    have HO_15 := n2_
                                    have HO_16 := n3_
                                    have HO_17 := n4_
                                    have HB := n5_
                                    clear n0_ n1_ n2_ n3_ n4_ n5_
                                    (try clear hb)
                                    (try clear hb2)
                                    (try clear hk)
                                    (try clear hi)
                                    refine hK.out _ _ ⟨HS0_, HS1_, HS2_, HS3_⟩ (fun hHeld => ?_)
                                    clear hK K
                                    refine norm_ (a' := ?_) ?_ ?_
                                    rotate_left
                                    · show Act.put _ (some 106) _ = _
                                      simp only [Act.put, List.setIfInBounds_toArray, List.set_cons_zero, List.set_cons_succ, i64_w, i32_w]
                                      rfl
                                    refine last_ (i := 10) (N := some 107) #[true, true, true, true, true, true, true, true, true, true, true, false, false] rfl rfl (one_of HT_.out (by kernel_rfl)) (by decide) (fun K hK => ?_)
                                    refine value_ (w1 := ?_) (v := ?_) (by rfl) rfl ?_ ?_
                                    rotate_left 2
                                    · go_simp
                                      constructor
                                      · rfl
                                      · rfl
                                    refine hK.out _ _ ?_
                                    clear hK K
                                    refine norm_ (a' := ?_) ?_ ?_
                                    rotate_left
                                    · show Act.put _ (some 107) _ = _
                                      simp only [Act.put, List.setIfInBounds_toArray, List.set_cons_zero, List.set_cons_succ, i64_w, i32_w]
                                      rfl
                                    refine last_ (i := 11) (N := some 108) #[true, true, true, true, true, true, true, true, true, true, true, true, false] rfl rfl (one_of HT_.out (by kernel_rfl)) (by decide) (fun K hK => ?_)
                                    refine Kd.R_append_step k26 (w0 := w) w.heap.size (by rfl) (.tmp 97) (.tmp 107) 39 26 (.agg #[(.int .u64 0), (.int .u64 0)]) 16 rfl Try.underlying39 info26 rfl (by decide) (by omega) u17 x17_3 (⟨t278, t279⟩ : S26) [.int .u64 t278, .int .u64 t279] (fun k_ => some k_ ≠ (.slice (some ad270) t264.length co44 : Value).ownBlock ∧ some k_ ≠ (.slice (some ad277) t267.length co47 : Value).ownBlock) (fun _ => False) rfl rfl ?aP (fun _ hk => hk.elim) ?aF ?aO ?aB ?aS ?aL ?_
                                    (case aP => exact k26_mkM _ _ _ (⟨t278, t279⟩ : S26))
                                    (case aB => exact (by repeat (first | (with_reducible first | exact HB.out | apply below_alloc | apply pw_below_drewN | apply below_drew1) | exact HB.out)))
                                    (case aF => exact (fun k_ hk => ⟨Kd.fresh' (Kd.R_lt (by (with_reducible repeat (first | apply Kd.R_alloc | apply Kd.R_drewN | apply Kd.R_drew)); exact HO_15.out)) k_ hk, Kd.fresh' (Kd.R_lt (by (with_reducible repeat (first | apply Kd.R_alloc | apply Kd.R_drewN | apply Kd.R_drew)); exact HO_16.out)) k_ hk⟩))
                                    (case aO => exact (by (with_reducible repeat (first | apply Kd.R_alloc | apply Kd.R_drewN | apply Kd.R_drew)); exact HO_17.out))
                                    (case aS => exact (below_size (by repeat (first | (with_reducible first | exact HB.out | apply below_alloc | apply pw_below_drewN | apply below_drew1) | exact HB.out))))
                                    (case aL => have := LMc42.out; omega)
                                    intro v281 w49 ho hb hg hat
                                    rw [← Ny280.out] at ho
                                    have n0_ := Aside0.mk (Kd.R_over' (by (with_reducible repeat (first | apply Kd.R_alloc | apply Kd.R_drewN | apply Kd.R_drew)); exact HO_13.out) (Kd.R_typed (by (with_reducible repeat (first | apply Kd.R_alloc | apply Kd.R_drewN | apply Kd.R_drew)); exact HO_17.out)) (by decide) hg)
                                    have n1_ := Aside0.mk (Kd.R_over' (by (with_reducible repeat (first | apply Kd.R_alloc | apply Kd.R_drewN | apply Kd.R_drew)); exact HO_14.out) (Kd.R_typed (by (with_reducible repeat (first | apply Kd.R_alloc | apply Kd.R_drewN | apply Kd.R_drew)); exact HO_17.out)) (by decide) hg)
                                    have n2_ := Aside0.mk (Kd.R_after (ok := (fun k_ => some k_ ≠ (.slice (some ad277) t267.length co47 : Value).ownBlock)) (by (with_reducible repeat (first | apply Kd.R_alloc | apply Kd.R_drewN | apply Kd.R_drew)); exact HO_15.out) hg hat)
                                    have n3_ := Aside0.mk (Kd.R_after (ok := (fun k_ => some k_ ≠ (.slice (some ad270) t264.length co44 : Value).ownBlock)) (by (with_reducible repeat (first | apply Kd.R_alloc | apply Kd.R_drewN | apply Kd.R_drew)); exact HO_16.out) hg hat)
                                    have n4_ := Aside0.mk (hb)
                                    have n5_ := Aside0.mk (ho)
                                    clear HO_13
                                    clear HO_14
                                    clear HO_15
                                    clear HO_16
                                    clear HB
                                    clear HO_17
                                    have HO_13 := n0_
                                    have HO_14 := n1_
                                    have HO_15 := n2_
                                    have HO_16 := n3_
                                    have HB := n4_
                                    have HO282 := n5_
                                    clear n0_ n1_ n2_ n3_ n4_ n5_
                                    clear ho hb hg hat
                                    refine hK.out _ _ ?_
                                    clear hK K
                                    refine norm_ (a' := ?_) ?_ ?_
                                    rotate_left
                                    · show Act.put _ (some 108) _ = _
                                      simp only [Act.put, List.setIfInBounds_toArray, List.set_cons_zero, List.set_cons_succ, i64_w, i32_w]
                                      rfl
                                    refine pure_ (i := 12) (N := some 17) (v := ?_) (a' := ?_) #[true, true, true, true, true, true, true, true, true, true, true, true, true] rfl rfl (any_of HT_.out (by kernel_rfl)) (fun _ _ _ h => h) (Or.inl ⟨by rfl, ?_⟩) ?_ ?_
                                    rotate_left
                                    · intro w'
                                      go_simp
                                      with_reducible rfl
                                    rotate_left
                                    · simp only [Act.put, List.setIfInBounds_toArray, List.set_cons_zero, List.set_cons_succ, i64_w, i32_w]
                                      rfl
                                    refine done_ (done_of HT_.out (by kernel_rfl)) ?_
                                    try go_wp2
                                    go_roundg k3
                                    case measure => have := HJ9.out; have := HJ19.out; have := HK3.out; omega
                                    case rel => exact ⟨(y280), (wrap64 (x18_3 + 1)), (by first | rfl | (simp; done) | (simp [*]; done)), H', ⟨by have := HJ9.out; have := HJ19.out; have := HK3.out; omega⟩, ⟨by (with_reducible repeat (first | apply Kd.R_alloc | apply Kd.R_drewN | apply Kd.R_drew)); exact HO_13.out⟩, ⟨by (with_reducible repeat (first | apply Kd.R_alloc | apply Kd.R_drewN | apply Kd.R_drew)); exact HO_14.out⟩, ⟨by (with_reducible repeat (first | apply Kd.R_alloc | apply Kd.R_drewN | apply Kd.R_drew)); exact HO_15.out⟩, ⟨by (with_reducible repeat (first | apply Kd.R_alloc | apply Kd.R_drewN | apply Kd.R_drew)); exact HO_16.out⟩, ⟨by (with_reducible repeat (first | apply Kd.R_alloc | apply Kd.R_drewN | apply Kd.R_drew)); exact HO282.out⟩, ⟨by repeat (first | (with_reducible first | exact HB.out | apply below_alloc | apply pw_below_drewN | apply below_drew1) | exact HB.out)⟩⟩
                                  · rw [if_neg c42] at H
                                    exact absurd H (by simp)
                                · rw [if_neg c40] at H
                                  exact absurd H (by simp)
                            · rw [if_neg c37] at H
                              exact absurd H (by simp)
                          · rw [if_neg c36] at H
                            exact absurd H (by simp)
                        · rw [if_neg c35] at H
                          exact absurd H (by simp)
                      · rw [if_neg c34] at H
                        exact absurd H (by simp)
                    · rw [if_neg c33] at H
                      exact absurd H (by simp)
                  · rw [if_neg c32] at H
                    have c32b0 : decide (x18_3 < ji9) = false := decide_eq_false c32
                    clear c32
                    replace H := Option.bind_eq_some_iff.mp H
                    obtain ⟨t283, A500, H⟩ := H
                    replace H : ((beaver_Closes.f k3 1 x17_3 t261).bind fun t286 => (if t257 = true then ((symbolonref01_Add.f k3 t283 t286).bind fun t289 => (if 0 ≤ ji9 then (if ji9 ≤ (l0.length : Int) then (if ji9 ≤ (l1.length : Int) then ((symbolonref01_Add.f k3 (l0.take (ji9 : Int).toNat) (l1.take (ji9 : Int).toNat)).bind fun t294 => (if ji9 ≤ (l2.length : Int) then (if ji9 ≤ (l3.length : Int) then ((symbolonref01_Add.f k3 (l2.take (ji9 : Int).toNat) (l3.take (ji9 : Int).toNat)).bind fun t299 => ((symbolonref01_Mul.f k3 t294 t299).bind fun t302 => ((symbolonref01_Same.f k3 t289 t302).bind fun t305 => (if t305 = true then (if (t283.length : Int) = ji9 then (if (t286.length : Int) = ji9 then ((beaver_Closes.f k3 0 x17_3 ([] : List (S24))).bind fun t306 => (some ((t306.length : Int) == 0))) else (none)) else (none)) else (none))))) else (none)) else (none))) else (none)) else (none)) else (none))) else (none))) = some r := H
                    have A50 := Aside0.mk A500
                    clear A500
                    replace H := Option.bind_eq_some_iff.mp H
                    obtain ⟨t286, A510, H⟩ := H
                    replace H : (if t257 = true then ((symbolonref01_Add.f k3 t283 t286).bind fun t289 => (if 0 ≤ ji9 then (if ji9 ≤ (l0.length : Int) then (if ji9 ≤ (l1.length : Int) then ((symbolonref01_Add.f k3 (l0.take (ji9 : Int).toNat) (l1.take (ji9 : Int).toNat)).bind fun t294 => (if ji9 ≤ (l2.length : Int) then (if ji9 ≤ (l3.length : Int) then ((symbolonref01_Add.f k3 (l2.take (ji9 : Int).toNat) (l3.take (ji9 : Int).toNat)).bind fun t299 => ((symbolonref01_Mul.f k3 t294 t299).bind fun t302 => ((symbolonref01_Same.f k3 t289 t302).bind fun t305 => (if t305 = true then (if (t283.length : Int) = ji9 then (if (t286.length : Int) = ji9 then ((beaver_Closes.f k3 0 x17_3 ([] : List (S24))).bind fun t306 => (some ((t306.length : Int) == 0))) else (none)) else (none)) else (none))))) else (none)) else (none))) else (none)) else (none)) else (none))) else (none)) = some r := H
                    have A51 := Aside0.mk A510
                    clear A510
                    by_cases c52 : t257 = true
                    · subst c52
                      have H1 : ((symbolonref01_Add.f k3 t283 t286).bind fun t289 => (if 0 ≤ ji9 then (if ji9 ≤ (l0.length : Int) then (if ji9 ≤ (l1.length : Int) then ((symbolonref01_Add.f k3 (l0.take (ji9 : Int).toNat) (l1.take (ji9 : Int).toNat)).bind fun t294 => (if ji9 ≤ (l2.length : Int) then (if ji9 ≤ (l3.length : Int) then ((symbolonref01_Add.f k3 (l2.take (ji9 : Int).toNat) (l3.take (ji9 : Int).toNat)).bind fun t299 => ((symbolonref01_Mul.f k3 t294 t299).bind fun t302 => ((symbolonref01_Same.f k3 t289 t302).bind fun t305 => (if t305 = true then (if (t283.length : Int) = ji9 then (if (t286.length : Int) = ji9 then ((beaver_Closes.f k3 0 x17_3 ([] : List (S24))).bind fun t306 => (some ((t306.length : Int) == 0))) else (none)) else (none)) else (none))))) else (none)) else (none))) else (none)) else (none)) else (none))) = some r := by rw [if_pos rfl] at H; exact H
                      clear H
                      have H := H1
                      clear H1
                      replace H := Option.bind_eq_some_iff.mp H
                      obtain ⟨t289, A530, H⟩ := H
                      replace H : (if 0 ≤ ji9 then (if ji9 ≤ (l0.length : Int) then (if ji9 ≤ (l1.length : Int) then ((symbolonref01_Add.f k3 (l0.take (ji9 : Int).toNat) (l1.take (ji9 : Int).toNat)).bind fun t294 => (if ji9 ≤ (l2.length : Int) then (if ji9 ≤ (l3.length : Int) then ((symbolonref01_Add.f k3 (l2.take (ji9 : Int).toNat) (l3.take (ji9 : Int).toNat)).bind fun t299 => ((symbolonref01_Mul.f k3 t294 t299).bind fun t302 => ((symbolonref01_Same.f k3 t289 t302).bind fun t305 => (if t305 = true then (if (t283.length : Int) = ji9 then (if (t286.length : Int) = ji9 then ((beaver_Closes.f k3 0 x17_3 ([] : List (S24))).bind fun t306 => (some ((t306.length : Int) == 0))) else (none)) else (none)) else (none))))) else (none)) else (none))) else (none)) else (none)) else (none)) = some r := H
                      have A53 := Aside0.mk A530
                      clear A530
                      by_cases c54 : 0 ≤ ji9
                      · rw [if_pos c54] at H
                        have c54b0 := eq_true c54
                        have c54b1 : decide (0 ≤ ji9) = true := decide_eq_true c54
                        clear c54
                        by_cases c55 : ji9 ≤ (l0.length : Int)
                        · rw [if_pos c55] at H
                          have c55b0 := eq_true c55
                          have c55b1 : decide (ji9 ≤ (l0.length : Int)) = true := decide_eq_true c55
                          clear c55
                          have c56b0 := eq_true (of_decide_eq_true (by first | (with_reducible assumption) | assumption) : 0 ≤ ji9)
                          by_cases c57 : ji9 ≤ (l1.length : Int)
                          · rw [if_pos c57] at H
                            have c57b0 := eq_true c57
                            have c57b1 : decide (ji9 ≤ (l1.length : Int)) = true := decide_eq_true c57
                            clear c57
                            replace H := Option.bind_eq_some_iff.mp H
                            obtain ⟨t294, A580, H⟩ := H
                            replace H : (if ji9 ≤ (l2.length : Int) then (if ji9 ≤ (l3.length : Int) then ((symbolonref01_Add.f k3 (l2.take (ji9 : Int).toNat) (l3.take (ji9 : Int).toNat)).bind fun t299 => ((symbolonref01_Mul.f k3 t294 t299).bind fun t302 => ((symbolonref01_Same.f k3 t289 t302).bind fun t305 => (if t305 = true then (if (t283.length : Int) = ji9 then (if (t286.length : Int) = ji9 then ((beaver_Closes.f k3 0 x17_3 ([] : List (S24))).bind fun t306 => (some ((t306.length : Int) == 0))) else (none)) else (none)) else (none))))) else (none)) else (none)) = some r := H
                            have A58 := Aside0.mk A580
                            clear A580
                            have c59b0 := eq_true (of_decide_eq_true (by first | (with_reducible assumption) | assumption) : 0 ≤ ji9)
                            by_cases c60 : ji9 ≤ (l2.length : Int)
                            · rw [if_pos c60] at H
                              have c60b0 := eq_true c60
                              have c60b1 : decide (ji9 ≤ (l2.length : Int)) = true := decide_eq_true c60
                              clear c60
                              have c61b0 := eq_true (of_decide_eq_true (by first | (with_reducible assumption) | assumption) : 0 ≤ ji9)
                              by_cases c62 : ji9 ≤ (l3.length : Int)
                              · rw [if_pos c62] at H
                                have c62b0 := eq_true c62
                                have c62b1 : decide (ji9 ≤ (l3.length : Int)) = true := decide_eq_true c62
                                clear c62
                                replace H := Option.bind_eq_some_iff.mp H
                                obtain ⟨t299, A630, H⟩ := H
                                replace H : ((symbolonref01_Mul.f k3 t294 t299).bind fun t302 => ((symbolonref01_Same.f k3 t289 t302).bind fun t305 => (if t305 = true then (if (t283.length : Int) = ji9 then (if (t286.length : Int) = ji9 then ((beaver_Closes.f k3 0 x17_3 ([] : List (S24))).bind fun t306 => (some ((t306.length : Int) == 0))) else (none)) else (none)) else (none)))) = some r := H
                                have A63 := Aside0.mk A630
                                clear A630
                                replace H := Option.bind_eq_some_iff.mp H
                                obtain ⟨t302, A640, H⟩ := H
                                replace H : ((symbolonref01_Same.f k3 t289 t302).bind fun t305 => (if t305 = true then (if (t283.length : Int) = ji9 then (if (t286.length : Int) = ji9 then ((beaver_Closes.f k3 0 x17_3 ([] : List (S24))).bind fun t306 => (some ((t306.length : Int) == 0))) else (none)) else (none)) else (none))) = some r := H
                                have A64 := Aside0.mk A640
                                clear A640
                                replace H := Option.bind_eq_some_iff.mp H
                                obtain ⟨t305, A650, H⟩ := H
                                replace H : (if t305 = true then (if (t283.length : Int) = ji9 then (if (t286.length : Int) = ji9 then ((beaver_Closes.f k3 0 x17_3 ([] : List (S24))).bind fun t306 => (some ((t306.length : Int) == 0))) else (none)) else (none)) else (none)) = some r := H
                                have A65 := Aside0.mk A650
                                clear A650
                                by_cases c66 : t305 = true
                                · subst c66
                                  have H1 : (if (t283.length : Int) = ji9 then (if (t286.length : Int) = ji9 then ((beaver_Closes.f k3 0 x17_3 ([] : List (S24))).bind fun t306 => (some ((t306.length : Int) == 0))) else (none)) else (none)) = some r := by rw [if_pos rfl] at H; exact H
                                  clear H
                                  have H := H1
                                  clear H1
                                  by_cases c67 : (t283.length : Int) = ji9
                                  · rw [if_pos c67] at H
                                    have c67b0 : ((t283.length : Int) == ji9) = true := beq_iff_eq.mpr c67
                                    have c67b1 : ((t283.length : Int) != ji9) = false := bne_eq_false_iff_eq.mpr c67
                                    clear c67
                                    by_cases c68 : (t286.length : Int) = ji9
                                    · rw [if_pos c68] at H
                                      have c68b0 : ((t286.length : Int) == ji9) = true := beq_iff_eq.mpr c68
                                      have c68b1 : ((t286.length : Int) != ji9) = false := bne_eq_false_iff_eq.mpr c68
                                      clear c68
                                      replace H := Option.bind_eq_some_iff.mp H
                                      obtain ⟨t306, A690, H⟩ := H
                                      replace H : (some ((t306.length : Int) == 0)) = some r := H
                                      have A69 := Aside0.mk A690
                                      clear A690
                                      obtain rfl := Option.some.inj H
                                      obtain ⟨Ao70, co70, eo70⟩ := Kd.R_slice HO_17.out
                                      subst eo70
                                      try go_wp2_with (first | ((with_reducible refine gate_callee (f := 19) rfl ?_); refine goesL_ (some 111) rfl rfl Try.func19 (by kernel_rfl) rfl #[.int .i64 0, .slice Ao70 x17_3.length co70, .slice Ao23 t258.length co23] rfl (by (try simp only [List.map_toArray, List.map_cons, List.map_nil]); first | done | rfl | (simp only [List.length_drop, List.length_take]; rfl)) ?_; (with_reducible refine (beaver_Closes.calls k3 0 _ _ x17_3 _ _ t258 t283 _ ?side1 ?side2 ?side3 ?side4 A50.out).mono ?_); (case side1 => repeat (first | exact (Kd.R_reads' HO_17.out).2.2 | (with_reducible refine Kd.C_alloc ?_ _) | (with_reducible refine Kd.C_drewN ?_ _) | (with_reducible refine Kd.C_drew ?_))); (case side2 => exact (Kd.R_reads' HO_17.out).2.1); (case side3 => repeat (first | exact (Kd.R_reads' HO_13.out).2.2 | (with_reducible refine Kd.C_alloc ?_ _) | (with_reducible refine Kd.C_drewN ?_ _) | (with_reducible refine Kd.C_drew ?_))); (case side4 => exact (Kd.R_reads' HO_13.out).2.1); rintro e w71 ⟨v284, rfl, ho0, hb⟩; refine ⟨_, rfl, ?_⟩; have n0_ := Aside0.mk (Kd.R_below (by (with_reducible repeat (first | apply Kd.R_alloc | apply Kd.R_drewN | apply Kd.R_drew)); exact HO_13.out) hb); have n1_ := Aside0.mk (Kd.R_below (by (with_reducible repeat (first | apply Kd.R_alloc | apply Kd.R_drewN | apply Kd.R_drew)); exact HO_14.out) hb); have n2_ := Aside0.mk (Kd.R_below (by (with_reducible repeat (first | apply Kd.R_alloc | apply Kd.R_drewN | apply Kd.R_drew)); exact HO_15.out) hb); have n3_ := Aside0.mk (Kd.R_below (by (with_reducible repeat (first | apply Kd.R_alloc | apply Kd.R_drewN | apply Kd.R_drew)); exact HO_16.out) hb); have n4_ := Aside0.mk (Kd.R_below (by (with_reducible repeat (first | apply Kd.R_alloc | apply Kd.R_drewN | apply Kd.R_drew)); exact HO_17.out) hb); have n5_ := Aside0.mk (Kd.R_lower ho0 (below_size (by repeat (first | (with_reducible first | exact HB.out | apply below_alloc | apply pw_below_drewN | apply below_drew1) | exact HB.out)))); have n6_ := Aside0.mk (below_step (by repeat (first | (with_reducible first | exact HB.out | apply below_alloc | apply pw_below_drewN | apply below_drew1) | exact HB.out)) hb); clear HO_13; clear HO_14; clear HO_15; clear HO_16; clear HO_17; clear HB; have HO_13 := n0_; have HO_14 := n1_; have HO_15 := n2_; have HO_16 := n3_; have HO_17 := n4_; have HO285 := n5_; have HB := n6_; clear n0_ n1_ n2_ n3_ n4_ n5_ n6_; (try clear hb); (try clear hb2); (try clear hk); (try clear hi); (try clear ho0)) | ((with_reducible refine gate_callee (f := 19) rfl ?_); refine goesL_ (some 114) rfl rfl Try.func19 (by kernel_rfl) rfl #[.int .i64 1, .slice Ao70 x17_3.length co70, .slice Ao25 t261.length co25] rfl (by (try simp only [List.map_toArray, List.map_cons, List.map_nil]); first | done | rfl | (simp only [List.length_drop, List.length_take]; rfl)) ?_; (with_reducible refine (beaver_Closes.calls k3 1 _ _ x17_3 _ _ t261 t286 _ ?side1 ?side2 ?side3 ?side4 A51.out).mono ?_); (case side1 => repeat (first | exact (Kd.R_reads' HO_17.out).2.2 | (with_reducible refine Kd.C_alloc ?_ _) | (with_reducible refine Kd.C_drewN ?_ _) | (with_reducible refine Kd.C_drew ?_))); (case side2 => exact (Kd.R_reads' HO_17.out).2.1); (case side3 => repeat (first | exact (Kd.R_reads' HO_14.out).2.2 | (with_reducible refine Kd.C_alloc ?_ _) | (with_reducible refine Kd.C_drewN ?_ _) | (with_reducible refine Kd.C_drew ?_))); (case side4 => exact (Kd.R_reads' HO_14.out).2.1); rintro e w72 ⟨v287, rfl, ho0, hb⟩; refine ⟨_, rfl, ?_⟩; have n0_ := Aside0.mk (Kd.R_below (by (with_reducible repeat (first | apply Kd.R_alloc | apply Kd.R_drewN | apply Kd.R_drew)); exact HO_13.out) hb); have n1_ := Aside0.mk (Kd.R_below (by (with_reducible repeat (first | apply Kd.R_alloc | apply Kd.R_drewN | apply Kd.R_drew)); exact HO_14.out) hb); have n2_ := Aside0.mk (Kd.R_below (by (with_reducible repeat (first | apply Kd.R_alloc | apply Kd.R_drewN | apply Kd.R_drew)); exact HO_15.out) hb); have n3_ := Aside0.mk (Kd.R_below (by (with_reducible repeat (first | apply Kd.R_alloc | apply Kd.R_drewN | apply Kd.R_drew)); exact HO_16.out) hb); have n4_ := Aside0.mk (Kd.R_below (by (with_reducible repeat (first | apply Kd.R_alloc | apply Kd.R_drewN | apply Kd.R_drew)); exact HO_17.out) hb); have n5_ := Aside0.mk (Kd.R_elder' (by (with_reducible repeat (first | apply Kd.R_alloc | apply Kd.R_drewN | apply Kd.R_drew)); exact HO285.out) (Kd.R_base ho0) hb); have n6_ := Aside0.mk (Kd.R_lower (Kd.R_new' ho0 (Kd.R_lt (by (with_reducible repeat (first | apply Kd.R_alloc | apply Kd.R_drewN | apply Kd.R_drew)); exact HO285.out))) (below_size (by repeat (first | (with_reducible first | exact HB.out | apply below_alloc | apply pw_below_drewN | apply below_drew1) | exact HB.out)))); have n7_ := Aside0.mk (below_step (by repeat (first | (with_reducible first | exact HB.out | apply below_alloc | apply pw_below_drewN | apply below_drew1) | exact HB.out)) hb); clear HO_13; clear HO_14; clear HO_15; clear HO_16; clear HO_17; clear HO285; clear HB; have HO_13 := n0_; have HO_14 := n1_; have HO_15 := n2_; have HO_16 := n3_; have HO_17 := n4_; have HO285 := n5_; have HO288 := n6_; have HB := n7_; clear n0_ n1_ n2_ n3_ n4_ n5_ n6_ n7_; (try clear hb); (try clear hb2); (try clear hk); (try clear hi); (try clear ho0)))
                                      have n0_ := Aside0.mk (Kd.R_drew HO_13.out)
                                      have n1_ := Aside0.mk (Kd.R_drew HO_14.out)
                                      have n2_ := Aside0.mk (Kd.R_drew HO_15.out)
                                      have n3_ := Aside0.mk (Kd.R_drew HO_16.out)
                                      have n4_ := Aside0.mk (Kd.R_drew HO_17.out)
                                      have n5_ := Aside0.mk (Kd.R_drew HO285.out)
                                      have n6_ := Aside0.mk (Kd.R_drew HO288.out)
                                      have n7_ := Aside0.mk (below_drew1 HB.out)
                                      clear HO_13
                                      clear HO_14
                                      clear HO_15
                                      clear HO_16
                                      clear HO_17
                                      clear HO285
                                      clear HO288
                                      clear HB
                                      have HO_13 := n0_
                                      have HO_14 := n1_
                                      have HO_15 := n2_
                                      have HO_16 := n3_
                                      have HO_17 := n4_
                                      have HO285 := n5_
                                      have HO288 := n6_
                                      have HB := n7_
                                      clear n0_ n1_ n2_ n3_ n4_ n5_ n6_ n7_
                                      obtain ⟨i074, hi074, _, hsz74, _⟩ := info_parts info22
                                      obtain ⟨hcut74, hA74, hC74⟩ := print_take_of (P := Try.prog) (Value.int .u64) 0 36 22 .i64 Try.underlying36 hi074 hsz74 A0 c0 l0 ji9 (of_decide_eq_true (by first | (with_reducible assumption) | assumption)) (of_decide_eq_true (by first | (with_reducible assumption) | assumption)) HC0.out
                                      have HR292 := Aside0.mk (Kd.C_of_reads (h1 := fun _ => rfl) (hA74 _ (Kd.reads_of_C HR0.out)))
                                      have HC292 := Aside0.mk hC74
                                      clear hA74 hC74 hi074 hsz74
                                      obtain ⟨i075, hi075, _, hsz75, _⟩ := info_parts info22
                                      obtain ⟨hcut75, hA75, hC75⟩ := print_take_of (P := Try.prog) (Value.int .u64) 0 36 22 .i64 Try.underlying36 hi075 hsz75 A1 c1 l1 ji9 (of_decide_eq_true (by first | (with_reducible assumption) | assumption)) (of_decide_eq_true (by first | (with_reducible assumption) | assumption)) HC1.out
                                      have HR293 := Aside0.mk (Kd.C_of_reads (h1 := fun _ => rfl) (hA75 _ (Kd.reads_of_C HR1.out)))
                                      have HC293 := Aside0.mk hC75
                                      clear hA75 hC75 hi075 hsz75
                                      obtain ⟨i076, hi076, _, hsz76, _⟩ := info_parts info22
                                      obtain ⟨hcut76, hA76, hC76⟩ := print_take_of (P := Try.prog) (Value.int .u64) 0 36 22 .i64 Try.underlying36 hi076 hsz76 A2 c2 l2 ji9 (of_decide_eq_true (by first | (with_reducible assumption) | assumption)) (of_decide_eq_true (by first | (with_reducible assumption) | assumption)) HC2.out
                                      have HR297 := Aside0.mk (Kd.C_of_reads (h1 := fun _ => rfl) (hA76 _ (Kd.reads_of_C HR2.out)))
                                      have HC297 := Aside0.mk hC76
                                      clear hA76 hC76 hi076 hsz76
                                      obtain ⟨i077, hi077, _, hsz77, _⟩ := info_parts info22
                                      obtain ⟨hcut77, hA77, hC77⟩ := print_take_of (P := Try.prog) (Value.int .u64) 0 36 22 .i64 Try.underlying36 hi077 hsz77 A3 c3 l3 ji9 (of_decide_eq_true (by first | (with_reducible assumption) | assumption)) (of_decide_eq_true (by first | (with_reducible assumption) | assumption)) HC3.out
                                      have HR298 := Aside0.mk (Kd.C_of_reads (h1 := fun _ => rfl) (hA77 _ (Kd.reads_of_C HR3.out)))
                                      have HC298 := Aside0.mk hC77
                                      clear hA77 hC77 hi077 hsz77
                                      obtain ⟨Ao78, co78, eo78⟩ := Kd.R_slice HO285.out
                                      (first | subst eo78 | (injection eo78 with f1_ f2_ f3_; have f4_ := f1_.symm; have f5_ := f3_.symm; clear f1_ f2_ f3_; subst f4_; subst f5_))
                                      obtain ⟨Ao79, co79, eo79⟩ := Kd.R_slice HO288.out
                                      (first | subst eo79 | (injection eo79 with f1_ f2_ f3_; have f4_ := f1_.symm; have f5_ := f3_.symm; clear f1_ f2_ f3_; subst f4_; subst f5_))
                                      refine start_ (n := 41) (S := fun w' => True) (ds := []) #[false, false, false, false, false, false, false, false, false, false, false, false, false, false, false, false, false, false, false, false, false, false, false, false, false, false, false, false, false, false, false, false, false, false, false, false, false, false, false, false, false] (by kernel_rfl) rfl rfl trivial (fun hHeld => ?_); refine with_tabW symbolonlaw12_BeaverRows.tab20 symbolonlaw12_BeaverRows.bits20 (fun HT_ HW_ => ?_)
                                      generalize w72.drew = w73 at HO_13 HO_14 HO_15 HO_16 HO_17 HO285 HO288 HB HR292 HR293 HR297 HR298 hHeld ⊢
                                      refine pure_ (i := 0) (N := some 115) (v := ?_) (a' := ?_) #[true, false, false, false, false, false, false, false, false, false, false, false, false, false, false, false, false, false, false, false, false, false, false, false, false, false, false, false, false, false, false, false, false, false, false, false, false, false, false, false, false] rfl rfl (any_of HT_.out (by kernel_rfl)) (fun _ _ _ h => h) (Or.inl ⟨by rfl, ?_⟩) ?_ ?_
                                      rotate_left
                                      · intro w'
                                        go_simp
                                        with_reducible rfl
                                      rotate_left
                                      · simp only [Act.put, List.setIfInBounds_toArray, List.set_cons_zero, List.set_cons_succ, i64_w, i32_w]
                                        rfl
                                      refine pure_ (i := 1) (N := some 116) (v := ?_) (a' := ?_) #[true, true, false, false, false, false, false, false, false, false, false, false, false, false, false, false, false, false, false, false, false, false, false, false, false, false, false, false, false, false, false, false, false, false, false, false, false, false, false, false, false] rfl rfl (any_of HT_.out (by kernel_rfl)) (fun _ _ _ h => h) (Or.inl ⟨by rfl, ?_⟩) ?_ ?_
                                      rotate_left
                                      · intro w'
                                        go_simp
                                        with_reducible rfl
                                      rotate_left
                                      · simp only [Act.put, List.setIfInBounds_toArray, List.set_cons_zero, List.set_cons_succ, i64_w, i32_w]
                                        rfl
                                      refine pure_ (i := 2) (N := some 117) (v := ?_) (a' := ?_) #[true, true, true, false, false, false, false, false, false, false, false, false, false, false, false, false, false, false, false, false, false, false, false, false, false, false, false, false, false, false, false, false, false, false, false, false, false, false, false, false, false] rfl rfl (any_of HT_.out (by kernel_rfl)) (fun _ _ _ h => h) (Or.inl ⟨by rfl, ?_⟩) ?_ ?_
                                      rotate_left
                                      · intro w'
                                        go_simp
                                        with_reducible rfl
                                      rotate_left
                                      · simp only [Act.put, List.setIfInBounds_toArray, List.set_cons_zero, List.set_cons_succ, i64_w, i32_w]
                                        rfl
                                      refine pure_ (i := 3) (N := some 118) (v := ?_) (a' := ?_) #[true, true, true, true, false, false, false, false, false, false, false, false, false, false, false, false, false, false, false, false, false, false, false, false, false, false, false, false, false, false, false, false, false, false, false, false, false, false, false, false, false] rfl rfl (any_of HT_.out (by kernel_rfl)) (fun _ _ _ h => h) (Or.inl ⟨by rfl, ?_⟩) ?_ ?_
                                      rotate_left
                                      · intro w'
                                        go_simp
                                        with_reducible rfl
                                      rotate_left
                                      · simp only [Act.put, List.setIfInBounds_toArray, List.set_cons_zero, List.set_cons_succ, i64_w, i32_w]
                                        rfl
                                      refine pure_ (i := 5) (N := some 120) (v := ?_) (a' := ?_) #[true, true, true, true, false, true, false, false, false, false, false, false, false, false, false, false, false, false, false, false, false, false, false, false, false, false, false, false, false, false, false, false, false, false, false, false, false, false, false, false, false] rfl rfl (any_of HT_.out (by kernel_rfl)) (fun _ _ _ h => h) (Or.inl ⟨by rfl, ?_⟩) ?_ ?_
                                      rotate_left
                                      · intro w'
                                        go_simp
                                        with_reducible rfl
                                      rotate_left
                                      · simp only [Act.put, List.setIfInBounds_toArray, List.set_cons_zero, List.set_cons_succ, i64_w, i32_w]
                                        rfl
                                      refine pure_ (i := 6) (N := some 121) (v := ?_) (a' := ?_) #[true, true, true, true, false, true, true, false, false, false, false, false, false, false, false, false, false, false, false, false, false, false, false, false, false, false, false, false, false, false, false, false, false, false, false, false, false, false, false, false, false] rfl rfl (any_of HT_.out (by kernel_rfl)) (fun _ _ _ h => h) (Or.inl ⟨by rfl, ?_⟩) ?_ ?_
                                      rotate_left
                                      · intro w'
                                        go_simp
                                        with_reducible rfl
                                      rotate_left
                                      · simp only [Act.put, List.setIfInBounds_toArray, List.set_cons_zero, List.set_cons_succ, i64_w, i32_w]
                                        rfl
                                      refine pure_ (i := 7) (N := some 122) (v := ?_) (a' := ?_) #[true, true, true, true, false, true, true, true, false, false, false, false, false, false, false, false, false, false, false, false, false, false, false, false, false, false, false, false, false, false, false, false, false, false, false, false, false, false, false, false, false] rfl rfl (any_of HT_.out (by kernel_rfl)) (fun _ _ _ h => h) (Or.inl ⟨by rfl, ?_⟩) ?_ ?_
                                      rotate_left
                                      · intro w'
                                        go_simp
                                        with_reducible rfl
                                      rotate_left
                                      · simp only [Act.put, List.setIfInBounds_toArray, List.set_cons_zero, List.set_cons_succ, i64_w, i32_w]
                                        rfl
                                      refine pure_ (i := 8) (N := some 123) (v := ?_) (a' := ?_) #[true, true, true, true, false, true, true, true, true, false, false, false, false, false, false, false, false, false, false, false, false, false, false, false, false, false, false, false, false, false, false, false, false, false, false, false, false, false, false, false, false] rfl rfl (any_of HT_.out (by kernel_rfl)) (fun _ _ _ h => h) (Or.inl ⟨by rfl, ?_⟩) ?_ ?_
                                      rotate_left
                                      · intro w'
                                        go_simp
                                        with_reducible rfl
                                      rotate_left
                                      · simp only [Act.put, List.setIfInBounds_toArray, List.set_cons_zero, List.set_cons_succ, i64_w, i32_w]
                                        rfl
                                      refine pure_ (i := 9) (N := some 124) (v := ?_) (a' := ?_) #[true, true, true, true, false, true, true, true, true, true, false, false, false, false, false, false, false, false, false, false, false, false, false, false, false, false, false, false, false, false, false, false, false, false, false, false, false, false, false, false, false] rfl rfl (any_of HT_.out (by kernel_rfl)) (fun _ _ _ h => h) (Or.inl ⟨by rfl, ?_⟩) ?_ ?_
                                      rotate_left
                                      · intro w'
                                        go_simp
                                        with_reducible rfl
                                      rotate_left
                                      · simp only [Act.put, List.setIfInBounds_toArray, List.set_cons_zero, List.set_cons_succ, i64_w, i32_w]
                                        rfl
                                      refine pure_ (i := 10) (N := some 125) (v := ?_) (a' := ?_) #[true, true, true, true, false, true, true, true, true, true, true, false, false, false, false, false, false, false, false, false, false, false, false, false, false, false, false, false, false, false, false, false, false, false, false, false, false, false, false, false, false] rfl rfl (any_of HT_.out (by kernel_rfl)) (fun _ _ _ h => h) (Or.inl ⟨by rfl, ?_⟩) ?_ ?_
                                      rotate_left
                                      · intro w'
                                        go_simp
                                        with_reducible rfl
                                      rotate_left
                                      · simp only [Act.put, List.setIfInBounds_toArray, List.set_cons_zero, List.set_cons_succ, i64_w, i32_w]
                                        rfl
                                      refine pure_ (i := 12) (N := some 127) (v := ?_) (a' := ?_) #[true, true, true, true, false, true, true, true, true, true, true, false, true, false, false, false, false, false, false, false, false, false, false, false, false, false, false, false, false, false, false, false, false, false, false, false, false, false, false, false, false] rfl rfl (any_of HT_.out (by kernel_rfl)) (fun _ _ _ h => h) (Or.inl ⟨by rfl, ?_⟩) ?_ ?_
                                      rotate_left
                                      · intro w'
                                        go_simp
                                        with_reducible rfl
                                      rotate_left
                                      · simp only [Act.put, List.setIfInBounds_toArray, List.set_cons_zero, List.set_cons_succ, i64_w, i32_w]
                                        rfl
                                      refine pure_ (i := 13) (N := some 128) (v := ?_) (a' := ?_) #[true, true, true, true, false, true, true, true, true, true, true, false, true, true, false, false, false, false, false, false, false, false, false, false, false, false, false, false, false, false, false, false, false, false, false, false, false, false, false, false, false] rfl rfl (any_of HT_.out (by kernel_rfl)) (fun _ _ _ h => h) (Or.inl ⟨by rfl, ?_⟩) ?_ ?_
                                      rotate_left
                                      · intro w'
                                        go_simp
                                        with_reducible rfl
                                      rotate_left
                                      · simp only [Act.put, List.setIfInBounds_toArray, List.set_cons_zero, List.set_cons_succ, i64_w, i32_w]
                                        rfl
                                      refine pure_ (i := 14) (N := some 129) (v := ?_) (a' := ?_) #[true, true, true, true, false, true, true, true, true, true, true, false, true, true, true, false, false, false, false, false, false, false, false, false, false, false, false, false, false, false, false, false, false, false, false, false, false, false, false, false, false] rfl rfl (any_of HT_.out (by kernel_rfl)) (fun _ _ _ h => h) (Or.inl ⟨by rfl, ?_⟩) ?_ ?_
                                      rotate_left
                                      · intro w'
                                        go_simp
                                        with_reducible rfl
                                      rotate_left
                                      · simp only [Act.put, List.setIfInBounds_toArray, List.set_cons_zero, List.set_cons_succ, i64_w, i32_w]
                                        rfl
                                      refine pure_ (i := 15) (N := some 130) (v := ?_) (a' := ?_) #[true, true, true, true, false, true, true, true, true, true, true, false, true, true, true, true, false, false, false, false, false, false, false, false, false, false, false, false, false, false, false, false, false, false, false, false, false, false, false, false, false] rfl rfl (any_of HT_.out (by kernel_rfl)) (fun _ _ _ h => h) (Or.inl ⟨by rfl, ?_⟩) ?_ ?_
                                      rotate_left
                                      · intro w'
                                        go_simp
                                        with_reducible rfl
                                      rotate_left
                                      · simp only [Act.put, List.setIfInBounds_toArray, List.set_cons_zero, List.set_cons_succ, i64_w, i32_w]
                                        rfl
                                      refine pure_ (i := 16) (N := some 131) (v := ?_) (a' := ?_) #[true, true, true, true, false, true, true, true, true, true, true, false, true, true, true, true, true, false, false, false, false, false, false, false, false, false, false, false, false, false, false, false, false, false, false, false, false, false, false, false, false] rfl rfl (any_of HT_.out (by kernel_rfl)) (fun _ _ _ h => h) (Or.inl ⟨by rfl, ?_⟩) ?_ ?_
                                      rotate_left
                                      · intro w'
                                        go_simp
                                        with_reducible rfl
                                      rotate_left
                                      · simp only [Act.put, List.setIfInBounds_toArray, List.set_cons_zero, List.set_cons_succ, i64_w, i32_w]
                                        rfl
                                      refine pure_ (i := 17) (N := some 132) (v := ?_) (a' := ?_) #[true, true, true, true, false, true, true, true, true, true, true, false, true, true, true, true, true, true, false, false, false, false, false, false, false, false, false, false, false, false, false, false, false, false, false, false, false, false, false, false, false] rfl rfl (any_of HT_.out (by kernel_rfl)) (fun _ _ _ h => h) (Or.inl ⟨by rfl, ?_⟩) ?_ ?_
                                      rotate_left
                                      · intro w'
                                        go_simp
                                        with_reducible rfl
                                      rotate_left
                                      · simp only [Act.put, List.setIfInBounds_toArray, List.set_cons_zero, List.set_cons_succ, i64_w, i32_w]
                                        rfl
                                      refine one_ (i := 4) (N := some 119) #[true, true, true, true, true, true, true, true, true, true, true, false, true, true, true, true, true, true, false, false, false, false, false, false, false, false, false, false, false, false, false, false, false, false, false, false, false, false, false, false, false] rfl rfl (one_of HT_.out (by kernel_rfl)) (by decide) (fun K hK => ?_)
                                      refine goes_ Try.func21 (by kernel_rfl) rfl #[.slice Ao78 t283.length co78, .slice Ao79 t286.length co79] (by rfl) rfl rfl (by (try simp only [List.map_toArray, List.map_cons, List.map_nil]); first | done | rfl | (simp only [List.length_drop, List.length_take]; rfl)) ?_
                                      with_reducible refine (symbolonref01_Add.calls k3 _ _ t283 _ _ t286 t289 _ ?side1 ?side2 ?side3 ?side4 A53.out).mono ?_
                                      (case side1 => repeat (first | exact (Kd.R_reads' HO285.out).2.2 | (with_reducible refine Kd.C_alloc ?_ _) | (with_reducible refine Kd.C_drewN ?_ _) | (with_reducible refine Kd.C_drew ?_)))
                                      (case side2 => exact (Kd.R_reads' HO285.out).2.1)
                                      (case side3 => repeat (first | exact (Kd.R_reads' HO288.out).2.2 | (with_reducible refine Kd.C_alloc ?_ _) | (with_reducible refine Kd.C_drewN ?_ _) | (with_reducible refine Kd.C_drew ?_)))
                                      (case side4 => exact (Kd.R_reads' HO288.out).2.1)
                                      rintro e w80 ⟨v290, rfl, ho0, hb⟩
                                      refine ⟨_, rfl, ?_⟩
                                      have n0_ := Aside0.mk (Kd.R_below (by (with_reducible repeat (first | apply Kd.R_alloc | apply Kd.R_drewN | apply Kd.R_drew)); exact HO_13.out) hb)
                                      have n1_ := Aside0.mk (Kd.R_below (by (with_reducible repeat (first | apply Kd.R_alloc | apply Kd.R_drewN | apply Kd.R_drew)); exact HO_14.out) hb)
                                      have n2_ := Aside0.mk (Kd.R_below (by (with_reducible repeat (first | apply Kd.R_alloc | apply Kd.R_drewN | apply Kd.R_drew)); exact HO_15.out) hb)
                                      have n3_ := Aside0.mk (Kd.R_below (by (with_reducible repeat (first | apply Kd.R_alloc | apply Kd.R_drewN | apply Kd.R_drew)); exact HO_16.out) hb)
                                      have n4_ := Aside0.mk (Kd.R_below (by (with_reducible repeat (first | apply Kd.R_alloc | apply Kd.R_drewN | apply Kd.R_drew)); exact HO_17.out) hb)
                                      have n5_ := Aside0.mk (Kd.R_elder' (by (with_reducible repeat (first | apply Kd.R_alloc | apply Kd.R_drewN | apply Kd.R_drew)); exact HO285.out) (Kd.R_base ho0) hb)
                                      have n6_ := Aside0.mk (Kd.R_elder' (by (with_reducible repeat (first | apply Kd.R_alloc | apply Kd.R_drewN | apply Kd.R_drew)); exact HO288.out) (Kd.R_base ho0) hb)
                                      have n7_ := Aside0.mk (Kd.R_lower (Kd.R_new' (Kd.R_new' ho0 (Kd.R_lt (by (with_reducible repeat (first | apply Kd.R_alloc | apply Kd.R_drewN | apply Kd.R_drew)); exact HO285.out))) (Kd.R_lt (by (with_reducible repeat (first | apply Kd.R_alloc | apply Kd.R_drewN | apply Kd.R_drew)); exact HO288.out))) (below_size (by repeat (first | (with_reducible first | exact HB.out | apply below_alloc | apply pw_below_drewN | apply below_drew1) | exact HB.out))))
                                      have n8_ := Aside0.mk (below_step (by repeat (first | (with_reducible first | exact HB.out | apply below_alloc | apply pw_below_drewN | apply below_drew1) | exact HB.out)) hb)
                                      clear HO_13
                                      clear HO_14
                                      clear HO_15
                                      clear HO_16
                                      clear HO_17
                                      clear HO285
                                      clear HO288
                                      clear HB
                                      have HO_13 := n0_
                                      have HO_14 := n1_
                                      have HO_15 := n2_
                                      have HO_16 := n3_
                                      have HO_17 := n4_
                                      have HO285 := n5_
                                      have HO288 := n6_
                                      have HO291 := n7_
                                      have HB := n8_
                                      clear n0_ n1_ n2_ n3_ n4_ n5_ n6_ n7_ n8_
                                      (try clear hb)
                                      (try clear hb2)
                                      (try clear hk)
                                      (try clear hi)
                                      (try clear ho0)
                                      refine hK.out _ _ trivial (fun hHeld => ?_)
                                      clear hK K
                                      refine norm_ (a' := ?_) ?_ ?_
                                      rotate_left
                                      · show Act.put _ (some 119) _ = _
                                        simp only [Act.put, List.setIfInBounds_toArray, List.set_cons_zero, List.set_cons_succ, i64_w, i32_w]
                                        rfl
                                      refine one_ (i := 11) (N := some 126) #[true, true, true, true, true, true, true, true, true, true, true, true, true, true, true, true, true, true, false, false, false, false, false, false, false, false, false, false, false, false, false, false, false, false, false, false, false, false, false, false, false] rfl rfl (one_of HT_.out (by kernel_rfl)) (by decide) (fun K hK => ?_)
                                      refine goes_ Try.func21 (by kernel_rfl) rfl #[.slice A0 (l0.take (ji9 : Int).toNat).length c0, .slice A1 (l1.take (ji9 : Int).toNat).length c1] (by rfl) rfl rfl (by (try simp only [List.map_toArray, List.map_cons, List.map_nil]); first | done | (rw [show (l0.take (ji9 : Int).toNat).length = ji9.toNat from (by rw [List.length_take]; have h_ : (ji9 : Int) ≤ (l0.length : Int) := of_decide_eq_true (by first | (with_reducible assumption) | assumption); omega), show (l1.take (ji9 : Int).toNat).length = ji9.toNat from (by rw [List.length_take]; have h_ : (ji9 : Int) ≤ (l1.length : Int) := of_decide_eq_true (by first | (with_reducible assumption) | assumption); omega)] <;> rfl) | (rw [show (l0.take (ji9 : Int).toNat).length = ji9.toNat from (by rw [List.length_take]; have h_ : (ji9 : Int) ≤ (l0.length : Int) := of_decide_eq_true (by first | (with_reducible assumption) | assumption); omega)] <;> rfl) | (rw [show (l1.take (ji9 : Int).toNat).length = ji9.toNat from (by rw [List.length_take]; have h_ : (ji9 : Int) ≤ (l1.length : Int) := of_decide_eq_true (by first | (with_reducible assumption) | assumption); omega)] <;> rfl) | (simp only [hji9]; rfl) | rfl | (simp only [List.length_drop, List.length_take]; rfl)) ?_
                                      with_reducible refine (symbolonref01_Add.calls k3 _ _ (l0.take (ji9 : Int).toNat) _ _ (l1.take (ji9 : Int).toNat) t294 _ ?side1 ?side2 ?side3 ?side4 A58.out).mono ?_
                                      (case side1 => repeat (first | exact (Kd.C_below HR292.out HB.out) | (with_reducible refine Kd.C_alloc ?_ _) | (with_reducible refine Kd.C_drewN ?_ _) | (with_reducible refine Kd.C_drew ?_)))
                                      (case side2 => exact HC292.out)
                                      (case side3 => repeat (first | exact (Kd.C_below HR293.out HB.out) | (with_reducible refine Kd.C_alloc ?_ _) | (with_reducible refine Kd.C_drewN ?_ _) | (with_reducible refine Kd.C_drew ?_)))
                                      (case side4 => exact HC293.out)
                                      rintro e w81 ⟨v295, rfl, ho0, hb⟩
                                      refine ⟨_, rfl, ?_⟩
                                      have n0_ := Aside0.mk (Kd.R_below (by (with_reducible repeat (first | apply Kd.R_alloc | apply Kd.R_drewN | apply Kd.R_drew)); exact HO_13.out) hb)
                                      have n1_ := Aside0.mk (Kd.R_below (by (with_reducible repeat (first | apply Kd.R_alloc | apply Kd.R_drewN | apply Kd.R_drew)); exact HO_14.out) hb)
                                      have n2_ := Aside0.mk (Kd.R_below (by (with_reducible repeat (first | apply Kd.R_alloc | apply Kd.R_drewN | apply Kd.R_drew)); exact HO_15.out) hb)
                                      have n3_ := Aside0.mk (Kd.R_below (by (with_reducible repeat (first | apply Kd.R_alloc | apply Kd.R_drewN | apply Kd.R_drew)); exact HO_16.out) hb)
                                      have n4_ := Aside0.mk (Kd.R_below (by (with_reducible repeat (first | apply Kd.R_alloc | apply Kd.R_drewN | apply Kd.R_drew)); exact HO_17.out) hb)
                                      have n5_ := Aside0.mk (Kd.R_elder' (by (with_reducible repeat (first | apply Kd.R_alloc | apply Kd.R_drewN | apply Kd.R_drew)); exact HO285.out) (Kd.R_base ho0) hb)
                                      have n6_ := Aside0.mk (Kd.R_elder' (by (with_reducible repeat (first | apply Kd.R_alloc | apply Kd.R_drewN | apply Kd.R_drew)); exact HO288.out) (Kd.R_base ho0) hb)
                                      have n7_ := Aside0.mk (Kd.R_elder' (by (with_reducible repeat (first | apply Kd.R_alloc | apply Kd.R_drewN | apply Kd.R_drew)); exact HO291.out) (Kd.R_base ho0) hb)
                                      have n8_ := Aside0.mk (Kd.R_lower (Kd.R_new' (Kd.R_new' (Kd.R_new' ho0 (Kd.R_lt (by (with_reducible repeat (first | apply Kd.R_alloc | apply Kd.R_drewN | apply Kd.R_drew)); exact HO285.out))) (Kd.R_lt (by (with_reducible repeat (first | apply Kd.R_alloc | apply Kd.R_drewN | apply Kd.R_drew)); exact HO288.out))) (Kd.R_lt (by (with_reducible repeat (first | apply Kd.R_alloc | apply Kd.R_drewN | apply Kd.R_drew)); exact HO291.out))) (below_size (by repeat (first | (with_reducible first | exact HB.out | apply below_alloc | apply pw_below_drewN | apply below_drew1) | exact HB.out))))
                                      have n9_ := Aside0.mk (below_step (by repeat (first | (with_reducible first | exact HB.out | apply below_alloc | apply pw_below_drewN | apply below_drew1) | exact HB.out)) hb)
                                      clear HO_13
                                      clear HO_14
                                      clear HO_15
                                      clear HO_16
                                      clear HO_17
                                      clear HO285
                                      clear HO288
                                      clear HO291
                                      clear HB
                                      have HO_13 := n0_
                                      have HO_14 := n1_
                                      have HO_15 := n2_
                                      have HO_16 := n3_
                                      have HO_17 := n4_
                                      have HO285 := n5_
                                      have HO288 := n6_
                                      have HO291 := n7_
                                      have HO296 := n8_
                                      have HB := n9_
                                      clear n0_ n1_ n2_ n3_ n4_ n5_ n6_ n7_ n8_ n9_
                                      (try clear hb)
                                      (try clear hb2)
                                      (try clear hk)
                                      (try clear hi)
                                      (try clear ho0)
                                      refine hK.out _ _ trivial (fun hHeld => ?_)
                                      clear hK K
                                      refine norm_ (a' := ?_) ?_ ?_
                                      rotate_left
                                      · show Act.put _ (some 126) _ = _
                                        simp only [Act.put, List.setIfInBounds_toArray, List.set_cons_zero, List.set_cons_succ, i64_w, i32_w]
                                        rfl
                                      refine one_ (i := 18) (N := some 133) #[true, true, true, true, true, true, true, true, true, true, true, true, true, true, true, true, true, true, true, false, false, false, false, false, false, false, false, false, false, false, false, false, false, false, false, false, false, false, false, false, false] rfl rfl (one_of HT_.out (by kernel_rfl)) (by decide) (fun K hK => ?_)
                                      refine goes_ Try.func21 (by kernel_rfl) rfl #[.slice A2 (l2.take (ji9 : Int).toNat).length c2, .slice A3 (l3.take (ji9 : Int).toNat).length c3] (by rfl) rfl rfl (by (try simp only [List.map_toArray, List.map_cons, List.map_nil]); first | done | (rw [show (l2.take (ji9 : Int).toNat).length = ji9.toNat from (by rw [List.length_take]; have h_ : (ji9 : Int) ≤ (l2.length : Int) := of_decide_eq_true (by first | (with_reducible assumption) | assumption); omega), show (l3.take (ji9 : Int).toNat).length = ji9.toNat from (by rw [List.length_take]; have h_ : (ji9 : Int) ≤ (l3.length : Int) := of_decide_eq_true (by first | (with_reducible assumption) | assumption); omega)] <;> rfl) | (rw [show (l2.take (ji9 : Int).toNat).length = ji9.toNat from (by rw [List.length_take]; have h_ : (ji9 : Int) ≤ (l2.length : Int) := of_decide_eq_true (by first | (with_reducible assumption) | assumption); omega)] <;> rfl) | (rw [show (l3.take (ji9 : Int).toNat).length = ji9.toNat from (by rw [List.length_take]; have h_ : (ji9 : Int) ≤ (l3.length : Int) := of_decide_eq_true (by first | (with_reducible assumption) | assumption); omega)] <;> rfl) | (simp only [hji9]; rfl) | rfl | (simp only [List.length_drop, List.length_take]; rfl)) ?_
                                      with_reducible refine (symbolonref01_Add.calls k3 _ _ (l2.take (ji9 : Int).toNat) _ _ (l3.take (ji9 : Int).toNat) t299 _ ?side1 ?side2 ?side3 ?side4 A63.out).mono ?_
                                      (case side1 => repeat (first | exact (Kd.C_below HR297.out HB.out) | (with_reducible refine Kd.C_alloc ?_ _) | (with_reducible refine Kd.C_drewN ?_ _) | (with_reducible refine Kd.C_drew ?_)))
                                      (case side2 => exact HC297.out)
                                      (case side3 => repeat (first | exact (Kd.C_below HR298.out HB.out) | (with_reducible refine Kd.C_alloc ?_ _) | (with_reducible refine Kd.C_drewN ?_ _) | (with_reducible refine Kd.C_drew ?_)))
                                      (case side4 => exact HC298.out)
                                      rintro e w82 ⟨v300, rfl, ho0, hb⟩
                                      refine ⟨_, rfl, ?_⟩
                                      have n0_ := Aside0.mk (Kd.R_below (by (with_reducible repeat (first | apply Kd.R_alloc | apply Kd.R_drewN | apply Kd.R_drew)); exact HO_13.out) hb)
                                      have n1_ := Aside0.mk (Kd.R_below (by (with_reducible repeat (first | apply Kd.R_alloc | apply Kd.R_drewN | apply Kd.R_drew)); exact HO_14.out) hb)
                                      have n2_ := Aside0.mk (Kd.R_below (by (with_reducible repeat (first | apply Kd.R_alloc | apply Kd.R_drewN | apply Kd.R_drew)); exact HO_15.out) hb)
                                      have n3_ := Aside0.mk (Kd.R_below (by (with_reducible repeat (first | apply Kd.R_alloc | apply Kd.R_drewN | apply Kd.R_drew)); exact HO_16.out) hb)
                                      have n4_ := Aside0.mk (Kd.R_below (by (with_reducible repeat (first | apply Kd.R_alloc | apply Kd.R_drewN | apply Kd.R_drew)); exact HO_17.out) hb)
                                      have n5_ := Aside0.mk (Kd.R_elder' (by (with_reducible repeat (first | apply Kd.R_alloc | apply Kd.R_drewN | apply Kd.R_drew)); exact HO285.out) (Kd.R_base ho0) hb)
                                      have n6_ := Aside0.mk (Kd.R_elder' (by (with_reducible repeat (first | apply Kd.R_alloc | apply Kd.R_drewN | apply Kd.R_drew)); exact HO288.out) (Kd.R_base ho0) hb)
                                      have n7_ := Aside0.mk (Kd.R_elder' (by (with_reducible repeat (first | apply Kd.R_alloc | apply Kd.R_drewN | apply Kd.R_drew)); exact HO291.out) (Kd.R_base ho0) hb)
                                      have n8_ := Aside0.mk (Kd.R_elder' (by (with_reducible repeat (first | apply Kd.R_alloc | apply Kd.R_drewN | apply Kd.R_drew)); exact HO296.out) (Kd.R_base ho0) hb)
                                      have n9_ := Aside0.mk (Kd.R_lower (Kd.R_new' (Kd.R_new' (Kd.R_new' (Kd.R_new' ho0 (Kd.R_lt (by (with_reducible repeat (first | apply Kd.R_alloc | apply Kd.R_drewN | apply Kd.R_drew)); exact HO285.out))) (Kd.R_lt (by (with_reducible repeat (first | apply Kd.R_alloc | apply Kd.R_drewN | apply Kd.R_drew)); exact HO288.out))) (Kd.R_lt (by (with_reducible repeat (first | apply Kd.R_alloc | apply Kd.R_drewN | apply Kd.R_drew)); exact HO291.out))) (Kd.R_lt (by (with_reducible repeat (first | apply Kd.R_alloc | apply Kd.R_drewN | apply Kd.R_drew)); exact HO296.out))) (below_size (by repeat (first | (with_reducible first | exact HB.out | apply below_alloc | apply pw_below_drewN | apply below_drew1) | exact HB.out))))
                                      have n10_ := Aside0.mk (below_step (by repeat (first | (with_reducible first | exact HB.out | apply below_alloc | apply pw_below_drewN | apply below_drew1) | exact HB.out)) hb)
                                      clear HO_13
                                      clear HO_14
                                      clear HO_15
                                      clear HO_16
                                      clear HO_17
                                      clear HO285
                                      clear HO288
                                      clear HO291
                                      clear HO296
                                      clear HB
                                      have HO_13 := n0_
                                      have HO_14 := n1_
                                      have HO_15 := n2_
                                      have HO_16 := n3_
                                      have HO_17 := n4_
                                      have HO285 := n5_
                                      have HO288 := n6_
                                      have HO291 := n7_
                                      have HO296 := n8_
                                      have HO301 := n9_
                                      have HB := n10_
                                      clear n0_ n1_ n2_ n3_ n4_ n5_ n6_ n7_ n8_ n9_ n10_
                                      (try clear hb)
                                      (try clear hb2)
                                      (try clear hk)
                                      (try clear hi)
                                      (try clear ho0)
                                      obtain ⟨Ao83, co83, eo83⟩ := Kd.R_slice HO296.out
                                      (first | subst eo83 | (injection eo83 with f1_ f2_ f3_; have f4_ := f1_.symm; have f5_ := f3_.symm; clear f1_ f2_ f3_; subst f4_; subst f5_))
                                      obtain ⟨Ao84, co84, eo84⟩ := Kd.R_slice HO301.out
                                      (first | subst eo84 | (injection eo84 with f1_ f2_ f3_; have f4_ := f1_.symm; have f5_ := f3_.symm; clear f1_ f2_ f3_; subst f4_; subst f5_))
                                      refine hK.out _ _ trivial (fun hHeld => ?_)
                                      clear hK K
                                      refine norm_ (a' := ?_) ?_ ?_
                                      rotate_left
                                      · show Act.put _ (some 133) _ = _
                                        simp only [Act.put, List.setIfInBounds_toArray, List.set_cons_zero, List.set_cons_succ, i64_w, i32_w]
                                        rfl
                                      refine one_ (i := 19) (N := some 134) #[true, true, true, true, true, true, true, true, true, true, true, true, true, true, true, true, true, true, true, true, false, false, false, false, false, false, false, false, false, false, false, false, false, false, false, false, false, false, false, false, false] rfl rfl (one_of HT_.out (by kernel_rfl)) (by decide) (fun K hK => ?_)
                                      refine goes_ Try.func22 (by kernel_rfl) rfl #[.slice Ao83 t294.length co83, .slice Ao84 t299.length co84] (by rfl) rfl rfl (by (try simp only [List.map_toArray, List.map_cons, List.map_nil]); first | done | rfl | (simp only [List.length_drop, List.length_take]; rfl)) ?_
                                      with_reducible refine (symbolonref01_Mul.calls k3 _ _ t294 _ _ t299 t302 _ ?side1 ?side2 ?side3 ?side4 A64.out).mono ?_
                                      (case side1 => repeat (first | exact (Kd.R_reads' HO296.out).2.2 | (with_reducible refine Kd.C_alloc ?_ _) | (with_reducible refine Kd.C_drewN ?_ _) | (with_reducible refine Kd.C_drew ?_)))
                                      (case side2 => exact (Kd.R_reads' HO296.out).2.1)
                                      (case side3 => repeat (first | exact (Kd.R_reads' HO301.out).2.2 | (with_reducible refine Kd.C_alloc ?_ _) | (with_reducible refine Kd.C_drewN ?_ _) | (with_reducible refine Kd.C_drew ?_)))
                                      (case side4 => exact (Kd.R_reads' HO301.out).2.1)
                                      rintro e w85 ⟨v303, rfl, ho0, hb⟩
                                      refine ⟨_, rfl, ?_⟩
                                      have n0_ := Aside0.mk (Kd.R_below (by (with_reducible repeat (first | apply Kd.R_alloc | apply Kd.R_drewN | apply Kd.R_drew)); exact HO_13.out) hb)
                                      have n1_ := Aside0.mk (Kd.R_below (by (with_reducible repeat (first | apply Kd.R_alloc | apply Kd.R_drewN | apply Kd.R_drew)); exact HO_14.out) hb)
                                      have n2_ := Aside0.mk (Kd.R_below (by (with_reducible repeat (first | apply Kd.R_alloc | apply Kd.R_drewN | apply Kd.R_drew)); exact HO_15.out) hb)
                                      have n3_ := Aside0.mk (Kd.R_below (by (with_reducible repeat (first | apply Kd.R_alloc | apply Kd.R_drewN | apply Kd.R_drew)); exact HO_16.out) hb)
                                      have n4_ := Aside0.mk (Kd.R_below (by (with_reducible repeat (first | apply Kd.R_alloc | apply Kd.R_drewN | apply Kd.R_drew)); exact HO_17.out) hb)
                                      have n5_ := Aside0.mk (Kd.R_elder' (by (with_reducible repeat (first | apply Kd.R_alloc | apply Kd.R_drewN | apply Kd.R_drew)); exact HO285.out) (Kd.R_base ho0) hb)
                                      have n6_ := Aside0.mk (Kd.R_elder' (by (with_reducible repeat (first | apply Kd.R_alloc | apply Kd.R_drewN | apply Kd.R_drew)); exact HO288.out) (Kd.R_base ho0) hb)
                                      have n7_ := Aside0.mk (Kd.R_elder' (by (with_reducible repeat (first | apply Kd.R_alloc | apply Kd.R_drewN | apply Kd.R_drew)); exact HO291.out) (Kd.R_base ho0) hb)
                                      have n8_ := Aside0.mk (Kd.R_elder' (by (with_reducible repeat (first | apply Kd.R_alloc | apply Kd.R_drewN | apply Kd.R_drew)); exact HO296.out) (Kd.R_base ho0) hb)
                                      have n9_ := Aside0.mk (Kd.R_elder' (by (with_reducible repeat (first | apply Kd.R_alloc | apply Kd.R_drewN | apply Kd.R_drew)); exact HO301.out) (Kd.R_base ho0) hb)
                                      have n10_ := Aside0.mk (Kd.R_lower (Kd.R_new' (Kd.R_new' (Kd.R_new' (Kd.R_new' (Kd.R_new' ho0 (Kd.R_lt (by (with_reducible repeat (first | apply Kd.R_alloc | apply Kd.R_drewN | apply Kd.R_drew)); exact HO285.out))) (Kd.R_lt (by (with_reducible repeat (first | apply Kd.R_alloc | apply Kd.R_drewN | apply Kd.R_drew)); exact HO288.out))) (Kd.R_lt (by (with_reducible repeat (first | apply Kd.R_alloc | apply Kd.R_drewN | apply Kd.R_drew)); exact HO291.out))) (Kd.R_lt (by (with_reducible repeat (first | apply Kd.R_alloc | apply Kd.R_drewN | apply Kd.R_drew)); exact HO296.out))) (Kd.R_lt (by (with_reducible repeat (first | apply Kd.R_alloc | apply Kd.R_drewN | apply Kd.R_drew)); exact HO301.out))) (below_size (by repeat (first | (with_reducible first | exact HB.out | apply below_alloc | apply pw_below_drewN | apply below_drew1) | exact HB.out))))
                                      have n11_ := Aside0.mk (below_step (by repeat (first | (with_reducible first | exact HB.out | apply below_alloc | apply pw_below_drewN | apply below_drew1) | exact HB.out)) hb)
                                      clear HO_13
                                      clear HO_14
                                      clear HO_15
                                      clear HO_16
                                      clear HO_17
                                      clear HO285
                                      clear HO288
                                      clear HO291
                                      clear HO296
                                      clear HO301
                                      clear HB
                                      have HO_13 := n0_
                                      have HO_14 := n1_
                                      have HO_15 := n2_
                                      have HO_16 := n3_
                                      have HO_17 := n4_
                                      have HO285 := n5_
                                      have HO288 := n6_
                                      have HO291 := n7_
                                      have HO296 := n8_
                                      have HO301 := n9_
                                      have HO304 := n10_
                                      have HB := n11_
                                      clear n0_ n1_ n2_ n3_ n4_ n5_ n6_ n7_ n8_ n9_ n10_ n11_
                                      (try clear hb)
                                      (try clear hb2)
                                      (try clear hk)
                                      (try clear hi)
                                      (try clear ho0)
                                      obtain ⟨Ao86, co86, eo86⟩ := Kd.R_slice HO291.out
                                      (first | subst eo86 | (injection eo86 with f1_ f2_ f3_; have f4_ := f1_.symm; have f5_ := f3_.symm; clear f1_ f2_ f3_; subst f4_; subst f5_))
                                      obtain ⟨Ao87, co87, eo87⟩ := Kd.R_slice HO304.out
                                      (first | subst eo87 | (injection eo87 with f1_ f2_ f3_; have f4_ := f1_.symm; have f5_ := f3_.symm; clear f1_ f2_ f3_; subst f4_; subst f5_))
                                      refine hK.out _ _ trivial (fun hHeld => ?_)
                                      clear hK K
                                      refine norm_ (a' := ?_) ?_ ?_
                                      rotate_left
                                      · show Act.put _ (some 134) _ = _
                                        simp only [Act.put, List.setIfInBounds_toArray, List.set_cons_zero, List.set_cons_succ, i64_w, i32_w]
                                        rfl
                                      refine one_ (i := 20) (N := some 135) #[true, true, true, true, true, true, true, true, true, true, true, true, true, true, true, true, true, true, true, true, true, false, false, false, false, false, false, false, false, false, false, false, false, false, false, false, false, false, false, false, false] rfl rfl (one_of HT_.out (by kernel_rfl)) (by decide) (fun K hK => ?_)
                                      refine goes_ Try.func20 (by kernel_rfl) rfl #[.slice Ao86 t289.length co86, .slice Ao87 t302.length co87] (by rfl) rfl rfl (by (try simp only [List.map_toArray, List.map_cons, List.map_nil]); first | done | rfl | (simp only [List.length_drop, List.length_take]; rfl)) ?_
                                      with_reducible refine (symbolonref01_Same.calls k3 _ _ t289 _ _ t302 true _ ?side1 ?side2 ?side3 ?side4 A65.out).mono ?_
                                      (case side1 => repeat (first | exact (Kd.R_reads' HO291.out).2.2 | (with_reducible refine Kd.C_alloc ?_ _) | (with_reducible refine Kd.C_drewN ?_ _) | (with_reducible refine Kd.C_drew ?_)))
                                      (case side2 => exact (Kd.R_reads' HO291.out).2.1)
                                      (case side3 => repeat (first | exact (Kd.R_reads' HO304.out).2.2 | (with_reducible refine Kd.C_alloc ?_ _) | (with_reducible refine Kd.C_drewN ?_ _) | (with_reducible refine Kd.C_drew ?_)))
                                      (case side4 => exact (Kd.R_reads' HO304.out).2.1)
                                      rintro e w' ⟨rfl, ⟨nd, rfl⟩⟩
                                      refine ⟨_, rfl, ?_⟩
                                      refine hK.out _ _ trivial (fun hHeld => ?_)
                                      clear hK K
                                      refine norm_ (a' := ?_) ?_ ?_
                                      rotate_left
                                      · show Act.put _ (some 135) _ = _
                                        simp only [Act.put, List.setIfInBounds_toArray, List.set_cons_zero, List.set_cons_succ, i64_w, i32_w]
                                        rfl
                                      refine pure_ (i := 21) (N := some 136) (v := ?_) (a' := ?_) #[true, true, true, true, true, true, true, true, true, true, true, true, true, true, true, true, true, true, true, true, true, true, false, false, false, false, false, false, false, false, false, false, false, false, false, false, false, false, false, false, false] rfl rfl (any_of HT_.out (by kernel_rfl)) (fun _ _ _ h => h) (Or.inl ⟨by rfl, ?_⟩) ?_ ?_
                                      rotate_left
                                      · intro w'
                                        go_simp
                                        with_reducible rfl
                                      rotate_left
                                      · simp only [Act.put, List.setIfInBounds_toArray, List.set_cons_zero, List.set_cons_succ, i64_w, i32_w]
                                        rfl
                                      refine pure_ (i := 22) (N := some 137) (v := ?_) (a' := ?_) #[true, true, true, true, true, true, true, true, true, true, true, true, true, true, true, true, true, true, true, true, true, true, true, false, false, false, false, false, false, false, false, false, false, false, false, false, false, false, false, false, false] rfl rfl (any_of HT_.out (by kernel_rfl)) (fun _ _ _ h => h) (Or.inl ⟨by rfl, ?_⟩) ?_ ?_
                                      rotate_left
                                      · intro w'
                                        go_simp
                                        with_reducible rfl
                                      rotate_left
                                      · simp only [Act.put, List.setIfInBounds_toArray, List.set_cons_zero, List.set_cons_succ, i64_w, i32_w]
                                        rfl
                                      refine pure_ (i := 23) (N := some 138) (v := ?_) (a' := ?_) #[true, true, true, true, true, true, true, true, true, true, true, true, true, true, true, true, true, true, true, true, true, true, true, true, false, false, false, false, false, false, false, false, false, false, false, false, false, false, false, false, false] rfl rfl (any_of HT_.out (by kernel_rfl)) (fun _ _ _ h => h) (Or.inl ⟨by rfl, ?_⟩) ?_ ?_
                                      rotate_left
                                      · intro w'
                                        go_simp
                                        with_reducible rfl
                                      rotate_left
                                      · simp only [Act.put, List.setIfInBounds_toArray, List.set_cons_zero, List.set_cons_succ, i64_w, i32_w]
                                        rfl
                                      refine pure_ (i := 24) (N := some 139) (v := ?_) (a' := ?_) #[true, true, true, true, true, true, true, true, true, true, true, true, true, true, true, true, true, true, true, true, true, true, true, true, true, false, false, false, false, false, false, false, false, false, false, false, false, false, false, false, false] rfl rfl (any_of HT_.out (by kernel_rfl)) (fun _ _ _ h => h) (Or.inl ⟨by rfl, ?_⟩) ?_ ?_
                                      rotate_left
                                      · intro w'
                                        go_simp
                                        with_reducible rfl
                                      rotate_left
                                      · simp only [Act.put, List.setIfInBounds_toArray, List.set_cons_zero, List.set_cons_succ, i64_w, i32_w]
                                        rfl
                                      refine pure_ (i := 25) (N := some 140) (v := ?_) (a' := ?_) #[true, true, true, true, true, true, true, true, true, true, true, true, true, true, true, true, true, true, true, true, true, true, true, true, true, true, false, false, false, false, false, false, false, false, false, false, false, false, false, false, false] rfl rfl (any_of HT_.out (by kernel_rfl)) (fun _ _ _ h => h) (Or.inl ⟨by rfl, ?_⟩) ?_ ?_
                                      rotate_left
                                      · intro w'
                                        go_simp
                                        with_reducible rfl
                                      rotate_left
                                      · simp only [Act.put, List.setIfInBounds_toArray, List.set_cons_zero, List.set_cons_succ, i64_w, i32_w]
                                        rfl
                                      refine pure_ (i := 26) (N := some 141) (v := ?_) (a' := ?_) #[true, true, true, true, true, true, true, true, true, true, true, true, true, true, true, true, true, true, true, true, true, true, true, true, true, true, true, false, false, false, false, false, false, false, false, false, false, false, false, false, false] rfl rfl (any_of HT_.out (by kernel_rfl)) (fun _ _ _ h => h) (Or.inl ⟨by rfl, ?_⟩) ?_ ?_
                                      rotate_left
                                      · intro w'
                                        go_simp
                                        with_reducible rfl
                                      rotate_left
                                      · simp only [Act.put, List.setIfInBounds_toArray, List.set_cons_zero, List.set_cons_succ, i64_w, i32_w]
                                        rfl
                                      refine pure_ (i := 27) (N := some 142) (v := ?_) (a' := ?_) #[true, true, true, true, true, true, true, true, true, true, true, true, true, true, true, true, true, true, true, true, true, true, true, true, true, true, true, true, false, false, false, false, false, false, false, false, false, false, false, false, false] rfl rfl (any_of HT_.out (by kernel_rfl)) (fun _ _ _ h => h) (Or.inl ⟨by rfl, ?_⟩) ?_ ?_
                                      rotate_left
                                      · intro w'
                                        go_simp
                                        with_reducible rfl
                                      rotate_left
                                      · simp only [Act.put, List.setIfInBounds_toArray, List.set_cons_zero, List.set_cons_succ, i64_w, i32_w]
                                        rfl
                                      refine pure_ (i := 28) (N := some 143) (v := ?_) (a' := ?_) #[true, true, true, true, true, true, true, true, true, true, true, true, true, true, true, true, true, true, true, true, true, true, true, true, true, true, true, true, true, false, false, false, false, false, false, false, false, false, false, false, false] rfl rfl (any_of HT_.out (by kernel_rfl)) (fun _ _ _ h => h) (Or.inl ⟨by rfl, ?_⟩) ?_ ?_
                                      rotate_left
                                      · intro w'
                                        go_simp
                                        with_reducible rfl
                                      rotate_left
                                      · simp only [Act.put, List.setIfInBounds_toArray, List.set_cons_zero, List.set_cons_succ, i64_w, i32_w]
                                        rfl
                                      refine pure_ (i := 29) (N := some 144) (v := ?_) (a' := ?_) #[true, true, true, true, true, true, true, true, true, true, true, true, true, true, true, true, true, true, true, true, true, true, true, true, true, true, true, true, true, true, false, false, false, false, false, false, false, false, false, false, false] rfl rfl (any_of HT_.out (by kernel_rfl)) (fun _ _ _ h => h) (Or.inl ⟨by rfl, ?_⟩) ?_ ?_
                                      rotate_left
                                      · intro w'
                                        go_simp
                                        with_reducible rfl
                                      rotate_left
                                      · simp only [Act.put, List.setIfInBounds_toArray, List.set_cons_zero, List.set_cons_succ, i64_w, i32_w]
                                        rfl
                                      refine pure_ (i := 30) (N := some 145) (v := ?_) (a' := ?_) #[true, true, true, true, true, true, true, true, true, true, true, true, true, true, true, true, true, true, true, true, true, true, true, true, true, true, true, true, true, true, true, false, false, false, false, false, false, false, false, false, false] rfl rfl (any_of HT_.out (by kernel_rfl)) (fun _ _ _ h => h) (Or.inl ⟨by rfl, ?_⟩) ?_ ?_
                                      rotate_left
                                      · intro w'
                                        go_simp
                                        with_reducible rfl
                                      rotate_left
                                      · simp only [Act.put, List.setIfInBounds_toArray, List.set_cons_zero, List.set_cons_succ, i64_w, i32_w]
                                        rfl
                                      refine pure_ (i := 31) (N := some 146) (v := ?_) (a' := ?_) #[true, true, true, true, true, true, true, true, true, true, true, true, true, true, true, true, true, true, true, true, true, true, true, true, true, true, true, true, true, true, true, true, false, false, false, false, false, false, false, false, false] rfl rfl (any_of HT_.out (by kernel_rfl)) (fun _ _ _ h => h) (Or.inl ⟨by rfl, ?_⟩) ?_ ?_
                                      rotate_left
                                      · intro w'
                                        go_simp
                                        with_reducible rfl
                                      rotate_left
                                      · simp only [Act.put, List.setIfInBounds_toArray, List.set_cons_zero, List.set_cons_succ, i64_w, i32_w]
                                        rfl
                                      refine pure_ (i := 32) (N := some 147) (v := ?_) (a' := ?_) #[true, true, true, true, true, true, true, true, true, true, true, true, true, true, true, true, true, true, true, true, true, true, true, true, true, true, true, true, true, true, true, true, true, false, false, false, false, false, false, false, false] rfl rfl (any_of HT_.out (by kernel_rfl)) (fun _ _ _ h => h) (Or.inl ⟨by rfl, ?_⟩) ?_ ?_
                                      rotate_left
                                      · intro w'
                                        go_simp
                                        with_reducible rfl
                                      rotate_left
                                      · simp only [Act.put, List.setIfInBounds_toArray, List.set_cons_zero, List.set_cons_succ, i64_w, i32_w]
                                        rfl
                                      refine pure_ (i := 33) (N := some 148) (v := ?_) (a' := ?_) #[true, true, true, true, true, true, true, true, true, true, true, true, true, true, true, true, true, true, true, true, true, true, true, true, true, true, true, true, true, true, true, true, true, true, false, false, false, false, false, false, false] rfl rfl (any_of HT_.out (by kernel_rfl)) (fun _ _ _ h => h) (Or.inl ⟨by rfl, ?_⟩) ?_ ?_
                                      rotate_left
                                      · intro w'
                                        go_simp
                                        with_reducible rfl
                                      rotate_left
                                      · simp only [Act.put, List.setIfInBounds_toArray, List.set_cons_zero, List.set_cons_succ, i64_w, i32_w]
                                        rfl
                                      refine pure_ (i := 34) (N := some 149) (v := ?_) (a' := ?_) #[true, true, true, true, true, true, true, true, true, true, true, true, true, true, true, true, true, true, true, true, true, true, true, true, true, true, true, true, true, true, true, true, true, true, true, false, false, false, false, false, false] rfl rfl (any_of HT_.out (by kernel_rfl)) (fun _ _ _ h => h) (Or.inl ⟨by rfl, ?_⟩) ?_ ?_
                                      rotate_left
                                      · intro w'
                                        go_simp
                                        with_reducible rfl
                                      rotate_left
                                      · simp only [Act.put, List.setIfInBounds_toArray, List.set_cons_zero, List.set_cons_succ, i64_w, i32_w]
                                        rfl
                                      refine pure_ (i := 35) (N := some 150) (v := ?_) (a' := ?_) #[true, true, true, true, true, true, true, true, true, true, true, true, true, true, true, true, true, true, true, true, true, true, true, true, true, true, true, true, true, true, true, true, true, true, true, true, false, false, false, false, false] rfl rfl (any_of HT_.out (by kernel_rfl)) (fun _ _ _ h => h) (Or.inl ⟨by rfl, ?_⟩) ?_ ?_
                                      rotate_left
                                      · intro w'
                                        go_simp
                                        with_reducible rfl
                                      rotate_left
                                      · simp only [Act.put, List.setIfInBounds_toArray, List.set_cons_zero, List.set_cons_succ, i64_w, i32_w]
                                        rfl
                                      refine one_ (i := 36) (N := some 151) #[true, true, true, true, true, true, true, true, true, true, true, true, true, true, true, true, true, true, true, true, true, true, true, true, true, true, true, true, true, true, true, true, true, true, true, true, true, false, false, false, false] rfl rfl (one_of HT_.out (by kernel_rfl)) (by decide) (fun K hK => ?_)
                                      refine goes_ Try.func19 (by kernel_rfl) rfl #[.int .i64 0, .slice Ao70 x17_3.length co70, .slice none 0 0] (by rfl) rfl rfl (by (try simp only [List.map_toArray, List.map_cons, List.map_nil]); first | done | rfl | (simp only [List.length_drop, List.length_take]; rfl)) ?_
                                      refine (beaver_Closes.calls k3 0 _ _ x17_3 _ _ ([] : List (S24)) t306 _ ?side1 ?side2 ?side3 ?side4 A69.out).mono ?_
                                      (case side1 => repeat (first | exact (Kd.R_reads' HO_17.out).2.2 | (with_reducible refine Kd.C_alloc ?_ _) | (with_reducible refine Kd.C_drewN ?_ _) | (with_reducible refine Kd.C_drew ?_)))
                                      (case side2 => exact (Kd.R_reads' HO_17.out).2.1)
                                      (case side3 => exact Kd.C_nil _ _)
                                      (case side4 => exact Nat.le_refl _)
                                      rintro e w88 ⟨v307, rfl, ho0, hb⟩
                                      refine ⟨_, rfl, ?_⟩
                                      have n0_ := Aside0.mk (Kd.R_below (by (with_reducible repeat (first | apply Kd.R_alloc | apply Kd.R_drewN | apply Kd.R_drew)); exact HO_13.out) hb)
                                      have n1_ := Aside0.mk (Kd.R_below (by (with_reducible repeat (first | apply Kd.R_alloc | apply Kd.R_drewN | apply Kd.R_drew)); exact HO_14.out) hb)
                                      have n2_ := Aside0.mk (Kd.R_below (by (with_reducible repeat (first | apply Kd.R_alloc | apply Kd.R_drewN | apply Kd.R_drew)); exact HO_15.out) hb)
                                      have n3_ := Aside0.mk (Kd.R_below (by (with_reducible repeat (first | apply Kd.R_alloc | apply Kd.R_drewN | apply Kd.R_drew)); exact HO_16.out) hb)
                                      have n4_ := Aside0.mk (Kd.R_below (by (with_reducible repeat (first | apply Kd.R_alloc | apply Kd.R_drewN | apply Kd.R_drew)); exact HO_17.out) hb)
                                      have n5_ := Aside0.mk (Kd.R_elder' (by (with_reducible repeat (first | apply Kd.R_alloc | apply Kd.R_drewN | apply Kd.R_drew)); exact HO285.out) (Kd.R_base ho0) hb)
                                      have n6_ := Aside0.mk (Kd.R_elder' (by (with_reducible repeat (first | apply Kd.R_alloc | apply Kd.R_drewN | apply Kd.R_drew)); exact HO288.out) (Kd.R_base ho0) hb)
                                      have n7_ := Aside0.mk (Kd.R_elder' (by (with_reducible repeat (first | apply Kd.R_alloc | apply Kd.R_drewN | apply Kd.R_drew)); exact HO291.out) (Kd.R_base ho0) hb)
                                      have n8_ := Aside0.mk (Kd.R_elder' (by (with_reducible repeat (first | apply Kd.R_alloc | apply Kd.R_drewN | apply Kd.R_drew)); exact HO296.out) (Kd.R_base ho0) hb)
                                      have n9_ := Aside0.mk (Kd.R_elder' (by (with_reducible repeat (first | apply Kd.R_alloc | apply Kd.R_drewN | apply Kd.R_drew)); exact HO301.out) (Kd.R_base ho0) hb)
                                      have n10_ := Aside0.mk (Kd.R_elder' (by (with_reducible repeat (first | apply Kd.R_alloc | apply Kd.R_drewN | apply Kd.R_drew)); exact HO304.out) (Kd.R_base ho0) hb)
                                      have n11_ := Aside0.mk (Kd.R_lower (Kd.R_new' (Kd.R_new' (Kd.R_new' (Kd.R_new' (Kd.R_new' (Kd.R_new' ho0 (Kd.R_lt (by (with_reducible repeat (first | apply Kd.R_alloc | apply Kd.R_drewN | apply Kd.R_drew)); exact HO285.out))) (Kd.R_lt (by (with_reducible repeat (first | apply Kd.R_alloc | apply Kd.R_drewN | apply Kd.R_drew)); exact HO288.out))) (Kd.R_lt (by (with_reducible repeat (first | apply Kd.R_alloc | apply Kd.R_drewN | apply Kd.R_drew)); exact HO291.out))) (Kd.R_lt (by (with_reducible repeat (first | apply Kd.R_alloc | apply Kd.R_drewN | apply Kd.R_drew)); exact HO296.out))) (Kd.R_lt (by (with_reducible repeat (first | apply Kd.R_alloc | apply Kd.R_drewN | apply Kd.R_drew)); exact HO301.out))) (Kd.R_lt (by (with_reducible repeat (first | apply Kd.R_alloc | apply Kd.R_drewN | apply Kd.R_drew)); exact HO304.out))) (below_size (by repeat (first | (with_reducible first | exact HB.out | apply below_alloc | apply pw_below_drewN | apply below_drew1) | exact HB.out))))
                                      have n12_ := Aside0.mk (below_step (by repeat (first | (with_reducible first | exact HB.out | apply below_alloc | apply pw_below_drewN | apply below_drew1) | exact HB.out)) hb)
                                      clear HO_13
                                      clear HO_14
                                      clear HO_15
                                      clear HO_16
                                      clear HO_17
                                      clear HO285
                                      clear HO288
                                      clear HO291
                                      clear HO296
                                      clear HO301
                                      clear HO304
                                      clear HB
                                      have HO_13 := n0_
                                      have HO_14 := n1_
                                      have HO_15 := n2_
                                      have HO_16 := n3_
                                      have HO_17 := n4_
                                      have HO285 := n5_
                                      have HO288 := n6_
                                      have HO291 := n7_
                                      have HO296 := n8_
                                      have HO301 := n9_
                                      have HO304 := n10_
                                      have HO308 := n11_
                                      have HB := n12_
                                      clear n0_ n1_ n2_ n3_ n4_ n5_ n6_ n7_ n8_ n9_ n10_ n11_ n12_
                                      (try clear hb)
                                      (try clear hb2)
                                      (try clear hk)
                                      (try clear hi)
                                      (try clear ho0)
                                      obtain ⟨Ao89, co89, eo89⟩ := Kd.R_slice HO308.out
                                      (first | subst eo89 | (injection eo89 with f1_ f2_ f3_; have f4_ := f1_.symm; have f5_ := f3_.symm; clear f1_ f2_ f3_; subst f4_; subst f5_))
                                      refine hK.out _ _ trivial (fun hHeld => ?_)
                                      clear hK K
                                      refine norm_ (a' := ?_) ?_ ?_
                                      rotate_left
                                      · show Act.put _ (some 151) _ = _
                                        simp only [Act.put, List.setIfInBounds_toArray, List.set_cons_zero, List.set_cons_succ, i64_w, i32_w]
                                        rfl
                                      refine pure_ (i := 37) (N := some 152) (v := ?_) (a' := ?_) #[true, true, true, true, true, true, true, true, true, true, true, true, true, true, true, true, true, true, true, true, true, true, true, true, true, true, true, true, true, true, true, true, true, true, true, true, true, true, false, false, false] rfl rfl (any_of HT_.out (by kernel_rfl)) (fun _ _ _ h => h) (Or.inl ⟨by rfl, ?_⟩) ?_ ?_
                                      rotate_left
                                      · intro w'
                                        go_simp
                                        with_reducible rfl
                                      rotate_left
                                      · simp only [Act.put, List.setIfInBounds_toArray, List.set_cons_zero, List.set_cons_succ, i64_w, i32_w]
                                        rfl
                                      refine pure_ (i := 38) (N := some 153) (v := ?_) (a' := ?_) #[true, true, true, true, true, true, true, true, true, true, true, true, true, true, true, true, true, true, true, true, true, true, true, true, true, true, true, true, true, true, true, true, true, true, true, true, true, true, true, false, false] rfl rfl (any_of HT_.out (by kernel_rfl)) (fun _ _ _ h => h) (Or.inl ⟨by rfl, ?_⟩) ?_ ?_
                                      rotate_left
                                      · intro w'
                                        go_simp
                                        with_reducible rfl
                                      rotate_left
                                      · simp only [Act.put, List.setIfInBounds_toArray, List.set_cons_zero, List.set_cons_succ, i64_w, i32_w]
                                        rfl
                                      refine pure_ (i := 39) (N := some 154) (v := ?_) (a' := ?_) #[true, true, true, true, true, true, true, true, true, true, true, true, true, true, true, true, true, true, true, true, true, true, true, true, true, true, true, true, true, true, true, true, true, true, true, true, true, true, true, true, false] rfl rfl (any_of HT_.out (by kernel_rfl)) (fun _ _ _ h => h) (Or.inl ⟨by rfl, ?_⟩) ?_ ?_
                                      rotate_left
                                      · intro w'
                                        go_simp
                                        with_reducible rfl
                                      rotate_left
                                      · simp only [Act.put, List.setIfInBounds_toArray, List.set_cons_zero, List.set_cons_succ, i64_w, i32_w]
                                        rfl
                                      refine pure_ (i := 40) (N := some 10) (v := ?_) (a' := ?_) #[true, true, true, true, true, true, true, true, true, true, true, true, true, true, true, true, true, true, true, true, true, true, true, true, true, true, true, true, true, true, true, true, true, true, true, true, true, true, true, true, true] rfl rfl (any_of HT_.out (by kernel_rfl)) (fun _ _ _ h => h) (Or.inl ⟨by rfl, ?_⟩) ?_ ?_
                                      rotate_left
                                      · intro w'
                                        go_simp
                                        with_reducible rfl
                                      rotate_left
                                      · simp only [Act.put, List.setIfInBounds_toArray, List.set_cons_zero, List.set_cons_succ, i64_w, i32_w]
                                        rfl
                                      refine done_ (done_of HT_.out (by kernel_rfl)) ?_
                                      try go_wp2
                                      go_ret
                                      exact ⟨by first | rfl | (simp [errW_none, errW_some] <;> rfl) | (simp only [← hji7, ← hji8, ← hji9]; first | rfl | (simp [errW_none, errW_some] <;> rfl)) | (simp [*, errW_none, errW_some] <;> rfl), by repeat (first | (with_reducible first | exact HB.out | apply below_alloc | apply pw_below_drewN | apply below_drew1) | exact HB.out)⟩
                                    · rw [if_neg c68] at H
                                      exact absurd H (by simp)
                                  · rw [if_neg c67] at H
                                    exact absurd H (by simp)
                                · replace c66 := Bool.eq_false_iff.mpr c66
                                  subst c66
                                  have H1 : (none) = some r := by rw [if_neg (show ¬ (false = true) by decide)] at H; exact H
                                  clear H
                                  have H := H1
                                  clear H1
                                  exact absurd H (by simp)
                              · rw [if_neg c62] at H
                                exact absurd H (by simp)
                            · rw [if_neg c60] at H
                              exact absurd H (by simp)
                          · rw [if_neg c57] at H
                            exact absurd H (by simp)
                        · rw [if_neg c55] at H
                          exact absurd H (by simp)
                      · rw [if_neg c54] at H
                        exact absurd H (by simp)
                    · replace c52 := Bool.eq_false_iff.mpr c52
                      subst c52
                      have H1 : (none) = some r := by rw [if_neg (show ¬ (false = true) by decide)] at H; exact H
                      clear H
                      have H := H1
                      clear H1
                      exact absurd H (by simp)

/-- THE ONE PURE STATEMENT of symbolonlaw12_BeaverRows. -/
def symbolonlaw12_BeaverRows.Pure : Prop := ∀ (l0 : List Int) (l1 : List Int) (l2 : List Int) (l3 : List Int) (a4 : Int), (l0.length ≤ maxLen) → (l0.length * 8 ≤ 140737488351232) → (∀ b ∈ l0, (Lit.int .u64 b).wf = true) → (l1.length ≤ maxLen) → (l1.length * 8 ≤ 140737488351232) → (∀ b ∈ l1, (Lit.int .u64 b).wf = true) → (l2.length ≤ maxLen) → (l2.length * 8 ≤ 140737488351232) → (∀ b ∈ l2, (Lit.int .u64 b).wf = true) → (l3.length ≤ maxLen) → (l3.length * 8 ≤ 140737488351232) → (∀ b ∈ l3, (Lit.int .u64 b).wf = true) → ((Lit.int .u64 a4).wf = true) → ∃ k, symbolonlaw12_BeaverRows.f k l0 l1 l2 l3 a4 = some true
theorem symbolonlaw12_BeaverRows.walk (P : symbolonlaw12_BeaverRows.Pure) (A0 : Option Addr) (c0 : Nat) (l0 : List Int) (A1 : Option Addr) (c1 : Nat) (l1 : List Int) (A2 : Option Addr) (c2 : Nat) (l2 : List Int) (A3 : Option Addr) (c3 : Nat) (l3 : List Int) (a4 : Int) (w : World) (hr0 : Kd.C (Kd.int .u64) w A0 l0.length l0) (hc0 : l0.length ≤ c0) (hr1 : Kd.C (Kd.int .u64) w A1 l1.length l1) (hc1 : l1.length ≤ c1) (hr2 : Kd.C (Kd.int .u64) w A2 l2.length l2) (hc2 : l2.length ≤ c2) (hr3 : Kd.C (Kd.int .u64) w A3 l3.length l3) (hc3 : l3.length ≤ c3) (m0 : l0.length ≤ maxLen) (y0 : l0.length * 8 ≤ 140737488351232) (v0 : ∀ b ∈ l0, (Lit.int .u64 b).wf = true) (m1 : l1.length ≤ maxLen) (y1 : l1.length * 8 ≤ 140737488351232) (v1 : ∀ b ∈ l1, (Lit.int .u64 b).wf = true) (m2 : l2.length ≤ maxLen) (y2 : l2.length * 8 ≤ 140737488351232) (v2 : ∀ b ∈ l2, (Lit.int .u64 b).wf = true) (m3 : l3.length ≤ maxLen) (y3 : l3.length * 8 ≤ 140737488351232) (v3 : ∀ b ∈ l3, (Lit.int .u64 b).wf = true) (w4 : (Lit.int .u64 a4).wf = true) :
    Calls Try.prog 7 #[.slice A0 l0.length c0, .slice A1 l1.length c1, .slice A2 l2.length c2, .slice A3 l3.length c3, .int .u64 a4] w fun e w' => e = .returned (.bool true) ∧ Below w.heap.size w w' := by
  obtain ⟨k, h⟩ := P l0 l1 l2 l3 a4 m0 y0 v0 m1 y1 v1 m2 y2 v2 m3 y3 v3 w4
  refine (symbolonlaw12_BeaverRows.calls k A0 c0 l0 A1 c1 l1 A2 c2 l2 A3 c3 l3 a4 true w hr0 hc0 hr1 hc1 hr2 hc2 hr3 hc3 h).mono ?_
  rintro e w' ⟨rfl, hd⟩
  exact ⟨rfl, hd⟩

end Go.Proofs.Ytgbabmenfegepaa.Q
