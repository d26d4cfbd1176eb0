/-
The law's row: for every input that can be read the call returns true, and each argument reads behind it as it read before. Condition: none.
-/
import Derived.Test.YtgbabmenfegepaaRows
import Derived.Test.YtgbabmenfegepaaQ19
import Derived.Test.YtgbabmenfegepaaBPureAny
import Derived.WalkKit
import Derived.ProofKit
import Derived.OpenShut
import Derived.ShutString
import Derived.ChangeOld
import Derived.Below
import Derived.SizedLaws
import Derived.Lib.SmallJoins
import Derived.SliceStrings
import Derived.Test.YtgbabmenfegepaaWSized
import Derived.Test.YtgbabmenfegepaaWWords
namespace Go.Proofs.Ytgbabmenfegepaa.beaverAny
open Go.ChangeShapes Go.WideShapes Go.ChangeAt Go.RowKit Go.Joins Go.Proofs.YtgbabmenfegepaaW.PrintWords
open Go.ChangeMaps (open_string shut_string)
set_option linter.unusedVariables false
set_option linter.unusedSimpArgs false
theorem own : ownKnob Try.prog.godebug = none := by kernel_rfl
theorem laidOut : laidOutB Try.prog = true := by kernel_rfl
theorem cells24 : Try.prog.cellsOf 24 = 3 := by kernel_rfl
def IsRow (k : IntKind) (w : World) (a : Option Addr) (len cap : Nat) (zs : List Int) : Prop :=
  (a = none ∧ len = 0 ∧ cap = 0 ∧ zs = []) ∨
  ∃ x, a = some x ∧ len ≤ cap ∧ cap ≤ maxLen ∧ zs.length = cap ∧ (∀ i, i < zs.length → w.cell? (x.add i) = some (.int k (zs.getD i 0))) ∧ ∀ n ∈ zs, (Lit.int k n).wf = true
set_option maxRecDepth 100000 in
theorem lifted (os : Os) (started : os.Started) (H : Type) (enc : TypeId × Value → H) :
    ReturnsInHanded {} Try.checked os 5 .any (Rows.beaverAnySpec.pre6 enc Try.prog Try.f5 Rows.beaverAnyRow.domain false) (Rows.beaverAnySpec.post enc Try.prog Try.f5 false true false false) := by
  refine returnsInHanded_of_change_sized (C := Try.checked) own started (by kernel_rfl) Try.func5
    (ChangeSpec.witness6 (enc := enc) (C := Try.checked) false ⟨#[], #[.int .u64 0, .int .u64 0, .int .u64 0, .int .u64 0, .agg #[.int .u64 0, .int .u64 0, .int .u64 0], .agg #[.int .u64 0, .int .u64 0, .int .u64 0]], []⟩ 8 (by kernel_rfl) (by kernel_rfl) (by kernel_rfl) (by kernel_rfl)) ?_
  intro W base args ds gs before hval0 hW hcnd hsz0 _
  have hsz : (DataW.weightsEach Try.prog (Try.f5.params.toList ++ Rows.beaverAnySpec.plain.varTypes Try.prog) (ds ++ gs)).all (· ≤ reachBytes) = true := hsz0
  have hval : ∀ (j : Nat) t v, Try.f5.params[j]? = some t → args[j]? = some v → Value.okWide Try.prog W .any base t v := hval0
  have hW' := hW
  obtain ⟨p, q, hA0, hV, rfl, hfz, hnd⟩ := hW
  have hA : DataW.TrodAll enc Try.prog W 0 (fun _ => true) true Try.f5.params.toList args.toList ds p := hA0
  rw [Try.params5] at hA hval hsz
  obtain ⟨v0, vs0, d0, ds0, p0, q0, hargs, rfl, rfl, h0, r0⟩ := trodAll_cons hA
  obtain ⟨v1, vs1, d1, ds1, p1, q1, rfl, rfl, rfl, h1, r1⟩ := trodAll_cons r0
  obtain ⟨v2, vs2, d2, ds2, p2, q2, rfl, rfl, rfl, h2, r2⟩ := trodAll_cons r1
  obtain ⟨v3, vs3, d3, ds3, p3, q3, rfl, rfl, rfl, h3, r3⟩ := trodAll_cons r2
  obtain ⟨v4, vs4, d4, ds4, p4, q4, rfl, rfl, rfl, h4, r4⟩ := trodAll_cons r3
  obtain ⟨v5, vs5, d5, ds5, p5, q5, rfl, rfl, rfl, h5, r5⟩ := trodAll_cons r4
  obtain ⟨rfl, rfl, rfl⟩ := trodAll_nil r5
  obtain rfl : args = #[v0, v1, v2, v3, v4, v5] := by cases args; simp_all
  obtain ⟨rfl, rfl⟩ := trodVars_none hV
  obtain ⟨a0, rfl, rfl, rfl, w0⟩ := open_int Try.underlying22 (hval 0 22 v0 rfl rfl) h0
  obtain ⟨a1, rfl, rfl, rfl, w1⟩ := open_int Try.underlying22 (hval 1 22 v1 rfl rfl) h1
  obtain ⟨a2, rfl, rfl, rfl, w2⟩ := open_int Try.underlying22 (hval 2 22 v2 rfl rfl) h2
  obtain ⟨a3, rfl, rfl, rfl, w3⟩ := open_int Try.underlying22 (hval 3 22 v3 rfl rfl) h3
  have k4 := h4
  have lt4 : ∀ x ∈ p4, x.block < W.heap.size := by obtain ⟨m, hm⟩ := k4; exact DataW.trod_lt m _ _ _ hm
  obtain ⟨c4_0, c4_1, c4_2, y4_0, y4_1, y4_2, m4_, rfl, rfl, rfl, hy4_0, hy4_1, hy4_2⟩ := open_agg3 Try.underlying24 (by kernel_rfl) cells24 (hval 4 24 v4 rfl rfl) h4
  obtain ⟨a4_0, e4_0, rfl, w4_0⟩ := DataW.trod_int Try.underlying22 hy4_0
  obtain ⟨a4_1, e4_1, rfl, w4_1⟩ := DataW.trod_int Try.underlying22 hy4_1
  obtain ⟨a4_2, e4_2, rfl, w4_2⟩ := DataW.trod_int Try.underlying22 hy4_2
  obtain rfl : c4_0 = .int .u64 a4_0 := by simpa using e4_0
  obtain rfl : c4_1 = .int .u64 a4_1 := by simpa using e4_1
  obtain rfl : c4_2 = .int .u64 a4_2 := by simpa using e4_2
  have k5 := h5
  have lt5 : ∀ x ∈ p5, x.block < W.heap.size := by obtain ⟨m, hm⟩ := k5; exact DataW.trod_lt m _ _ _ hm
  obtain ⟨c5_0, c5_1, c5_2, y5_0, y5_1, y5_2, m5_, rfl, rfl, rfl, hy5_0, hy5_1, hy5_2⟩ := open_agg3 Try.underlying24 (by kernel_rfl) cells24 (hval 5 24 v5 rfl rfl) h5
  obtain ⟨a5_0, e5_0, rfl, w5_0⟩ := DataW.trod_int Try.underlying22 hy5_0
  obtain ⟨a5_1, e5_1, rfl, w5_1⟩ := DataW.trod_int Try.underlying22 hy5_1
  obtain ⟨a5_2, e5_2, rfl, w5_2⟩ := DataW.trod_int Try.underlying22 hy5_2
  obtain rfl : c5_0 = .int .u64 a5_0 := by simpa using e5_0
  obtain rfl : c5_1 = .int .u64 a5_1 := by simpa using e5_1
  obtain rfl : c5_2 = .int .u64 a5_2 := by simpa using e5_2
  clear hA0 hval0 hsz0 hsz
  refine (Q.symbolonlaw12_BeaverAny.walk Pure.BeaverAny a0 a1 a2 a3 a4_0 a4_1 a4_2 a5_0 a5_1 a5_2 W  w0 w1 w2 w3 w4_0 w4_1 w4_2 w5_0 w5_1 w5_2).mono fun e W' ⟨he, bel⟩ => ?_
  subst he
  exact ⟨_, rfl, _, _, _, [], _, [], hW', trodAll_mk1 (shut_bool Try.underlying4 _), (trodAll_cons_mk (shut_int Try.underlying22 w0) (trodAll_cons_mk (shut_int Try.underlying22 w1) (trodAll_cons_mk (shut_int Try.underlying22 w2) (trodAll_cons_mk (shut_int Try.underlying22 w3) (trodAll_cons_mk (Below.trod laidOut (by kernel_rfl) (of_decide_eq_true (by kernel_rfl)) k4 bel lt4) (trodAll_cons_mk (Below.trod laidOut (by kernel_rfl) (of_decide_eq_true (by kernel_rfl)) k5 bel lt5) trodAll_mk0)))))), rfl, bel.frame _, fun h => by cases h⟩
theorem over : Rows.beaverAnyRow.holds Try.pinned (OpenSpec.ofChange Rows.beaverAnySpec) :=
  OpenClaim.holds_of_wide 5 Try.f5 rfl rfl rfl rfl rfl rfl rfl ⟨rfl, rfl, rfl, rfl, rfl⟩ rfl rfl rfl rfl rfl (by kernel_rfl) Try.func5 (by kernel_rfl)
    (of_decide_eq_true (by kernel_rfl)) (by unfold Func.isWrapper; first | (rw [if_pos (by decide +kernel)]; kernel_rfl) | (rw [if_neg (by decide +kernel)]; exact ⟨rfl, rfl⟩))
    (fun os started H enc _ => lifted os started H enc)
theorem proved : Rows.BeaverAnySaid := over
#print axioms proved
end Go.Proofs.Ytgbabmenfegepaa.beaverAny
namespace Go.Proofs.Ytgbabmenfegepaa
/-- The row, under a short name, for the claim. -/
theorem beaverAny_holds : Rows.BeaverAnySaid := beaverAny.proved
end Go.Proofs.Ytgbabmenfegepaa
