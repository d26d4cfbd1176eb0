/-
slices.Chunk over a list of at most 65536 numbers: its pieces come in order, for every loop body that keeps what lay. Conditions: the list is read in a world ahead; boxes below a bound.
-/
import Derived.RangeFuncNested
import Derived.RangeFuncBound
import Derived.RangeFuncCalls
import Derived.RangeFuncLeaves
import Derived.RangeFuncBox
import Derived.Shelf.Abstract
import Derived.Shelf.RegionOpen
import Derived.WalkKit
import Derived.OwnWalkIn
import Derived.TacticsInMore
import Derived.LoopNIn
import Derived.LoopIn
import Derived.Maps.AppendAt
import Derived.Sort.QuietIn
import Derived.Test.YtfkgacjiccgdfaaSPut
namespace Go.Proofs.Ytfkgacjiccgdfaa.S
open Go.RowKit Go.Shelf Go.Proofs.YtfkgacjiccgdfaaW.PrintWords
set_option linter.unusedVariables false
set_option linter.unusedSimpArgs false
attribute [local go_sem] Oper.semAt_some
set_option maxHeartbeats 1000000 in
/-- slices.Chunk(l, 6): both are boxed; the function value captures the boxes. -/
theorem chunk_in (n : Nat) (a : Option Addr) (len cap : Nat) (w : World) :
    CallsIn Fence.wide n Try.prog 23 #[.slice a len cap, .int .i64 6] w fun e w' => e = .returned (.func (.func 24) #[] #[.pointer (some ⟨w.heap.size, 0, none⟩), .pointer (some ⟨w.heap.size + 1, 0, none⟩)]) ∧ w' = (w.alloc (.cells #[.slice a len cap] 22)).alloc (.cells #[.int .i64 6] 3) := by
  refine callsIn_of_wp Try.func23 rfl trivial ?_ rfl
  simp only [Try.ntmps23, List.size_toArray, List.length_cons, List.length_nil, Nat.reduceAdd, Nat.reduceSub, Array.replicate_succ, Array.replicate_zero, List.push_toArray, List.append_toArray, List.nil_append, List.cons_append]
  gi_wp2
  go_ret
  exact ⟨rfl, rfl⟩
/-- What comes: a piece of a slice, that reads as a list in the world w0. -/
def Piece (w0 : World) : Type := { x : Option Addr × List Int // Kd.C (Kd.int .u64) w0 x.1 x.2.length x.2 }
/-- The pieces of a list. -/
def pieces (l : List Int) (k : Nat) : List (List Int) := (List.range k).map fun j => (l.drop (6 * j)).take 6
theorem pieces_succ (l : List Int) (k : Nat) : pieces l (k + 1) = pieces l k ++ [(l.drop (6 * k)).take 6] := by
  unfold pieces
  rw [List.range_succ, List.map_append]
  rfl
theorem add_add (ad : Addr) (i j : Nat) : (ad.add i).add j = ad.add (i + j) := by
  unfold Addr.add
  by_cases hi : i = 0
  · simp [hi]
  · by_cases hj : j = 0
    · simp [hj]
    · rw [if_neg hi, if_neg hj, if_neg (by omega)]
      simp [Nat.add_assoc]
/-- The piece of a readable list from place i on, of m numbers. -/
theorem piece_reads {w : World} {ad : Addr} {l : List Int} (h : Kd.C (Kd.int .u64) w (some ad) l.length l) (i m : Nat) (hm : i + m ≤ l.length) :
    Kd.C (Kd.int .u64) w (some (ad.add i)) ((l.drop i).take m).length ((l.drop i).take m) := by
  have hl : ((l.drop i).take m).length = m := by simp; omega
  refine Kd.C_of_reads (d := (0 : Int)) (h1 := fun _ => rfl) ⟨rfl, by have := h.2.1; omega, fun hp => ⟨_, rfl, fun j hj => ?_⟩⟩
  obtain ⟨ad', e, hc⟩ := Kd.at_int h ((i + j : Nat) : Int) (by omega) (by omega)
  cases e
  have ha : (ad.add i).add j = ad.add (i + j) := add_add ad i j
  rw [ha]
  rw [Int.toNat_natCast] at hc
  rw [hc]
  have : ((l.drop i).take m).getD j 0 = rd l ((i + j : Nat) : Int) := by
    unfold rd
    rw [Int.toNat_natCast, List.getD_eq_getElem?_getD, List.getD_eq_getElem?_getD, List.getElem?_take, if_pos (by omega), List.getElem?_drop]
  rw [this]
/-- What a loop over the pieces must keep: the blocks below b, and the two boxes. -/
structure KBox (b Bs Bn : Nat) (W W' : World) : Prop where mk ::
  below : Below b W W'
  s : W'.heap[Bs]? = W.heap[Bs]?
  n : W'.heap[Bn]? = W.heap[Bn]?
theorem KBox.refl (b Bs Bn : Nat) (W : World) : KBox b Bs Bn W W := ⟨Below.refl _ _, rfl, rfl⟩
theorem KBox.trans {b Bs Bn : Nat} {A B C : World} (h : KBox b Bs Bn A B) (k : KBox b Bs Bn B C) : KBox b Bs Bn A C := ⟨h.below.trans k.below, k.s.trans h.s, k.n.trans h.n⟩
theorem KBox.drewN (b Bs Bn : Nat) (W : World) (m : Nat) : KBox b Bs Bn W (W.drewN m) := ⟨pw_below_drewN (Below.refl _ _) m, rfl, rfl⟩
theorem cell_of_blk {W W' : World} {B : Nat} (h : W'.heap[B]? = W.heap[B]?) : W'.cell? ⟨B, 0, none⟩ = W.cell? ⟨B, 0, none⟩ := by unfold World.cell?; simp only [h]
theorem KBox.put {b Bs Bn : Nat} {w : World} (hb : b ≤ w.heap.size) (hs : Bs < w.heap.size) (hn : Bn < w.heap.size) (W : World) (l : Nat) (o o' : Obj) (hl : w.heap.size ≤ l) (h : W.heap[l]? = some o) (h1 : o.isCells = false) (h2 : o.isWalk = false) : KBox b Bs Bn W (W.putObj l o') := by
  have hB := belowK_b (n₀ := w.heap.size) (Nat.le_refl _) W l o o' hl h h1 h2
  exact ⟨belowK_b hb W l o o' hl h h1 h2, hB.block _ hs, hB.block _ hn⟩
set_option maxRecDepth 100000 in
set_option maxHeartbeats 1000000 in
theorem chunk1_in (n : Nat) (hn : 1 ≤ n) (lb Bs Bn n₀ : Nat) (A : Option Addr) (c : Nat) (l : List Int) (w0 : World) (hl : l.length ≤ 65536) (hlc : l.length ≤ c) (hC : Kd.C (Kd.int .u64) w0 A l.length l) (hw0 : w0.heap.size ≤ n₀) 
    (J Jx : List (Piece w0) → World → Prop) (Wb : Nat) (hJa : AbidesFrom Wb J)
    (hY : ∀ pre x W, J pre W → pre.length < (l.length + 5) / 6 → YieldAt Fence.wide (n - 1) Try.prog lb #[.slice x.1.1 x.1.2.length x.1.2.length] W fun e W' =>
      (e = .returned (.bool true) ∧ J (pre ++ [x]) W' ∧ KBox n₀ Bs Bn W W') ∨ (e = .returned (.bool false) ∧ Jx (pre ++ [x]) W'))
    (W : World) (hW : Below w0.heap.size w0 W) (hs : W.cell? ⟨Bs, 0, none⟩ = some (.slice A l.length c)) (hk : W.cell? ⟨Bn, 0, none⟩ = some (.int .i64 6)) (h0 : J [] W) :
    CallsIn Fence.wide n Try.prog 24 #[.func (.yield lb) #[] #[], .pointer (some ⟨Bs, 0, none⟩), .pointer (some ⟨Bn, 0, none⟩)] W fun e W' => (∃ v, e = .returned v) ∧
      ((∃ ys, ys.map (fun x => x.1.2) = pieces l ((l.length + 5) / 6) ∧ J ys W') ∨ (∃ pre, True ∧ Jx pre W')) := by
  refine callsIn_of_wp Try.func24 rfl trivial ?_ rfl
  simp only [Try.ntmps24, List.size_toArray, List.length_cons, List.length_nil, Nat.reduceAdd, Nat.reduceSub, Array.replicate_succ, Array.replicate_zero, List.push_toArray, List.append_toArray, List.nil_append, List.cons_append]
  gi_wp2
  gi_loopw [4] (fun i wr => ∃ (k : Nat) (ys : List (Piece w0)), 6 * k ≤ l.length + 5 ∧ i = .int .i64 ((6 * k : Nat) : Int) ∧ Aside0 (ys.map (fun x => x.1.2) = pieces l k) ∧ Aside0 (J ys wr) ∧ Aside0 (KBox n₀ Bs Bn W wr))
    (fun i _ => l.length + 6 - (intOf i).toNat)
  case atStart => exact ⟨0, [], by omega, rfl, ⟨rfl⟩, ⟨h0⟩, ⟨KBox.refl _ _ _ _⟩⟩
  case round =>
    obtain ⟨k, ys, hk6, rfl, HM, HJ, HB⟩ := hrel
    have hs' := (cell_of_blk HB.out.s).trans hs
    have hk' := (cell_of_blk HB.out.n).trans hk
    clear hs hk
    by_cases hlt : 6 * k < l.length
    · obtain ⟨ad, ea, hx⟩ := Kd.at_int hC ((6 * k : Nat) : Int) (by omega) (by omega)
      cases ea
      clear hx
      have hd : decide (6 * (k : Int) < (l.length : Int)) = true := decide_eq_true (by omega)
      have q0 : 0 ≤ 6 * (k : Int) := by omega
      have q1 : 6 * (k : Int) ≤ (c : Int) := by omega
      have q2 : 6 * (k : Int) ≤ (l.length : Int) := by omega
      have q3 : ¬ (6 * k = c) := by omega
      obtain ⟨m, hm⟩ : ∃ m, m = min 6 (l.length - 6 * k) := ⟨_, rfl⟩
      have hmin : (if ((l.length - 6 * k : Nat) : Int) < 6 then ((l.length - 6 * k : Nat) : Int) else 6) = (m : Int) := by split <;> omega
      have HMm := Aside0.mk hm
      clear hm
      gi_wp2_with fail
      gi_quiet (fail)
      have hJ1 : J ys (wr.drewN nq) := hJa ys wr (wr.drewN nq) none HJ.out (grown_of_below (pw_below_drewN (Below.refl _ _) nq) none) (fun r e => by cases e)
      obtain ⟨fn, tmps, assign, body, hy, hR⟩ := hY ys ⟨(some (ad.add (6 * k)), (l.drop (6 * k)).take m), piece_reads hC (6 * k) m (by omega)⟩ (wr.drewN nq) hJ1 (by
        have := congrArg List.length HM.out
        simp [pieces] at this
        omega)
      have HR := Aside0.mk hR
      rw [show ((l.drop (6 * k)).take m).length = m by simp; omega] at hy
      dsimp only at hy
      clear hR
      gi_wp2_with fail
      refine HR.out.mono ?_
      rintro e W3 (⟨rfl, hJ3, hk3⟩ | ⟨rfl, hJx3⟩)
      · have HK3 := Aside0.mk hk3
        have HJ3 := Aside0.mk hJ3
        have hk2 := (cell_of_blk hk3.n).trans (show (wr.drewN nq).cell? ⟨Bn, 0, none⟩ = some (.int .i64 6) from hk')
        clear hk3 hJ3
        gi_wp2_with fail
        go_roundw
        case rel =>
          refine ⟨k + 1, _, by omega, by go_num, ⟨?_⟩, HJ3, ⟨HB.out.trans (KBox.trans (KBox.drewN _ _ _ _ nq) HK3.out)⟩⟩
          have e : (l.drop (6 * k)).take m = (l.drop (6 * k)).take 6 := by
            rw [HMm.out, List.take_eq_take_iff]
            simp
          rw [List.map_append, HM.out, pieces_succ, ← e]
          rfl
        case measure => simp [intOf]; omega
      · gi_wp2_with fail
        refine bodyPost_ret (results_none rfl _ _ _) rfl ?_
        exact ⟨⟨_, rfl⟩, .inr ⟨_, trivial, hJx3⟩⟩
    · have hd : decide (6 * (k : Int) < (l.length : Int)) = false := decide_eq_false (by omega)
      gi_wp2_with fail
      go_end0
      refine ⟨⟨_, rfl⟩, .inl ⟨ys, ?_, HJ.out⟩⟩
      rw [HM.out]
      congr 1
      omega
end Go.Proofs.Ytfkgacjiccgdfaa.S
