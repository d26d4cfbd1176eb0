/-
chunk.Put comes to 'put', a plain function of numbers and lists. No condition.
-/
import Derived.Test.YtfkgacjiccgdfaaQ0
import Derived.Laws.CopyOwn
import Derived.WalkSpells
import Derived.WalkLawsBesides
import Derived.Lib.Hide
namespace Go.Proofs.Ytfkgacjiccgdfaa.S
open Go.RowKit Go.Proofs.YtfkgacjiccgdfaaW.PrintWords
set_option linter.unusedVariables false
set_option linter.unusedSimpArgs false
/-- The byte at place p of a chunk's bytes: first of the position, then of the numbers. -/
def byteAt (a : Int) (l : List Int) (p : Nat) : Int := if p = 0 then a / 256 else if p = 1 then a % 256 else (rd l (((p - 2) / 8 : Nat) : Int) / 2 ^ (8 * (7 - (p - 2) % 8))) % 256
/-- The room behind n bytes. -/
def part (a : Int) (l : List Int) (n : Nat) : Array Value := ((List.range 50).map fun p => Value.int .u8 (if p < n then byteAt a l p else 0)).toArray
theorem part_two (a : Int) (l : List Int) : part a l 2 = #[.int .u8 (a / 256), .int .u8 (a % 256), .int .u8 0, .int .u8 0, .int .u8 0, .int .u8 0, .int .u8 0, .int .u8 0, .int .u8 0, .int .u8 0, .int .u8 0, .int .u8 0, .int .u8 0, .int .u8 0, .int .u8 0, .int .u8 0, .int .u8 0, .int .u8 0, .int .u8 0, .int .u8 0, .int .u8 0, .int .u8 0, .int .u8 0, .int .u8 0, .int .u8 0, .int .u8 0, .int .u8 0, .int .u8 0, .int .u8 0, .int .u8 0, .int .u8 0, .int .u8 0, .int .u8 0, .int .u8 0, .int .u8 0, .int .u8 0, .int .u8 0, .int .u8 0, .int .u8 0, .int .u8 0, .int .u8 0, .int .u8 0, .int .u8 0, .int .u8 0, .int .u8 0, .int .u8 0, .int .u8 0, .int .u8 0, .int .u8 0, .int .u8 0] := rfl
theorem part_cell (a : Int) (l : List Int) (n : Nat) (h : n < 50) : (part a l n)[n]? = some (.int .u8 0) := by
  unfold part
  simp [h]
theorem part_step (a : Int) (l : List Int) (i k : Nat) (hi : i < 6) (hk : k < 8) :
    (part a l (2 + 8 * i + k)).setIfInBounds (2 + 8 * i + k) (.int .u8 (rd l (i : Int) / 2 ^ (8 * (7 - k)) % 256)) = part a l (2 + 8 * i + (k + 1)) := by
  have hb : byteAt a l (2 + 8 * i + k) = rd l (i : Int) / 2 ^ (8 * (7 - k)) % 256 := by
    unfold byteAt
    rw [if_neg (by omega), if_neg (by omega), show (2 + 8 * i + k - 2) / 8 = i by omega, show (2 + 8 * i + k - 2) % 8 = k by omega]
  rw [← hb]
  unfold part
  rw [List.setIfInBounds_toArray]
  congr 1
  apply List.ext_getElem?
  intro p
  rw [List.getElem?_set]
  by_cases hp : p < 50
  · by_cases e : 2 + 8 * i + k = p
    · subst e
      simp [hp]
    · have : (p < 2 + 8 * i + k) ↔ (p < 2 + 8 * i + (k + 1)) := by omega
      simp [e, hp, this]
  · have e : ¬ (2 + 8 * i + k = p) := by omega
    simp [e, hp]
theorem part_list (a : Int) (l : List Int) (n : Nat) (h : n ≤ 50) : (part a l n).toList.take n = encs (Value.int .u8) ((List.range n).map (byteAt a l)) := by
  unfold part encs
  apply List.ext_getElem?
  intro p
  rw [List.getElem?_take]
  by_cases hp : p < n
  · have : p < 50 := by omega
    simp [hp, this]
  · simp [hp]
/-- A chunk's bytes. -/
def putB (a : Int) (l : List Int) : List Int := (List.range (2 + 8 * l.length)).map (byteAt a l)
/-- What the make and the copy at Put's end leave. -/
theorem copy_part (W w0 : World) (g0 : Nat) (a : Int) (l : List Int) (n : Nat) (hn : n ≤ 50) (hg : W.heap[g0]? = some (.cells (part a l n) 48 (0, 0))) (hb : Below w0.heap.size w0 W) :
    ∃ W2, (Builtin.copy_ #[23, 23] 3 #[.slice (some ⟨W.heap.size, 0, none⟩) n n, .slice (some ⟨g0, 0, none⟩) 50 50]).run Try.prog (W.alloc (.cells (madeCells #[.int .u8 0] n) 5)) = .ok (goInt n) W2 ∧
      W2.ownsRow w0.heap.size 5 1 (.slice (some ⟨W.heap.size, 0, none⟩) n n) n (encs (Value.int .u8) ((List.range n).map (byteAt a l))) ∧ Below w0.heap.size w0 W2 := by
  have hN : (W.alloc (.cells (madeCells #[.int .u8 0] n) 5)).heap[W.heap.size]? = some (.cells (madeCells #[.int .u8 0] n) 5 (0, 0)) := heap_alloc_new W _
  have hG := blk_alloc hg (.cells (madeCells #[.int .u8 0] n) 5)
  have hlen : ((part a l n).toList.take n).length = n := by rw [part_list a l n hn]; simp [encs]
  have hrun := run_copy_row (P := Try.prog) (W.alloc (.cells (madeCells #[.int .u8 0] n) 5)) 23 23 3 5 W.heap.size 0 n n ⟨g0, 0, none⟩ 50 50 (madeCells #[.int .u8 0] n) 5 ((part a l n).toList.take n) Try.underlying23 (by kernel_rfl) hN
    (by rw [hlen]; exact (Nat.min_eq_right hn).symm)
    (fun j v hj => by
      rw [List.getElem?_take] at hj
      split at hj
      · rw [add_plain, blk_cell hG]
        simpa using hj
      · cases hj)
    (by rw [hlen, size_madeCells]; omega)
    (fun v hv => by
      rw [part_list a l n hn] at hv
      simp only [encs, List.mem_map] at hv
      obtain ⟨x, _, rfl⟩ := hv
      rfl)
  rw [hlen] at hrun
  have hcs : ((madeCells #[.int .u8 0] n).toList.take 0 ++ (part a l n).toList.take n ++ (madeCells #[.int .u8 0] n).toList.drop (0 + n)).toArray = (encs (Value.int .u8) ((List.range n).map (byteAt a l))).toArray := by
    rw [part_list a l n hn, List.take_zero, List.nil_append, List.drop_of_length_le (by simp [size_madeCells]), List.append_nil]
  rw [hcs] at hrun
  refine ⟨_, hrun, ⟨by simp [encs], .inr ⟨W.heap.size, n, _, rfl, hb.size, setRow_heap _ _ _ _ _ _ hN, Nat.le_refl _, by unfold maxLen; omega, by simp [encs], List.take_of_length_le (by simp [encs])⟩⟩, below_setRow (below_alloc hb _) hb.size _⟩
set_option maxHeartbeats 1000000 in
set_option maxRecDepth 100000 in
theorem put_yes (a0 : Int) (A1 : Option Addr) (c1 : Nat) (l1 : List Int) (w : World) (hr1 : Kd.C (Kd.int .u64) w A1 l1.length l1) (hc1 : l1.length ≤ c1) (h0 : 0 ≤ a0) (h1 : a0 ≤ 65535) (h2 : 1 ≤ l1.length) (h3 : l1.length ≤ 6) (h4 : (l1.length : Int) ≤ 65536 - a0) :
    Calls Try.prog 16 #[.int .i64 a0, .slice A1 l1.length c1] w fun e w' => ∃ v0_ : Value, e = .returned (v0_) ∧ Kd.R (Kd.int .u8) 5 w' w.heap.size (fun _ => True) v0_ (putB a0 l1) ∧ Below w.heap.size w w' := by
  have HR1 := Aside0.mk hr1
  clear hr1
  obtain ⟨m, hm⟩ : ∃ m, m = l1.length := ⟨_, rfl⟩
  have b1 : decide (a0 < 0) = false := decide_eq_false (by omega)
  have b2 : decide (65535 < a0) = false := decide_eq_false (by omega)
  have b3 : decide ((l1.length : Int) < 1) = false := decide_eq_false (by omega)
  have b4 : decide (6 < (l1.length : Int)) = false := decide_eq_false (by omega)
  have b5 : decide (65535 - a0 + 1 < (l1.length : Int)) = false := decide_eq_false (by omega)
  have N0 := Aside0.mk (blk_new w (.cells (part a0 l1 2) 48))
  have NB := Aside0.mk (below_alloc (Below.refl w.heap.size w) (.cells (part a0 l1 2) 48))
  rw [part_two] at N0 NB
  clear hm
  go_enter Try.func16, Try.ntmps16
  go_wp2_with fail
  go_loopw [43] (fun v wr => ∃ i : Nat, v = .int .i64 i ∧ i ≤ l1.length ∧ Aside0 (wr.heap[w.heap.size]? = some (.cells (part a0 l1 (2 + 8 * i)) 48 (0, 0))) ∧ Aside0 (Below w.heap.size w wr)) (fun v _ => l1.length - (intOf v).toNat)
  case atStart => exact ⟨0, rfl, by omega, by rw [part_two]; exact N0, NB⟩
  case round =>
    obtain ⟨i, rfl, hi, HC, HB⟩ := hrel
    obtain ⟨wo, rfl⟩ : ∃ wo : World, wo = wr := ⟨_, rfl⟩
    by_cases hlt : i < l1.length
    · have hd : decide ((i : Int) < (l1.length : Int)) = true := decide_eq_true (by omega)
      obtain ⟨ad, ea, hx⟩ := Kd.at_int HR1.out (i : Int) (by omega) (by omega)
      cases ea
      simp only [Int.toNat_natCast] at hx
      replace hx := (HB.out.cell (World.block_lt_of_cell? w _ hx)).trans hx
      go_wp2_with fail
      go_loopw [48] (fun v wx => ∃ k : Nat, v = .int .i64 k ∧ k ≤ 8 ∧ Aside0 (wx.heap[w.heap.size]? = some (.cells (part a0 l1 (2 + 8 * i + k)) 48 (0, 0))) ∧ Aside0 (Below w.heap.size w wx)) (fun v _ => 8 - (intOf v).toNat)
      case atStart => exact ⟨0, rfl, by omega, HC, HB⟩
      case round =>
        obtain ⟨k, rfl, hk, HC2, HB2⟩ := hrel
        by_cases hlt2 : k < 8
        · have hd2 : decide ((k : Int) < 8) = true := decide_eq_true (by omega)
          have s0 : wr.cell? ⟨w.heap.size, 2 + 8 * i + k, none⟩ = some (.int .u8 0) := (blk_cell HC2.out _).trans (part_cell a0 l1 _ (by omega))
          have s1 : wr.frozen? ⟨w.heap.size, 2 + 8 * i + k, none⟩ = false := blk_frozen HC2.out _
          have s2 := part_step a0 l1 i k (by omega) hlt2
          have S2 := Aside0.mk s2
          clear s2
          go_wp2_with fail
          go_roundw
          case rel => exact ⟨k + 1, by go_num, by omega, ⟨blk_put HC2.out _ _ S2.out⟩, ⟨below_set HB2.out (Nat.le_refl _)⟩⟩
          case measure => simp [intOf]; omega
        · have hd2 : decide ((k : Int) < 8) = false := decide_eq_false (by omega)
          obtain rfl : k = 8 := by omega
          go_wp2_with fail
          go_roundw
          case rel => exact ⟨i + 1, by go_num, by omega, ⟨HC2.out⟩, HB2⟩
          case measure => simp [intOf]; omega
    · have hd : decide ((i : Int) < (l1.length : Int)) = false := decide_eq_false (by omega)
      obtain rfl : i = l1.length := by omega
      have hmk : ∀ W : World, (Instr.makeSlice 23 (.int .i64 (2 + 8 * (l1.length : Int))) (.int .i64 (2 + 8 * (l1.length : Int)))).run Try.prog W = .ok (.slice (some ⟨W.heap.size, 0, none⟩) (2 + 8 * l1.length) (2 + 8 * l1.length)) (W.alloc (.cells (madeCells #[.int .u8 0] (2 + 8 * l1.length)) 5)) := by
        intro W
        have h := run_make_row' (P := Try.prog) 23 5 (.int .u8 0) 1 Try.underlying23 Q.info5 rfl .i64 .i64 (2 + 8 * l1.length) (by omega) (by omega) W
        rw [show ((2 + 8 * l1.length : Nat) : Int) = 2 + 8 * (l1.length : Int) by omega] at h
        exact h
      obtain ⟨W2, hcp, HO, HB2⟩ := copy_part wo w w.heap.size a0 l1 (2 + 8 * l1.length) (by omega) HC.out HB.out
      have HO2 := Aside0.mk HO
      have HB3 := Aside0.mk HB2
      clear HO HB2
      go_wp2_with fail
      go_ret
      exact ⟨_, rfl, Kd.R_of_own (by rw [show (putB a0 l1).length = 2 + 8 * l1.length by simp [putB]]; exact HO2.out) (fun _ _ => trivial), HB3.out⟩
/-- Put, as the code has it. -/
def put (a : Int) (l : List Int) : Option (List Int) := some (if 0 ≤ a ∧ a ≤ 65535 ∧ 1 ≤ l.length ∧ l.length ≤ 6 ∧ (l.length : Int) ≤ 65536 - a then putB a l else [])
set_option maxHeartbeats 1000000 in
set_option maxRecDepth 100000 in
theorem put_no (a0 : Int) (A1 : Option Addr) (c1 : Nat) (l1 : List Int) (w : World) (h : ¬ (0 ≤ a0 ∧ a0 ≤ 65535 ∧ 1 ≤ l1.length ∧ l1.length ≤ 6 ∧ (l1.length : Int) ≤ 65536 - a0)) :
    Calls Try.prog 16 #[.int .i64 a0, .slice A1 l1.length c1] w fun e w' => e = .returned (.slice none 0 0) ∧ w = w' := by
  have H := Lib.hid h
  clear h
  by_cases k1 : a0 < 0
  · have b1 : decide (a0 < 0) = true := decide_eq_true k1
    clear k1 H
    go_enter Try.func16, Try.ntmps16
    go_wp2_with fail
    go_ret
    exact ⟨rfl, rfl⟩
  · have b1 : decide (a0 < 0) = false := decide_eq_false k1
    by_cases k2 : 65535 < a0
    · have b2 : decide (65535 < a0) = true := decide_eq_true k2
      clear k1 k2 H
      go_enter Try.func16, Try.ntmps16
      go_wp2_with fail
      go_ret
      exact ⟨rfl, rfl⟩
    · have b2 : decide (65535 < a0) = false := decide_eq_false k2
      by_cases k3 : (l1.length : Int) < 1
      · have b3 : decide ((l1.length : Int) < 1) = true := decide_eq_true k3
        clear k1 k2 k3 H
        go_enter Try.func16, Try.ntmps16
        go_wp2_with fail
        go_ret
        exact ⟨rfl, rfl⟩
      · have b3 : decide ((l1.length : Int) < 1) = false := decide_eq_false k3
        by_cases k4 : 6 < (l1.length : Int)
        · have b4 : decide (6 < (l1.length : Int)) = true := decide_eq_true k4
          clear k1 k2 k3 k4 H
          go_enter Try.func16, Try.ntmps16
          go_wp2_with fail
          go_ret
          exact ⟨rfl, rfl⟩
        · have b4 : decide (6 < (l1.length : Int)) = false := decide_eq_false k4
          have b5 : decide (65535 - a0 + 1 < (l1.length : Int)) = true := decide_eq_true (by have := H.out; omega)
          clear H
          go_enter Try.func16, Try.ntmps16
          go_wp2_with fail
          go_ret
          exact ⟨rfl, rfl⟩
theorem put_calls (a0 : Int) (A1 : Option Addr) (c1 : Nat) (l1 : List Int) (r : List Int) (w : World) (hr1 : Kd.C (Kd.int .u64) w A1 l1.length l1) (hc1 : l1.length ≤ c1) (h : put a0 l1 = some r) :
    Calls Try.prog 16 #[.int .i64 a0, .slice A1 l1.length c1] w fun e w' => ∃ v0_ : Value, e = .returned (v0_) ∧ Kd.R (Kd.int .u8) 5 w' w.heap.size (fun _ => True) v0_ r ∧ Below w.heap.size w w' := by
  unfold put at h
  by_cases k : 0 ≤ a0 ∧ a0 ≤ 65535 ∧ 1 ≤ l1.length ∧ l1.length ≤ 6 ∧ (l1.length : Int) ≤ 65536 - a0
  · rw [if_pos k] at h
    obtain rfl := Option.some.inj h
    exact put_yes a0 A1 c1 l1 w hr1 hc1 k.1 k.2.1 k.2.2.1 k.2.2.2.1 k.2.2.2.2
  · rw [if_neg k] at h
    obtain rfl := Option.some.inj h
    refine (put_no a0 A1 c1 l1 w k).mono ?_
    rintro e w' ⟨rfl, rfl⟩
    exact ⟨_, rfl, Kd.R_nil _ _ _ _ _, Below.refl _ _⟩
end Go.Proofs.Ytfkgacjiccgdfaa.S
