/-
chunk.Get, in plain numbers: what bytes are a chunk's, and which. Condition: the bytes are bytes.
-/
import Derived.Test.YtfkgacjiccgdfaaQ1
import Derived.Test.YtfkgacjiccgdfaaBNum
set_option linter.unusedSimpArgs false
set_option linter.unusedVariables false
namespace Go.Proofs.Ytfkgacjiccgdfaa.Pure
open Go.RowKit Go.Proofs.YtfkgacjiccgdfaaW.PrintWords Go.Proofs.Ytfkgacjiccgdfaa.Q
theorem or_nat (a y : Nat) (h : y < 256) : (a * 256) ||| y = a * 256 + y := by
  have := Nat.shiftLeft_add_eq_or_of_lt (i := 8) (b := y) (by omega) a
  rw [Nat.shiftLeft_eq, show (2 : Nat) ^ 8 = 256 from rfl] at this
  omega
theorem or_u64 (a y : Int) (h0 : 0 ≤ a) (h1 : a < 72057594037927936) (k0 : 0 ≤ y) (k1 : y < 256) : Go.bits .or .u64 (IntKind.u64.wrap (a * 256)) (IntKind.u64.wrap y) = a * 256 + y := by
  obtain ⟨n, rfl⟩ := Int.eq_ofNat_of_zero_le h0
  obtain ⟨m, rfl⟩ := Int.eq_ofNat_of_zero_le k0
  have e1 : IntKind.u64.wrap ((n : Int) * 256) = ((n * 256 : Nat) : Int) := by rw [u_eq]; omega
  have e2 : IntKind.u64.wrap (m : Int) = (m : Int) := by rw [u_eq]; omega
  rw [e1, e2]
  show IntKind.u64.wrap ((BitVec.ofInt 64 ((n * 256 : Nat) : Int) ||| BitVec.ofInt 64 (m : Int)).toNat : Int) = _
  have e3 : (BitVec.ofInt 64 ((n * 256 : Nat) : Int) ||| BitVec.ofInt 64 (m : Int)).toNat = n * 256 + m := by
    rw [BitVec.toNat_or, BitVec.toNat_ofInt, BitVec.toNat_ofInt, ← or_nat n m (by omega)]
    congr 1
    · have : ((2 ^ 64 : Nat) : Int) = 18446744073709551616 := rfl
      omega
    · have : ((2 ^ 64 : Nat) : Int) = 18446744073709551616 := rfl
      omega
  rw [e3, u_eq]
  omega
theorem or_i64 (a y : Int) (h0 : 0 ≤ a) (h1 : a < 256) (k0 : 0 ≤ y) (k1 : y < 256) : Go.bits .or .i64 (wrap64 (wrap64 a * 256)) (wrap64 y) = a * 256 + y := by
  rw [w_id (a := a) (by omega) (by omega), w_id (a := a * 256) (by omega) (by omega), w_id (a := y) (by omega) (by omega)]
  obtain ⟨n, rfl⟩ := Int.eq_ofNat_of_zero_le h0
  obtain ⟨m, rfl⟩ := Int.eq_ofNat_of_zero_le k0
  show IntKind.i64.wrap ((BitVec.ofInt 64 ((n * 256 : Nat) : Int) ||| BitVec.ofInt 64 (m : Int)).toNat : Int) = _
  have e3 : (BitVec.ofInt 64 ((n * 256 : Nat) : Int) ||| BitVec.ofInt 64 (m : Int)).toNat = n * 256 + m := by
    rw [BitVec.toNat_or, BitVec.toNat_ofInt, BitVec.toNat_ofInt, ← or_nat n m (by omega)]
    congr 1
    · have : ((2 ^ 64 : Nat) : Int) = 18446744073709551616 := rfl
      omega
    · have : ((2 ^ 64 : Nat) : Int) = 18446744073709551616 := rfl
      omega
  rw [e3, show IntKind.i64.wrap ((n * 256 + m : Nat) : Int) = wrap64 ((n * 256 + m : Nat) : Int) from (by unfold wrap64; exact IntKind.wrap_i64 _), w_id (by omega) (by omega)]
  omega
theorem val_snoc : ∀ (xs : List Int) (y : Int), val (xs ++ [y]) = val xs * 256 + y
  | [], y => by simp [val]
  | x :: xs, y => by
    rw [List.cons_append, val, val_snoc xs y, val, List.length_append, List.length_singleton, Int.pow_succ]
    rw [Int.add_mul, Int.mul_assoc]
    omega
/-- What Get has of its numbers behind i bytes. -/
def st (B : List Int) (m i : Nat) : List Int := (List.range m).map fun j => val ((B.drop (8 * j)).take (min 8 (i - 8 * j)))
theorem st_len (B : List Int) (m i : Nat) : (st B m i).length = m := by simp [st]
theorem st_at (B : List Int) (m i j : Nat) (h : j < m) : rd (st B m i) (j : Int) = val ((B.drop (8 * j)).take (min 8 (i - 8 * j))) := by
  unfold rd st
  rw [Int.toNat_natCast, List.getD_eq_getElem?_getD]
  simp [h]
theorem st_zero (B : List Int) (m : Nat) : st B m 0 = List.replicate m 0 := by
  apply List.ext_getElem?
  intro j
  by_cases h : j < m
  · simp [st, h, val]
  · simp [st, h]
theorem st_step (B : List Int) (m i : Nat) (hB : B.length = 8 * m) (hi : i < 8 * m) (hb : ∀ x ∈ B, 0 ≤ x ∧ x < 256) :
    (st B m i).set (i / 8) (Go.bits .or .u64 (IntKind.u64.wrap (rd (st B m i) ((i / 8 : Nat) : Int) * 256)) (IntKind.u64.wrap (rd B (i : Int)))) = st B m (i + 1) := by
  have hj : i / 8 < m := by omega
  have hx : B[i]? = some (rd B (i : Int)) := by
    unfold rd
    rw [Int.toNat_natCast, List.getD_eq_getElem?_getD, List.getElem?_eq_getElem (by omega)]
    rfl
  have hxm : rd B (i : Int) ∈ B := List.mem_of_getElem? hx
  obtain ⟨x0, x1⟩ := hb _ hxm
  have hsn : (B.drop (8 * (i / 8))).take (min 8 (i + 1 - 8 * (i / 8))) = (B.drop (8 * (i / 8))).take (min 8 (i - 8 * (i / 8))) ++ [rd B (i : Int)] := by
    rw [show min 8 (i + 1 - 8 * (i / 8)) = (i - 8 * (i / 8)) + 1 by omega, show min 8 (i - 8 * (i / 8)) = i - 8 * (i / 8) by omega, List.take_add_one, List.getElem?_drop, show 8 * (i / 8) + (i - 8 * (i / 8)) = i by omega, hx]
    rfl
  have hr := val_range ((B.drop (8 * (i / 8))).take (min 8 (i - 8 * (i / 8)))) (fun y hy => hb y (List.mem_of_mem_drop (List.mem_of_mem_take hy)))
  have hlen : ((B.drop (8 * (i / 8))).take (min 8 (i - 8 * (i / 8)))).length ≤ 7 := by rw [List.length_take]; omega
  have hp : (256 : Int) ^ ((B.drop (8 * (i / 8))).take (min 8 (i - 8 * (i / 8)))).length ≤ 72057594037927936 := by
    generalize ((B.drop (8 * (i / 8))).take (min 8 (i - 8 * (i / 8)))).length = n at hlen
    obtain rfl | rfl | rfl | rfl | rfl | rfl | rfl | rfl : n = 0 ∨ n = 1 ∨ n = 2 ∨ n = 3 ∨ n = 4 ∨ n = 5 ∨ n = 6 ∨ n = 7 := by omega
    all_goals decide
  rw [st_at B m i (i / 8) hj, or_u64 _ _ hr.1 (by omega) x0 x1, ← val_snoc, ← hsn]
  apply List.ext_getElem?
  intro j
  rw [List.getElem?_set]
  by_cases e : i / 8 = j
  · subst e
    rw [if_pos rfl, if_pos (by rw [st_len]; exact hj)]
    simp [st, hj]
  · rw [if_neg e]
    by_cases hjm : j < m
    · have : min 8 (i - 8 * j) = min 8 (i + 1 - 8 * j) := by omega
      simp [st, hjm, this]
    · simp [st, hjm]
theorem get_loop (B : List Int) (m : Nat) (a : Int) (hm : m ≤ 6) (hB : B.length = 8 * m) (hb : ∀ x ∈ B, 0 ≤ x ∧ x < 256) : ∀ (n i k : Nat), i + n = 8 * m → n < k → chunk_Get.l0 k a (st B m i) B (B.length : Int) (i : Int) = some (a, st B m (8 * m), true)
  | 0, i, k + 1, hi, hk => by
    obtain rfl : i = 8 * m := by omega
    simp only [chunk_Get.l0]
    rw [if_neg (by omega)]
  | n + 1, i, k + 1, hi, hk => by
    simp only [chunk_Get.l0]
    have e1 : wrap64 (Int.tdiv (i : Int) 8) = ((i / 8 : Nat) : Int) := by
      rw [Int.tdiv_eq_ediv_of_nonneg (by omega), w_id (by omega) (by omega)]
      omega
    have e2 : wrap64 ((i : Int) + 1) = ((i + 1 : Nat) : Int) := by rw [w_id (by omega) (by omega)]; omega
    rw [if_pos (by omega), if_pos (by omega), if_pos (by omega), e1, e2, if_pos (by omega), if_pos (by rw [st_len]; omega), Int.toNat_natCast, st_step B m i hB (by omega) hb]
    exact get_loop B m a hm hB hb n (i + 1) k (by omega) (by omega)
/-- The numbers of some bytes of a chunk. -/
def nums_ (b : List Int) (m : Nat) : List Int := (List.range m).map fun j => val ((b.drop (2 + 8 * j)).take 8)
theorem st_end (b : List Int) (m : Nat) : st (b.drop 2) m (8 * m) = nums_ b m := by
  unfold st nums_
  apply List.map_congr_left
  intro j hj
  have := List.mem_range.1 hj
  rw [List.drop_drop, show min 8 (8 * m - 8 * j) = 8 by omega]
/-- Bytes that are a chunk's. -/
def isChunk (b : List Int) : Prop := ∃ m : Nat, 1 ≤ m ∧ m ≤ 6 ∧ b.length = 2 + 8 * m ∧ (m : Int) ≤ 65536 - (rd b 0 * 256 + rd b 1)
theorem rd_byte {b : List Int} (hb : ∀ x ∈ b, 0 ≤ x ∧ x < 256) (i : Nat) (h : i < b.length) : 0 ≤ rd b (i : Int) ∧ rd b (i : Int) < 256 := by
  have hx : b[i]? = some (rd b (i : Int)) := by
    unfold rd
    rw [Int.toNat_natCast, List.getD_eq_getElem?_getD, List.getElem?_eq_getElem h]
    rfl
  exact hb _ (List.mem_of_getElem? hx)
theorem get_yes (b : List Int) (m k : Nat) (hb : ∀ x ∈ b, 0 ≤ x ∧ x < 256) (h1 : 1 ≤ m) (h2 : m ≤ 6) (h3 : b.length = 2 + 8 * m) (h4 : (m : Int) ≤ 65536 - (rd b 0 * 256 + rd b 1)) (hk : 60 ≤ k) :
    chunk_Get.f k b = some (rd b 0 * 256 + rd b 1, nums_ b m, true) := by
  obtain ⟨k, rfl⟩ : ∃ j, k = j + 1 := ⟨k - 1, by omega⟩
  have e1 : wrap64 (Int.tdiv (wrap64 ((b.length : Int) - 2)) 8) = (m : Int) := by
    rw [w_id (a := (b.length : Int) - 2) (by omega) (by omega), Int.tdiv_eq_ediv_of_nonneg (by omega), w_id (by omega) (by omega)]
    omega
  have e2 : wrap64 (2 + wrap64 (8 * (m : Int))) = (b.length : Int) := by
    rw [w_id (a := 8 * (m : Int)) (by omega) (by omega), w_id (by omega) (by omega)]
    omega
  have r0 := rd_byte hb 0 (by omega)
  have r1 := rd_byte hb 1 (by omega)
  simp only [Int.natCast_zero, Int.natCast_one] at r0 r1
  unfold chunk_Get.f
  rw [e1, e2, if_neg (by omega), if_neg (by omega)]
  simp only [chunk_Get.j0]
  rw [if_neg (by simp), if_pos (by omega), if_pos (by omega), or_i64 _ _ r0.1 r0.2 r1.1 r1.2, w_id (a := 65535 - _) (by omega) (by omega), w_id (by omega) (by omega), if_neg (by omega), if_pos (by omega), Int.toNat_natCast, if_pos (by omega), if_pos (by omega)]
  rw [← st_zero (b.drop 2) m]
  have := get_loop (b.drop 2) m (rd b 0 * 256 + rd b 1) h2 (by rw [List.length_drop]; omega) (fun x hx => hb x (List.mem_of_mem_drop hx)) (8 * m) 0 k (by omega) (by omega)
  rw [Int.natCast_zero, st_end] at this
  exact this
theorem get_no (b : List Int) (k : Nat) (hb : ∀ x ∈ b, 0 ≤ x ∧ x < 256) (hl : b.length ≤ 9223372036854775807) (h : ¬ isChunk b) (hk : 60 ≤ k) : chunk_Get.f k b = some (0, [], false) := by
  obtain ⟨k, rfl⟩ : ∃ j, k = j + 1 := ⟨k - 1, by omega⟩
  unfold chunk_Get.f
  rw [w_id (a := (b.length : Int) - 2) (by omega) (by omega)]
  by_cases hlt : b.length < 2
  · have e0 : Int.tdiv ((b.length : Int) - 2) 8 = 0 := by
      have : b.length = 0 ∨ b.length = 1 := by omega
      rcases this with h | h <;> rw [h] <;> decide
    rw [e0, w_id (a := 0) (by omega) (by omega), if_pos (by decide)]
    simp only [chunk_Get.j0, if_true]
  · obtain ⟨m, e1⟩ : ∃ m : Nat, Int.tdiv ((b.length : Int) - 2) 8 = (m : Int) := ⟨((b.length - 2) / 8 : Nat), by rw [Int.tdiv_eq_ediv_of_nonneg (by omega)]; omega⟩
    have hm : m = (b.length - 2) / 8 := by
      rw [Int.tdiv_eq_ediv_of_nonneg (by omega)] at e1
      omega
    rw [e1, w_id (a := (m : Int)) (by omega) (by omega)]
    by_cases c1 : (m : Int) < 1
    · rw [if_pos c1]
      simp only [chunk_Get.j0, if_true]
    · rw [if_neg c1]
      by_cases c2 : (m : Int) > 6
      · rw [if_pos c2]
        simp only [chunk_Get.j0, if_true]
      · rw [if_neg c2]
        simp only [chunk_Get.j0]
        have e2 : wrap64 (2 + wrap64 (8 * (m : Int))) = 2 + 8 * (m : Int) := by
          rw [w_id (a := 8 * (m : Int)) (by omega) (by omega), w_id (by omega) (by omega)]
        rw [e2]
        by_cases c3 : (b.length : Int) = 2 + 8 * (m : Int)
        · have r0 := rd_byte hb 0 (by omega)
          have r1 := rd_byte hb 1 (by omega)
          simp only [Int.natCast_zero, Int.natCast_one] at r0 r1
          rw [if_neg (by simp [c3]), if_pos (by omega), if_pos (by omega), or_i64 _ _ r0.1 r0.2 r1.1 r1.2, w_id (a := 65535 - _) (by omega) (by omega), w_id (by omega) (by omega), if_pos]
          have : ¬ ((m : Int) ≤ 65536 - (rd b 0 * 256 + rd b 1)) := fun c4 => h ⟨m, by omega, by omega, by omega, c4⟩
          omega
        · rw [if_pos (by simp [c3])]
end Go.Proofs.Ytfkgacjiccgdfaa.Pure
