/-
Numbers, bytes and their order: small laws. No condition; no program in sight.
-/
import Derived.Test.YtfkgacjiccgdfaaQ0
set_option linter.unusedSimpArgs false
set_option linter.unusedVariables false
namespace Go.Proofs.Ytfkgacjiccgdfaa.Pure
open Go.RowKit Go.Proofs.YtfkgacjiccgdfaaW.PrintWords
theorem bd64 {a : Int} (h : (Lit.int .u64 a).wf = true) : 0 ≤ a ∧ a < 18446744073709551616 := by
  simp only [Lit.wf, Bool.and_eq_true, decide_eq_true_eq] at h
  have h1 : IntKind.u64.min = 0 := rfl
  have h2 : IntKind.u64.max = 18446744073709551615 := rfl
  omega
theorem bd16 {a : Int} (h : (Lit.int .u16 a).wf = true) : 0 ≤ a ∧ a < 65536 := by
  simp only [Lit.wf, Bool.and_eq_true, decide_eq_true_eq] at h
  have h1 : IntKind.u16.min = 0 := rfl
  have h2 : IntKind.u16.max = 65535 := rfl
  omega
theorem bd8 {a : Int} (h : (Lit.int .u8 a).wf = true) : 0 ≤ a ∧ a < 256 := by
  simp only [Lit.wf, Bool.and_eq_true, decide_eq_true_eq] at h
  have h1 : IntKind.u8.min = 0 := rfl
  have h2 : IntKind.u8.max = 255 := rfl
  omega
theorem bdi {a : Int} (h : (Lit.int .i64 a).wf = true) : -9223372036854775808 ≤ a ∧ a < 9223372036854775808 := by
  simp only [Lit.wf, Bool.and_eq_true, decide_eq_true_eq] at h
  have h1 : IntKind.i64.min = -9223372036854775808 := rfl
  have h2 : IntKind.i64.max = 9223372036854775807 := rfl
  omega
theorem w_id {a : Int} (h1 : -9223372036854775808 ≤ a) (h2 : a < 9223372036854775808) : wrap64 a = a := by
  unfold wrap64
  omega
theorem u_eq (x : Int) : IntKind.u64.wrap x = x % 18446744073709551616 := by
  unfold IntKind.wrap
  simp [IntKind.bits, IntKind.signed]
/-- A byte. -/
abbrev U (x : Int) : UInt8 := UInt8.ofNat x.toNat
theorem U_toNat {x : Int} (h0 : 0 ≤ x) (h1 : x < 256) : (U x).toNat = x.toNat := by
  show x.toNat % 256 = x.toNat
  exact Nat.mod_eq_of_lt (by omega)
theorem U_lt {x y : Int} (h0 : 0 ≤ x) (h1 : x < 256) (k0 : 0 ≤ y) (k1 : y < 256) : (U x < U y) = (x < y) := by
  rw [UInt8.lt_iff_toNat_lt, U_toNat h0 h1, U_toNat k0 k1]
  apply propext
  omega
theorem U_eq {x y : Int} (h0 : 0 ≤ x) (h1 : x < 256) (k0 : 0 ≤ y) (k1 : y < 256) : (U x = U y) = (x = y) := by
  apply propext
  constructor
  · intro h
    have h2 := congrArg UInt8.toNat h
    rw [U_toNat h0 h1, U_toNat k0 k1] at h2
    omega
  · rintro rfl
    rfl
/-- The number of some bytes. -/
def val : List Int → Int
  | [] => 0
  | x :: xs => x * 256 ^ xs.length + val xs
theorem val_range : ∀ (xs : List Int), (∀ x ∈ xs, 0 ≤ x ∧ x < 256) → 0 ≤ val xs ∧ val xs < 256 ^ xs.length
  | [], _ => by simp [val]
  | x :: xs, h => by
    obtain ⟨h1, h2⟩ := val_range xs (fun y hy => h y (List.mem_cons_of_mem _ hy))
    obtain ⟨h3, h4⟩ := h x List.mem_cons_self
    simp only [val, List.length_cons, Int.pow_succ]
    generalize (256 : Int) ^ xs.length = P at *
    have h5 := Int.mul_nonneg h3 (show 0 ≤ P by omega)
    have h6 := Int.mul_le_mul_of_nonneg_right (show x ≤ 255 by omega) (show 0 ≤ P by omega)
    omega
theorem less_val : ∀ (xs ys : List Int), xs.length = ys.length → (∀ x ∈ xs, 0 ≤ x ∧ x < 256) → (∀ y ∈ ys, 0 ≤ y ∧ y < 256) → Op.bytesLess (xs.map U) (ys.map U) = decide (val xs < val ys)
  | [], [], _, _, _ => by simp [Op.bytesLess, val]
  | x :: xs, y :: ys, hl, hx, hy => by
    have hl' : xs.length = ys.length := by simpa using hl
    have ih := less_val xs ys hl' (fun z hz => hx z (List.mem_cons_of_mem _ hz)) (fun z hz => hy z (List.mem_cons_of_mem _ hz))
    obtain ⟨a1, a2⟩ := hx x List.mem_cons_self
    obtain ⟨b1, b2⟩ := hy y List.mem_cons_self
    obtain ⟨c1, c2⟩ := val_range xs (fun z hz => hx z (List.mem_cons_of_mem _ hz))
    obtain ⟨d1, d2⟩ := val_range ys (fun z hz => hy z (List.mem_cons_of_mem _ hz))
    rw [List.map_cons, List.map_cons, Op.bytesLess, ih]
    rw [show val (x :: xs) = x * 256 ^ ys.length + val xs by rw [← hl']; rfl, show val (y :: ys) = y * 256 ^ ys.length + val ys from rfl]
    rw [hl'] at c2
    generalize (256 : Int) ^ ys.length = P at *
    generalize val xs = p at *
    generalize val ys = q at *
    rw [show (decide (U x < U y)) = decide (x < y) by simp only [U_lt a1 a2 b1 b2], show (U x == U y) = decide (x = y) by rw [Bool.eq_iff_iff, beq_iff_eq, decide_eq_true_iff, U_eq a1 a2 b1 b2]]
    rcases Int.lt_trichotomy x y with h | h | h
    · have h6 := Int.mul_le_mul_of_nonneg_right (show x + 1 ≤ y by omega) (show 0 ≤ P by omega)
      rw [Int.add_mul, Int.one_mul] at h6
      rw [decide_eq_true h, Bool.true_or, decide_eq_true (by omega)]
    · subst h
      rw [decide_eq_false (by omega), decide_eq_true rfl, Bool.false_or, Bool.true_and, decide_eq_decide]
      omega
    · have h6 := Int.mul_le_mul_of_nonneg_right (show y + 1 ≤ x by omega) (show 0 ≤ P by omega)
      rw [Int.add_mul, Int.one_mul] at h6
      rw [decide_eq_false (by omega), decide_eq_false (by omega), Bool.false_or, Bool.false_and, decide_eq_false (by omega)]
theorem str_list (xs : List Int) : (strOfNums xs).toList = xs.map U := by
  rw [ByteArray.toList_eq]
  rfl
end Go.Proofs.Ytfkgacjiccgdfaa.Pure
