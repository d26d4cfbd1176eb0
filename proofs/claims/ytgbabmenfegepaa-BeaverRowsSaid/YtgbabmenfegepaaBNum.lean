/-
Numbers that go round at 2^64: small laws on 'IntKind.u64.wrap'. No condition; no program in sight.
-/
import Derived.WalkKit
set_option linter.unusedSimpArgs false
namespace Go.Proofs.Ytgbabmenfegepaa.Num
theorem w_eq (x : Int) : IntKind.u64.wrap x = x % 18446744073709551616 := by
  unfold IntKind.wrap
  simp [IntKind.bits, IntKind.signed]
theorem w_add_l (a b : Int) : IntKind.u64.wrap (IntKind.u64.wrap a + b) = IntKind.u64.wrap (a + b) := by simp only [w_eq]; omega
theorem w_add_r (a b : Int) : IntKind.u64.wrap (a + IntKind.u64.wrap b) = IntKind.u64.wrap (a + b) := by simp only [w_eq]; omega
theorem w_sub_l (a b : Int) : IntKind.u64.wrap (IntKind.u64.wrap a - b) = IntKind.u64.wrap (a - b) := by simp only [w_eq]; omega
theorem w_sub_r (a b : Int) : IntKind.u64.wrap (a - IntKind.u64.wrap b) = IntKind.u64.wrap (a - b) := by simp only [w_eq]; omega
theorem w_mul_l (a b : Int) : IntKind.u64.wrap (IntKind.u64.wrap a * b) = IntKind.u64.wrap (a * b) := by
  simp only [w_eq]
  rw [Int.mul_emod, Int.emod_emod_of_dvd _ (Int.dvd_refl _), ← Int.mul_emod]
theorem w_mul_r (a b : Int) : IntKind.u64.wrap (a * IntKind.u64.wrap b) = IntKind.u64.wrap (a * b) := by
  simp only [w_eq]
  rw [Int.mul_emod, Int.emod_emod_of_dvd _ (Int.dvd_refl _), ← Int.mul_emod]
theorem w_w (a : Int) : IntKind.u64.wrap (IntKind.u64.wrap a) = IntKind.u64.wrap a := by simp only [w_eq]; omega
theorem w_of {a : Int} (h0 : 0 ≤ a) (h1 : a < 18446744073709551616) : IntKind.u64.wrap a = a := by rw [w_eq]; omega
theorem w_range (a : Int) : 0 ≤ IntKind.u64.wrap a ∧ IntKind.u64.wrap a < 18446744073709551616 := by rw [w_eq]; omega
theorem bd {a : Int} (h : (Lit.int .u64 a).wf = true) : 0 ≤ a ∧ a < 18446744073709551616 := by
  simp only [Lit.wf, Bool.and_eq_true, decide_eq_true_eq] at h
  have h1 : IntKind.u64.min = 0 := rfl
  have h2 : IntKind.u64.max = 18446744073709551615 := rfl
  omega
/-- A number that goes round, as a word of 64 bits. -/
def B (a : Int) : BitVec 64 := BitVec.ofInt 64 a
theorem B_wrap (a : Int) : B (IntKind.u64.wrap a) = B a := by
  unfold B
  apply BitVec.eq_of_toInt_eq
  rw [BitVec.toInt_ofInt, BitVec.toInt_ofInt, w_eq]
  exact Int.emod_bmod ..
theorem B_add (a b : Int) : B (a + b) = B a + B b := BitVec.ofInt_add ..
theorem B_mul (a b : Int) : B (a * b) = B a * B b := BitVec.ofInt_mul ..
theorem B_sub (a b : Int) : B (a - b) = B a - B b := by
  have h := B_add (a - b) b
  rw [Int.sub_add_cancel] at h
  rw [h]
  exact (BitVec.add_sub_cancel ..).symm
theorem w_of_B {a b : Int} (h : B a = B b) : IntKind.u64.wrap a = IntKind.u64.wrap b := by
  unfold B at h
  have h1 := congrArg BitVec.toNat h
  rw [BitVec.toNat_ofInt, BitVec.toNat_ofInt] at h1
  rw [w_eq, w_eq]
  have e : ((2 : Nat) ^ 64 : Nat) = 18446744073709551616 := rfl
  rw [e] at h1
  omega
theorem w_cong {a b : Int} (h : a = b) : IntKind.u64.wrap a = IntKind.u64.wrap b := by rw [h]
end Go.Proofs.Ytgbabmenfegepaa.Num
