/-
The law ChunkFirst returns true: of two chunks of one position the first one counts; what is no chunk's bytes is passed over. Conditions: lengths, numbers and bytes are such as the program's kinds hold.
-/
import Derived.Test.YtfkgacjiccgdfaaSFirst
import Derived.Test.YtfkgacjiccgdfaaBHead
import Derived.Test.YtfkgacjiccgdfaaBPureTells
set_option linter.unusedSimpArgs false
set_option linter.unusedVariables false
namespace Go.Proofs.Ytfkgacjiccgdfaa.Pure
open Go.RowKit Go.Proofs.YtfkgacjiccgdfaaW.PrintWords Go.Proofs.Ytfkgacjiccgdfaa.Q
theorem put_of (p : Int) (l : List Int) (h0 : 0 ≤ p) (h1 : p < 60001) (h2 : 1 ≤ l.length) (h3 : l.length ≤ 6) : chunk_Put.f p l = some (S.putB p l) := by
  unfold chunk_Put.f S.put
  rw [if_pos ⟨h0, by omega, h2, h3, by omega⟩]
theorem parse_put (p : Int) (l : List Int) (h0 : 0 ≤ p) (h1 : p < 60001) (h2 : 1 ≤ l.length) (h3 : l.length ≤ 6) (hb : ∀ x ∈ l, 0 ≤ x ∧ x < 18446744073709551616) : parse (S.putB p l) = some (p, l) := by
  have a := get_put p l 60 h0 (by omega) h2 h3 (by omega) hb (by omega)
  rw [get_parse (S.putB p l) 60 (putB_bytes p l h0 (by omega)) (by rw [putB_len]; omega) (by omega)] at a
  have a := Option.some.inj a
  cases hp : parse (S.putB p l) with
  | none => rw [hp] at a; simp [told] at a
  | some q =>
    obtain ⟨x, y⟩ := q
    rw [hp] at a
    simp only [told, Prod.mk.injEq] at a
    rw [a.1, a.2.1]
theorem cov_put (p : Int) (l : List Int) (h0 : 0 ≤ p) (h1 : p < 60001) (h2 : 1 ≤ l.length) (h3 : l.length ≤ 6) (hb : ∀ x ∈ l, 0 ≤ x ∧ x < 18446744073709551616) (x : Int) : cov (S.putB p l) x = if p ≤ x ∧ x < p + (l.length : Int) then some (rd l (x - p)) else none := by
  unfold cov
  rw [parse_put p l h0 h1 h2 h3 hb]
theorem right_put (p : Int) (l : List Int) (h0 : 0 ≤ p) (h1 : p < 60001) (h3 : l.length ≤ 6) : (S.putB p l).length ≤ 9223372036854775807 ∧ ∀ z ∈ S.putB p l, 0 ≤ z ∧ z < 256 :=
  ⟨by rw [putB_len]; omega, putB_bytes p l h0 (by omega)⟩
theorem first_nil (x : Int) : first [] x = none := rfl
theorem ChunkFirst (a0 a1 a2 : Int) (A3 : Option Addr) (c3 : Nat) (l3 : List Int) (w : World) (hr : Kd.C (Kd.int .u8) w A3 l3.length l3) (hc : l3.length ≤ c3) (w0 : (Lit.int .u16 a0).wf = true) (w1 : (Lit.int .u64 a1).wf = true) (w2 : (Lit.int .u64 a2).wf = true) (m3 : l3.length ≤ maxLen) (y3 : l3.length * 1 ≤ 140737488351232) (v3 : ∀ b ∈ l3, (Lit.int .u8 b).wf = true) :
    Calls Try.prog 7 #[.int .u16 a0, .int .u64 a1, .int .u64 a2, .slice A3 l3.length c3] w fun e w' => e = .returned (.bool true) ∧ Below w.heap.size w w' := by
  obtain ⟨a00, a01⟩ := bd16 w0
  have b1 := bd64 w1
  have b2 := bd64 w2
  have hB : ∀ x ∈ l3, 0 ≤ x ∧ x < 256 := fun x hx => bd8 (v3 x hx)
  have hh := head_true 90000 (by omega)
  by_cases hl : 900 < l3.length
  · exact First.first_long 90000 a0 a1 a2 A3 c3 l3 w hh hl
  · obtain ⟨p, hp, p0, p1⟩ : ∃ p, Int.tmod (wrap64 a0) 60000 = p ∧ 0 ≤ p ∧ p < 60000 := ⟨_, rfl, by rw [w_id (by omega) (by omega), Int.tmod_eq_emod_of_nonneg a00]; omega, by rw [w_id (by omega) (by omega), Int.tmod_eq_emod_of_nonneg a00]; omega⟩
    have h1 := put_of p [a1] p0 (by omega) (by simp) (by simp)
    have h2 := put_of p [a2] p0 (by omega) (by simp) (by simp)
    have h3 := put_of p [a2, a2] p0 (by omega) (by simp) (by simp)
    have n1 : (S.putB p [a1]).length = 10 := by rw [putB_len]; rfl
    have n2 : (S.putB p [a2]).length = 10 := by rw [putB_len]; rfl
    have n3 : (S.putB p [a2, a2]).length = 18 := by rw [putB_len]; rfl
    have q1 := right_put p [a1] p0 (by omega) (by simp)
    have q2 := right_put p [a2] p0 (by omega) (by simp)
    have q3 := right_put p [a2, a2] p0 (by omega) (by simp)
    have k1 := cov_put p [a1] p0 (by omega) (by simp) (by simp) (by simpa using b1)
    have k2 := cov_put p [a2] p0 (by omega) (by simp) (by simp) (by simpa using b2)
    have k3 := cov_put p [a2, a2] p0 (by omega) (by simp) (by simp) (by simpa using b2)
    have hg := get_parse l3 90000 hB (by omega) (by omega)
    have hx : chunk_Gather.f 90000 p 1 [S.putB p [a1], S.putB p [a2]] = some ([a1], true) := by
      rw [gather p 1 _ 90000 (fun b hb => by
        rcases List.mem_cons.1 hb with h | hb
        · rw [h]; exact q1
        · rw [List.mem_singleton.1 hb]; exact q2) (by simp) (by omega)]
      have f0 : first [S.putB p [a1], S.putB p [a2]] p = some a1 := by
        rw [first_cons, k1, if_pos (by simp; omega), Int.sub_self]
        rfl
      unfold gats
      rw [if_neg (by omega)]
      unfold gat
      rw [left_none (fun i hi => by
        obtain rfl : i = 0 := by have : (1 : Int).toNat = 1 := rfl; omega
        show (first _ (p + ((0 : Nat) : Int))).isSome = true
        rw [Int.natCast_zero, Int.add_zero, f0]
        rfl)]
      rw [if_neg (by omega), show (1 : Int).toNat = 1 from rfl, List.range_one, List.map_singleton]
      show some ([(first _ (p + ((0 : Nat) : Int))).getD 0], true) = _
      rw [Int.natCast_zero, Int.add_zero, f0]
      rfl
    have hs := same_self [a1] 90000 (by simp) (by simp)
    have ht := same_self [a1, a2] 90000 (by simp) (by simp)
    cases hq : parse l3 with
    | some q =>
      obtain ⟨x, y⟩ := q
      rw [hq] at hg
      exact First.first_is 90000 a0 a1 a2 A3 c3 l3 w p _ _ x y hr hc hp hh (by omega) hg h1 h2 n1 n2 hx hs
    | none =>
      rw [hq] at hg
      have k0 : ∀ x, cov l3 x = none := fun x => by unfold cov; rw [hq]
      have hy : chunk_Gather.f 90000 p 2 [l3, S.putB p [a1], l3, S.putB p [a2, a2]] = some ([a1, a2], true) := by
        rw [gather p 2 _ 90000 (fun b hb => by
          have q0 : l3.length ≤ 9223372036854775807 ∧ ∀ z ∈ l3, 0 ≤ z ∧ z < 256 := ⟨by omega, hB⟩
          rcases List.mem_cons.1 hb with h | hb
          · rw [h]; exact q0
          · rcases List.mem_cons.1 hb with h | hb
            · rw [h]; exact q1
            · rcases List.mem_cons.1 hb with h | hb
              · rw [h]; exact q0
              · rw [List.mem_singleton.1 hb]; exact q3) (by simp) (by omega)]
        have f0 : first [l3, S.putB p [a1], l3, S.putB p [a2, a2]] p = some a1 := by
          rw [first_cons, k0, first_cons, k1, if_pos (by simp; omega), Int.sub_self]
          rfl
        have f1 : first [l3, S.putB p [a1], l3, S.putB p [a2, a2]] (p + 1) = some a2 := by
          rw [first_cons, k0, first_cons, k1, if_neg (by simp), first_cons, k0, first_cons, k3, if_pos (by simp; omega), show p + 1 - p = 1 by omega]
          rfl
        unfold gats
        rw [if_neg (by omega)]
        unfold gat
        rw [left_none (fun i hi => by
          obtain rfl | rfl : i = 0 ∨ i = 1 := by have : (2 : Int).toNat = 2 := rfl; omega
          · show (first _ (p + ((0 : Nat) : Int))).isSome = true
            rw [Int.natCast_zero, Int.add_zero, f0]
            rfl
          · show (first _ (p + ((1 : Nat) : Int))).isSome = true
            rw [Int.natCast_one, f1]
            rfl)]
        rw [if_neg (by omega), show (2 : Int).toNat = 2 from rfl, show List.range 2 = [0, 1] from rfl, List.map_cons, List.map_singleton]
        show some ([(first _ (p + ((0 : Nat) : Int))).getD 0, (first _ (p + ((1 : Nat) : Int))).getD 0], true) = _
        rw [Int.natCast_zero, Int.add_zero, f0, Int.natCast_one, f1]
        rfl
      exact First.first_no 90000 a0 a1 a2 A3 c3 l3 w p _ _ _ 0 [] hr hc hp hh (by omega) hg h1 h2 h3 n1 n2 n3 hx hy hs ht
end Go.Proofs.Ytfkgacjiccgdfaa.Pure
