/-
A chunk's bytes and back: Get of Put's bytes, Put of Get's numbers. Condition: numbers of 64 bits, bytes that are bytes.
-/
import Derived.Test.YtfkgacjiccgdfaaBGet
import Derived.Test.YtfkgacjiccgdfaaQ4
import Derived.Test.YtfkgacjiccgdfaaSPut
set_option linter.unusedSimpArgs false
set_option linter.unusedVariables false
namespace Go.Proofs.Ytfkgacjiccgdfaa.Pure
open Go.RowKit Go.Proofs.YtfkgacjiccgdfaaW.PrintWords Go.Proofs.Ytfkgacjiccgdfaa.Q
theorem rd_eq (l : List Int) (j : Nat) (h : j < l.length) : l[j]? = some (rd l (j : Int)) := by
  unfold rd
  rw [Int.toNat_natCast, List.getD_eq_getElem?_getD, List.getElem?_eq_getElem h]
  rfl
theorem same_loop (x : List Int) (hl : x.length < 4611686018427387904) : ∀ (n i k : Nat), i + n = x.length → n < k → symbolonref01_Same.l0 k x x (i : Int) = some true
  | 0, i, k + 1, hi, hk => by
    simp only [symbolonref01_Same.l0]
    rw [if_neg (by omega)]
  | n + 1, i, k + 1, hi, hk => by
    simp only [symbolonref01_Same.l0]
    rw [if_pos (by omega), if_pos (by omega), if_pos (by omega), if_pos trivial, show wrap64 ((i : Int) + 1) = ((i + 1 : Nat) : Int) by rw [w_id (by omega) (by omega)]; omega]
    exact same_loop x hl n (i + 1) k (by omega) (by omega)
theorem same_self (x : List Int) (k : Nat) (hl : x.length < 4611686018427387904) (hk : x.length < k) : symbolonref01_Same.f k x x = some true := by
  unfold symbolonref01_Same.f
  rw [if_pos rfl]
  exact same_loop x hl x.length 0 k (by omega) hk
/-- The eight bytes of a number. -/
def eight (v : Int) : List Int := (List.range 8).map fun q => (v / 2 ^ (8 * (7 - q))) % 256
theorem eight_val (v : Int) (h0 : 0 ≤ v) (h1 : v < 18446744073709551616) : val (eight v) = v := by
  rw [show eight v = [v / 72057594037927936 % 256, v / 281474976710656 % 256, v / 1099511627776 % 256, v / 4294967296 % 256, v / 16777216 % 256, v / 65536 % 256, v / 256 % 256, v / 1 % 256] from rfl]
  simp [val]
  omega
theorem digit (xs : List Int) (hl : xs.length = 8) (hb : ∀ x ∈ xs, 0 ≤ x ∧ x < 256) (q : Nat) (hq : q < 8) : val xs / 2 ^ (8 * (7 - q)) % 256 = rd xs (q : Int) := by
  match xs, hl with
  | [a, b, c, d, e, f, g, h], _ =>
    have ha := hb a (by simp)
    have hb' := hb b (by simp)
    have hc := hb c (by simp)
    have hd := hb d (by simp)
    have he := hb e (by simp)
    have hf := hb f (by simp)
    have hg := hb g (by simp)
    have hh := hb h (by simp)
    clear hb
    obtain rfl | rfl | rfl | rfl | rfl | rfl | rfl | rfl : q = 0 ∨ q = 1 ∨ q = 2 ∨ q = 3 ∨ q = 4 ∨ q = 5 ∨ q = 6 ∨ q = 7 := by omega
    all_goals (simp [val, rd]; omega)
theorem putB_len (a : Int) (l : List Int) : (S.putB a l).length = 2 + 8 * l.length := by simp [S.putB]
theorem putB_get (a : Int) (l : List Int) (p : Nat) (h : p < 2 + 8 * l.length) : (S.putB a l)[p]? = some (S.byteAt a l p) := by simp [S.putB, h]
theorem putB_bytes (a : Int) (l : List Int) (h0 : 0 ≤ a) (h1 : a ≤ 65535) : ∀ x ∈ S.putB a l, 0 ≤ x ∧ x < 256 := by
  intro x hx
  unfold S.putB at hx
  obtain ⟨p, _, rfl⟩ := List.mem_map.1 hx
  unfold S.byteAt
  split
  · omega
  · split <;> omega
theorem putB_at (a : Int) (l : List Int) (h0 : 0 ≤ a) : rd (S.putB a l) 0 * 256 + rd (S.putB a l) 1 = a := by
  have e0 := rd_eq (S.putB a l) 0 (by rw [putB_len]; omega)
  have e1 := rd_eq (S.putB a l) 1 (by rw [putB_len]; omega)
  rw [putB_get a l 0 (by omega)] at e0
  rw [putB_get a l 1 (by omega)] at e1
  have e0 := Option.some.inj e0
  have e1 := Option.some.inj e1
  simp only [S.byteAt, Int.natCast_zero, Int.natCast_one, if_true] at e0 e1
  rw [if_neg (by omega)] at e1
  rw [← e0, ← e1]
  omega
theorem putB_group (a : Int) (l : List Int) (j : Nat) (hj : j < l.length) : ((S.putB a l).drop (2 + 8 * j)).take 8 = eight (rd l (j : Int)) := by
  apply List.ext_getElem?
  intro q
  by_cases hq : q < 8
  · rw [List.getElem?_take, if_pos hq, List.getElem?_drop, putB_get a l _ (by omega)]
    unfold S.byteAt eight
    rw [if_neg (by omega), if_neg (by omega), show (2 + 8 * j + q - 2) / 8 = j by omega, show (2 + 8 * j + q - 2) % 8 = q by omega]
    simp [hq]
  · rw [List.getElem?_take, if_neg hq]
    simp [eight, hq]
theorem putB_nums (a : Int) (l : List Int) (hb : ∀ x ∈ l, 0 ≤ x ∧ x < 18446744073709551616) : nums_ (S.putB a l) l.length = l := by
  apply List.ext_getElem?
  intro j
  by_cases hj : j < l.length
  · have hm := hb _ (List.mem_of_getElem? (rd_eq l j hj))
    rw [rd_eq l j hj]
    simp only [nums_, List.getElem?_map, List.getElem?_range hj, Option.map_some]
    rw [putB_group a l j hj, eight_val _ hm.1 hm.2]
  · have e : l[j]? = none := List.getElem?_eq_none (by omega)
    rw [e]
    simp [nums_, hj]
/-- Get of Put's bytes. -/
theorem get_put (a : Int) (l : List Int) (k : Nat) (h0 : 0 ≤ a) (h1 : a ≤ 65535) (h2 : 1 ≤ l.length) (h3 : l.length ≤ 6) (h4 : (l.length : Int) ≤ 65536 - a) (hb : ∀ x ∈ l, 0 ≤ x ∧ x < 18446744073709551616) (hk : 60 ≤ k) :
    chunk_Get.f k (S.putB a l) = some (a, l, true) := by
  have h := get_yes (S.putB a l) l.length k (putB_bytes a l h0 h1) h2 h3 (putB_len a l) (by rw [putB_at a l h0]; exact h4) hk
  rw [putB_at a l h0, putB_nums a l hb] at h
  exact h
theorem nums_len (b : List Int) (m : Nat) : (nums_ b m).length = m := by simp [nums_]
/-- Put of Get's numbers. -/
theorem put_get (b : List Int) (m : Nat) (hb : ∀ x ∈ b, 0 ≤ x ∧ x < 256) (h1 : 1 ≤ m) (h3 : b.length = 2 + 8 * m) : S.putB (rd b 0 * 256 + rd b 1) (nums_ b m) = b := by
  have r0 := rd_byte hb 0 (by omega)
  have r1 := rd_byte hb 1 (by omega)
  simp only [Int.natCast_zero, Int.natCast_one] at r0 r1
  apply List.ext_getElem?
  intro p
  by_cases hp : p < 2 + 8 * m
  · rw [putB_get _ _ _ (by rw [nums_len]; exact hp), rd_eq b p (by omega)]
    congr 1
    unfold S.byteAt
    by_cases p0 : p = 0
    · subst p0
      rw [if_pos rfl]
      simp only [Int.natCast_zero]
      omega
    · rw [if_neg p0]
      by_cases p1 : p = 1
      · subst p1
        rw [if_pos rfl]
        simp only [Int.natCast_one]
        omega
      · rw [if_neg p1]
        have hj : (p - 2) / 8 < m := by omega
        have e := rd_eq (nums_ b m) ((p - 2) / 8) (by rw [nums_len]; exact hj)
        simp only [nums_, List.getElem?_map, List.getElem?_range hj, Option.map_some] at e
        have e := Option.some.inj e
        rw [show rd (nums_ b m) (((p - 2) / 8 : Nat) : Int) = val ((b.drop (2 + 8 * ((p - 2) / 8))).take 8) from e.symm]
        rw [digit _ (by rw [List.length_take, List.length_drop]; omega) (fun x hx => hb x (List.mem_of_mem_drop (List.mem_of_mem_take hx))) _ (by omega)]
        have g := rd_eq ((b.drop (2 + 8 * ((p - 2) / 8))).take 8) ((p - 2) % 8) (by rw [List.length_take, List.length_drop]; omega)
        rw [List.getElem?_take, if_pos (by omega), List.getElem?_drop, show 2 + 8 * ((p - 2) / 8) + (p - 2) % 8 = p by omega, rd_eq b p (by omega)] at g
        exact (Option.some.inj g).symm
  · rw [List.getElem?_eq_none (by rw [putB_len, nums_len]; omega), List.getElem?_eq_none (by omega)]
end Go.Proofs.Ytfkgacjiccgdfaa.Pure
