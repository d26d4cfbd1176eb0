/-
The plain law of ChunkLacks: without one of its chunks what was cut is not gathered; what the others have is. No condition.
-/
import Derived.Test.YtfkgacjiccgdfaaQ18
import Derived.Test.YtfkgacjiccgdfaaBHead
import Derived.Test.YtfkgacjiccgdfaaBGather
set_option linter.unusedSimpArgs false
set_option linter.unusedVariables false
namespace Go.Proofs.Ytfkgacjiccgdfaa.Pure
open Go.RowKit Go.Proofs.YtfkgacjiccgdfaaW.PrintWords Go.Proofs.Ytfkgacjiccgdfaa.Q
theorem mn_nat' (a b : Nat) : mn (a : Int) (b : Int) = ((min a b : Nat) : Int) := by
  unfold mn
  split <;> omega
/-- All chunks but one. -/
def but (M t : Nat) : List Nat := (List.range M).take t ++ (List.range M).drop (t + 1)
theorem but_mem (M t j : Nat) : j ∈ but M t ↔ j < M ∧ j ≠ t := by
  unfold but
  rw [List.mem_append, List.mem_iff_getElem?, List.mem_iff_getElem?]
  constructor
  · rintro (⟨i, h⟩ | ⟨i, h⟩)
    · rw [List.getElem?_take] at h
      split at h
      · obtain ⟨h1, h2⟩ := List.getElem?_eq_some_iff.1 h
        rw [List.length_range] at h1
        rw [List.getElem_range] at h2
        omega
      · cases h
    · rw [List.getElem?_drop] at h
      obtain ⟨h1, h2⟩ := List.getElem?_eq_some_iff.1 h
      rw [List.length_range] at h1
      rw [List.getElem_range] at h2
      omega
  · rintro ⟨h1, h2⟩
    by_cases h : j < t
    · exact .inl ⟨j, by rw [List.getElem?_take, if_pos h, List.getElem?_range h1]⟩
    · exact .inr ⟨j - (t + 1), by rw [List.getElem?_drop, show t + 1 + (j - (t + 1)) = j by omega, List.getElem?_range h1]⟩
theorem but_len (M t : Nat) : (but M t).length ≤ M := by
  unfold but
  rw [List.length_append, List.length_take, List.length_drop, List.length_range]
  omega
theorem w1_ (t : Nat) (h : t ≤ 1000) : wrap64 ((t : Int) + 1) = ((t + 1 : Nat) : Int) := by rw [w_id (by omega) (by omega)]; omega
theorem w6_ (t : Nat) (h : t ≤ 1000) : wrap64 (6 * (t : Int)) = ((6 * t : Nat) : Int) := by rw [w_id (by omega) (by omega)]; omega
theorem w7_ (t : Nat) (h : t ≤ 9000) : wrap64 ((t : Int) + 6) = ((t + 6 : Nat) : Int) := by rw [w_id (by omega) (by omega)]; omega
theorem w8_ (p : Int) (t : Nat) (p0 : 0 ≤ p) (p1 : p < 60000) (h : t ≤ 9000) : wrap64 (p + (t : Int)) = p + (t : Int) := w_id (by omega) (by omega)
theorem w9_ (n t : Nat) (h : t ≤ n) (k : n ≤ 9000) : wrap64 ((n : Int) - (t : Int)) = ((n - t : Nat) : Int) := by rw [w_id (by omega) (by omega)]; omega
theorem big_len (n : Nat) (h : n ≤ 1000) : n < 5864062014805 := by omega
theorem mem_lo (M t i : Nat) (h : i < 6 * t) (ht : t < M) : (0 + i) / 6 < M ∧ (0 + i) / 6 ≠ t := by omega
theorem mem_hi (n M t e i : Nat) (hM : M = (n + 5) / 6) (he : e = n ∨ e = 6 * t + 6) (hi : i < n - e) : (e + i) / 6 < M ∧ (e + i) / 6 ≠ t := by omega
theorem min_cases (a b : Nat) : (min a b = b ∨ min a b = a) ∧ min a b ≤ b := by omega
theorem len_take (X : List (List Int)) (t M : Nat) (h : X.length = M) (ht : t ≤ M) : (X.take t).length = t := by rw [List.length_take, h]; exact Nat.min_eq_left ht
theorem len_drop (X : List (List Int)) (t M : Nat) (h : X.length = M) : (X.drop t).length = M - t := by rw [List.length_drop, h]
theorem m3_ (t M : Nat) (ht : t < M) : (0 : Int) ≤ ((t + 1 : Nat) : Int) ∧ ((t + 1 : Nat) : Int) ≤ (M : Int) := by omega
theorem lacks_end (K : Nat) (p : Int) (l : List Int) (M t e : Nat) (hK : K = 2999) (p0 : 0 ≤ p) (p1 : p < 60000) (hl : l.length ≤ 900) (hM : M = (l.length + 5) / 6) (hM2 : M ≤ 150) (hb : ∀ x ∈ l, 0 ≤ x ∧ x < 18446744073709551616) (t1 : t < M) (h6 : 6 * t < l.length) (he : e = l.length ∨ e = 6 * t + 6) (hel : e ≤ l.length) :
    chunk_Gather.f K p (l.length : Int) ((but M t).map (ch p l)) = some ([], false) ∧ chunk_Gather.f K p ((6 * t : Nat) : Int) ((but M t).map (ch p l)) = some (l.take (6 * t), true) ∧
      chunk_Gather.f K (wrap64 (p + (e : Int))) (wrap64 ((l.length : Int) - (e : Int))) ((but M t).map (ch p l)) = some (l.drop e, true) := by
  have hlt : ∀ j ∈ but M t, j < (l.length + 5) / 6 := fun j hj => by rw [← hM]; exact ((but_mem M t j).1 hj).1
  have hln := Nat.le_trans (but_len M t) hM2
  have hln2 : (but M t).length < 1000000 := Nat.lt_of_le_of_lt hln (by decide)
  have hln3 : 64 + 8 * (but M t).length ≤ K := by clear hM hlt; omega
  have g1 := gather_lack p l 0 l.length K (6 * t) (but M t) p0 p1 hl (by omega) hb hlt hln2 hln3 h6 (by
    rw [but_mem]
    rintro ⟨_, h⟩
    exact h (by clear hM; omega))
  have g2 := gather_all p l 0 (6 * t) K (but M t) p0 p1 hl (by clear hM; omega) hb hlt hln2 hln3 (fun i hi => (but_mem M t _).2 (mem_lo M t i hi t1))
  have g3 := gather_all p l e (l.length - e) K (but M t) p0 p1 hl (by clear hM; omega) hb hlt hln2 hln3 (fun i hi => (but_mem M t _).2 (mem_hi l.length M t e i hM he hi))
  clear hM hlt
  rw [show p + ((0 : Nat) : Int) = p by omega] at g1 g2
  rw [List.drop_zero] at g2
  rw [List.take_of_length_le (by rw [List.length_drop]; exact Nat.le_refl _)] at g3
  have hel2 : e ≤ 9000 := by clear g1 g2 g3; omega
  rw [w8_ p e p0 p1 hel2, w9_ l.length e hel (by clear g1 g2 g3; omega)]
  exact ⟨g1, g2, g3⟩
theorem ChunkLacks : symbolonlaw14_ChunkLacks.Pure := by
  intro a l c ha _ _ hl hc
  obtain ⟨a0, a1⟩ := bd16 ha
  obtain ⟨c0, c1⟩ := bd8 hc
  have hL : ∀ x ∈ l, 0 ≤ x ∧ x < 18446744073709551616 := fun x hx => bd64 (hl x hx)
  clear ha hl hc
  refine ⟨3000, ?_⟩
  unfold symbolonlaw14_ChunkLacks.f
  rw [head_true 3000 (by omega), Option.bind_some]
  have early : ∀ p, symbolonlaw14_ChunkLacks.j0 3000 l c true p true = some true := by
    intro p
    simp only [symbolonlaw14_ChunkLacks.j0, if_true]
  by_cases l1 : (l.length : Int) > 900
  · rw [if_pos l1, early]
  · rw [if_neg l1]
    by_cases l2 : l.length = 0
    · rw [show ((l.length : Int) == 0) = true by rw [beq_iff_eq]; omega, early]
    · rw [show ((l.length : Int) == 0) = false by rw [beq_eq_false_iff_ne]; omega]
      obtain ⟨p, hp, p0, p1⟩ : ∃ p, Int.tmod (wrap64 a) 60000 = p ∧ 0 ≤ p ∧ p < 60000 := ⟨_, rfl, by rw [w_id (by omega) (by omega), Int.tmod_eq_emod_of_nonneg a0]; omega, by rw [w_id (by omega) (by omega), Int.tmod_eq_emod_of_nonneg a0]; omega⟩
      rw [hp]
      obtain ⟨M, hM⟩ : ∃ M, M = (l.length + 5) / 6 := ⟨_, rfl⟩
      have hM1 : 1 ≤ M := by omega
      have hM2 : M ≤ 150 := by omega
      have hcl : ((List.range M).map (ch p l)).length = M := by simp
      obtain ⟨t, ht, t1⟩ : ∃ t : Nat, Int.tmod (wrap64 c) (M : Int) = (t : Int) ∧ t < M := by
        have h1 := Int.emod_nonneg c (show (M : Int) ≠ 0 by omega)
        have h2 := Int.emod_lt_of_pos c (show (0 : Int) < M by omega)
        exact ⟨(c % (M : Int)).toNat, by rw [w_id (by omega) (by omega), Int.tmod_eq_emod_of_nonneg c0]; omega, by omega⟩
      have h6 : 6 * t < l.length := by omega
      simp only [symbolonlaw14_ChunkLacks.j0]
      rw [if_neg (by decide), cut_right p l p0 p1 (by omega), ← hM, Option.bind_some, hcl, if_neg (by omega), Option.bind_some, ht, if_pos (by omega), if_pos (by omega), Option.bind_some]
      have e1 : wrap64 ((t : Int) + 1) = ((t + 1 : Nat) : Int) := w1_ t (by clear ht hM; omega)
      have e6 : wrap64 (6 * (t : Int)) = ((6 * t : Nat) : Int) := w6_ t (by clear ht hM; omega)
      have e7 : wrap64 (((6 * t : Nat) : Int) + 6) = ((6 * t + 6 : Nat) : Int) := w7_ (6 * t) (by clear ht hM; omega)
      clear ht
      rw [e1, e6, e7, mn_nat', mn_nat', Int.toNat_natCast, Int.toNat_natCast]
      clear e1 e6 e7
      have hq : min (6 * t) l.length = 6 * t := Nat.min_eq_left (Nat.le_of_lt h6)
      obtain ⟨e, he⟩ : ∃ e, e = min (6 * t + 6) l.length := ⟨_, rfl⟩
      have he2 : e = l.length ∨ e = 6 * t + 6 := by rw [he]; exact (min_cases _ _).1
      have he3 : e ≤ l.length := by rw [he]; exact (min_cases _ _).2
      rw [hq, ← he]
      clear hq he
      have hl : l.length ≤ 900 := by clear hM; omega
      obtain ⟨g1, g2, g3⟩ := lacks_end 2999 p l M t e rfl p0 p1 hl hM hM2 hL t1 h6 he2 he3
      have k1 := m3_ t M t1
      have hjs : ([] ++ ((List.range M).map (ch p l)).take t) ++ ((List.range M).map (ch p l)).drop (t + 1) = (but M t).map (ch p l) := by
        rw [List.nil_append, ← List.map_take, ← List.map_drop, ← List.map_append]
        rfl
      have n1 : ([] : List (List Int)).length + (((List.range M).map (ch p l)).take t).length < 5864062014805 := by
        rw [len_take _ t M hcl (Nat.le_of_lt t1)]
        exact big_len _ (by simp only [List.length_nil]; clear hM; omega)
      have n2 : ([] ++ ((List.range M).map (ch p l)).take t).length + (((List.range M).map (ch p l)).drop (t + 1)).length < 5864062014805 := by
        rw [List.nil_append, len_take _ t M hcl (Nat.le_of_lt t1), len_drop _ _ M hcl]
        exact big_len _ (by clear hM; omega)
      rw [if_pos n1, Option.bind_some, if_pos k1.1, if_pos k1.2, Option.bind_some, if_pos n2, Option.bind_some, hjs, g1, Option.bind_some, g2, Option.bind_some, g3, Option.bind_some]
      clear hM n1 n2 g1 g2 g3 hjs hp early
      have s1 := same_self (l.take (6 * t)) 2999 (by rw [List.length_take]; omega) (by rw [List.length_take]; omega)
      have s2 := same_self (l.drop e) 2999 (by rw [List.length_drop]; omega) (by rw [List.length_drop]; omega)
      simp only [Int.toNat_natCast, s1, s2, Option.bind_some, if_true, List.length_nil]
      rw [if_neg (by decide), if_pos (by rfl), if_pos (by omega), if_pos (by omega), if_pos (by omega), if_pos (by omega)]
end Go.Proofs.Ytfkgacjiccgdfaa.Pure
