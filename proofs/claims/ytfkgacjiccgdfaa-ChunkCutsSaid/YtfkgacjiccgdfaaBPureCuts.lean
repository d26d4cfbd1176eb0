/-
The plain law of ChunkCuts: of bytes that are cut, or longer, the chunk's are those where eight are taken off or put behind. No condition.
-/
import Derived.Test.YtfkgacjiccgdfaaQ20
import Derived.Test.YtfkgacjiccgdfaaBHead
import Derived.Test.YtfkgacjiccgdfaaBBytes
set_option linter.unusedSimpArgs false
set_option linter.unusedVariables false
namespace Go.Proofs.Ytfkgacjiccgdfaa.Pure
open Go.RowKit Go.Proofs.YtfkgacjiccgdfaaW.PrintWords Go.Proofs.Ytfkgacjiccgdfaa.Q
theorem put_right (a : Int) (l : List Int) (h0 : 0 ≤ a) (h1 : a ≤ 65535) (h2 : 1 ≤ l.length) (h3 : l.length ≤ 6) (h4 : (l.length : Int) ≤ 65536 - a) : chunk_Put.f a l = some (S.putB a l) := by
  unfold chunk_Put.f S.put
  rw [if_pos ⟨h0, h1, h2, h3, h4⟩]
theorem mn_nat (a b : Nat) : mn (a : Int) (b : Int) = ((min a b : Nat) : Int) := by
  unfold mn
  split <;> omega
/-- Behind a cut the numbers are those that were put. -/
theorem cut_nums (p : Int) (l : List Int) (n m : Nat) (hl : ∀ x ∈ l, 0 ≤ x ∧ x < 18446744073709551616) (hn : n = 2 + 8 * m) :
    (nums_ ((S.putB p l ++ List.replicate 60 0).take n) m).take (min m l.length) = l.take (min m l.length) := by
  apply List.ext_getElem?
  intro j
  by_cases hj : j < min m l.length
  · rw [List.getElem?_take, if_pos hj, List.getElem?_take, if_pos hj, rd_eq l j (by omega)]
    have hm := hl _ (List.mem_of_getElem? (rd_eq l j (by omega)))
    simp only [nums_, List.getElem?_map, List.getElem?_range (show j < m by omega), Option.map_some]
    have e : (((S.putB p l ++ List.replicate 60 0).take n).drop (2 + 8 * j)).take 8 = eight (rd l (j : Int)) := by
      rw [← putB_group p l j (by omega)]
      apply List.ext_getElem?
      intro q
      by_cases hq : q < 8
      · rw [List.getElem?_take, if_pos hq, List.getElem?_take, if_pos hq, List.getElem?_drop, List.getElem?_drop, List.getElem?_take, if_pos (by omega), List.getElem?_append_left (by rw [putB_len]; omega)]
      · rw [List.getElem?_take, if_neg hq, List.getElem?_take, if_neg hq]
    rw [e, eight_val _ hm.1 hm.2]
  · rw [List.getElem?_take, if_neg hj, List.getElem?_take, if_neg hj]
theorem cut_at (p : Int) (l : List Int) (n : Nat) (h0 : 0 ≤ p) (hn : 2 ≤ n) : rd ((S.putB p l ++ List.replicate 60 0).take n) 0 * 256 + rd ((S.putB p l ++ List.replicate 60 0).take n) 1 = p := by
  have e : ∀ i : Nat, i < 2 → rd ((S.putB p l ++ List.replicate 60 0).take n) (i : Int) = rd (S.putB p l) (i : Int) := by
    intro i hi
    have a := rd_eq ((S.putB p l ++ List.replicate 60 0).take n) i (by rw [List.length_take, List.length_append, putB_len]; omega)
    rw [List.getElem?_take, if_pos (by omega), List.getElem?_append_left (by rw [putB_len]; omega), rd_eq (S.putB p l) i (by rw [putB_len]; omega)] at a
    exact (Option.some.inj a).symm
  have e0 := e 0 (by omega)
  have e1 := e 1 (by omega)
  simp only [Int.natCast_zero, Int.natCast_one] at e0 e1
  rw [e0, e1, putB_at p l h0]
theorem ChunkCuts : symbolonlaw14_ChunkCuts.Pure := by
  intro a l c ha _ _ hl hc
  obtain ⟨a0, a1⟩ := bd16 ha
  obtain ⟨c0, c1⟩ := bd8 hc
  have hL : ∀ x ∈ l, 0 ≤ x ∧ x < 18446744073709551616 := fun x hx => bd64 (hl x hx)
  clear ha hl hc
  refine ⟨100, ?_⟩
  unfold symbolonlaw14_ChunkCuts.f
  rw [head_true 100 (by omega), Option.bind_some]
  have early : ∀ p, symbolonlaw14_ChunkCuts.j0 100 l c true p true = some true := by
    intro p
    simp only [symbolonlaw14_ChunkCuts.j0, if_true]
  by_cases l1 : (l.length : Int) < 1
  · rw [if_pos l1, early]
  · rw [if_neg l1]
    by_cases l2 : (l.length : Int) > 6
    · rw [decide_eq_true l2, early]
    · rw [decide_eq_false l2]
      obtain ⟨p, hp, p0, p1⟩ : ∃ p, Int.tmod (wrap64 a) 60000 = p ∧ 0 ≤ p ∧ p < 60000 := ⟨_, rfl, by rw [w_id (by omega) (by omega), Int.tmod_eq_emod_of_nonneg a0]; omega, by rw [w_id (by omega) (by omega), Int.tmod_eq_emod_of_nonneg a0]; omega⟩
      obtain ⟨n, hn, n1⟩ : ∃ n : Nat, Int.tmod (wrap64 c) 60 = (n : Int) ∧ n < 60 := ⟨(c % 60).toNat, by rw [w_id (by omega) (by omega), Int.tmod_eq_emod_of_nonneg c0]; omega, by omega⟩
      rw [hp]
      simp only [symbolonlaw14_ChunkCuts.j0]
      have hb : ∀ x ∈ (S.putB p l ++ List.replicate 60 0).take n, 0 ≤ x ∧ x < 256 := by
        intro x hx
        rcases List.mem_append.1 (List.mem_of_mem_take hx) with h | h
        · exact putB_bytes p l p0 (by omega) x h
        · obtain rfl := (List.mem_replicate.1 h).2
          omega
      have hlen : ((S.putB p l ++ List.replicate 60 0).take n).length = n := by rw [List.length_take, List.length_append, putB_len, List.length_replicate]; omega
      rw [if_neg (by decide), put_right p l p0 (by omega) (by omega) (by omega) (by omega), Option.bind_some, if_pos (by rw [putB_len]; omega), Option.bind_some, hn, if_neg (by rw [List.length_append, putB_len, List.length_replicate]; omega), if_pos (by omega), if_pos (by rw [List.length_append, putB_len, List.length_replicate]; omega), Int.toNat_natCast]
      by_cases hm : ∃ m : Nat, 1 ≤ m ∧ m ≤ 6 ∧ n = 2 + 8 * m
      · obtain ⟨m, m1, m6, hnm⟩ := hm
        rw [get_yes _ m 99 hb m1 m6 (by rw [hlen]; exact hnm) (by rw [cut_at p l n p0 (by omega)]; omega) (by omega), Option.bind_some, if_pos (by omega), if_pos (by omega)]
        simp only [symbolonlaw14_ChunkCuts.j1]
        have e8 : (Int.tmod (n : Int) 8 == 2) = true := by
          rw [beq_iff_eq, Int.tmod_eq_emod_of_nonneg (by omega)]
          omega
        have em : wrap64 (Int.tdiv (wrap64 ((n : Int) - 2)) 8) = (m : Int) := by
          rw [w_id (a := (n : Int) - 2) (by omega) (by omega), Int.tdiv_eq_ediv_of_nonneg (by omega), w_id (by omega) (by omega)]
          omega
        rw [e8, if_neg (by decide), if_pos trivial, if_pos trivial, cut_at p l n p0 (by omega), if_pos rfl, em, nums_len, if_pos rfl, mn_nat, if_pos (by omega), if_pos (by omega), if_pos (by omega), Int.toNat_natCast, cut_nums p l n m hL hnm, same_self _ 98 (by rw [List.length_take]; omega) (by rw [List.length_take]; omega)]
        rfl
      · have hno : ¬ isChunk ((S.putB p l ++ List.replicate 60 0).take n) := by
          rintro ⟨m, m1, m6, h3, _⟩
          rw [hlen] at h3
          exact hm ⟨m, m1, m6, h3⟩
        have fin : symbolonlaw14_ChunkCuts.j1 99 l true p (n : Int) 0 [] false false = some true := by
          simp only [symbolonlaw14_ChunkCuts.j1]
          simp
        rw [get_no _ 99 hb (by rw [hlen]; omega) hno (by omega), Option.bind_some]
        by_cases d1 : (n : Int) ≥ 10
        · rw [if_pos d1]
          by_cases d2 : (n : Int) ≤ 50
          · rw [if_pos d2]
            have e8 : (Int.tmod (n : Int) 8 == 2) = false := by
              rw [beq_eq_false_iff_ne, Int.tmod_eq_emod_of_nonneg (by omega)]
              intro h
              exact hm ⟨(n - 2) / 8, by omega, by omega, by omega⟩
            rw [e8]
            exact fin
          · rw [if_neg d2]
            exact fin
        · rw [if_neg d1]
          exact fin
end Go.Proofs.Ytfkgacjiccgdfaa.Pure
