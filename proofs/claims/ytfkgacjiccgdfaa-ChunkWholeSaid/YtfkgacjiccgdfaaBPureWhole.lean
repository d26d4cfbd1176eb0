/-
The plain law of ChunkWhole: what is cut is gathered again, in whatever order its chunks come, and however often; so is any part of it. No condition.
-/
import Derived.Test.YtfkgacjiccgdfaaQ17
import Derived.Test.YtfkgacjiccgdfaaBHead
import Derived.Test.YtfkgacjiccgdfaaBGather
set_option linter.unusedSimpArgs false
set_option linter.unusedVariables false
namespace Go.Proofs.Ytfkgacjiccgdfaa.Pure
open Go.RowKit Go.Proofs.YtfkgacjiccgdfaaW.PrintWords Go.Proofs.Ytfkgacjiccgdfaa.Q
theorem mn_nat2 (a b : Nat) : mn (a : Int) (b : Int) = ((min a b : Nat) : Int) := by
  unfold mn
  split <;> omega
theorem whole_rd (p : Int) (l : List Int) (M i : Nat) (h : i < M) : rd_L2 ((List.range M).map (ch p l)) (i : Int) = ch p l i := by
  unfold rd_L2
  rw [Int.toNat_natCast, List.getD_eq_getElem?_getD]
  simp [h]
theorem six (n : Nat) (h : n ≤ 900) : wrap64 (Int.tdiv (wrap64 ((n : Int) + 5)) 6) = (((n + 5) / 6 : Nat) : Int) := by
  rw [w_id (a := (n : Int) + 5) (by omega) (by omega), Int.tdiv_eq_ediv_of_nonneg (by omega), w_id (by omega) (by omega)]
  omega
theorem len_le (l : List Int) (s n : Nat) : ((l.drop s).take n).length ≤ l.length := by
  rw [List.length_take, List.length_drop]
  omega
theorem whole_fin (p x3 x4 : Int) (l : List Int) (M : Nat) (js : List Nat) (K : Nat) (p0 : 0 ≤ p) (p1 : p < 60000) (hl : l.length ≤ 900) (hM : M = (l.length + 5) / 6) (hb : ∀ x ∈ l, 0 ≤ x ∧ x < 18446744073709551616) (h3 : 0 ≤ x3 ∧ x3 < 256) (h4 : 0 ≤ x4 ∧ x4 < 256)
    (hjs : ∀ j ∈ js, j < M) (hlen : js.length ≤ 400) (hK : 4000 ≤ K) (hall : ∀ j, j < M → j ∈ js) :
    symbolonlaw14_ChunkWhole.l1 (K + 1) l x3 x4 true p ((List.range M).map (ch p l)) (js.map (ch p l)) (-1) = some true := by
  have hcl : ((List.range M).map (ch p l)).length = M := by simp
  obtain ⟨s, hs, s1⟩ : ∃ s : Nat, Int.tmod (wrap64 x3) (wrap64 ((l.length : Int) + 1)) = (s : Int) ∧ s ≤ l.length := by
    have h1 := Int.emod_nonneg x3 (show ((l.length : Int) + 1) ≠ 0 by omega)
    have h2 := Int.emod_lt_of_pos x3 (show (0 : Int) < (l.length : Int) + 1 by omega)
    exact ⟨(x3 % ((l.length : Int) + 1)).toNat, by rw [w_id (a := x3) (by omega) (by omega), w_id (by omega) (by omega), Int.tmod_eq_emod_of_nonneg h3.1]; omega, by omega⟩
  obtain ⟨m, hm⟩ : ∃ m : Nat, x4 = (m : Int) := ⟨x4.toNat, by omega⟩
  obtain ⟨n, hn⟩ : ∃ n, n = min m (l.length - s) := ⟨_, rfl⟩
  have en : mn (wrap64 x4) (wrap64 ((l.length : Int) - (s : Int))) = (n : Int) := by
    rw [w_id (a := x4) (by omega) (by omega), w_id (by omega) (by omega), hm, show (l.length : Int) - (s : Int) = ((l.length - s : Nat) : Int) by omega, mn_nat2, ← hn]
  have hn2 : s + n ≤ l.length := by rw [hn]; have := Nat.min_le_right m (l.length - s); omega
  have hlt : ∀ j ∈ js, j < (l.length + 5) / 6 := fun j hj => by rw [← hM]; exact hjs j hj
  have g1 := gather_all p l 0 l.length K js p0 p1 hl (by omega) hb hlt (by omega) (by omega) (fun i hi => hall _ (by omega))
  have g2 := gather_all p l s n K js p0 p1 hl hn2 hb hlt (by omega) (by omega) (fun i hi => hall _ (by omega))
  clear hn
  rw [show p + ((0 : Nat) : Int) = p by omega, List.drop_zero, List.take_length] at g1
  clear hb hjs hlt hall
  have e1 : wrap64 (p + (s : Int)) = p + (s : Int) := w_id (by omega) (by omega)
  have e2 : wrap64 ((s : Int) + (n : Int)) = ((s + n : Nat) : Int) := by rw [w_id (by omega) (by omega)]; omega
  have e3 : wrap64 ((l.length : Int) + 1) ≠ 0 := by rw [w_id (by omega) (by omega)]; omega
  have e4 : wrap64 (Int.tdiv (wrap64 ((l.length : Int) + 5)) 6) = (M : Int) := by rw [hM]; exact six l.length hl
  have s1' := same_self l K (Nat.lt_of_le_of_lt hl (by decide)) (Nat.lt_of_le_of_lt hl (Nat.lt_of_lt_of_le (by decide) hK))
  have hle := len_le l s n
  have s2 := same_self ((l.drop s).take n) K (Nat.lt_of_le_of_lt (Nat.le_trans hle hl) (by decide)) (Nat.lt_of_le_of_lt (Nat.le_trans hle hl) (Nat.lt_of_lt_of_le (by decide) hK))
  have d1 : (l.take (s + n)).drop s = (l.drop s).take n := by rw [List.drop_take, Nat.add_sub_cancel_left]
  simp only [symbolonlaw14_ChunkWhole.l1]
  have c1 : (0 : Int) ≤ (s : Int) := Int.natCast_nonneg s
  have c2 : (s : Int) ≤ ((s + n : Nat) : Int) := Int.ofNat_le.2 (Nat.le_add_right s n)
  have c3 : ((s + n : Nat) : Int) ≤ (l.length : Int) := Int.ofNat_le.2 hn2
  rw [if_neg (by decide), g1, Option.bind_some, if_neg e3, hs, en, e1, g2, Option.bind_some]
  clear hs en e3 e1 g1 g2
  rw [e2]
  simp only [if_true, s1', Option.bind_some, Int.toNat_natCast, d1, s2]
  rw [if_pos c1, if_pos c2, if_pos c3, hcl, e4, beq_self_eq_true]
theorem whole_l1 (p x3 x4 : Int) (l : List Int) (M : Nat) (p0 : 0 ≤ p) (p1 : p < 60000) (hl : l.length ≤ 900) (hM : M = (l.length + 5) / 6) (hb : ∀ x ∈ l, 0 ≤ x ∧ x < 18446744073709551616) (h3 : 0 ≤ x3 ∧ x3 < 256) (h4 : 0 ≤ x4 ∧ x4 < 256) (hM2 : M ≤ 150) :
    ∀ (d K : Nat) (js : List Nat), d ≤ M → 4001 + d ≤ K → (∀ j ∈ js, j < M) → js.length + d ≤ 400 → (∀ j, d ≤ j → j < M → j ∈ js) →
      symbolonlaw14_ChunkWhole.l1 K l x3 x4 true p ((List.range M).map (ch p l)) (js.map (ch p l)) ((d : Int) - 1) = some true := by
  intro d
  induction d with
  | zero =>
    intro K js hd hK hjs hlen hall
    obtain ⟨K, rfl⟩ : ∃ k, K = k + 1 := ⟨K - 1, by omega⟩
    exact whole_fin p x3 x4 l M js K p0 p1 hl hM hb h3 h4 hjs (by omega) (by omega) (fun j hj => hall j (by omega) hj)
  | succ d ih =>
    intro K js hd hK hjs hlen hall
    obtain ⟨K, rfl⟩ : ∃ k, K = k + 1 := ⟨K - 1, by omega⟩
    have hcl : ((List.range M).map (ch p l)).length = M := by simp
    have := ih K (js ++ [d]) (by omega) (by omega) (fun j hj => by rcases List.mem_append.1 hj with h | h; exact hjs j h; rw [List.mem_singleton.1 h]; omega) (by rw [List.length_append, List.length_singleton]; omega) (fun j h1 h2 => by
      by_cases e : j = d
      · rw [e]; simp
      · exact List.mem_append_left _ (hall j (by omega) h2))
    rw [List.map_append] at this
    rw [show ((d + 1 : Nat) : Int) - 1 = (d : Int) by omega]
    simp only [symbolonlaw14_ChunkWhole.l1]
    rw [if_pos (by omega), if_pos (by omega), if_pos (by rw [hcl]; omega), if_pos (by rw [List.length_map]; omega), whole_rd p l M d (by omega), w_id (by omega) (by omega)]
    exact this
theorem whole_l0 (p x3 x4 : Int) (l o : List Int) (M : Nat) (p0 : 0 ≤ p) (p1 : p < 60000) (hl : l.length ≤ 900) (hM : M = (l.length + 5) / 6) (hb : ∀ x ∈ l, 0 ≤ x ∧ x < 18446744073709551616) (h3 : 0 ≤ x3 ∧ x3 < 256) (h4 : 0 ≤ x4 ∧ x4 < 256) (hM2 : M ≤ 150) (ho : ∀ x ∈ o, 0 ≤ x ∧ x < 256) (hol : o.length ≤ 200) :
    ∀ (d i K : Nat) (js : List Nat), i + d = o.length → 4300 + d ≤ K → (∀ j ∈ js, j < M) → js.length = i →
      symbolonlaw14_ChunkWhole.l0 K l o x3 x4 true p ((List.range M).map (ch p l)) (js.map (ch p l)) (i : Int) = some true := by
  have hcl : ((List.range M).map (ch p l)).length = M := by simp
  have H : ∀ (K : Nat) (js : List Nat), 4200 ≤ K → (∀ j ∈ js, j < M) → js.length ≤ 200 → symbolonlaw14_ChunkWhole.j2 K l x3 x4 true p ((List.range M).map (ch p l)) (js.map (ch p l)) = some true := by
    intro K js hK hjs hlen
    obtain ⟨K, rfl⟩ : ∃ k, K = k + 1 := ⟨K - 1, by omega⟩
    simp only [symbolonlaw14_ChunkWhole.j2]
    rw [hcl, w_id (by omega) (by omega)]
    exact whole_l1 p x3 x4 l M p0 p1 hl hM hb h3 h4 hM2 M K js (Nat.le_refl _) (by omega) hjs (by omega) (fun j h1 h2 => by omega)
  intro d
  induction d with
  | zero =>
    intro i K js hi hK hjs hlen
    obtain ⟨K, rfl⟩ : ∃ k, K = k + 1 := ⟨K - 1, by omega⟩
    simp only [symbolonlaw14_ChunkWhole.l0]
    rw [if_neg (by omega)]
    exact H K js (by omega) hjs (by omega)
  | succ d ih =>
    intro i K js hi hK hjs hlen
    obtain ⟨K, rfl⟩ : ∃ k, K = k + 1 := ⟨K - 1, by omega⟩
    simp only [symbolonlaw14_ChunkWhole.l0]
    rw [if_pos (by omega), hcl]
    by_cases hz : (M : Int) > 0
    · have hx := ho _ (List.mem_of_getElem? (rd_eq o i (by omega)))
      obtain ⟨t, ht, t1⟩ : ∃ t : Nat, Int.tmod (wrap64 (rd o (i : Int))) (M : Int) = (t : Int) ∧ t < M := by
        have h1 := Int.emod_nonneg (rd o (i : Int)) (show (M : Int) ≠ 0 by omega)
        have h2 := Int.emod_lt_of_pos (rd o (i : Int)) (show (0 : Int) < M by omega)
        exact ⟨(rd o (i : Int) % (M : Int)).toNat, by rw [w_id (by omega) (by omega), Int.tmod_eq_emod_of_nonneg hx.1]; omega, by omega⟩
      have := ih (i + 1) K (js ++ [t]) (by omega) (by omega) (fun j hj => by rcases List.mem_append.1 hj with h | h; exact hjs j h; rw [List.mem_singleton.1 h]; exact t1) (by rw [List.length_append, List.length_singleton]; omega)
      rw [List.map_append] at this
      rw [if_pos hz, if_pos (by omega), if_neg (by omega), ht, if_pos (by omega), if_pos (by omega), if_pos (by rw [List.length_map]; omega), whole_rd p l M t t1, show wrap64 ((i : Int) + 1) = ((i + 1 : Nat) : Int) by rw [w_id (by omega) (by omega)]; omega]
      exact this
    · rw [if_neg hz]
      exact H K js (by omega) hjs (by omega)
theorem ChunkWhole : symbolonlaw14_ChunkWhole.Pure := by
  intro a l o x3 x4 ha _ _ hl _ _ ho hx3 hx4
  obtain ⟨a0, a1⟩ := bd16 ha
  have h3 := bd8 hx3
  have h4 := bd8 hx4
  have hL : ∀ x ∈ l, 0 ≤ x ∧ x < 18446744073709551616 := fun x hx => bd64 (hl x hx)
  have hO : ∀ x ∈ o, 0 ≤ x ∧ x < 256 := fun x hx => bd8 (ho x hx)
  clear ha hl ho hx3 hx4
  refine ⟨5000, ?_⟩
  unfold symbolonlaw14_ChunkWhole.f
  rw [head_true 5000 (by omega), Option.bind_some]
  have early : ∀ p, symbolonlaw14_ChunkWhole.j0 5000 l o x3 x4 true p true = some true := by
    intro p
    simp only [symbolonlaw14_ChunkWhole.j0, if_true]
  by_cases l1 : (l.length : Int) > 900
  · rw [if_pos l1, early]
  · rw [if_neg l1]
    by_cases l2 : (o.length : Int) > 200
    · rw [decide_eq_true l2, early]
    · rw [decide_eq_false l2]
      obtain ⟨p, hp, p0, p1⟩ : ∃ p, Int.tmod (wrap64 a) 60000 = p ∧ 0 ≤ p ∧ p < 60000 := ⟨_, rfl, by rw [w_id (by omega) (by omega), Int.tmod_eq_emod_of_nonneg a0]; omega, by rw [w_id (by omega) (by omega), Int.tmod_eq_emod_of_nonneg a0]; omega⟩
      rw [hp]
      simp only [symbolonlaw14_ChunkWhole.j0]
      rw [if_neg (by decide), cut_right p l p0 p1 (by omega), Option.bind_some]
      exact whole_l0 p x3 x4 l o _ p0 p1 (by omega) rfl hL h3 h4 (by omega) hO (by omega) o.length 0 4999 [] (by omega) (by omega) (fun j hj => by cases hj) rfl
end Go.Proofs.Ytfkgacjiccgdfaa.Pure
