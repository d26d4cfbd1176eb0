/-
chunk.Cut and chunk.Gather in plain numbers: what is gathered of the chunks of one list, in whatever order and however often. Conditions: a list of at most 900 numbers of 64 bits, a position below 60000.
-/
import Derived.Test.YtfkgacjiccgdfaaQ2
import Derived.Test.YtfkgacjiccgdfaaSCut
import Derived.Test.YtfkgacjiccgdfaaQ6
import Derived.Test.YtfkgacjiccgdfaaBBytes
set_option linter.unusedSimpArgs false
set_option linter.unusedVariables false
namespace Go.Proofs.Ytfkgacjiccgdfaa.Pure
open Go.RowKit Go.Proofs.YtfkgacjiccgdfaaW.PrintWords Go.Proofs.Ytfkgacjiccgdfaa.Q
/-- Piece j of a list. -/
def pc (l : List Int) (j : Nat) : List Int := (l.drop (6 * j)).take 6
theorem pc_len (l : List Int) (j : Nat) : (pc l j).length = min 6 (l.length - 6 * j) := by simp [pc]
theorem pc_le6 (l : List Int) (j : Nat) : (pc l j).length ≤ 6 := by
  rw [pc_len]
  exact Nat.min_le_left _ _
theorem pc_le (l : List Int) (j : Nat) (h : 6 * j ≤ l.length) : 6 * j + (pc l j).length ≤ l.length := by
  have h1 : (pc l j).length ≤ l.length - 6 * j := by
    rw [pc_len]
    exact Nat.min_le_right _ _
  omega
theorem pc_rd (l : List Int) (j q : Nat) (h : q < (pc l j).length) : rd (pc l j) (q : Int) = rd l ((6 * j + q : Nat) : Int) := by
  have hl := pc_len l j
  have a := rd_eq (pc l j) q h
  rw [pc, List.getElem?_take, if_pos (by omega), List.getElem?_drop, rd_eq l (6 * j + q) (by omega)] at a
  exact (Option.some.inj a).symm
/-- Chunk j of a list that stands at p. -/
def ch (p : Int) (l : List Int) (j : Nat) : List Int := S.putB (p + ((6 * j : Nat) : Int)) (pc l j)
theorem cut_state (p : Int) (l : List Int) (p0 : 0 ≤ p) (p1 : p < 60000) (hl : l.length ≤ 900) : ∀ i : Nat, i ≤ (l.length + 5) / 6 → S.outs p (S.pieces l i) = (List.range i).map (ch p l) ∧ S.atOf p (S.pieces l i) = p + ((min (6 * i) l.length : Nat) : Int)
  | 0, _ => by
    constructor
    · rfl
    · simp [S.pieces, S.atOf]
  | i + 1, h => by
    obtain ⟨h1, h2⟩ := cut_state p l p0 p1 hl i (by omega)
    rw [S.pieces_succ, S.outs_snoc, S.atOf_snoc, h1, h2]
    have hn := pc_len l i
    have e : ((l.drop (6 * i)).take 6) = pc l i := rfl
    rw [e, show min (6 * i) l.length = 6 * i by omega]
    constructor
    · rw [List.range_succ, List.map_append]
      congr 1
      show [S.putv _ _] = [ch p l i]
      unfold S.putv ch
      rw [if_pos ⟨by omega, by omega, by omega, by omega, by omega⟩]
    · rw [w_id (by omega) (by omega)]
      omega
theorem cut_right (p : Int) (l : List Int) (p0 : 0 ≤ p) (p1 : p < 60000) (hl : l.length ≤ 900) : chunk_Cut.f p l = some ((List.range ((l.length + 5) / 6)).map (ch p l)) := by
  unfold chunk_Cut.f S.cut
  rw [if_pos ⟨p0, by omega, by omega⟩, (cut_state p l p0 p1 hl _ (Nat.le_refl _)).1]
def seen (n : Nat) (C : Nat → Bool) : List Bool := (List.range n).map C
def got (l : List Int) (k0 n : Nat) (C : Nat → Bool) : List Int := (List.range n).map fun i => if C i then rd l ((k0 + i : Nat) : Int) else 0
def left (n : Nat) (C : Nat → Bool) : Nat := (seen n C).countP (fun b => !b)
theorem seen_congr {n : Nat} {C D : Nat → Bool} (h : ∀ i, i < n → D i = C i) : seen n D = seen n C := List.map_congr_left (fun i hi => h i (List.mem_range.1 hi))
theorem got_congr {l : List Int} {k0 n : Nat} {C D : Nat → Bool} (h : ∀ i, i < n → D i = C i) : got l k0 n D = got l k0 n C := List.map_congr_left (fun i hi => by rw [h i (List.mem_range.1 hi)])
theorem left_congr {n : Nat} {C D : Nat → Bool} (h : ∀ i, i < n → D i = C i) : left n D = left n C := by unfold left; rw [seen_congr h]
theorem seen_len (n : Nat) (C : Nat → Bool) : (seen n C).length = n := by simp [seen]
theorem got_len (l : List Int) (k0 n : Nat) (C : Nat → Bool) : (got l k0 n C).length = n := by simp [got]
theorem seen_at (n : Nat) (C : Nat → Bool) (t : Nat) (h : t < n) : rdOf false (seen n C) (t : Int) = C t := by
  unfold rdOf seen
  rw [Int.toNat_natCast, List.getD_eq_getElem?_getD]
  simp [h]
theorem seen_set (n : Nat) (C : Nat → Bool) (t : Nat) (h : t < n) : (seen n C).set t true = seen n (fun i => C i || i == t) := by
  apply List.ext_getElem?
  intro i
  rw [List.getElem?_set]
  by_cases e : t = i
  · subst e
    simp [seen, h]
  · by_cases hi : i < n
    · have : (i == t) = false := beq_eq_false_iff_ne.2 (fun h => e h.symm)
      simp [seen, hi, e, this]
    · simp [seen, hi, e]
theorem got_set (l : List Int) (k0 n : Nat) (C : Nat → Bool) (t : Nat) (h : t < n) : (got l k0 n C).set t (rd l ((k0 + t : Nat) : Int)) = got l k0 n (fun i => C i || i == t) := by
  apply List.ext_getElem?
  intro i
  rw [List.getElem?_set]
  by_cases e : t = i
  · subst e
    simp [got, h]
  · by_cases hi : i < n
    · have e' : ¬ i = t := fun h => e h.symm
      simp [got, hi, e, e']
    · simp [got, hi, e]
theorem left_set (n : Nat) (C : Nat → Bool) (t : Nat) (h : t < n) (hC : C t = false) : left n C = left n (fun i => C i || i == t) + 1 := by
  unfold left
  rw [← seen_set n C t h, List.countP_set (by rw [seen_len]; exact h)]
  have e : (seen n C)[t]'(by rw [seen_len]; exact h) = false := by simp [seen, hC]
  rw [e]
  have hp : 0 < (seen n C).countP (fun b => !b) := List.countP_pos_iff.2 ⟨false, by rw [← e]; exact List.getElem_mem _, rfl⟩
  simp
  omega
theorem left_le (n : Nat) (C : Nat → Bool) : left n C ≤ n := by
  unfold left
  have := List.countP_le_length (p := fun b => !b) (l := seen n C)
  rw [seen_len] at this
  exact this
theorem pos_eq (p : Int) (a q k0 : Nat) (p0 : 0 ≤ p) (p1 : p < 60000) (ha : a ≤ 1000) (hq : q ≤ 6) (hk : k0 ≤ 1000) : wrap64 (wrap64 (p + (a : Int) + (q : Int)) - (p + (k0 : Int))) = ((a + q : Nat) : Int) - (k0 : Int) := by
  rw [w_id (a := p + (a : Int) + (q : Int)) (by omega) (by omega), w_id (by omega) (by omega)]
  omega
theorem l1_run (p : Int) (l : List Int) (k0 n j : Nat) (L : List (List Int)) (p0 : 0 ≤ p) (p1 : p < 60000) (hl : l.length ≤ 900) (hk : k0 + n ≤ l.length) (hj : j < (l.length + 5) / 6) (idx : Nat) (hidx : idx < 1000000) (z : Int) :
    ∀ (d q k : Nat) (C D : Nat → Bool), q + d = (pc l j).length → (∀ i, i < n → D i = (C i || (decide (6 * j + q ≤ k0 + i) && decide (k0 + i < 6 * j + (pc l j).length)))) →
      chunk_Gather.l1 (k + d + 1) (p + (k0 : Int)) (n : Int) (got l k0 n C) (seen n C) (left n C : Int) (p + ((6 * j : Nat) : Int)) L z (idx : Int) (pc l j) ((pc l j).length : Int) (q : Int) =
      chunk_Gather.l0 k (p + (k0 : Int)) (n : Int) (got l k0 n D) (seen n D) (left n D : Int) L z ((idx + 1 : Nat) : Int) := by
  intro d
  induction d with
  | zero =>
    intro q k C D hq hD
    simp only [chunk_Gather.l1]
    have hc : ∀ i, i < n → D i = C i := fun i hi => by
      rw [hD i hi]
      have : (decide (6 * j + q ≤ k0 + i) && decide (k0 + i < 6 * j + (pc l j).length)) = false := by
        rw [Bool.and_eq_false_iff, decide_eq_false_iff_not, decide_eq_false_iff_not]
        omega
      rw [this, Bool.or_false]
    rw [if_neg (by omega), got_congr hc, seen_congr hc, left_congr hc, show wrap64 ((idx : Int) + 1) = ((idx + 1 : Nat) : Int) by rw [w_id (by omega) (by omega)]; omega]
  | succ d ih =>
    intro q k C D hq hD
    have hj5 : 6 * j < l.length := by clear hq hD ih; omega
    have hn := pc_le6 l j
    have hn2 := pc_le l j (Nat.le_of_lt hj5)
    clear hj
    have eq1 : wrap64 ((q : Int) + 1) = ((q + 1 : Nat) : Int) := by rw [w_id (by omega) (by omega)]; omega
    have hj6 : 6 * j ≤ 1000 := by omega
    have hq6 : q ≤ 6 := by omega
    have hk6 : k0 ≤ 1000 := by omega
    have ei := pos_eq p (6 * j) q k0 p0 p1 hj6 hq6 hk6
    have skip : (∀ i, i < n → k0 + i = 6 * j + q → C i = true) → chunk_Gather.l1 (k + d + 1) (p + (k0 : Int)) (n : Int) (got l k0 n C) (seen n C) (left n C : Int) (p + ((6 * j : Nat) : Int)) L z (idx : Int) (pc l j) ((pc l j).length : Int) ((q + 1 : Nat) : Int) =
      chunk_Gather.l0 k (p + (k0 : Int)) (n : Int) (got l k0 n D) (seen n D) (left n D : Int) L z ((idx + 1 : Nat) : Int) := by
      intro hs
      refine ih (q + 1) k C D (by omega) (fun i hi => ?_)
      rw [hD i hi]
      by_cases e : k0 + i = 6 * j + q
      · rw [hs i hi e, Bool.true_or, Bool.true_or]
      · have e2 : decide (6 * j + (q + 1) ≤ k0 + i) = decide (6 * j + q ≤ k0 + i) := by
          rw [decide_eq_decide]
          omega
        rw [e2]
    rw [show k + (d + 1) + 1 = (k + d + 1) + 1 by omega]
    obtain ⟨K, hK⟩ : ∃ K, K = k + d + 1 := ⟨_, rfl⟩
    rw [← hK] at skip ⊢
    simp only [chunk_Gather.l1]
    rw [if_pos (by omega), if_pos (by omega), if_pos (by omega), ei, eq1]
    by_cases c1 : ((6 * j + q : Nat) : Int) - (k0 : Int) ≥ 0
    · rw [if_pos c1]
      by_cases c2 : ((6 * j + q : Nat) : Int) - (k0 : Int) < (n : Int)
      · obtain ⟨t, ht⟩ : ∃ t : Nat, ((6 * j + q : Nat) : Int) - (k0 : Int) = (t : Int) := ⟨6 * j + q - k0, by omega⟩
        have htn : t < n := by omega
        rw [if_pos c2, if_pos (by omega), if_pos (by rw [seen_len]; exact c2), ht, seen_at n C t htn]
        by_cases hC : C t = true
        · rw [if_pos hC]
          exact skip (fun i hi e => by rw [show i = t by omega]; exact hC)
        · have hC' : C t = false := by simpa using hC
          have h1 := left_set n C t htn hC'
          have h2 := left_le n C
          rw [if_neg hC, if_pos (by rw [got_len]; omega), Int.toNat_natCast, pc_rd l j q (by omega), show 6 * j + q = k0 + t by omega, got_set l k0 n C t htn, seen_set n C t htn, w_id (by omega) (by omega), show (left n C : Int) - 1 = (left n (fun i => C i || i == t) : Int) by omega]
          rw [hK]
          refine ih (q + 1) k (fun i => C i || i == t) D (by omega) (fun i hi => ?_)
          rw [hD i hi, Bool.or_assoc]
          congr 1
          by_cases e : i = t
          · subst e
            rw [beq_self_eq_true, Bool.true_or, Bool.and_eq_true, decide_eq_true_iff, decide_eq_true_iff]
            omega
          · have e2 : decide (6 * j + (q + 1) ≤ k0 + i) = decide (6 * j + q ≤ k0 + i) := by
              rw [decide_eq_decide]
              omega
            rw [beq_eq_false_iff_ne.2 e, Bool.false_or, e2]
      · rw [if_neg c2]
        exact skip (fun i hi e => by omega)
    · rw [if_neg c1]
      exact skip (fun i hi e => by omega)
theorem map_z {α : Type} (x : α) (n : Nat) : (List.range n).map (fun _ => x) = List.replicate n x := by rw [List.map_const', List.length_range]
theorem left_all (n : Nat) : left n (fun _ => false) = n := by
  have h : seen n (fun _ => false) = List.replicate n false := map_z false n
  unfold left
  rw [h, List.countP_replicate]
  rfl
theorem l0_run (p : Int) (l : List Int) (k0 n : Nat) (js : List Nat) (p0 : 0 ≤ p) (p1 : p < 60000) (hl : l.length ≤ 900) (hk : k0 + n ≤ l.length) (hb : ∀ x ∈ l, 0 ≤ x ∧ x < 18446744073709551616) (hjs : ∀ j ∈ js, j < (l.length + 5) / 6) (hlen : js.length < 1000000) :
    ∀ (rest pre : List Nat) (k : Nat) (C D : Nat → Bool), js = pre ++ rest → 62 + 8 * rest.length ≤ k → (∀ i, i < n → D i = (C i || decide ((k0 + i) / 6 ∈ rest))) →
      chunk_Gather.l0 k (p + (k0 : Int)) (n : Int) (got l k0 n C) (seen n C) (left n C : Int) (js.map (ch p l)) ((js.map (ch p l)).length : Int) (pre.length : Int) =
      (if (left n D : Int) > 0 then some ([], false) else some (got l k0 n D, true))
  | [], pre, k + 1, C, D, h, hk2, hD => by
    simp only [chunk_Gather.l0]
    have hc : ∀ i, i < n → D i = C i := fun i hi => by rw [hD i hi]; simp
    rw [if_neg (by rw [h]; simp), got_congr hc, left_congr hc]
  | j :: rest, pre, k + 1, C, D, h, hk2, hD => by
    have hj := hjs j (by rw [h]; simp)
    have hn := pc_len l j
    have hlp : pre.length < js.length := by rw [h]; simp
    have hrd : rd_L2 (js.map (ch p l)) (pre.length : Int) = ch p l j := by
      unfold rd_L2
      rw [Int.toNat_natCast, h, List.getD_eq_getElem?_getD]
      simp
    have hg : chunk_Get.f k (ch p l j) = some (p + ((6 * j : Nat) : Int), pc l j, true) := by
      unfold ch
      refine get_put _ _ k (by omega) (by omega) (by omega) (by omega) (by omega) (fun x hx => hb x (List.mem_of_mem_drop (List.mem_of_mem_take hx))) (by simp at hk2; omega)
    simp only [chunk_Gather.l0]
    simp only [List.length_cons] at hk2
    rw [if_pos (by rw [List.length_map]; omega), if_pos (by omega), if_pos (by rw [List.length_map]; omega), hrd, hg, Option.bind_some]
    obtain ⟨k', hk'⟩ : ∃ k', k = k' + (pc l j).length + 1 := ⟨k - (pc l j).length - 1, by omega⟩
    rw [hk', show (0 : Int) = ((0 : Nat) : Int) from rfl]
    rw [l1_run p l k0 n j (js.map (ch p l)) p0 p1 hl hk hj pre.length (by omega) _ (pc l j).length 0 k' C (fun i => C i || decide ((k0 + i) / 6 = j)) (by omega) (fun i hi => ?_)]
    · have := l0_run p l k0 n js p0 p1 hl hk hb hjs hlen rest (pre ++ [j]) k' (fun i => C i || decide ((k0 + i) / 6 = j)) D (by rw [h]; simp) (by omega) (fun i hi => ?_)
      · rw [List.length_append, List.length_singleton] at this
        exact this
      · rw [hD i hi, Bool.or_assoc]
        congr 1
        rw [← Bool.decide_or, decide_eq_decide, List.mem_cons]
    · congr 1
      rw [← Bool.decide_and, decide_eq_decide]
      omega
/-- What is gathered of some chunks of a list: all that was asked for, or nothing. -/
theorem gather_js (p : Int) (l : List Int) (k0 n k : Nat) (js : List Nat) (p0 : 0 ≤ p) (p1 : p < 60000) (hl : l.length ≤ 900) (hk : k0 + n ≤ l.length) (hb : ∀ x ∈ l, 0 ≤ x ∧ x < 18446744073709551616) (hjs : ∀ j ∈ js, j < (l.length + 5) / 6) (hlen : js.length < 1000000) (hf : 64 + 8 * js.length ≤ k) :
    chunk_Gather.f k (p + (k0 : Int)) (n : Int) (js.map (ch p l)) = if (left n (fun i => decide ((k0 + i) / 6 ∈ js)) : Int) > 0 then some ([], false) else some (got l k0 n (fun i => decide ((k0 + i) / 6 ∈ js)), true) := by
  obtain ⟨k, rfl⟩ : ∃ k', k = k' + 1 := ⟨k - 1, by omega⟩
  have hj0 : chunk_Gather.j0 (k + 1) (p + (k0 : Int)) (n : Int) (js.map (ch p l)) false = if (left n (fun i => decide ((k0 + i) / 6 ∈ js)) : Int) > 0 then some ([], false) else some (got l k0 n (fun i => decide ((k0 + i) / 6 ∈ js)), true) := by
    simp only [chunk_Gather.j0]
    rw [if_neg (by decide), if_pos (by omega), Int.toNat_natCast, if_pos (by omega), if_pos (by omega)]
    have h0 := l0_run p l k0 n js p0 p1 hl hk hb hjs hlen js [] k (fun _ => false) (fun i => decide ((k0 + i) / 6 ∈ js)) rfl (by omega) (fun i hi => by rw [Bool.false_or])
    rw [left_all, show got l k0 n (fun _ => false) = List.replicate n 0 by unfold got; exact map_z 0 n, show seen n (fun _ => false) = List.replicate n false by unfold seen; exact map_z false n] at h0
    exact h0
  unfold chunk_Gather.f
  rw [if_neg (by omega), if_neg (by omega)]
  by_cases c : (n : Int) > 0
  · rw [if_pos c, if_neg (by omega), decide_eq_false (by omega)]
    exact hj0
  · rw [if_neg c]
    exact hj0
/-- All there: the part asked for. -/
theorem gather_all (p : Int) (l : List Int) (k0 n k : Nat) (js : List Nat) (p0 : 0 ≤ p) (p1 : p < 60000) (hl : l.length ≤ 900) (hk : k0 + n ≤ l.length) (hb : ∀ x ∈ l, 0 ≤ x ∧ x < 18446744073709551616) (hjs : ∀ j ∈ js, j < (l.length + 5) / 6) (hlen : js.length < 1000000) (hf : 64 + 8 * js.length ≤ k) (hall : ∀ i, i < n → (k0 + i) / 6 ∈ js) :
    chunk_Gather.f k (p + (k0 : Int)) (n : Int) (js.map (ch p l)) = some ((l.drop k0).take n, true) := by
  rw [gather_js p l k0 n k js p0 p1 hl hk hb hjs hlen hf]
  have hz : left n (fun i => decide ((k0 + i) / 6 ∈ js)) = 0 := by
    unfold left
    rw [List.countP_eq_zero]
    intro b hb
    obtain ⟨i, hi, rfl⟩ := List.mem_map.1 hb
    have := hall i (List.mem_range.1 hi)
    simp [this]
  rw [hz, if_neg (by omega)]
  congr 2
  apply List.ext_getElem?
  intro i
  by_cases hi : i < n
  · rw [List.getElem?_take, if_pos hi, List.getElem?_drop, rd_eq l (k0 + i) (by omega)]
    have := hall i hi
    simp [got, hi, this]
  · rw [List.getElem?_take, if_neg hi]
    simp [got, hi]
/-- One lacks: nothing. -/
theorem gather_lack (p : Int) (l : List Int) (k0 n k t : Nat) (js : List Nat) (p0 : 0 ≤ p) (p1 : p < 60000) (hl : l.length ≤ 900) (hk : k0 + n ≤ l.length) (hb : ∀ x ∈ l, 0 ≤ x ∧ x < 18446744073709551616) (hjs : ∀ j ∈ js, j < (l.length + 5) / 6) (hlen : js.length < 1000000) (hf : 64 + 8 * js.length ≤ k) (ht : t < n) (hno : (k0 + t) / 6 ∉ js) :
    chunk_Gather.f k (p + (k0 : Int)) (n : Int) (js.map (ch p l)) = some ([], false) := by
  rw [gather_js p l k0 n k js p0 p1 hl hk hb hjs hlen hf]
  have hz : 0 < left n (fun i => decide ((k0 + i) / 6 ∈ js)) := by
    unfold left
    rw [List.countP_pos_iff]
    exact ⟨false, List.mem_map.2 ⟨t, List.mem_range.2 ht, decide_eq_false hno⟩, rfl⟩
  rw [if_pos (by omega)]
end Go.Proofs.Ytfkgacjiccgdfaa.Pure
