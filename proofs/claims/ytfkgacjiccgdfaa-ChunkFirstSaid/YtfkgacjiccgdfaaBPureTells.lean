/-
The plain law of ChunkTells: any chunk's bytes, what any bytes are, any numbers cut into chunks, and what any bytes gather to, are the document's. Condition: lengths, numbers and bytes are such as the program's kinds hold.
-/
import Derived.Test.YtfkgacjiccgdfaaQ15
import Derived.Test.YtfkgacjiccgdfaaBHead
import Derived.Test.YtfkgacjiccgdfaaBRef
set_option linter.unusedSimpArgs false
set_option linter.unusedVariables false
namespace Go.Proofs.Ytfkgacjiccgdfaa.Pure
open Go.RowKit Go.Proofs.YtfkgacjiccgdfaaW.PrintWords Go.Proofs.YtfkgacjiccgdfaaW.PrintMore Go.Proofs.Ytfkgacjiccgdfaa.Q
/-- The number that some bytes have at a position. -/
def cov (b : List Int) (x : Int) : Option Int := match parse b with
  | some (a, l) => if a ≤ x ∧ x < a + (l.length : Int) then some (rd l (x - a)) else none
  | none => none
def first (L : List (List Int)) (x : Int) : Option Int := L.findSome? (fun b => cov b x)
def right (L : List (List Int)) : Prop := ∀ b ∈ L, b.length ≤ 9223372036854775807 ∧ ∀ z ∈ b, 0 ≤ z ∧ z < 256
theorem rd_L2_at (pre rest : List (List Int)) (b : List Int) : rd_L2 (pre ++ b :: rest) (pre.length : Int) = b := by
  unfold rd_L2
  rw [Int.toNat_natCast, List.getD_eq_getElem?_getD]
  simp
theorem first_cons (b : List Int) (L : List (List Int)) (x : Int) : first (b :: L) x = (cov b x).or (first L x) := by
  unfold first
  rw [List.findSome?_cons]
  cases cov b x <;> rfl
def tellN (o : Option Int) : Int × Bool := match o with
  | some v => (v, true)
  | none => (0, false)
theorem num_run (x : Int) (L : List (List Int)) (x0 : 0 ≤ x) (x1 : x ≤ 100000) (hL : right L) (hn : L.length < 9000) :
    ∀ (rest pre : List (List Int)) (K : Nat), L = pre ++ rest → 81 + rest.length ≤ K → symbolonref14_number.l0 K x L (pre.length : Int) = some (tellN (first rest x))
  | [], pre, K, h, hK => by
    obtain ⟨K, rfl⟩ : ∃ k, K = k + 1 := ⟨K - 1, by omega⟩
    simp only [symbolonref14_number.l0]
    rw [if_neg (by rw [h]; simp)]
    rfl
  | b :: rest, pre, K, h, hK => by
    rw [List.length_cons] at hK
    obtain ⟨K, rfl⟩ : ∃ k, K = k + 1 := ⟨K - 1, by omega⟩
    have hlp : pre.length < L.length := by rw [h, List.length_append, List.length_cons]; omega
    have hb := hL b (by rw [h]; simp)
    have hrd : rd_L2 L (pre.length : Int) = b := by rw [h]; exact rd_L2_at pre rest b
    have hn1 : wrap64 ((pre.length : Int) + 1) = (((pre ++ [b]).length : Nat) : Int) := by
      rw [List.length_append, List.length_singleton, w_id (by omega) (by omega)]
      omega
    have hgo : symbolonref14_number.l0 K x L (((pre ++ [b]).length : Nat) : Int) = some (tellN (first rest x)) := num_run x L x0 x1 hL hn rest (pre ++ [b]) K (by rw [h]; simp) (by omega)
    have hget := rget_parse b K hb.2 (by omega)
    simp only [symbolonref14_number.l0]
    rw [if_pos (by omega), if_pos (by omega), hrd, hget, hn1, hgo, first_cons]
    unfold cov
    cases hp : parse b with
    | none =>
      rw [show told none = (0, [], false) from rfl, Option.bind_some, if_neg (by decide)]
      rfl
    | some al =>
      obtain ⟨a, l⟩ := al
      have ha := parse_some hb.2 hp
      have e1 : wrap64 (a + (l.length : Int)) = a + (l.length : Int) := w_id (by omega) (by omega)
      have e2 : wrap64 (x - a) = x - a := w_id (by omega) (by omega)
      rw [show told (some (a, l)) = (a, l, true) from rfl, Option.bind_some]
      simp only [if_true]
      rw [e1, e2]
      by_cases c1 : a ≤ x
      · by_cases c2 : x < a + (l.length : Int)
        · rw [if_pos c1, if_pos c2, if_pos (by omega), if_pos (by omega), if_pos ⟨c1, c2⟩]
          rfl
        · rw [if_pos c1, if_neg c2, if_neg (by omega)]
          rfl
      · rw [if_neg c1, if_neg (by omega)]
        rfl
/-- What is gathered. -/
def gat (p : Int) (n : Nat) (S : Nat → Option Int) : List Int × Bool := if left n (fun i => (S i).isSome) > 0 then ([], false) else ((List.range n).map (fun i => (S i).getD 0), true)
def gats (p m : Int) (L : List (List Int)) : List Int × Bool := if m < 0 ∨ m > 4096 ∨ m > 0 ∧ (p < 0 ∨ p > 65535) then ([], false) else gat p m.toNat (fun i => first L (p + (i : Int)))
theorem left_pos {n : Nat} {C : Nat → Bool} (i : Nat) (hi : i < n) (h : C i = false) : left n C > 0 := by
  unfold left
  exact List.countP_pos_iff.2 ⟨false, List.mem_map.2 ⟨i, List.mem_range.2 hi, h⟩, rfl⟩
theorem left_none {n : Nat} {C : Nat → Bool} (h : ∀ i, i < n → C i = true) : left n C = 0 := by
  unfold left
  rw [List.countP_eq_zero]
  intro b hb
  obtain ⟨i, hi, rfl⟩ := List.mem_map.1 hb
  simp [h i (List.mem_range.1 hi)]
theorem rgat_l0 (p : Int) (n : Nat) (L : List (List Int)) (p0 : 0 ≤ p) (p1 : p ≤ 65535) (hn : n ≤ 4096) (hL : right L) (hl : L.length < 9000) :
    ∀ (d i K : Nat), i + d = n → 9100 + 2 * d ≤ K → (∀ j, j < i → (first L (p + (j : Int))).isSome = true) →
      symbolonref14_Gather.l0 K p (n : Int) L ((List.range i).map (fun j : Nat => (first L (p + (j : Int))).getD 0)) (i : Int) = some (gat p n (fun j : Nat => first L (p + (j : Int)))) := by
  intro d
  induction d with
  | zero =>
    intro i K h hK hs
    obtain ⟨K, rfl⟩ : ∃ k, K = k + 1 := ⟨K - 1, by omega⟩
    obtain rfl : i = n := by omega
    simp only [symbolonref14_Gather.l0]
    rw [if_neg (by omega)]
    unfold gat
    rw [left_none hs, if_neg (by omega)]
  | succ d ih =>
    intro i K h hK hs
    obtain ⟨K, rfl⟩ : ∃ k, K = (k + 1) + 1 := ⟨K - 2, by omega⟩
    have e1 : wrap64 (p + (i : Int)) = p + (i : Int) := w_id (by omega) (by omega)
    have e2 : wrap64 ((i : Int) + 1) = ((i + 1 : Nat) : Int) := by rw [w_id (by omega) (by omega)]; omega
    have hnum : symbolonref14_number.f K (p + (i : Int)) L = some (tellN (first L (p + (i : Int)))) := by
      unfold symbolonref14_number.f
      exact num_run (p + (i : Int)) L (by omega) (by omega) hL hl L [] K rfl (by omega)
    simp only [symbolonref14_Gather.l0]
    rw [if_pos (by omega), if_neg (by omega), decide_eq_false (by omega)]
    simp only [symbolonref14_Gather.j2]
    rw [if_neg (by decide), e1, hnum, Option.bind_some, e2]
    cases hf : first L (p + (i : Int)) with
    | none =>
      rw [show tellN none = (0, false) from rfl]
      simp only [Bool.false_eq_true, if_false]
      unfold gat
      rw [if_pos (left_pos i (by omega) (by show (first L (p + (i : Int))).isSome = false; rw [hf]; rfl))]
    | some v =>
      rw [show tellN (some v) = (v, true) from rfl]
      simp only [if_true]
      rw [if_pos (by rw [List.length_map, List.length_range]; omega)]
      have := ih (i + 1) K (by omega) (by omega) (fun j hj => by
        by_cases e : j = i
        · rw [e, hf]; rfl
        · exact hs j (by omega))
      rw [List.range_succ, List.map_append, List.map_singleton, hf] at this
      exact this
theorem rgather (p m : Int) (L : List (List Int)) (k : Nat) (hL : right L) (hl : L.length < 9000) (hk : 20000 ≤ k) : symbolonref14_Gather.f k p m L = some (gats p m L) := by
  obtain ⟨k, rfl⟩ : ∃ j, k = (j + 1) + 1 := ⟨k - 2, by omega⟩
  unfold symbolonref14_Gather.f gats
  by_cases c1 : m < 0
  · rw [if_pos c1, if_pos (.inl c1)]
    simp only [symbolonref14_Gather.j0, if_true]
  · rw [if_neg c1]
    by_cases c2 : m > 4096
    · rw [decide_eq_true c2, if_pos (.inr (.inl c2))]
      simp only [symbolonref14_Gather.j0, if_true]
    · rw [decide_eq_false c2]
      simp only [symbolonref14_Gather.j0]
      rw [if_neg (by decide)]
      obtain ⟨n, rfl⟩ : ∃ n : Nat, m = (n : Int) := ⟨m.toNat, by omega⟩
      by_cases c3 : (n : Int) > 0 ∧ (p < 0 ∨ p > 65535)
      · rw [if_pos (.inr (.inr c3))]
        simp only [symbolonref14_Gather.l0]
        rw [if_pos (by omega)]
        have hj : ∀ x, symbolonref14_Gather.j2 k p (n : Int) L [] x true = some ([], false) := fun x => by
          obtain ⟨k, rfl⟩ : ∃ j, k = j + 1 := ⟨k - 1, by omega⟩
          simp only [symbolonref14_Gather.j2, if_true]
        by_cases c4 : p < 0
        · rw [if_pos c4, hj]
        · rw [if_neg c4, decide_eq_true (by omega), hj]
      · rw [if_neg (by omega), Int.toNat_natCast]
        by_cases c4 : n = 0
        · subst c4
          simp only [symbolonref14_Gather.l0]
          rw [if_neg (by omega)]
          rfl
        · have := rgat_l0 p n L (by omega) (by omega) (by omega) hL hl n 0 (k + 1) (by omega) (by omega) (fun j hj => by omega)
          exact this
def gotS (n : Nat) (S : Nat → Option Int) : List Int := (List.range n).map fun i => (S i).getD 0
theorem gotS_len (n : Nat) (S : Nat → Option Int) : (gotS n S).length = n := by simp [gotS]
theorem gotS_congr {n : Nat} {S D : Nat → Option Int} (h : ∀ i, i < n → D i = S i) : gotS n D = gotS n S := List.map_congr_left (fun i hi => by rw [h i (List.mem_range.1 hi)])
theorem gotS_set (n : Nat) (S : Nat → Option Int) (t : Nat) (v : Int) (h : t < n) : (gotS n S).set t v = gotS n (fun i => if i = t then some v else S i) := by
  apply List.ext_getElem?
  intro i
  rw [List.getElem?_set]
  by_cases e : t = i
  · subst e
    simp [gotS, h]
  · by_cases hi : i < n
    · have e' : ¬ i = t := fun h => e h.symm
      simp [gotS, hi, e, e']
    · simp [gotS, hi, e]
def isS (S : Nat → Option Int) : Nat → Bool := fun i => (S i).isSome
theorem isS_set (S : Nat → Option Int) (t : Nat) (v : Int) (i : Nat) : isS (fun i => if i = t then some v else S i) i = (isS S i || i == t) := by
  unfold isS
  by_cases e : i = t
  · simp [e]
  · simp [e]
/-- What a chunk has at a position, from its place q on. -/
def covq (l : List Int) (a : Int) (q : Nat) (x : Int) : Option Int := if a + (q : Int) ≤ x ∧ x < a + (l.length : Int) then some (rd l (x - a)) else none
theorem covq_none (l : List Int) (a x : Int) (q : Nat) (h : l.length ≤ q) : covq l a q x = none := by
  unfold covq
  rw [if_neg (by omega)]
theorem covq_next (l : List Int) (a x : Int) (q : Nat) (h : x ≠ a + (q : Int)) : covq l a q x = covq l a (q + 1) x := by
  unfold covq
  by_cases c : a + (q : Int) ≤ x ∧ x < a + (l.length : Int)
  · rw [if_pos c, if_pos (by omega)]
  · rw [if_neg c, if_neg (by omega)]
theorem covq_at (l : List Int) (a : Int) (q : Nat) (h : q < l.length) : covq l a q (a + (q : Int)) = some (rd l (q : Int)) := by
  unfold covq
  rw [if_pos (by omega), show a + (q : Int) - a = (q : Int) by omega]
theorem g_l1 (p a : Int) (n : Nat) (l : List Int) (L : List (List Int)) (p0 : 0 ≤ p) (p1 : p ≤ 65535) (hn : n ≤ 4096) (a0 : 0 ≤ a) (a1 : a ≤ 65535) (hl : l.length ≤ 6) (idx : Nat) (hidx : idx < 1000000) (z : Int) :
    ∀ (d q k : Nat) (S D : Nat → Option Int), q + d = l.length → (∀ i, i < n → D i = (S i).or (covq l a q (p + (i : Int)))) →
      chunk_Gather.l1 (k + d + 1) p (n : Int) (gotS n S) (seen n (isS S)) (left n (isS S) : Int) a L z (idx : Int) l (l.length : Int) (q : Int) =
      chunk_Gather.l0 k p (n : Int) (gotS n D) (seen n (isS D)) (left n (isS D) : Int) L z ((idx + 1 : Nat) : Int) := by
  intro d
  induction d with
  | zero =>
    intro q k S D hq hD
    have hc : ∀ i, i < n → D i = S i := fun i hi => by rw [hD i hi, covq_none l a _ q (by omega), Option.or_none]
    have hc2 : ∀ i, i < n → isS D i = isS S i := fun i hi => by unfold isS; rw [hc i hi]
    simp only [chunk_Gather.l1]
    rw [if_neg (by omega), gotS_congr hc, seen_congr hc2, left_congr hc2, show wrap64 ((idx : Int) + 1) = ((idx + 1 : Nat) : Int) by rw [w_id (by omega) (by omega)]; omega]
  | succ d ih =>
    intro q k S D hq hD
    have eq1 : wrap64 ((q : Int) + 1) = ((q + 1 : Nat) : Int) := by rw [w_id (by omega) (by omega)]; omega
    have ei : wrap64 (wrap64 (a + (q : Int)) - p) = a + (q : Int) - p := by
      rw [w_id (a := a + (q : Int)) (by omega) (by omega), w_id (by omega) (by omega)]
    have skip : (∀ i, i < n → p + (i : Int) = a + (q : Int) → (S i).isSome = true) → chunk_Gather.l1 (k + d + 1) p (n : Int) (gotS n S) (seen n (isS S)) (left n (isS S) : Int) a L z (idx : Int) l (l.length : Int) ((q + 1 : Nat) : Int) =
      chunk_Gather.l0 k p (n : Int) (gotS n D) (seen n (isS D)) (left n (isS D) : Int) L z ((idx + 1 : Nat) : Int) := by
      intro hs
      refine ih (q + 1) k S D (by omega) (fun i hi => ?_)
      rw [hD i hi]
      by_cases e : p + (i : Int) = a + (q : Int)
      · have := hs i hi e
        cases hS : S i with
        | none => rw [hS] at this; cases this
        | some v => rfl
      · rw [covq_next l a _ q e]
    rw [show k + (d + 1) + 1 = (k + d + 1) + 1 by omega]
    obtain ⟨K, hK⟩ : ∃ K, K = k + d + 1 := ⟨_, rfl⟩
    rw [← hK] at skip ⊢
    simp only [chunk_Gather.l1]
    rw [if_pos (by omega), if_pos (by omega), if_pos (by omega), ei, eq1]
    by_cases c1 : a + (q : Int) - p ≥ 0
    · rw [if_pos c1]
      by_cases c2 : a + (q : Int) - p < (n : Int)
      · obtain ⟨t, ht⟩ : ∃ t : Nat, a + (q : Int) - p = (t : Int) := ⟨(a + (q : Int) - p).toNat, by omega⟩
        have htn : t < n := by omega
        have htq : a + (q : Int) = p + (t : Int) := by omega
        rw [if_pos c2, if_pos (by omega), if_pos (by rw [seen_len]; exact c2), ht, seen_at n (isS S) t htn]
        by_cases hC : isS S t = true
        · rw [if_pos hC]
          exact skip (fun i hi e => by rw [show i = t by omega]; exact hC)
        · have hC' : isS S t = false := by simpa using hC
          have h1 := left_set n (isS S) t htn hC'
          have h2 := left_le n (isS S)
          have hc2 : ∀ i, i < n → isS (fun i => if i = t then some (rd l (q : Int)) else S i) i = (isS S i || i == t) := fun i _ => isS_set S t _ i
          rw [if_neg hC, if_pos (by rw [gotS_len]; omega), Int.toNat_natCast, gotS_set n S t _ htn, seen_set n (isS S) t htn, w_id (by omega) (by omega), show (left n (isS S) : Int) - 1 = (left n (fun i => isS S i || i == t) : Int) by omega, ← seen_congr hc2, ← left_congr hc2]
          rw [hK]
          refine ih (q + 1) k (fun i => if i = t then some (rd l (q : Int)) else S i) D (by omega) (fun i hi => ?_)
          rw [hD i hi]
          have hS0 : S t = none := by
            cases h : S t with
            | none => rfl
            | some v => unfold isS at hC'; rw [h] at hC'; cases hC'
          by_cases e : i = t
          · rw [if_pos e, e, hS0, ← htq, covq_at l a q (by omega)]
            rfl
          · rw [if_neg e, covq_next l a _ q (by omega)]
      · rw [if_neg c2]
        exact skip (fun i hi e => by omega)
    · rw [if_neg c1]
      exact skip (fun i hi e => by omega)
theorem g_l1z (p a : Int) (l : List Int) (L : List (List Int)) (hl : l.length ≤ 6) (idx : Nat) (hidx : idx < 1000000) (z : Int) :
    ∀ (d q k : Nat), q + d = l.length → chunk_Gather.l1 (k + d + 1) p 0 [] [] 0 a L z (idx : Int) l (l.length : Int) (q : Int) = chunk_Gather.l0 k p 0 [] [] 0 L z ((idx + 1 : Nat) : Int) := by
  intro d
  induction d with
  | zero =>
    intro q k hq
    simp only [chunk_Gather.l1]
    rw [if_neg (by omega), show wrap64 ((idx : Int) + 1) = ((idx + 1 : Nat) : Int) by rw [w_id (by omega) (by omega)]; omega]
  | succ d ih =>
    intro q k hq
    have eq1 : wrap64 ((q : Int) + 1) = ((q + 1 : Nat) : Int) := by rw [w_id (by omega) (by omega)]; omega
    have := ih (q + 1) k (by omega)
    rw [show k + (d + 1) + 1 = (k + d + 1) + 1 by omega]
    obtain ⟨K, hK⟩ : ∃ K, K = k + d + 1 := ⟨_, rfl⟩
    rw [← hK] at this ⊢
    simp only [chunk_Gather.l1]
    rw [if_pos (by omega), if_pos (by omega), if_pos (by omega), eq1]
    by_cases c1 : wrap64 (wrap64 (a + (q : Int)) - p) ≥ 0
    · rw [if_pos c1, if_neg (by omega)]
      exact this
    · rw [if_neg c1]
      exact this
theorem told_len (b : List Int) (hb : ∀ z ∈ b, 0 ≤ z ∧ z < 256) : (told (parse b)).2.1.length ≤ 6 ∧ 0 ≤ (told (parse b)).1 ∧ (told (parse b)).1 ≤ 65535 := by
  cases hp : parse b with
  | none => simp [told]
  | some al =>
    obtain ⟨a, l⟩ := al
    have := parse_some hb hp
    exact ⟨this.2.2, this.1, this.2.1⟩
theorem cov_told (b : List Int) (x : Int) : covq (told (parse b)).2.1 (told (parse b)).1 0 x = cov b x := by
  unfold cov
  cases hp : parse b with
  | none =>
    show covq [] 0 0 x = none
    exact covq_none [] 0 x 0 (Nat.le_refl 0)
  | some al =>
    obtain ⟨a, l⟩ := al
    rw [show told (some (a, l)) = (a, l, true) from rfl]
    show covq l a 0 x = if a ≤ x ∧ x < a + (l.length : Int) then some (rd l (x - a)) else none
    unfold covq
    rw [Int.natCast_zero, Int.add_zero]
theorem g_l0 (p : Int) (n : Nat) (L : List (List Int)) (hp : n = 0 ∨ 0 ≤ p ∧ p ≤ 65535) (hn : n ≤ 4096) (hL : right L) (hlen : L.length < 9000) :
    ∀ (rest pre : List (List Int)) (k : Nat) (S D : Nat → Option Int), L = pre ++ rest → 62 + 8 * rest.length ≤ k → (∀ i, i < n → D i = (S i).or (first rest (p + (i : Int)))) →
      chunk_Gather.l0 k p (n : Int) (gotS n S) (seen n (isS S)) (left n (isS S) : Int) L (L.length : Int) (pre.length : Int) = some (gat p n D)
  | [], pre, k + 1, S, D, h, hk2, hD => by
    have hc : ∀ i, i < n → D i = S i := fun i hi => by rw [hD i hi]; exact Option.or_none
    have hc2 : ∀ i, i < n → isS D i = isS S i := fun i hi => by unfold isS; rw [hc i hi]
    simp only [chunk_Gather.l0]
    rw [if_neg (by rw [h]; simp)]
    unfold gat
    rw [show left n (fun i => (D i).isSome) = left n (isS S) from left_congr hc2, show (List.range n).map (fun i => (D i).getD 0) = gotS n S from gotS_congr hc]
    by_cases c : left n (isS S) > 0
    · rw [if_pos (by omega), if_pos c]
    · rw [if_neg (by omega), if_neg c]
  | b :: rest, pre, k + 1, S, D, h, hk2, hD => by
    rw [List.length_cons] at hk2
    have hlp : pre.length < L.length := by rw [h, List.length_append, List.length_cons]; omega
    have hb := hL b (by rw [h]; simp)
    have hrd : rd_L2 L (pre.length : Int) = b := by rw [h]; exact rd_L2_at pre rest b
    have hg := get_parse b k hb.2 hb.1 (by omega)
    obtain ⟨t1, t2, t3⟩ := told_len b hb.2
    simp only [chunk_Gather.l0]
    rw [if_pos (by omega), if_pos (by omega), if_pos (by omega), hrd, hg, Option.bind_some]
    have hcov : ∀ x, covq (told (parse b)).2.1 (told (parse b)).1 0 x = cov b x := cov_told b
    clear hg
    generalize told (parse b) = T at t1 t2 t3 hcov ⊢
    obtain ⟨a, l, it⟩ := T
    simp only at t1 t2 t3 hcov ⊢
    obtain ⟨k', hk'⟩ : ∃ k', k = k' + l.length + 1 := ⟨k - l.length - 1, by omega⟩
    have hnext := g_l0 p n L hp hn hL hlen rest (pre ++ [b]) k' (fun i => (S i).or (cov b (p + (i : Int)))) D (by rw [h]; simp) (by omega) (fun i hi => by
      rw [hD i hi, first_cons, Option.or_assoc])
    rw [List.length_append, List.length_singleton] at hnext
    rw [hk', show (0 : Int) = ((0 : Nat) : Int) from rfl]
    rcases hp with hp | ⟨p0, p1⟩
    · subst hp
      have := g_l1z p a l L t1 pre.length (by omega) (L.length : Int) l.length 0 k' (by omega)
      exact this.trans hnext
    · rw [g_l1 p a n l L p0 p1 hn t2 t3 t1 pre.length (by omega) (L.length : Int) l.length 0 k' S (fun i => (S i).or (cov b (p + (i : Int)))) (by omega) (fun i hi => by rw [hcov])]
      exact hnext
theorem isS_none : isS (fun _ => none) = fun _ => false := rfl
theorem gather (p m : Int) (L : List (List Int)) (k : Nat) (hL : right L) (hl : L.length < 9000) (hk : 80000 ≤ k) : chunk_Gather.f k p m L = some (gats p m L) := by
  obtain ⟨k, rfl⟩ : ∃ j, k = j + 1 := ⟨k - 1, by omega⟩
  have no : chunk_Gather.j0 (k + 1) p m L true = some ([], false) := by simp only [chunk_Gather.j0, if_true]
  have yes : 0 ≤ m → m ≤ 4096 → (m = 0 ∨ 0 ≤ p ∧ p ≤ 65535) → chunk_Gather.j0 (k + 1) p m L false = some (gat p m.toNat (fun i => first L (p + (i : Int)))) := by
    intro h0 h1 h2
    obtain ⟨n, rfl⟩ : ∃ n : Nat, m = (n : Int) := ⟨m.toNat, by omega⟩
    have := g_l0 p n L (by omega) (by omega) hL hl L [] k (fun _ => none) (fun i => first L (p + (i : Int))) rfl (by omega) (fun i hi => rfl)
    rw [isS_none, left_all, show gotS n (fun _ => none) = List.replicate n 0 by unfold gotS; exact map_z 0 n, show seen n (fun _ => false) = List.replicate n false by unfold seen; exact map_z false n] at this
    simp only [chunk_Gather.j0]
    rw [if_neg (by decide), if_pos h0, Int.toNat_natCast, if_pos (by omega), if_pos (by omega)]
    exact this
  unfold chunk_Gather.f gats
  by_cases c1 : m < 0
  · rw [if_pos c1, if_pos (.inl c1), no]
  · rw [if_neg c1]
    by_cases c2 : m > 4096
    · rw [if_pos c2, if_pos (.inr (.inl c2)), no]
    · rw [if_neg c2]
      by_cases c3 : m > 0
      · rw [if_pos c3]
        by_cases c4 : p < 0
        · rw [if_pos c4, no, if_pos (.inr (.inr ⟨c3, .inl c4⟩))]
        · rw [if_neg c4]
          by_cases c5 : p > 65535
          · rw [decide_eq_true c5, no, if_pos (.inr (.inr ⟨c3, .inr c5⟩))]
          · rw [decide_eq_false c5, yes (by omega) (by omega) (by omega), if_neg (by omega)]
      · rw [if_neg c3, yes (by omega) (by omega) (by omega), if_neg (by omega)]
theorem great_run (L : List (List Int)) (hl : L.length < 9000) : ∀ (d i K : Nat) (x : Int), i + d = L.length → d < K → 0 ≤ x → x < 18000 → ∃ g, symbolonlaw14_Great.l0 K L x (i : Int) = some g := by
  intro d
  induction d with
  | zero =>
    intro i K x h hK _ _
    obtain ⟨K, rfl⟩ : ∃ k, K = k + 1 := ⟨K - 1, by omega⟩
    simp only [symbolonlaw14_Great.l0]
    rw [if_neg (by omega)]
    exact ⟨_, rfl⟩
  | succ d ih =>
    intro i K x h hK x0 x1
    obtain ⟨K, rfl⟩ : ∃ k, K = k + 1 := ⟨K - 1, by omega⟩
    simp only [symbolonlaw14_Great.l0]
    rw [if_pos (by omega)]
    by_cases c : x < 9000
    · have hm : 0 ≤ mn ((rd_L2 L (i : Int)).length : Int) 9000 ∧ mn ((rd_L2 L (i : Int)).length : Int) 9000 ≤ 9000 := by
        unfold mn
        split <;> omega
      rw [if_pos c, if_pos (by omega), w_id (a := x + _) (by omega) (by omega), show wrap64 ((i : Int) + 1) = ((i + 1 : Nat) : Int) by rw [w_id (by omega) (by omega)]; omega]
      exact ih (i + 1) K _ (by omega) (by omega) (by omega) (by omega)
    · rw [if_neg c]
      exact ⟨_, rfl⟩
theorem great (L : List (List Int)) (k : Nat) (hk : 9001 ≤ k) : symbolonlaw14_Great.f k L = some true ∨ (L.length < 9000 ∧ ∃ g, symbolonlaw14_Great.f k L = some g) := by
  by_cases c : L.length < 9000
  · refine .inr ⟨c, ?_⟩
    unfold symbolonlaw14_Great.f
    exact great_run L c L.length 0 k _ (by omega) (by omega) (by omega) (by omega)
  · refine .inl ?_
    obtain ⟨k, rfl⟩ : ∃ j, k = j + 1 := ⟨k - 1, by omega⟩
    unfold symbolonlaw14_Great.f
    simp only [symbolonlaw14_Great.l0]
    rw [if_pos (by omega), if_neg (by omega), decide_eq_true (by omega)]
theorem gat_len (p m : Int) (L : List (List Int)) : (gats p m L).1.length ≤ 4096 := by
  unfold gats
  split
  · simp
  · unfold gat
    split
    · simp
    · rw [List.length_map, List.length_range]
      omega
theorem ChunkTells : ∀ (a0 : Int) (l1 : List Int) (l2 : List Int) (a3 : Int) (l4 : List (List Int)), ((Lit.int .i64 a0).wf = true) → (l1.length ≤ maxLen) → (l1.length * 8 ≤ 140737488351232) → (∀ b ∈ l1, (Lit.int .u64 b).wf = true) → (l2.length ≤ maxLen) → (l2.length * 1 ≤ 140737488351232) → (∀ b ∈ l2, (Lit.int .u8 b).wf = true) → ((Lit.int .i64 a3).wf = true) → (l4.length ≤ maxLen) → (∀ b ∈ l4, b.length ≤ maxLen ∧ ∀ z ∈ b, (Lit.int .u8 z).wf = true) → ∃ k, symbolonlaw14_ChunkTells.f k a0 l1 l2 a3 l4 = some true := by
  intro a l b m L ha _ _ hl _ _ hb hm _ hL0
  have a01 := bdi ha
  have hB : ∀ x ∈ b, 0 ≤ x ∧ x < 256 := fun x hx => bd8 (hb x hx)
  have hL : right L := fun x hx => ⟨by have := (hL0 x hx).1; unfold maxLen at this; omega, fun z hz => bd8 ((hL0 x hx).2 z hz)⟩
  clear ha hl hb hm hL0
  refine ⟨90001, ?_⟩
  unfold symbolonlaw14_ChunkTells.f
  rw [head_true 90001 (by omega), Option.bind_some]
  have early : symbolonlaw14_ChunkTells.j0 90001 a l b m L true true = some true := by
    simp only [symbolonlaw14_ChunkTells.j0, if_true]
  by_cases l1 : (l.length : Int) > 900
  · rw [if_pos l1, early]
  · rw [if_neg l1]
    by_cases l2 : (b.length : Int) > 900
    · rw [if_pos l2, early]
    · rw [if_neg l2]
      rcases great L 90001 (by omega) with h | ⟨h9, g, h⟩
      · rw [h, Option.bind_some, early]
      · rw [h, Option.bind_some]
        cases g with
        | true => exact early
        | false =>
          obtain ⟨c, hc1, hc2, hc3⟩ := rcut a l 90000 a01 (by omega) (by omega)
          obtain ⟨t1, _, _⟩ := told_len b hB
          have s1 := same_self (told (parse b)).2.1 90000 (by omega) (by omega)
          have s2 := rsame_self c 90000 (by omega) (by omega)
          have g4 := gat_len a m L
          have s3 := same_self (gats a m L).1 90000 (by omega) (by omega)
          have hput : ∃ t, chunk_Put.f a l = some t := by unfold chunk_Put.f S.put; exact ⟨_, rfl⟩
          obtain ⟨t, ht⟩ := hput
          simp only [symbolonlaw14_ChunkTells.j0]
          rw [if_neg (by decide), get_parse b 90000 hB (by omega) (by omega), Option.bind_some, rget_parse b 90000 hB (by omega), Option.bind_some, gather a m L 90000 hL h9 (by omega), Option.bind_some, rgather a m L 90000 hL h9 (by omega), Option.bind_some, if_pos trivial, rput a l 90000 a01 (by omega), ht, Option.bind_some, Option.bind_some, if_pos rfl, if_pos rfl, s1, Option.bind_some, if_pos rfl, if_pos (beq_self_eq_true _), hc1, Option.bind_some, hc2, Option.bind_some, s2, Option.bind_some, if_pos rfl, s3, Option.bind_some, if_pos rfl, beq_self_eq_true]
end Go.Proofs.Ytfkgacjiccgdfaa.Pure
