/-
The document's Word, Words, Join, Lines and Text, in plain lists of bytes: they are the program's. Conditions: lengths far below what a machine holds.
-/
import Derived.Test.YtfjdlllmpgknpaaDoorBBase
import Derived.Test.YtfjdlllmpgknpaaDoorQRefs
set_option linter.unusedSimpArgs false
set_option linter.unusedVariables false
namespace Go.Proofs.YtfjdlllmpgknpaaDoor.Pure
open Go.RowKit Go.Proofs.YtfjdlllmpgknpaaDoorW.PrintWords Go.Proofs.YtfjdlllmpgknpaaDoor.Q
theorem rnum_l0 : ∀ (k : Nat) (m : Nat) (t : ByteArray) (K : Nat), m < 10 ^ k → k ≤ 7 → k < K → t.size + k ≤ 100 → symbolonref03_Number.l0 K (m : Int) t = some (if 0 < m then ⟨(Lib.decDigits m ++ tl t).toArray⟩ else t)
  | 0, m, t, K, h, h7, hK, ht => by
    obtain ⟨K, rfl⟩ : ∃ j, K = j + 1 := ⟨K - 1, by omega⟩
    have : m = 0 := by simp at h; exact h
    subst this
    simp only [symbolonref03_Number.l0]
    rw [if_neg (by omega), if_neg (by omega)]
  | k + 1, m, t, K, h, h7, hK, ht => by
    obtain ⟨K, rfl⟩ : ∃ j, K = j + 1 := ⟨K - 1, by omega⟩
    simp only [symbolonref03_Number.l0]
    by_cases hm : 0 < m
    · have hp : (10 : Nat) ^ (k + 1) = 10 ^ k * 10 := Nat.pow_succ ..
      have hd : m / 10 < 10 ^ k := by omega
      have hm7 : m < 10000000 := by
        have h1 : 10 ^ (k + 1) ≤ 10 ^ 7 := Nat.pow_le_pow_right (by decide) h7
        have h2 : (10 : Nat) ^ 7 = 10000000 := rfl
        omega
      clear h hp
      obtain ⟨y, hy, hy1, hy2⟩ := digit_str m (by omega)
      have e2 : wrap64 (Int.tdiv (m : Int) 10) = ((m / 10 : Nat) : Int) := by
        rw [Int.tdiv_eq_ediv_of_nonneg (by omega), w_id (by omega) (by omega)]
        omega
      have ih := rnum_l0 k (m / 10) (strOfNums y ++ t) K hd (by omega) (by omega) (by rw [append_size, hy2]; omega)
      rw [if_pos (by omega), hy, Option.bind_some, hy2, if_pos (by omega), e2, ih, if_pos hm]
      by_cases h10 : m < 10
      · have e : tl (strOfNums y ++ t) = tl ⟨(Lib.decDigits m ++ tl t).toArray⟩ := by
          rw [tl_append, hy1, tl_mk, Lib.decDigits, dif_pos h10, show m % 10 = m by omega]
        rw [if_neg (by omega), tl_inj e]
      · have e : Lib.decDigits (m / 10) ++ tl (strOfNums y ++ t) = Lib.decDigits m ++ tl t := by
          rw [tl_append, hy1]
          conv => rhs; rw [Lib.decDigits, dif_neg h10]
          rw [List.append_assoc]
        rw [if_pos (by omega), e]
    · rw [if_neg (by omega), if_neg hm]
theorem rNumber_is (n : Int) (K : Nat) (hn : -9223372036854775808 ≤ n ∧ n < 9223372036854775808) (hK : 20 ≤ K) : symbolonref03_Number.f K n = some (numOf n) := by
  obtain ⟨K, rfl⟩ : ∃ j, K = j + 1 := ⟨K - 1, by omega⟩
  unfold symbolonref03_Number.f numOf
  by_cases c1 : n < 0
  · rw [if_pos c1, if_neg (by omega)]
    simp only [symbolonref03_Number.j0, if_true]
  · rw [if_neg c1]
    simp only [symbolonref03_Number.j0]
    by_cases c2 : n > 999999
    · rw [decide_eq_true c2, if_pos rfl, if_neg (by omega)]
    · rw [decide_eq_false c2, if_neg (by decide), if_pos (by omega)]
      obtain ⟨m, rfl⟩ : ∃ m : Nat, n = (m : Int) := ⟨n.toNat, by omega⟩
      obtain ⟨y, hy, hy1, hy2⟩ := digit_str m (by omega)
      have e2 : wrap64 (Int.tdiv (m : Int) 10) = ((m / 10 : Nat) : Int) := by
        rw [Int.tdiv_eq_ediv_of_nonneg (by omega), w_id (by omega) (by omega)]
        omega
      have h6 : (10 : Nat) ^ 6 = 1000000 := rfl
      rw [hy, e2, rnum_l0 6 (m / 10) (strOfNums y) K (by omega) (by decide) (by omega) (by rw [hy2]; omega), Int.toNat_natCast]
      by_cases h10 : m < 10
      · have e : tl (strOfNums y) = tl ⟨(Lib.decDigits m).toArray⟩ := by
          rw [hy1, tl_mk, Lib.decDigits, dif_pos h10, show m % 10 = m by omega]
        rw [if_neg (by omega), tl_inj e]
      · have e : Lib.decDigits (m / 10) ++ tl (strOfNums y) = Lib.decDigits m := by
          rw [hy1]
          conv => rhs; rw [Lib.decDigits, dif_neg h10]
        rw [if_pos (by omega), e]
theorem rget_l0 (s : ByteArray) (hs : s.size ≤ 6) : ∀ (rest pre : List UInt8) (K n : Nat), tl s = pre ++ rest → rest.length < K → n < 10 ^ pre.length → symbolonref03_Get.l0 K s (n : Int) (pre.length : Int) = some (if rest.all dgB then ((valF n rest : Int), true) else (0, false))
  | [], pre, K, n, h, hK, hn => by
    obtain ⟨K, rfl⟩ : ∃ k, K = k + 1 := ⟨K - 1, by simp at hK; omega⟩
    simp only [symbolonref03_Get.l0]
    rw [if_neg (by rw [tl_size, h]; simp), if_pos (by rfl)]
    rfl
  | b :: rest, pre, K, n, h, hK, hn => by
    rw [List.length_cons] at hK
    obtain ⟨K, rfl⟩ : ∃ k, K = k + 1 := ⟨K - 1, by omega⟩
    have hl : (tl s).length ≤ 6 := by rw [← tl_size]; exact hs
    have hlt : pre.length < s.size := by rw [tl_size, h]; simp
    have hb := bt_tl s pre rest b h
    have hb2 := b.toNat_lt
    have hn6 : n < 1000000 := by
      have h1 : 10 ^ pre.length ≤ 10 ^ 6 := Nat.pow_le_pow_right (by decide) (by omega)
      have h2 : (10 : Nat) ^ 6 = 1000000 := rfl
      omega
    simp only [symbolonref03_Get.l0]
    rw [if_pos (by omega), if_pos (by omega), hb]
    by_cases c1 : (b.toNat : Int) < 48
    · have hd : dgB b = false := decide_eq_false (by omega)
      rw [if_pos c1, List.all_cons, hd, Bool.false_and]
      rfl
    · rw [if_neg c1]
      by_cases c2 : (b.toNat : Int) > 57
      · have hd : dgB b = false := decide_eq_false (by omega)
        rw [if_pos c2, List.all_cons, hd, Bool.false_and]
        rfl
      · have hd : dgB b = true := decide_eq_true (by omega)
        have e1 : wrap64 (wrap64 ((n : Int) * 10) + ((b.toNat : Int) - 48) % 256) = ((n * 10 + (b.toNat - 48) : Nat) : Int) := by
          rw [w_id (a := (n : Int) * 10) (by omega) (by omega), w_id (by omega) (by omega)]
          omega
        have ih := rget_l0 s hs rest (pre ++ [b]) K (n * 10 + (b.toNat - 48)) (by rw [h]; simp) (by omega) (by rw [List.length_append, List.length_singleton, Nat.pow_succ]; omega)
        rw [List.length_append, List.length_singleton] at ih
        rw [if_neg c2, e1, w_nat _ (by omega), ih, List.all_cons, hd, Bool.true_and]
        rfl
theorem rGet_is (s : ByteArray) (K : Nat) (hK : 20 ≤ K) : symbolonref03_Get.f K s = some (getOf (tl s)) := by
  obtain ⟨K, rfl⟩ : ∃ j, K = j + 1 := ⟨K - 1, by omega⟩
  have hz := tl_size s
  have no : ¬ (canon (tl s) ∧ (tl s).length ≤ 6) → symbolonref03_Get.j0 (K + 1) s true = some (getOf (tl s)) := by
    intro h
    unfold getOf
    rw [if_neg h]
    simp only [symbolonref03_Get.j0, if_true]
  unfold symbolonref03_Get.f
  by_cases c1 : (s.size : Int) < 1
  · rw [if_pos c1]
    refine no (fun h => h.1.1 (List.eq_nil_of_length_eq_zero (by omega)))
  · rw [if_neg c1]
    by_cases c2 : (s.size : Int) > 6
    · rw [if_pos c2]
      exact no (fun h => by omega)
    · rw [if_neg c2]
      obtain ⟨x, r, hx⟩ : ∃ x r, tl s = x :: r := by
        cases hq : tl s with
        | nil => rw [hq, List.length_nil] at hz; omega
        | cons x r => exact ⟨x, r, rfl⟩
      have run : (2 ≤ (tl s).length → (tl s).head? ≠ some 48) → symbolonref03_Get.j0 (K + 1) s false = some (getOf (tl s)) := by
        intro hh
        simp only [symbolonref03_Get.j0]
        have := rget_l0 s (by omega) (tl s) [] K 0 rfl (by omega) (by simp)
        rw [if_neg (by decide), show (0 : Int) = ((0 : Nat) : Int) from rfl]
        refine this.trans ?_
        unfold getOf
        by_cases ha : (tl s).all dgB = true
        · rw [if_pos ha, if_pos ⟨⟨by rw [hx]; simp, ha, hh⟩, by omega⟩]
        · rw [if_neg ha, if_neg (fun h => ha h.1.2.1)]
      by_cases c3 : (s.size : Int) > 1
      · rw [if_pos c3, if_pos (by omega)]
        have hb := bt_tl s [] r x hx
        rw [List.length_nil, Int.natCast_zero] at hb
        rw [hb]
        by_cases h48 : x = 48
        · subst h48
          rw [show (((48 : UInt8).toNat : Int) == 48) = true from rfl]
          refine no (fun h => h.1.2.2 (by omega) (by rw [hx]; rfl))
        · have hx48 : x.toNat ≠ 48 := fun e => h48 (UInt8.toNat_inj.1 e)
          rw [show ((x.toNat : Int) == 48) = false by rw [beq_eq_false_iff_ne]; omega]
          exact run (fun _ => by rw [hx]; exact fun e => h48 (Option.some.inj e))
      · rw [if_neg c3]
        exact run (fun h => by omega)
theorem rword_l0 (s : ByteArray) (hs : s.size < 4611686018427387904) : ∀ (rest pre : List UInt8) (K : Nat), tl s = pre ++ rest → rest.length < K → symbolonref03_Word.l0 K s (pre.length : Int) = some (rest.all S.okB && decide (1 ≤ s.size))
  | [], pre, K, h, hK => by
    obtain ⟨K, rfl⟩ : ∃ k, K = k + 1 := ⟨K - 1, by simp at hK; omega⟩
    simp only [symbolonref03_Word.l0]
    rw [if_neg (by rw [tl_size, h]; simp), List.all_nil, Bool.true_and]
    congr 1
    rw [decide_eq_decide]
    omega
  | b :: rest, pre, K, h, hK => by
    rw [List.length_cons] at hK
    obtain ⟨K, rfl⟩ : ∃ k, K = k + 1 := ⟨K - 1, by omega⟩
    have hlt : pre.length < s.size := by rw [tl_size, h]; simp
    have hb := bt_tl s pre rest b h
    have ih := rword_l0 s hs rest (pre ++ [b]) K (by rw [h]; simp) (by omega)
    rw [List.length_append, List.length_singleton] at ih
    simp only [symbolonref03_Word.l0]
    rw [if_pos (by omega), if_pos (by omega), hb, w_nat _ (by omega), ih, List.all_cons]
    by_cases c1 : (b.toNat : Int) ≥ 97
    · rw [if_pos c1]
      by_cases c2 : (b.toNat : Int) ≤ 122
      · have hk : S.okB b = true := decide_eq_true (by omega)
        rw [if_pos c2, hk, Bool.true_and]
      · have hk : S.okB b = false := decide_eq_false (by omega)
        rw [if_neg c2, if_pos (by omega), if_neg (by omega), hk]
        rfl
    · rw [if_neg c1]
      by_cases c3 : (b.toNat : Int) ≥ 48
      · rw [if_pos c3]
        by_cases c4 : (b.toNat : Int) ≤ 57
        · have hk : S.okB b = true := decide_eq_true (by omega)
          rw [if_pos c4, hk, Bool.true_and]
        · have hk : S.okB b = false := decide_eq_false (by omega)
          rw [if_neg c4, hk]
          rfl
      · have hk : S.okB b = false := decide_eq_false (by omega)
        rw [if_neg c3, hk]
        rfl
theorem rWord_is (s : ByteArray) (K : Nat) (hs : s.size < 4611686018427387904) (hK : s.size < K) : symbolonref03_Word.f K s = some (wd (tl s)) := by
  unfold symbolonref03_Word.f
  have hz := tl_size s
  have := rword_l0 s hs (tl s) [] K rfl (by omega)
  rw [List.length_nil, Int.natCast_zero] at this
  rw [this]
  unfold wd
  congr 2
  cases hq : tl s with
  | nil =>
    rw [hq, List.length_nil] at hz
    rw [decide_eq_false (by omega)]
    rfl
  | cons x r =>
    rw [hq, List.length_cons] at hz
    rw [decide_eq_true (by omega)]
    rfl
theorem rwords_l1 (L : List ByteArray) (hL : L.length < 200000) (hz : ∀ s ∈ L, s.size < 200000) : ∀ (rest pre : List ByteArray) (K : Nat), L = pre ++ rest → 200000 + rest.length < K → symbolonref03_Words.l1 K L (pre.length : Int) = some (if (rest.map tl).all wd then (L, true) else ([], false))
  | [], pre, K, h, hK => by
    obtain ⟨K, rfl⟩ : ∃ k, K = k + 1 := ⟨K - 1, by omega⟩
    simp only [symbolonref03_Words.l1]
    rw [if_neg (by rw [h]; simp)]
    rfl
  | x :: rest, pre, K, h, hK => by
    rw [List.length_cons] at hK
    obtain ⟨K, rfl⟩ : ∃ k, K = k + 1 := ⟨K - 1, by omega⟩
    have hlt : pre.length < L.length := by rw [h]; simp
    have hx := hz x (by rw [h]; simp)
    have hrd : rdOf ByteArray.empty L (pre.length : Int) = x := by rw [h]; exact rd_at pre rest x
    have ih := rwords_l1 L hL hz rest (pre ++ [x]) K (by rw [h]; simp) (by omega)
    rw [List.length_append, List.length_singleton] at ih
    simp only [symbolonref03_Words.l1]
    rw [if_pos (by omega), if_pos (by omega), hrd, rWord_is x K (by omega) (by omega), Option.bind_some, w_nat _ (by omega), ih, List.map_cons, List.all_cons]
    cases wd (tl x) <;> simp
theorem one_byte (s : ByteArray) (pre rest : List UInt8) (b : UInt8) (h : tl s = pre ++ b :: rest) : tl (s.extract pre.length (pre.length + 1)) = [b] := by
  show (s.extract pre.length (pre.length + 1)).data.toList = [b]
  rw [Lib.extract_data, show s.data.toList = tl s from rfl, h, show pre.length + 1 - pre.length = 1 by omega]
  simp
theorem rwords_l0 (s : ByteArray) (hs : s.size < 100000) : ∀ (rest pre : List UInt8) (K : Nat) (x4 : List ByteArray) (x5 : ByteArray), tl s = pre ++ rest → 400002 + rest.length < K → x4.map tl ++ [tl x5] = pieces 32 pre → symbolonref03_Words.l0 K s x4 x5 (pre.length : Int) = some (wordsOf s)
  | [], pre, K, x4, x5, h, hK, hp => by
    obtain ⟨K, rfl⟩ : ∃ k, K = k + 1 := ⟨K - 1, by simp at hK; omega⟩
    rw [List.append_nil] at h
    have hL : x4 ++ [x5] = cutAt 32 s := map_inj (by rw [List.map_append, List.map_singleton, hp, cutAt_tl, h])
    have hl := cutAt_le 32 s
    have hl2 : x4.length + 1 ≤ s.size + 1 := by rw [← hL, List.length_append, List.length_singleton] at hl; exact hl
    have hz : ∀ q ∈ cutAt 32 s, q.size < 200000 := by
      intro q hq
      have hm : tl q ∈ pieces 32 (tl s) := by rw [← cutAt_tl]; exact List.mem_map_of_mem hq
      have hj := congrArg List.length (join_pieces 32 (tl s))
      have := piece_len 32 (tl s) (tl q) hm
      rw [tl_size] at hs ⊢
      omega
    simp only [symbolonref03_Words.l0]
    rw [if_neg (by rw [tl_size, h]; omega), if_pos (by omega), hL]
    have := rwords_l1 (cutAt 32 s) (by omega) hz (cutAt 32 s) [] K rfl (by simp at hK; omega)
    rw [List.length_nil, Int.natCast_zero] at this
    rw [this, cutAt_tl]
    rfl
  | b :: rest, pre, K, x4, x5, h, hK, hp => by
    rw [List.length_cons] at hK
    obtain ⟨K, rfl⟩ : ∃ k, K = k + 1 := ⟨K - 1, by omega⟩
    have hlt : pre.length < s.size := by rw [tl_size, h]; simp
    have hb := bt_tl s pre rest b h
    have hx := piece_total 32 pre
    rw [← hp, List.map_append, List.sum_append] at hx
    have hx4 : x4.length ≤ pre.length := by
      have := congrArg List.length hp
      rw [pieces_len, List.length_append, List.length_map, List.length_singleton] at this
      have := List.count_le_length (a := (32 : UInt8)) (l := pre)
      omega
    have hx5 : x5.size ≤ pre.length := by
      rw [tl_size]
      have := piece_len 32 pre (tl x5) (by rw [← hp]; simp)
      exact this
    simp only [symbolonref03_Words.l0]
    rw [if_pos (by omega), if_pos (by omega), hb, w_nat _ (by omega)]
    by_cases c : b = 32
    · subst c
      have ih := rwords_l0 s hs rest (pre ++ [32]) K (x4 ++ [x5]) (⟨#[]⟩ : ByteArray) (by rw [h]; simp) (by omega) (by rw [List.map_append, List.map_singleton, hp, pieces_last])
      rw [List.length_append, List.length_singleton] at ih
      rw [if_pos (by rfl), if_pos (by omega), ih]
    · have hc : ¬ ((b.toNat : Int) = 32) := fun e => c (UInt8.toNat_inj.1 (by have h32 : (32 : UInt8).toNat = 32 := rfl; omega))
      have hone := one_byte s pre rest b h
      have hsz : (s.extract pre.length (pre.length + 1)).size = 1 := by rw [tl_size, hone]; rfl
      have ih := rwords_l0 s hs rest (pre ++ [b]) K x4 (x5 ++ s.extract pre.length (pre.length + 1)) (by rw [h]; simp) (by omega) (by rw [tl_append, hone, pieces_snoc 32 b c pre (x4.map tl) (tl x5) hp.symm])
      rw [List.length_append, List.length_singleton] at ih
      rw [if_neg hc, if_pos (by omega), if_pos (by omega), Int.toNat_natCast, Int.toNat_natCast, hsz, if_pos (by omega), ih]
theorem rWords_is (s : ByteArray) (K : Nat) (hs : s.size < 100000) (hK : 600000 ≤ K) : symbolonref03_Words.f K s = some (wordsOf s) := by
  unfold symbolonref03_Words.f
  have := rwords_l0 s hs (tl s) [] K [] (⟨#[]⟩ : ByteArray) rfl (by rw [← tl_size]; omega) rfl
  rw [List.length_nil, Int.natCast_zero] at this
  exact this
/-- Words put together with blanks between, when the first ones are there. -/
theorem join_snoc (c : UInt8) : ∀ (o : List (List UInt8)) (w : List UInt8), o ≠ [] → Lib.join (o ++ [w]) [c] = Lib.join o [c] ++ c :: w
  | [], w, h => absurd rfl h
  | [x], w, _ => by
    rw [List.singleton_append, Lib.join_cons, Lib.join_one]
    simp [Lib.joinTail]
  | x :: y :: o, w, _ => by
    have ih := join_snoc c (y :: o) w (by simp)
    have e : ∀ t : List (List UInt8), Lib.join (x :: y :: t) [c] = x ++ c :: Lib.join (y :: t) [c] := by
      intro t
      rw [Lib.join_cons, Lib.join_cons]
      simp [Lib.joinTail]
    rw [List.cons_append, List.cons_append, e, e, ← List.cons_append, ih]
    simp
theorem rjoin_l0 (L : List ByteArray) (hL : sum L < 100000) : ∀ (rest pre : List ByteArray) (K : Nat) (x3 : ByteArray), L = pre ++ rest → 200000 + rest.length < K → (pre.map tl).all wd = true → tl x3 = Lib.join (pre.map tl) [32] → symbolonref03_Join.l0 K L x3 (pre.length : Int) = some (joinOf L)
  | [], pre, K, x3, h, hK, hw, hx => by
    obtain ⟨K, rfl⟩ : ∃ k, K = k + 1 := ⟨K - 1, by omega⟩
    rw [List.append_nil] at h
    subst h
    simp only [symbolonref03_Join.l0]
    rw [if_neg (by omega)]
    congr 1
    exact tl_inj (by rw [tl_joinOf, hw, hx]; rfl)
  | x :: rest, pre, K, x3, h, hK, hw, hx => by
    rw [List.length_cons] at hK
    obtain ⟨K, rfl⟩ : ∃ k, K = k + 1 := ⟨K - 1, by omega⟩
    have hlt : pre.length < L.length := by rw [h]; simp
    have hll := length_sum L
    have hsm : sum L = sum pre + (x.size + 1 + sum rest) := by rw [h, sum_app, sum_cons]
    have hx3 : x3.size ≤ sum pre := by
      rw [tl_size, hx]
      exact join_len pre
    have hrd : rdOf ByteArray.empty L (pre.length : Int) = x := by rw [h]; exact rd_at pre rest x
    simp only [symbolonref03_Join.l0]
    rw [if_pos (by omega), if_pos (by omega), hrd, rWord_is x K (by omega) (by omega), Option.bind_some]
    cases hwx : wd (tl x) with
    | false =>
      rw [if_neg (by simp)]
      congr 1
      refine tl_inj ?_
      rw [tl_joinOf, h, List.map_append, List.all_append, List.map_cons, List.all_cons, hwx]
      simp
    | true =>
      have hw2 : ((pre ++ [x]).map tl).all wd = true := by
        rw [List.map_append, List.all_append, hw, List.map_singleton, List.all_cons, hwx]
        rfl
      have h1 : (⟨#[32]⟩ : ByteArray).size = 1 := rfl
      have hz : (x3 ++ (⟨#[32]⟩ : ByteArray)).size = x3.size + 1 := by rw [append_size, h1]
      rw [if_pos rfl]
      cases pre with
      | nil =>
        have ih := rjoin_l0 L hL rest ([] ++ [x]) K (x3 ++ x) (by rw [h]; simp) (by omega) hw2 (by
          rw [tl_append, hx, List.map_append, List.map_nil, List.nil_append, List.map_singleton, Lib.join_nil, Lib.join_one]
          first | rfl | skip)
        rw [List.length_append, List.length_singleton] at ih
        rw [if_neg (by simp), if_pos (by omega), w_nat _ (by simp), ih]
      | cons p pre =>
        have ih := rjoin_l0 L hL rest ((p :: pre) ++ [x]) K ((x3 ++ (⟨#[32]⟩ : ByteArray)) ++ x) (by rw [h]; simp) (by omega) hw2 (by
          rw [List.map_append, List.map_singleton, join_snoc 32 _ _ (by simp), ← hx, tl_append, tl_append, List.append_assoc]
          rfl)
        rw [List.length_append, List.length_singleton] at ih
        rw [if_pos (by rw [List.length_cons]; omega), if_pos (by omega), if_pos (by omega), w_nat _ (by omega), ih]
theorem rJoin_is (L : List ByteArray) (K : Nat) (hs : sum L < 100000) (hK : 400000 ≤ K) : symbolonref03_Join.f K L = some (joinOf L) := by
  unfold symbolonref03_Join.f
  have h := length_sum L
  have := rjoin_l0 L hs L [] K (⟨#[]⟩ : ByteArray) rfl (by omega) rfl (by rw [List.map_nil, Lib.join_nil])
  rw [List.length_nil, Int.natCast_zero] at this
  exact this
theorem rText_is (L : List ByteArray) (K : Nat) (h : sum L < 1000000) (hK : L.length < K) : symbolonref03_Text.f K L = some (textOf L) := by
  have h1 := length_sum L
  have key : ∀ (rest pre : List ByteArray) (K : Nat) (x3 : ByteArray), L = pre ++ rest → rest.length < K → x3.size + sum rest < 1000000000 → symbolonref03_Text.l0 K L x3 (pre.length : Int) = some (x3 ++ textOf rest) := by
    intro rest
    induction rest with
    | nil =>
      intro pre K x3 h hK _
      obtain ⟨K, rfl⟩ : ∃ k, K = k + 1 := ⟨K - 1, by simp at hK; omega⟩
      simp only [symbolonref03_Text.l0]
      rw [if_neg (by rw [h]; simp)]
      congr 1
      exact tl_inj (by rw [tl_append, tl_textOf]; simp [textL])
    | cons x rest ih =>
      intro pre K x3 h hK hs
      rw [List.length_cons] at hK
      rw [sum_cons] at hs
      obtain ⟨K, rfl⟩ : ∃ k, K = k + 1 := ⟨K - 1, by omega⟩
      have hlt : pre.length < L.length := by rw [h]; simp
      have h10 : (⟨#[10]⟩ : ByteArray).size = 1 := rfl
      have hz : ((x3 ++ x) ++ (⟨#[10]⟩ : ByteArray)).size = x3.size + x.size + 1 := by rw [append_size, append_size, h10]
      have ih := ih (pre ++ [x]) K ((x3 ++ x) ++ (⟨#[10]⟩ : ByteArray)) (by rw [h]; simp) (by omega) (by omega)
      rw [List.length_append, List.length_singleton] at ih
      have hrd : rdOf ByteArray.empty L (pre.length : Int) = x := by rw [h]; exact rd_at pre rest x
      simp only [symbolonref03_Text.l0]
      rw [if_pos (by omega), if_pos (by omega), hrd, if_pos (by omega), if_pos (by rw [append_size]; omega), w_nat _ (by omega), ih]
      congr 1
      exact tl_inj (by simp only [tl_append, tl_textOf, List.map_cons, textL_cons]; simp [tl])
  have := key L [] K (⟨#[]⟩ : ByteArray) rfl hK (by show 0 + sum L < _; omega)
  unfold symbolonref03_Text.f
  rw [show ((0 : Int)) = (([] : List ByteArray).length : Int) from rfl, this]
  congr 1
theorem ext_tl (s : ByteArray) (a b : Nat) : tl (s.extract a b) = ((tl s).drop a).take (b - a) := by
  show (s.extract a b).data.toList = _
  rw [Lib.extract_data]
theorem rlines_l0 (s : ByteArray) (hs : s.size < 100000) : ∀ (rest pre : List UInt8) (K fr : Nat) (x4 : List ByteArray), tl s = pre ++ rest → rest.length < K → fr ≤ pre.length → x4.map tl ++ [pre.drop fr] = pieces 10 pre → symbolonref03_Lines.l0 K s x4 (fr : Int) (pre.length : Int) = some (linesOf s)
  | [], pre, K, fr, x4, h, hK, hf, hp => by
    obtain ⟨K, rfl⟩ : ∃ k, K = k + 1 := ⟨K - 1, by simp at hK; omega⟩
    rw [List.append_nil] at h
    have hz : s.size = pre.length := by rw [tl_size, h]
    have ht : tl (s.extract fr s.size) = pre.drop fr := by
      rw [ext_tl, h, List.take_of_length_le (by rw [List.length_drop]; omega)]
    simp only [symbolonref03_Lines.l0]
    rw [if_neg (by omega), if_pos (by omega), if_pos (by omega), Int.toNat_natCast]
    have e := linesOf_tl s
    rw [h, ← hp, ← ht] at e
    have e2 := List.append_inj' e rfl
    congr 1
    refine Prod.ext ?_ ?_
    · exact (map_inj e2.1).symm
    · exact (tl_inj (List.cons.inj e2.2).1).symm
  | b :: rest, pre, K, fr, x4, h, hK, hf, hp => by
    rw [List.length_cons] at hK
    obtain ⟨K, rfl⟩ : ∃ k, K = k + 1 := ⟨K - 1, by omega⟩
    have hlt : pre.length < s.size := by rw [tl_size, h]; simp
    have hb := bt_tl s pre rest b h
    have hx4 : x4.length ≤ pre.length := by
      have := congrArg List.length hp
      rw [pieces_len, List.length_append, List.length_map, List.length_singleton] at this
      have := List.count_le_length (a := (10 : UInt8)) (l := pre)
      omega
    simp only [symbolonref03_Lines.l0]
    rw [if_pos (by omega), if_pos (by omega), hb]
    by_cases c : b = 10
    · subst c
      have hcut : tl (s.extract fr pre.length) = pre.drop fr := by
        rw [ext_tl, h, List.drop_append_of_le_length hf, List.take_append_of_le_length (by rw [List.length_drop]; omega), List.take_of_length_le (by rw [List.length_drop]; omega)]
      have ih := rlines_l0 s hs rest (pre ++ [10]) K (pre.length + 1) (x4 ++ [s.extract fr pre.length]) (by rw [h]; simp) (by omega) (by simp) (by
        rw [List.map_append, List.map_singleton, hcut, pieces_last, hp, List.drop_of_length_le (by simp)])
      rw [List.length_append, List.length_singleton] at ih
      rw [if_pos (by rfl), if_pos (by omega), if_pos (by omega), if_pos (by omega), if_pos (by omega), Int.toNat_natCast, Int.toNat_natCast, w_nat _ (by omega), ih]
    · have hc : ¬ ((b.toNat : Int) = 10) := fun e => c (UInt8.toNat_inj.1 (by have h32 : (10 : UInt8).toNat = 10 := rfl; omega))
      have ih := rlines_l0 s hs rest (pre ++ [b]) K fr x4 (by rw [h]; simp) (by omega) (by simp; omega) (by
        rw [List.drop_append_of_le_length hf, pieces_snoc 10 b c pre (x4.map tl) _ hp.symm])
      rw [List.length_append, List.length_singleton] at ih
      rw [if_neg hc, w_nat _ (by omega), ih]
theorem rLines_is (s : ByteArray) (K : Nat) (hs : s.size < 100000) (hK : 200000 ≤ K) : symbolonref03_Lines.f K s = some (linesOf s) := by
  unfold symbolonref03_Lines.f
  exact rlines_l0 s hs (tl s) [] K 0 [] rfl (by rw [← tl_size]; omega) (by simp) rfl
end Go.Proofs.YtfjdlllmpgknpaaDoor.Pure
