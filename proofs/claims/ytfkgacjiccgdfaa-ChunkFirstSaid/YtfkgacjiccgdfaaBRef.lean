/-
The document's Put, Get and Cut in plain numbers: they are the program's. Conditions: bytes are of 0 to 255, numbers of 64 bits.
-/
import Derived.Test.YtfkgacjiccgdfaaQ3
import Derived.Test.YtfkgacjiccgdfaaQ9
import Derived.Test.YtfkgacjiccgdfaaQ12
import Derived.Test.YtfkgacjiccgdfaaQ13
import Derived.Test.YtfkgacjiccgdfaaQ14
import Derived.Test.YtfkgacjiccgdfaaBGather
set_option linter.unusedSimpArgs false
set_option linter.unusedVariables false
namespace Go.Proofs.Ytfkgacjiccgdfaa.Pure
open Go.RowKit Go.Proofs.YtfkgacjiccgdfaaW.PrintWords Go.Proofs.YtfkgacjiccgdfaaW.PrintMore Go.Proofs.Ytfkgacjiccgdfaa.Q
theorem take_more (b : List Int) (i t : Nat) (h : i + t < b.length) : (b.drop i).take (t + 1) = (b.drop i).take t ++ [rd b ((i + t : Nat) : Int)] := by
  rw [List.take_add_one, List.getElem?_drop, rd_eq b (i + t) h]
  rfl
theorem u_step (v y : Int) (h0 : 0 ≤ v) (h1 : v < 72057594037927936) (k0 : 0 ≤ y) (k1 : y < 256) : IntKind.u64.wrap (IntKind.u64.wrap (v * 256) + IntKind.u64.wrap y) = v * 256 + y := by
  rw [u_eq, u_eq, u_eq]
  omega
theorem pow_seven (n : Nat) (hn : n ≤ 7) : (256 : Int) ^ n ≤ 72057594037927936 := by
  obtain rfl | rfl | rfl | rfl | rfl | rfl | rfl | rfl : n = 0 ∨ n = 1 ∨ n = 2 ∨ n = 3 ∨ n = 4 ∨ n = 5 ∨ n = 6 ∨ n = 7 := by omega
  all_goals decide
theorem val_seven (b : List Int) (i t : Nat) (ht : t ≤ 7) (hb : ∀ x ∈ b, 0 ≤ x ∧ x < 256) : 0 ≤ val ((b.drop i).take t) ∧ val ((b.drop i).take t) < 72057594037927936 := by
  obtain ⟨h1, h2⟩ := val_range ((b.drop i).take t) (fun x hx => hb x (List.mem_of_mem_drop (List.mem_of_mem_take hx)))
  refine ⟨h1, Int.lt_of_lt_of_le h2 (pow_seven _ ?_)⟩
  rw [List.length_take]
  exact Nat.le_trans (Nat.min_le_left _ _) ht
theorem rg_l1 (b : List Int) (a : Int) (out : List Int) (i : Nat) (hi : i + 8 ≤ b.length) (hl : b.length ≤ 50) (hb : ∀ x ∈ b, 0 ≤ x ∧ x < 256) (ho : out.length < 17592186044416) :
    ∀ (d t K : Nat), t + d = 8 → symbolonref14_Get.l1 (K + d + 1) b a out (i : Int) (val ((b.drop i).take t)) (t : Int) = symbolonref14_Get.l0 K b a (out ++ [val ((b.drop i).take 8)]) ((i + 8 : Nat) : Int) := by
  intro d
  induction d with
  | zero =>
    intro t K h
    obtain rfl : t = 8 := by omega
    simp only [symbolonref14_Get.l1]
    rw [if_neg (by omega), if_pos ho, w_id (by omega) (by omega)]
    rfl
  | succ d ih =>
    intro t K h
    have hv := val_seven b i t (by omega) hb
    have hy := rd_byte hb (i + t) (by omega)
    have e1 : wrap64 ((i : Int) + (t : Int)) = ((i + t : Nat) : Int) := by rw [w_id (by omega) (by omega)]; omega
    have e2 : wrap64 ((t : Int) + 1) = ((t + 1 : Nat) : Int) := by rw [w_id (by omega) (by omega)]; omega
    simp only [symbolonref14_Get.l1]
    rw [if_pos (by omega), e1, e2, if_pos (by omega), if_pos (by omega), u_step _ _ hv.1 hv.2 hy.1 hy.2, ← val_snoc, ← take_more b i t (by omega)]
    exact ih (t + 1) K (by omega)
theorem nums_succ (b : List Int) (j : Nat) : nums_ b (j + 1) = nums_ b j ++ [val ((b.drop (2 + 8 * j)).take 8)] := by simp [nums_, List.range_succ]
theorem rg_l0 (b : List Int) (a : Int) (m : Nat) (hm : b.length = 2 + 8 * m) (h6 : m ≤ 6) (hb : ∀ x ∈ b, 0 ≤ x ∧ x < 256) :
    ∀ (d j K : Nat), j + d = m → 10 * d < K → symbolonref14_Get.l0 K b a (nums_ b j) ((2 + 8 * j : Nat) : Int) = if wrap64 (wrap64 (a + (m : Int)) - 1) > 65535 then some (0, [], false) else some (a, nums_ b m, true) := by
  intro d
  induction d with
  | zero =>
    intro j K h hK
    obtain ⟨K, rfl⟩ : ∃ k, K = k + 1 := ⟨K - 1, by omega⟩
    obtain rfl : j = m := by omega
    simp only [symbolonref14_Get.l0]
    rw [if_neg (by omega), nums_len]
  | succ d ih =>
    intro j K h hK
    obtain ⟨K, rfl⟩ : ∃ k, K = (k + 8 + 1) + 1 := ⟨K - 10, by omega⟩
    simp only [symbolonref14_Get.l0]
    rw [if_pos (by omega)]
    have := rg_l1 b a (nums_ b j) (2 + 8 * j) (by omega) (by omega) hb (by rw [nums_len]; omega) 8 0 K (by omega)
    rw [List.take_zero] at this
    rw [show (0 : Int) = val [] from rfl, show (val [] : Int) = ((0 : Nat) : Int) from rfl] at *
    rw [this, ← nums_succ]
    exact ih (j + 1) K (by omega) (by omega)
theorem rget_yes (b : List Int) (m k : Nat) (hb : ∀ x ∈ b, 0 ≤ x ∧ x < 256) (h1 : 1 ≤ m) (h2 : m ≤ 6) (h3 : b.length = 2 + 8 * m) (h4 : (m : Int) ≤ 65536 - (rd b 0 * 256 + rd b 1)) (hk : 80 ≤ k) :
    symbolonref14_Get.f k b = some (rd b 0 * 256 + rd b 1, nums_ b m, true) := by
  obtain ⟨k, rfl⟩ : ∃ j, k = j + 1 := ⟨k - 1, by omega⟩
  have r0 := rd_byte hb 0 (by omega)
  have r1 := rd_byte hb 1 (by omega)
  simp only [Int.natCast_zero, Int.natCast_one] at r0 r1
  have e0 : (Int.tmod (wrap64 ((b.length : Int) - 2)) 8 != 0) = false := by
    rw [w_id (by omega) (by omega), Int.tmod_eq_emod_of_nonneg (by omega), bne_eq_false_iff_eq]
    omega
  unfold symbolonref14_Get.f
  rw [if_neg (by omega), if_neg (by omega), e0]
  simp only [symbolonref14_Get.j0]
  rw [if_neg (by decide), if_pos (by omega), if_pos (by omega), w_id (a := rd b 0) (by omega) (by omega), w_id (a := rd b 0 * 256) (by omega) (by omega), w_id (a := rd b 1) (by omega) (by omega), w_id (by omega) (by omega)]
  have := rg_l0 b (rd b 0 * 256 + rd b 1) m h3 h2 hb m 0 k (by omega) (by omega)
  rw [w_id (a := _ + (m : Int)) (by omega) (by omega), w_id (by omega) (by omega), if_neg (by omega)] at this
  exact this
theorem rget_no (b : List Int) (k : Nat) (hb : ∀ x ∈ b, 0 ≤ x ∧ x < 256) (h : ¬ isChunk b) (hk : 80 ≤ k) : symbolonref14_Get.f k b = some (0, [], false) := by
  obtain ⟨k, rfl⟩ : ∃ j, k = j + 1 := ⟨k - 1, by omega⟩
  unfold symbolonref14_Get.f
  by_cases c1 : (b.length : Int) < 10
  · rw [if_pos c1]
    simp only [symbolonref14_Get.j0, if_true]
  · rw [if_neg c1]
    by_cases c2 : (b.length : Int) > 50
    · rw [if_pos c2]
      simp only [symbolonref14_Get.j0, if_true]
    · rw [if_neg c2, w_id (by omega) (by omega), Int.tmod_eq_emod_of_nonneg (by omega)]
      simp only [symbolonref14_Get.j0]
      by_cases c3 : ((b.length : Int) - 2) % 8 = 0
      · obtain ⟨m, hm⟩ : ∃ m : Nat, b.length = 2 + 8 * m := ⟨(b.length - 2) / 8, by omega⟩
        have r0 := rd_byte hb 0 (by omega)
        have r1 := rd_byte hb 1 (by omega)
        simp only [Int.natCast_zero, Int.natCast_one] at r0 r1
        rw [c3, if_neg (by decide), if_pos (by omega), if_pos (by omega), w_id (a := rd b 0) (by omega) (by omega), w_id (a := rd b 0 * 256) (by omega) (by omega), w_id (a := rd b 1) (by omega) (by omega), w_id (by omega) (by omega)]
        have := rg_l0 b (rd b 0 * 256 + rd b 1) m hm (by omega) hb m 0 k (by omega) (by omega)
        rw [w_id (a := _ + (m : Int)) (by omega) (by omega), w_id (by omega) (by omega), if_pos] at this
        · exact this
        · have : ¬ ((m : Int) ≤ 65536 - (rd b 0 * 256 + rd b 1)) := fun c4 => h ⟨m, by omega, by omega, by omega, c4⟩
          omega
      · rw [if_pos (by rw [bne_iff_ne]; exact c3)]
/-- What some bytes are: a position and numbers. -/
def parse (b : List Int) : Option (Int × List Int) :=
  if 1 ≤ (b.length - 2) / 8 ∧ (b.length - 2) / 8 ≤ 6 ∧ b.length = 2 + 8 * ((b.length - 2) / 8) ∧ (((b.length - 2) / 8 : Nat) : Int) ≤ 65536 - (rd b 0 * 256 + rd b 1) then some (rd b 0 * 256 + rd b 1, nums_ b ((b.length - 2) / 8)) else none
def told (o : Option (Int × List Int)) : Int × List Int × Bool := match o with
  | some (a, l) => (a, l, true)
  | none => (0, [], false)
theorem parse_not {b : List Int} (h : ¬ (1 ≤ (b.length - 2) / 8 ∧ (b.length - 2) / 8 ≤ 6 ∧ b.length = 2 + 8 * ((b.length - 2) / 8) ∧ (((b.length - 2) / 8 : Nat) : Int) ≤ 65536 - (rd b 0 * 256 + rd b 1))) : ¬ isChunk b := by
  rintro ⟨m, h1, h2, h3, h4⟩
  have e : (b.length - 2) / 8 = m := by omega
  rw [e] at h
  exact h ⟨h1, h2, h3, h4⟩
theorem get_parse (b : List Int) (k : Nat) (hb : ∀ x ∈ b, 0 ≤ x ∧ x < 256) (hl : b.length ≤ 9223372036854775807) (hk : 60 ≤ k) : chunk_Get.f k b = some (told (parse b)) := by
  unfold parse
  by_cases h : 1 ≤ (b.length - 2) / 8 ∧ (b.length - 2) / 8 ≤ 6 ∧ b.length = 2 + 8 * ((b.length - 2) / 8) ∧ (((b.length - 2) / 8 : Nat) : Int) ≤ 65536 - (rd b 0 * 256 + rd b 1)
  · rw [if_pos h]
    exact get_yes b _ k hb h.1 h.2.1 h.2.2.1 h.2.2.2 hk
  · rw [if_neg h]
    exact get_no b k hb hl (parse_not h) hk
theorem rget_parse (b : List Int) (k : Nat) (hb : ∀ x ∈ b, 0 ≤ x ∧ x < 256) (hk : 80 ≤ k) : symbolonref14_Get.f k b = some (told (parse b)) := by
  unfold parse
  by_cases h : 1 ≤ (b.length - 2) / 8 ∧ (b.length - 2) / 8 ≤ 6 ∧ b.length = 2 + 8 * ((b.length - 2) / 8) ∧ (((b.length - 2) / 8 : Nat) : Int) ≤ 65536 - (rd b 0 * 256 + rd b 1)
  · rw [if_pos h]
    exact rget_yes b _ k hb h.1 h.2.1 h.2.2.1 h.2.2.2 hk
  · rw [if_neg h]
    exact rget_no b k hb (parse_not h) hk
theorem parse_some {b : List Int} {a : Int} {l : List Int} (hb : ∀ x ∈ b, 0 ≤ x ∧ x < 256) (h : parse b = some (a, l)) : 0 ≤ a ∧ a ≤ 65535 ∧ l.length ≤ 6 := by
  unfold parse at h
  split at h
  · rename_i c
    obtain ⟨c1, c2, c3, c4⟩ := c
    have r0 := rd_byte hb 0 (by omega)
    have r1 := rd_byte hb 1 (by omega)
    simp only [Int.natCast_zero, Int.natCast_one] at r0 r1
    injection h with h
    injection h with h5 h6
    rw [← h6, nums_len]
    exact ⟨by omega, by omega, c2⟩
  · cases h
theorem shr8 (v : Int) (t : Nat) (ht : t < 8) : shr .u64 v (wrap64 (8 * ((7 - t : Nat) : Int))) = v / 2 ^ (8 * (7 - t)) := by
  rw [w_id (by omega) (by omega)]
  unfold shr
  have e : (8 * ((7 - t : Nat) : Int)).toNat = 8 * (7 - t) := by omega
  rw [e, Nat.min_eq_left (by show _ ≤ 64; omega)]
theorem putB_next (a : Int) (l : List Int) (i t : Nat) (hi : i < l.length) (ht : t < 8) : (S.putB a l).take (2 + 8 * i + (t + 1)) = (S.putB a l).take (2 + 8 * i + t) ++ [rd l (i : Int) / 2 ^ (8 * (7 - t)) % 256] := by
  have hb : S.byteAt a l (2 + 8 * i + t) = rd l (i : Int) / 2 ^ (8 * (7 - t)) % 256 := by
    unfold S.byteAt
    rw [if_neg (by omega), if_neg (by omega), show (2 + 8 * i + t - 2) / 8 = i by omega, show (2 + 8 * i + t - 2) % 8 = t by omega]
  rw [show 2 + 8 * i + (t + 1) = (2 + 8 * i + t) + 1 from rfl, List.take_add_one, putB_get a l _ (by omega), hb]
  rfl
theorem putB_take_len (a : Int) (l : List Int) (n : Nat) (hl : l.length ≤ 6) : ((S.putB a l).take n).length < 140737488355328 := by
  rw [List.length_take, putB_len]
  exact Nat.lt_of_le_of_lt (Nat.min_le_right _ _) (by omega)
theorem rp_l1 (a : Int) (l : List Int) (i : Nat) (hi : i < l.length) (hl : l.length ≤ 6) : ∀ (d t K : Nat), t + d = 8 → symbolonref14_Put.l1 (K + d + 1) l ((S.putB a l).take (2 + 8 * i + t)) (i : Int) (7 - (t : Int)) = symbolonref14_Put.l0 K l ((S.putB a l).take (2 + 8 * (i + 1))) ((i + 1 : Nat) : Int) := by
  intro d
  induction d with
  | zero =>
    intro t K h
    obtain rfl : t = 8 := by omega
    simp only [symbolonref14_Put.l1]
    rw [if_neg (by omega), w_id (by omega) (by omega)]
    rfl
  | succ d ih =>
    intro t K h
    have e7 : (7 : Int) - (t : Int) = ((7 - t : Nat) : Int) := by omega
    have e2 : wrap64 (((7 - t : Nat) : Int) - 1) = 7 - ((t + 1 : Nat) : Int) := by rw [w_id (by omega) (by omega)]; omega
    have e3 : 0 ≤ wrap64 (8 * ((7 - t : Nat) : Int)) := by rw [w_id (by omega) (by omega)]; omega
    simp only [symbolonref14_Put.l1]
    rw [e7, if_pos (by omega), if_pos (by omega), if_pos (by omega), if_pos e3, if_pos (putB_take_len a l _ hl), shr8 _ t (by omega), e2, ← putB_next a l i t hi (by omega)]
    exact ih (t + 1) K (by omega)
theorem rp_l0 (a : Int) (l : List Int) (hl : l.length ≤ 6) : ∀ (d i K : Nat), i + d = l.length → 10 * d < K → symbolonref14_Put.l0 K l ((S.putB a l).take (2 + 8 * i)) (i : Int) = some (S.putB a l) := by
  intro d
  induction d with
  | zero =>
    intro i K h hK
    obtain ⟨K, rfl⟩ : ∃ k, K = k + 1 := ⟨K - 1, by omega⟩
    simp only [symbolonref14_Put.l0]
    rw [if_neg (by omega), List.take_of_length_le (by rw [putB_len]; omega)]
  | succ d ih =>
    intro i K h hK
    obtain ⟨K, rfl⟩ : ∃ k, K = (k + 8 + 1) + 1 := ⟨K - 10, by omega⟩
    simp only [symbolonref14_Put.l0]
    rw [if_pos (by omega)]
    have := rp_l1 a l i (by omega) hl 8 0 K (by omega)
    rw [show (7 : Int) - ((0 : Nat) : Int) = 7 from rfl] at this
    rw [show 2 + 8 * i = 2 + 8 * i + 0 from rfl, this]
    exact ih (i + 1) K (by omega) (by omega)
theorem put_two (a : Int) (l : List Int) (h0 : 0 ≤ a) (h1 : a ≤ 65535) : (S.putB a l).take (2 + 8 * 0) = [(wrap64 (Int.tdiv a 256)) % 256, (Int.tmod a 256) % 256] := by
  have e1 : wrap64 (Int.tdiv a 256) % 256 = a / 256 := by
    rw [Int.tdiv_eq_ediv_of_nonneg h0, w_id (by omega) (by omega)]
    omega
  have e2 : Int.tmod a 256 % 256 = a % 256 := by
    rw [Int.tmod_eq_emod_of_nonneg h0]
    omega
  rw [e1, e2]
  apply List.ext_getElem?
  intro p
  rw [List.getElem?_take]
  by_cases hp : p < 2 + 8 * 0
  · rw [if_pos hp, putB_get a l p (by omega)]
    obtain rfl | rfl : p = 0 ∨ p = 1 := by omega
    · rfl
    · rfl
  · rw [if_neg hp, List.getElem?_eq_none (by simp; omega)]
theorem rput (a : Int) (l : List Int) (k : Nat) (ha : -9223372036854775808 ≤ a ∧ a < 9223372036854775808) (hk : 70 ≤ k) : symbolonref14_Put.f k a l = chunk_Put.f a l := by
  obtain ⟨k, rfl⟩ : ∃ j, k = j + 1 := ⟨k - 1, by omega⟩
  unfold chunk_Put.f S.put symbolonref14_Put.f
  by_cases c1 : a < 0
  · rw [if_pos c1, if_neg (by omega)]
    simp only [symbolonref14_Put.j0, if_true]
  · rw [if_neg c1]
    by_cases c2 : a > 65535
    · rw [if_pos c2, if_neg (by omega)]
      simp only [symbolonref14_Put.j0, if_true]
    · rw [if_neg c2]
      by_cases c3 : (l.length : Int) < 1
      · rw [if_pos c3, if_neg (by omega)]
        simp only [symbolonref14_Put.j0, if_true]
      · rw [if_neg c3]
        by_cases c4 : (l.length : Int) > 6
        · rw [if_pos c4, if_neg (by omega)]
          simp only [symbolonref14_Put.j0, if_true]
        · rw [if_neg c4, w_id (a := a + (l.length : Int)) (by omega) (by omega), w_id (by omega) (by omega)]
          simp only [symbolonref14_Put.j0]
          by_cases c5 : a + (l.length : Int) - 1 > 65535
          · rw [decide_eq_true c5, if_pos rfl, if_neg (by omega)]
          · rw [decide_eq_false c5, if_neg (by decide), if_pos ⟨by omega, by omega, by omega, by omega, by omega⟩, ← put_two a l (by omega) (by omega)]
            exact rp_l0 a l (by omega) l.length 0 k (by omega) (by omega)
theorem cut_state2 (p : Int) (l : List Int) (p0 : 0 ≤ p) (p1 : p ≤ 65535) (hl : (l.length : Int) ≤ 65536 - p) : ∀ i : Nat, i ≤ (l.length + 5) / 6 → S.outs p (S.pieces l i) = (List.range i).map (ch p l) ∧ S.atOf p (S.pieces l i) = p + ((min (6 * i) l.length : Nat) : Int)
  | 0, _ => by
    constructor
    · rfl
    · simp [S.pieces, S.atOf]
  | i + 1, h => by
    obtain ⟨h1, h2⟩ := cut_state2 p l p0 p1 hl i (by omega)
    rw [S.pieces_succ, S.outs_snoc, S.atOf_snoc, h1, h2]
    have hn := pc_len l i
    have e : ((l.drop (6 * i)).take 6) = pc l i := rfl
    rw [e, show min (6 * i) l.length = 6 * i by omega]
    constructor
    · rw [List.range_succ, List.map_append]
      congr 1
      show [S.putv _ _] = [ch p l i]
      unfold S.putv ch
      rw [if_pos ⟨by omega, by omega, by omega, by omega, by omega⟩]
    · rw [w_id (by omega) (by omega)]
      omega
theorem mn_nat3 (a b : Nat) : mn (a : Int) (b : Int) = ((min a b : Nat) : Int) := by
  unfold mn
  split <;> omega
theorem cut_piece (l : List Int) (j m : Nat) (hm : m = min (6 * j + 6) l.length) : (l.take m).drop (6 * j) = pc l j := by
  subst hm
  unfold pc
  rw [List.drop_take]
  apply List.ext_getElem?
  intro q
  rw [List.getElem?_take, List.getElem?_take, List.getElem?_drop]
  by_cases h1 : q < 6
  · rw [if_pos h1]
    by_cases h2 : q < min (6 * j + 6) l.length - 6 * j
    · rw [if_pos h2]
    · rw [if_neg h2, List.getElem?_eq_none (by omega)]
  · rw [if_neg h1, if_neg (by omega)]
theorem rcut_l0 (p : Int) (l : List Int) (p0 : 0 ≤ p) (p1 : p ≤ 65535) (hl : (l.length : Int) ≤ 65536 - p) (h9 : l.length ≤ 900) : ∀ (d j K : Nat), j + d = (l.length + 5) / 6 → 80 + d < K →
    symbolonref14_Cut.l0 K p l ((List.range j).map (ch p l)) ((6 * j : Nat) : Int) = some ((List.range ((l.length + 5) / 6)).map (ch p l)) := by
  intro d
  induction d with
  | zero =>
    intro j K h hK
    obtain ⟨K, rfl⟩ : ∃ k, K = k + 1 := ⟨K - 1, by omega⟩
    simp only [symbolonref14_Cut.l0]
    rw [if_neg (by omega), show j = (l.length + 5) / 6 by omega]
  | succ d ih =>
    intro j K h hK
    obtain ⟨K, rfl⟩ : ∃ k, K = k + 1 := ⟨K - 1, by omega⟩
    have hj6 : 6 * j < l.length := by omega
    have hM : j < 150 := by omega
    have hnext : (j + 1) + d = (l.length + 5) / 6 := by omega
    have hn := pc_len l j
    have hn1 : 1 ≤ (pc l j).length := by rw [hn]; omega
    have hn2 := pc_le6 l j
    have hn3 := pc_le l j (by omega)
    clear h hn
    have HN := Aside0.mk hnext
    clear hnext
    obtain ⟨m, hm⟩ : ∃ m, m = min (6 * j + 6) l.length := ⟨_, rfl⟩
    have e1 : wrap64 (((6 * j : Nat) : Int) + 6) = ((6 * j + 6 : Nat) : Int) := by clear hm; rw [w_id (by omega) (by omega)]; omega
    have e2 : wrap64 (p + ((6 * j : Nat) : Int)) = p + ((6 * j : Nat) : Int) := by clear hm; rw [w_id (by omega) (by omega)]
    have hm1 : 6 * j ≤ m := by omega
    have hm2 : m ≤ l.length := by omega
    have hp := cut_piece l j m hm
    have hput : symbolonref14_Put.f K (p + ((6 * j : Nat) : Int)) (pc l j) = some (ch p l j) := by
      clear hm hp
      rw [rput _ _ _ ⟨by omega, by omega⟩ (by omega)]
      unfold chunk_Put.f S.put ch
      rw [if_pos ⟨by omega, by omega, hn1, hn2, by omega⟩]
    simp only [symbolonref14_Cut.l0]
    rw [e1, mn_nat3, ← hm, e2, Int.toNat_natCast, Int.toNat_natCast, hp]
    clear hm hp
    rw [if_pos (by omega), if_pos (by omega), if_pos (by omega), if_pos (by omega), hput, Option.bind_some, if_pos (by rw [List.length_map, List.length_range]; omega)]
    have := ih (j + 1) K HN.out (by omega)
    rw [List.range_succ, List.map_append] at this
    exact this
theorem rcut (p : Int) (l : List Int) (k : Nat) (hp : -9223372036854775808 ≤ p ∧ p < 9223372036854775808) (h9 : l.length ≤ 900) (hk : 240 ≤ k) : ∃ c, chunk_Cut.f p l = some c ∧ symbolonref14_Cut.f k p l = some c ∧ c.length ≤ 150 := by
  obtain ⟨k, rfl⟩ : ∃ j, k = j + 1 := ⟨k - 1, by omega⟩
  unfold chunk_Cut.f S.cut symbolonref14_Cut.f
  by_cases c1 : p < 0
  · refine ⟨[], by rw [if_neg (by omega)], ?_, by simp⟩
    rw [if_pos c1]
    simp only [symbolonref14_Cut.j0, if_true]
  · rw [if_neg c1]
    by_cases c2 : p > 65535
    · refine ⟨[], by rw [if_neg (by omega)], ?_, by simp⟩
      rw [if_pos c2]
      simp only [symbolonref14_Cut.j0, if_true]
    · rw [if_neg c2, w_id (a := 65535 - p) (by omega) (by omega), w_id (by omega) (by omega)]
      by_cases c3 : (l.length : Int) > 65535 - p + 1
      · refine ⟨[], by rw [if_neg (by omega)], ?_, by simp⟩
        rw [decide_eq_true c3]
        simp only [symbolonref14_Cut.j0, if_true]
      · refine ⟨(List.range ((l.length + 5) / 6)).map (ch p l), ?_, ?_, by rw [List.length_map, List.length_range]; omega⟩
        · rw [if_pos ⟨by omega, by omega, by omega⟩, (cut_state2 p l (by omega) (by omega) (by omega) _ (Nat.le_refl _)).1]
        · rw [decide_eq_false c3]
          simp only [symbolonref14_Cut.j0]
          rw [if_neg (by decide)]
          exact rcut_l0 p l (by omega) (by omega) (by omega) h9 ((l.length + 5) / 6) 0 k (by omega) (by omega)
theorem rsame_loop (x : List (List Int)) (hl : x.length < 4611686018427387904) : ∀ (n i k : Nat), i + n = x.length → n < k → symbolonref14_Same.l0 k x x (i : Int) = some true
  | 0, i, k + 1, hi, hk => by
    simp only [symbolonref14_Same.l0]
    rw [if_neg (by omega)]
  | n + 1, i, k + 1, hi, hk => by
    simp only [symbolonref14_Same.l0]
    rw [if_pos (by omega), if_pos (by omega), if_pos (by omega), if_pos trivial, show wrap64 ((i : Int) + 1) = ((i + 1 : Nat) : Int) by rw [w_id (by omega) (by omega)]; omega]
    exact rsame_loop x hl n (i + 1) k (by omega) (by omega)
theorem rsame_self (x : List (List Int)) (k : Nat) (hl : x.length < 4611686018427387904) (hk : x.length < k) : symbolonref14_Same.f k x x = some true := by
  unfold symbolonref14_Same.f
  rw [if_pos rfl]
  exact rsame_loop x hl x.length 0 k (by omega) hk
end Go.Proofs.Ytfkgacjiccgdfaa.Pure
