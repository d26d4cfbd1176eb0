/-
What the loops of layer 12's rows come to, round by round: sums, products, rows of triples, openings and closings, place by place. Conditions: rows of at most 2^40 places, more rounds than places.
-/
import Derived.Test.YtgbabmenfegepaaQ7
import Derived.Test.YtgbabmenfegepaaQ8
import Derived.Test.YtgbabmenfegepaaQ9
import Derived.Test.YtgbabmenfegepaaQ21
import Derived.Test.YtgbabmenfegepaaQ22
import Derived.Test.YtgbabmenfegepaaQ23
import Derived.Test.YtgbabmenfegepaaBNum
set_option linter.unusedSimpArgs false
namespace Go.Proofs.Ytgbabmenfegepaa.Pure
open Go.RowKit Go.Proofs.YtgbabmenfegepaaW.PrintWords Go.Proofs.Ytgbabmenfegepaa.Q Go.Proofs.Ytgbabmenfegepaa.Num

theorem w64 {i : Nat} (h : i < 1099511627776) : wrap64 ((i : Int) + 1) = ((i + 1 : Nat) : Int) := by
  unfold wrap64
  omega
theorem mn_nat (a b : Nat) : mn (a : Int) (b : Int) = ((min a b : Nat) : Int) := by
  unfold mn
  split <;> omega
theorem range_step (i d : Nat) {α : Type} (g : Nat → α) : (List.range' i (d + 1)).map g = g i :: (List.range' (i + 1) d).map g := by
  rw [List.range'_succ, List.map_cons]
theorem add_loop (a b : List Int) (m : Nat) (hm : m = min a.length b.length) (hb : m < 1099511627776) : ∀ (d k i : Nat) (acc : List Int), i + d = m → acc.length = i → d < k →
    symbolonref01_Add.l0 k a b acc (i : Int) = some (acc ++ (List.range' i d).map fun j : Nat => IntKind.u64.wrap (rd a (j : Int) + rd b (j : Int))) := by
  intro d
  induction d with
  | zero =>
    intro k i acc hi _ hk
    obtain ⟨k, rfl⟩ : ∃ m, k = m + 1 := ⟨k - 1, by omega⟩
    simp only [symbolonref01_Add.l0, mn_nat]
    rw [if_neg (by omega)]
    simp
  | succ d ih =>
    intro k i acc hi ha hk
    obtain ⟨k, rfl⟩ : ∃ m, k = m + 1 := ⟨k - 1, by omega⟩
    simp only [symbolonref01_Add.l0, mn_nat]
    rw [if_pos (by omega), if_pos (by omega), if_pos (by omega), if_pos (by omega), if_pos (by omega), w64 (by omega), ih k (i + 1) _ (by omega) (by simp [ha]) (by omega), range_step]
    simp
theorem mul_loop (a b : List Int) (m : Nat) (hm : m = min a.length b.length) (hb : m < 1099511627776) : ∀ (d k i : Nat) (acc : List Int), i + d = m → acc.length = i → d < k →
    symbolonref01_Mul.l0 k a b acc (i : Int) = some (acc ++ (List.range' i d).map fun j : Nat => IntKind.u64.wrap (rd a (j : Int) * rd b (j : Int))) := by
  intro d
  induction d with
  | zero =>
    intro k i acc hi _ hk
    obtain ⟨k, rfl⟩ : ∃ m, k = m + 1 := ⟨k - 1, by omega⟩
    simp only [symbolonref01_Mul.l0, mn_nat]
    rw [if_neg (by omega)]
    simp
  | succ d ih =>
    intro k i acc hi ha hk
    obtain ⟨k, rfl⟩ : ∃ m, k = m + 1 := ⟨k - 1, by omega⟩
    simp only [symbolonref01_Mul.l0, mn_nat]
    rw [if_pos (by omega), if_pos (by omega), if_pos (by omega), if_pos (by omega), if_pos (by omega), w64 (by omega), ih k (i + 1) _ (by omega) (by simp [ha]) (by omega), range_step]
    simp
theorem add_tells (a b : List Int) (k : Nat) (hb : min a.length b.length < 1099511627776) (hk : min a.length b.length < k) :
    symbolonref01_Add.f k a b = some ((List.range (min a.length b.length)).map fun j : Nat => IntKind.u64.wrap (rd a (j : Int) + rd b (j : Int))) := by
  have h := add_loop a b _ rfl hb (min a.length b.length) k 0 [] (by omega) rfl hk
  rw [List.range_eq_range']
  exact h
theorem mul_tells (a b : List Int) (k : Nat) (hb : min a.length b.length < 1099511627776) (hk : min a.length b.length < k) :
    symbolonref01_Mul.f k a b = some ((List.range (min a.length b.length)).map fun j : Nat => IntKind.u64.wrap (rd a (j : Int) * rd b (j : Int))) := by
  have h := mul_loop a b _ rfl hb (min a.length b.length) k 0 [] (by omega) rfl hk
  rw [List.range_eq_range']
  exact h
theorem same_loop (a : List Int) (hb : a.length < 1099511627776) : ∀ (d k i : Nat), i + d = a.length → d < k → symbolonref01_Same.l0 k a a (i : Int) = some true := by
  intro d
  induction d with
  | zero =>
    intro k i hi hk
    obtain ⟨k, rfl⟩ : ∃ m, k = m + 1 := ⟨k - 1, by omega⟩
    simp only [symbolonref01_Same.l0]
    rw [if_neg (by omega)]
  | succ d ih =>
    intro k i hi hk
    obtain ⟨k, rfl⟩ : ∃ m, k = m + 1 := ⟨k - 1, by omega⟩
    simp only [symbolonref01_Same.l0]
    rw [if_pos (by omega), if_pos (by omega), if_pos (by omega)]
    first | rw [if_pos rfl] | rw [if_pos trivial] | simp only [if_true]
    rw [w64 (by omega), ih k (i + 1) (by omega) (by omega)]
theorem same_tells (a : List Int) (k : Nat) (hb : a.length < 1099511627776) (hk : a.length < k) : symbolonref01_Same.f k a a = some true := by
  unfold symbolonref01_Same.f
  rw [if_pos rfl]
  exact same_loop a hb a.length k 0 (by omega) hk

theorem num_some' (a i : Int) : ∃ r, symbolonref09_Number.f a i = some r := by
  unfold symbolonref09_Number.f symbolonref09_shift.f
  simp
theorem half_some (seed who i : Int) : ∃ a b c, symbolonref11_Half.f seed who i = some (a, b, c) := by
  unfold symbolonref11_Half.f
  obtain ⟨p, hp⟩ := num_some' seed (IntKind.u64.wrap (5 * i))
  obtain ⟨q, hq⟩ := num_some' seed (IntKind.u64.wrap ((IntKind.u64.wrap (5 * i)) + 1))
  obtain ⟨r, hr⟩ := num_some' seed (IntKind.u64.wrap ((IntKind.u64.wrap (5 * i)) + 2))
  obtain ⟨s, hs⟩ := num_some' seed (IntKind.u64.wrap ((IntKind.u64.wrap (5 * i)) + 3))
  obtain ⟨t, ht⟩ := num_some' seed (IntKind.u64.wrap ((IntKind.u64.wrap (5 * i)) + 4))
  rw [hp, hq, hr, hs, ht]
  simp only [Option.bind_some]
  split
  · exact ⟨_, _, _, rfl⟩
  · exact ⟨_, _, _, rfl⟩
/-- The dealer's triple at place j, of one party. -/
def tri (seed who : Int) (j : Nat) : S24 := match symbolonref11_Half.f seed who (IntKind.u64.wrap (0 + IntKind.u64.wrap (j : Int))) with
  | some (a, b, c) => ⟨a, b, c⟩
  | none => z24
theorem tri_tells (seed who : Int) (j : Nat) : symbolonref11_Half.f seed who (IntKind.u64.wrap (0 + IntKind.u64.wrap (j : Int))) = some ((tri seed who j).f0, (tri seed who j).f1, (tri seed who j).f2) := by
  obtain ⟨a, b, c, h⟩ := half_some seed who (IntKind.u64.wrap (0 + IntKind.u64.wrap (j : Int)))
  unfold tri
  rw [h]
theorem row_loop (seed who : Int) (m : Nat) (hb : m ≤ 4096) : ∀ (d k i : Nat) (acc : List S24), i + d = m → acc.length = i → d < k →
    symbolonref11_Row.l0 k seed who 0 (m : Int) acc (i : Int) = some (acc ++ (List.range' i d).map (tri seed who)) := by
  intro d
  induction d with
  | zero =>
    intro k i acc hi _ hk
    obtain ⟨k, rfl⟩ : ∃ m, k = m + 1 := ⟨k - 1, by omega⟩
    simp only [symbolonref11_Row.l0]
    rw [if_neg (by omega)]
    simp
  | succ d ih =>
    intro k i acc hi ha hk
    obtain ⟨k, rfl⟩ : ∃ m, k = m + 1 := ⟨k - 1, by omega⟩
    simp only [symbolonref11_Row.l0]
    rw [if_pos (by omega), if_pos (by omega), tri_tells]
    simp only [Option.bind_some]
    rw [if_pos (by omega), w64 (by omega), ih k (i + 1) _ (by omega) (by simp [ha]) (by omega), range_step]
    simp
theorem row_tells (seed who : Int) (m k : Nat) (hb : m ≤ 4096) (hk : m < k) : symbolonref11_Row.f k seed who 0 (m : Int) = some ((List.range m).map (tri seed who)) := by
  have h := row_loop seed who m hb m k 0 [] (by omega) rfl hk
  rw [List.range_eq_range']
  exact h

theorem set_mid {α : Type} (pre rest : List α) (r x : α) (i : Nat) (h : pre.length = i) : (pre ++ r :: rest).set i x = (pre ++ [x]) ++ rest := by
  subst h
  rw [List.set_append_right _ _ (Nat.le_refl _)]
  simp
/-- What is opened at place j. -/
def opn (x y : List Int) (t : List S24) (j : Nat) : S26 := ⟨IntKind.u64.wrap (rd x (j : Int) - (rd_T24 t (j : Int)).f0), IntKind.u64.wrap (rd y (j : Int) - (rd_T24 t (j : Int)).f1)⟩
theorem opens_loop (x y : List Int) (t : List S24) (m : Nat) (hm : m = min (min x.length y.length) t.length) (hb : m < 1099511627776) : ∀ (d k i : Nat) (pre rest : List S26), i + d = m → pre.length = i → rest.length = d → d < k →
    beaver_Opens.l0 k x y t (pre ++ rest) (m : Int) (i : Int) = some (pre ++ (List.range' i d).map (opn x y t)) := by
  intro d
  induction d with
  | zero =>
    intro k i pre rest hi _ hr hk
    obtain ⟨k, rfl⟩ : ∃ m, k = m + 1 := ⟨k - 1, by omega⟩
    obtain rfl := List.eq_nil_of_length_eq_zero hr
    simp only [beaver_Opens.l0]
    rw [if_neg (by omega)]
    simp
  | succ d ih =>
    intro k i pre rest hi hp hr hk
    obtain ⟨k, rfl⟩ : ∃ m, k = m + 1 := ⟨k - 1, by omega⟩
    obtain ⟨r, rest, rfl⟩ : ∃ r l, rest = r :: l := by
      cases rest with
      | nil => simp at hr
      | cons r l => exact ⟨r, l, rfl⟩
    have hl : (pre ++ r :: rest).length = m := by simp at hr ⊢; omega
    simp only [beaver_Opens.l0]
    rw [if_pos (by omega), if_pos (by omega), if_pos (by omega), if_pos (by omega), if_pos (by omega)]
    simp only [beaver_Open.f, beaver_mask_of.f, Option.bind_some]
    rw [if_pos (by omega), w64 (by omega), Int.toNat_natCast, set_mid _ _ _ _ _ hp, ih k (i + 1) _ _ (by omega) (by simp [hp]) (by simpa using hr) (by omega), range_step]
    simp [opn]
theorem opens_tells (x y : List Int) (t : List S24) (k : Nat) (hb : min (min x.length y.length) t.length < 1099511627776) (hk : min (min x.length y.length) t.length < k) :
    beaver_Opens.f k x y t = some ((List.range (min (min x.length y.length) t.length)).map (opn x y t)) := by
  have h := opens_loop x y t _ rfl hb (min (min x.length y.length) t.length) k 0 [] (List.replicate (min (min x.length y.length) t.length) z26) (by omega) rfl (by simp) hk
  rw [List.range_eq_range']
  unfold beaver_Opens.f
  rw [mn_nat, mn_nat, if_pos (by omega), Int.toNat_natCast, if_pos (by omega)]
  simp only [Option.bind_some, List.length_replicate]
  exact h
/-- What a party closes at place j. -/
def cls (who : Int) (o : List S26) (t : List S24) (j : Nat) : Int := IntKind.u64.wrap
  ((rd_T24 t (j : Int)).f2 + (rd_T26 o (j : Int)).f0 * (rd_T24 t (j : Int)).f1 + (rd_T26 o (j : Int)).f1 * (rd_T24 t (j : Int)).f0 + (if who = 0 then (rd_T26 o (j : Int)).f0 * (rd_T26 o (j : Int)).f1 else 0))
theorem close_tells (who d e a b c : Int) : beaver_Close.f who d e a b c = some (IntKind.u64.wrap (c + d * b + e * a + (if who = 0 then d * e else 0))) := by
  unfold beaver_Close.f beaver_gate_part.f
  simp only [Option.bind_some]
  split
  · simp only [w_add_l, w_add_r, w_mul_l, w_mul_r, w_w, Option.some.injEq]
  · simp only [w_add_l, w_add_r, w_mul_l, w_mul_r, w_w, Option.some.injEq, Int.add_zero]
theorem closes_loop (who : Int) (o : List S26) (t : List S24) (m : Nat) (hm : m = min o.length t.length) (hb : m < 1099511627776) : ∀ (d k i : Nat) (pre rest : List Int), i + d = m → pre.length = i → rest.length = d → d < k →
    beaver_Closes.l0 k who o t (pre ++ rest) (m : Int) (i : Int) = some (pre ++ (List.range' i d).map (cls who o t)) := by
  intro d
  induction d with
  | zero =>
    intro k i pre rest hi _ hr hk
    obtain ⟨k, rfl⟩ : ∃ m, k = m + 1 := ⟨k - 1, by omega⟩
    obtain rfl := List.eq_nil_of_length_eq_zero hr
    simp only [beaver_Closes.l0]
    rw [if_neg (by omega)]
    simp
  | succ d ih =>
    intro k i pre rest hi hp hr hk
    obtain ⟨k, rfl⟩ : ∃ m, k = m + 1 := ⟨k - 1, by omega⟩
    obtain ⟨r, rest, rfl⟩ : ∃ r l, rest = r :: l := by
      cases rest with
      | nil => simp at hr
      | cons r l => exact ⟨r, l, rfl⟩
    have hl : (pre ++ r :: rest).length = m := by simp at hr ⊢; omega
    simp only [beaver_Closes.l0]
    rw [if_pos (by omega), if_pos (by omega), if_pos (by omega), if_pos (by omega), close_tells]
    simp only [Option.bind_some]
    rw [if_pos (by omega), w64 (by omega), Int.toNat_natCast, set_mid _ _ _ _ _ hp, ih k (i + 1) _ _ (by omega) (by simp [hp]) (by simpa using hr) (by omega), range_step]
    simp [cls]
theorem closes_tells (who : Int) (o : List S26) (t : List S24) (k : Nat) (hb : min o.length t.length < 1099511627776) (hk : min o.length t.length < k) :
    beaver_Closes.f k who o t = some ((List.range (min o.length t.length)).map (cls who o t)) := by
  have h := closes_loop who o t _ rfl hb (min o.length t.length) k 0 [] (List.replicate (min o.length t.length) 0) (by omega) rfl (by simp) hk
  rw [List.range_eq_range']
  unfold beaver_Closes.f
  rw [mn_nat, if_pos (by omega), Int.toNat_natCast, if_pos (by omega)]
  simp only [Option.bind_some, List.length_replicate]
  exact h
end Go.Proofs.Ytgbabmenfegepaa.Pure
