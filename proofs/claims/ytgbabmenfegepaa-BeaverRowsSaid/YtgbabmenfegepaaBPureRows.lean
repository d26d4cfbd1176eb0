/-
The plain law of BeaverRows: rows are opened and closed place by place, as many as the shortest has; both parties' rows sum up to the products. Rows of at most 900 numbers (else the law asks nothing), numbers below 2^64.
-/
import Derived.Test.YtgbabmenfegepaaQ24
import Derived.Test.YtgbabmenfegepaaBLoops
import Derived.Test.YtgbabmenfegepaaBHead
set_option linter.unusedSimpArgs false
namespace Go.Proofs.Ytgbabmenfegepaa.Pure
open Go.RowKit Go.Proofs.YtgbabmenfegepaaW.PrintWords Go.Proofs.Ytgbabmenfegepaa.Q Go.Proofs.Ytgbabmenfegepaa.Num

theorem rd_map (n : Nat) (f : Nat → Int) (j : Nat) (h : j < n) : rd ((List.range n).map f) (j : Int) = f j := by
  unfold rd
  simp [List.getD_eq_getElem?_getD, h]
theorem rd24_map (n : Nat) (f : Nat → S24) (j : Nat) (h : j < n) : rd_T24 ((List.range n).map f) (j : Int) = f j := by
  unfold rd_T24
  simp [List.getD_eq_getElem?_getD, h]
theorem rd26_map (n : Nat) (f : Nat → S26) (j : Nat) (h : j < n) : rd_T26 ((List.range n).map f) (j : Int) = f j := by
  unfold rd_T26
  simp [List.getD_eq_getElem?_getD, h]
theorem rd_take (x : List Int) (n j : Nat) (h : j < n) : rd (x.take n) (j : Int) = rd x (j : Int) := by
  unfold rd
  simp [List.getD_eq_getElem?_getD, List.getElem?_take, h]
/-- What both parties say at place j. -/
def said (a b : List S26) (j : Nat) : S26 := ⟨IntKind.u64.wrap ((rd_T26 a (j : Int)).f0 + (rd_T26 b (j : Int)).f0), IntKind.u64.wrap ((rd_T26 a (j : Int)).f1 + (rd_T26 b (j : Int)).f1)⟩
/-- Both parts of a dealer's triple: the third number is the product of the others. -/
theorem deal (seed : Int) (j : Nat) : (tri seed 1 j).f2 = IntKind.u64.wrap (((tri seed 0 j).f0 + (tri seed 1 j).f0) * ((tri seed 0 j).f1 + (tri seed 1 j).f1) - (tri seed 0 j).f2) := by
  have h0 := tri_tells seed 0 j
  have h1 := tri_tells seed 1 j
  generalize IntKind.u64.wrap (0 + IntKind.u64.wrap (j : Int)) = i at h0 h1
  unfold symbolonref11_Half.f at h0 h1
  obtain ⟨p, hp⟩ := num_some' seed (IntKind.u64.wrap (5 * i))
  obtain ⟨q, hq⟩ := num_some' seed (IntKind.u64.wrap ((IntKind.u64.wrap (5 * i)) + 1))
  obtain ⟨r, hr⟩ := num_some' seed (IntKind.u64.wrap ((IntKind.u64.wrap (5 * i)) + 2))
  obtain ⟨s, hs⟩ := num_some' seed (IntKind.u64.wrap ((IntKind.u64.wrap (5 * i)) + 3))
  obtain ⟨t, ht⟩ := num_some' seed (IntKind.u64.wrap ((IntKind.u64.wrap (5 * i)) + 4))
  rw [hp, hq, hr, hs, ht] at h0 h1
  simp only [Option.bind_some, if_true, if_neg (show ¬ ((1 : Int) = 0) by omega), Option.some.injEq, Prod.mk.injEq] at h0 h1
  obtain ⟨a1, a2, a3⟩ := h0
  obtain ⟨b1, b2, b3⟩ := h1
  rw [← a1, ← a2, ← a3, ← b1, ← b2, ← b3]
  refine w_of_B ?_
  simp only [B_wrap, B_add, B_mul, B_sub]

theorem main_loop (x u y v : List Int) (up : Bool) (n : Nat) (s t : List S24) (a b : List S26) (hn : n ≤ 900) (hx : n ≤ x.length) (hu : n ≤ u.length) (hy : n ≤ y.length) (hv : n ≤ v.length) (hs : s.length = n) (ht : t.length = n)
    (ha : a = (List.range n).map (opn x y s)) (hb : b = (List.range n).map (opn u v t)) : ∀ (d k i : Nat) (acc : List S26), i + d = n → acc.length = i → acc = (List.range i).map (said a b) →
    ∀ r, symbolonlaw12_BeaverRows.l0 (k + 1) x u y v up (n : Int) s t a b ((List.range n).map (said a b)) (n : Int) = some r →
    symbolonlaw12_BeaverRows.l0 (k + 1 + d) x u y v up (n : Int) s t a b acc (i : Int) = some r := by
  have hal : a.length = n := by rw [ha]; simp
  have hbl : b.length = n := by rw [hb]; simp
  intro d
  induction d with
  | zero =>
    intro k i acc hi _ he r h
    obtain rfl : i = n := by omega
    rw [he]
    exact h
  | succ d ih =>
    intro k i acc hi hl he r h
    have hstep := ih k (i + 1) (acc ++ [said a b i]) (by omega) (by simp [hl]) (by rw [he, List.range_succ, List.map_append]; rfl) r h
    rw [show k + 1 + (d + 1) = (k + 1 + d) + 1 by omega]
    simp only [symbolonlaw12_BeaverRows.l0]
    rw [if_pos (by omega), if_pos (by omega), if_pos (by omega), if_pos (by omega), if_pos (by omega), if_pos (by omega)]
    have ea : rd_T26 a (i : Int) = opn x y s i := by rw [ha]; exact rd26_map n _ i (by omega)
    simp only [beaver_Open.f, beaver_mask_of.f, Option.bind_some]
    rw [if_neg (by rw [ea]; simp [opn]), if_pos (by omega)]
    simp only [beaver_Sum.f, Option.bind_some]
    rw [if_pos (by omega), w64 (by omega)]
    exact hstep

theorem BeaverRows : symbolonlaw12_BeaverRows.Pure := by
  intro x u y v seed _ _ hx _ _ hu _ _ hy _ _ hv _
  by_cases hbig : x.length > 900 ∨ u.length > 900 ∨ y.length > 900 ∨ v.length > 900
  · refine ⟨20, ?_⟩
    unfold symbolonlaw12_BeaverRows.f
    rw [head_true 20 (by omega)]
    simp only [Option.bind_some]
    have done : ∀ n : Int, symbolonlaw12_BeaverRows.j0 20 x u y v seed true n true = some true := fun n => by simp only [symbolonlaw12_BeaverRows.j0, if_true]
    by_cases c1 : (x.length : Int) > 900
    · rw [if_pos c1, done]
    rw [if_neg c1]
    by_cases c2 : (u.length : Int) > 900
    · rw [if_pos c2, done]
    rw [if_neg c2]
    by_cases c3 : (y.length : Int) > 900
    · rw [if_pos c3, done]
    rw [if_neg c3, show decide ((v.length : Int) > 900) = true from decide_eq_true (by omega), done]
  · simp only [not_or] at hbig
    obtain ⟨b1, b2, b3, b4⟩ := hbig
    obtain ⟨n, hn⟩ : ∃ n, n = min (min (min x.length u.length) y.length) v.length := ⟨_, rfl⟩
    refine ⟨3000, ?_⟩
    unfold symbolonlaw12_BeaverRows.f
    rw [head_true 3000 (by omega), mn_nat, mn_nat, mn_nat, ← hn]
    simp only [Option.bind_some]
    rw [if_neg (by omega), if_neg (by omega), if_neg (by omega), show decide ((v.length : Int) > 900) = false from decide_eq_false (by omega)]
    rw [show (3000 : Nat) = 2999 + 1 from rfl]
    simp only [symbolonlaw12_BeaverRows.j0]
    rw [if_neg (by decide), row_tells seed 0 n 2999 (by omega) (by omega), row_tells seed 1 n 2999 (by omega) (by omega)]
    simp only [Option.bind_some]
    obtain ⟨s, hs⟩ : ∃ s, s = (List.range n).map (tri seed 0) := ⟨_, rfl⟩
    obtain ⟨t, ht⟩ : ∃ t, t = (List.range n).map (tri seed 1) := ⟨_, rfl⟩
    rw [← hs, ← ht]
    have hsl : s.length = n := by rw [hs]; simp
    have htl : t.length = n := by rw [ht]; simp
    have m1 : min (min x.length y.length) s.length = n := by omega
    have m2 : min (min u.length v.length) t.length = n := by omega
    rw [opens_tells x y s 2999 (by omega) (by omega), opens_tells u v t 2999 (by omega) (by omega), m1, m2]
    simp only [Option.bind_some]
    have n1 : n ≤ x.length := by omega
    have n2 : n ≤ u.length := by omega
    have n3 : n ≤ y.length := by omega
    have n4 : n ≤ v.length := by omega
    have n9 : n ≤ 900 := by omega
    clear hn m1 m2
    obtain ⟨a, ha⟩ : ∃ a, a = (List.range n).map (opn x y s) := ⟨_, rfl⟩
    obtain ⟨b, hb⟩ : ∃ b, b = (List.range n).map (opn u v t) := ⟨_, rfl⟩
    rw [← ha, ← hb]
    have hal : a.length = n := by rw [ha]; simp
    have hbl : b.length = n := by rw [hb]; simp
    rw [if_pos (by omega), show ((b.length : Int) != (n : Int)) = false from by rw [hbl]; simp]
    rw [show (2999 : Nat) = 2998 + 1 from rfl]
    simp only [symbolonlaw12_BeaverRows.j1]
    rw [if_neg (by decide), show (2998 : Nat) = (2997 - n) + 1 + n by omega]
    refine main_loop x u y v true n s t a b (by omega) (by omega) (by omega) (by omega) (by omega) hsl htl ha hb n (2997 - n) 0 [] (by omega) rfl (by simp) true ?_
    simp only [symbolonlaw12_BeaverRows.l0]
    obtain ⟨o, ho⟩ : ∃ o, o = (List.range n).map (said a b) := ⟨_, rfl⟩
    rw [← ho]
    have hol : o.length = n := by rw [ho]; simp
    obtain ⟨k, hk⟩ : ∃ k, k = 2997 - n := ⟨_, rfl⟩
    rw [← hk]
    have nk : n < k := by omega
    have nb : n < 1099511627776 := by omega
    have mo1 : min o.length s.length = n := by rw [hol, hsl, Nat.min_self]
    have mo2 : min o.length t.length = n := by rw [hol, htl, Nat.min_self]
    have c0 := closes_tells 0 o s k (by rw [mo1]; exact nb) (by rw [mo1]; exact nk)
    have c1 := closes_tells 1 o t k (by rw [mo2]; exact nb) (by rw [mo2]; exact nk)
    have c2 := closes_tells 0 o [] k (by simp) (by simp; exact Nat.lt_of_le_of_lt (Nat.zero_le _) nk)
    rw [mo1] at c0
    rw [mo2] at c1
    rw [if_neg (Int.lt_irrefl _), c0]
    simp only [Option.bind_some, if_true]
    rw [c1]
    simp only [Option.bind_some, if_true]
    obtain ⟨p, hp⟩ : ∃ p, p = (List.range n).map (cls 0 o s) := ⟨_, rfl⟩
    obtain ⟨q, hq⟩ : ∃ q, q = (List.range n).map (cls 1 o t) := ⟨_, rfl⟩
    rw [← hp, ← hq]
    have hpl : p.length = n := by rw [hp]; simp
    have hql : q.length = n := by rw [hq]; simp
    have mpq : min p.length q.length = n := by rw [hpl, hql, Nat.min_self]
    rw [add_tells p q k (by rw [mpq]; exact nb) (by rw [mpq]; exact nk), mpq]
    simp only [Option.bind_some]
    rw [if_pos (Int.natCast_nonneg n), if_pos (Int.ofNat_le.2 n1), if_pos (Int.ofNat_le.2 n2), Int.toNat_natCast]
    have mxu : min (x.take n).length (u.take n).length = n := by rw [List.length_take, List.length_take, Nat.min_eq_left n1, Nat.min_eq_left n2, Nat.min_self]
    have myv : min (y.take n).length (v.take n).length = n := by rw [List.length_take, List.length_take, Nat.min_eq_left n3, Nat.min_eq_left n4, Nat.min_self]
    rw [add_tells (x.take n) (u.take n) k (by rw [mxu]; exact nb) (by rw [mxu]; exact nk), mxu]
    simp only [Option.bind_some]
    rw [if_pos (Int.ofNat_le.2 n3), if_pos (Int.ofNat_le.2 n4), add_tells (y.take n) (v.take n) k (by rw [myv]; exact nb) (by rw [myv]; exact nk), myv]
    simp only [Option.bind_some]
    have mm : ∀ f g : Nat → Int, min ((List.range n).map f).length ((List.range n).map g).length = n := fun f g => by simp
    rw [mul_tells _ _ k (by rw [mm]; exact nb) (by rw [mm]; exact nk), mm]
    simp only [Option.bind_some]
    have key : ((List.range n).map fun j : Nat => IntKind.u64.wrap (rd ((List.range n).map fun j : Nat => IntKind.u64.wrap (rd (x.take n) (j : Int) + rd (u.take n) (j : Int))) (j : Int) * rd ((List.range n).map fun j : Nat => IntKind.u64.wrap (rd (y.take n) (j : Int) + rd (v.take n) (j : Int))) (j : Int)))
        = (List.range n).map fun j : Nat => IntKind.u64.wrap (rd p (j : Int) + rd q (j : Int)) := by
      apply List.map_congr_left
      intro j hj
      have hj : j < n := by simpa using hj
      rw [rd_map n _ j hj, rd_map n _ j hj, hp, hq, rd_map n _ j hj, rd_map n _ j hj, rd_take _ _ _ hj, rd_take _ _ _ hj, rd_take _ _ _ hj, rd_take _ _ _ hj]
      unfold cls
      rw [ho, rd26_map n _ j hj, hs, ht, rd24_map n _ j hj, rd24_map n _ j hj]
      unfold said
      rw [ha, hb, rd26_map n _ j hj, rd26_map n _ j hj]
      unfold opn
      rw [hs, ht, rd24_map n _ j hj, rd24_map n _ j hj, deal]
      simp only [if_true, if_neg (show ¬ ((1 : Int) = 0) by omega)]
      refine w_of_B ?_
      simp only [B_wrap, B_add, B_mul, B_sub]
      generalize B (rd x (j : Int)) = X
      generalize B (rd u (j : Int)) = U
      generalize B (rd y (j : Int)) = Y
      generalize B (rd v (j : Int)) = V
      generalize B (tri seed 0 j).f0 = S0
      generalize B (tri seed 0 j).f1 = S1
      generalize B (tri seed 0 j).f2 = S2
      generalize B (tri seed 1 j).f0 = T0
      generalize B (tri seed 1 j).f1 = T1
      have hz : B 0 = 0 := rfl
      rw [hz]
      grind
    rw [key, same_tells _ k (by simp; exact nb) (by simp; exact nk)]
    simp only [Option.bind_some, if_true]
    rw [if_pos (by rw [hpl]), if_pos (by rw [hql]), c2]
    simp
end Go.Proofs.Ytgbabmenfegepaa.Pure
