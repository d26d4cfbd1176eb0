/-
The law TextNumbers, in plain lists of bytes: it answers yes to whatever is handed in.
-/
import Derived.Test.YtfjdlllmpgknpaaDoorBBase
import Derived.Test.YtfjdlllmpgknpaaDoorQ33
set_option linter.unusedSimpArgs false
set_option linter.unusedVariables false
namespace Go.Proofs.YtfjdlllmpgknpaaDoor.Pure
open Go.RowKit Go.Proofs.YtfjdlllmpgknpaaDoorW.PrintWords Go.Proofs.YtfjdlllmpgknpaaDoor.Q
theorem more_eq (n d : Nat) (h : n ≤ 99999) (hd : d < 256) : (((n * 10 + d % 10 : Nat) : Int) == wrap64 (wrap64 (10 * (n : Int)) + wrap64 (Int.tmod (d : Int) 10))) = true := by
  have e : Int.tmod (d : Int) 10 = ((d % 10 : Nat) : Int) := by
    rw [Int.tmod_eq_emod_of_nonneg (by omega)]
    rfl
  have h1 : ((d % 10 : Nat) : Int) < 10 := by omega
  rw [beq_iff_eq, e]
  generalize d % 10 = q at h1
  rw [w_id (a := 10 * (n : Int)) (by omega) (by omega), w_id (a := (q : Int)) (by omega) (by omega), w_id (by omega) (by omega)]
  omega
theorem TextNumbers : symbolonlaw03_TextNumbers.Pure := by
  intro a0 a1 a2 h0 h1 h2
  obtain ⟨K, hK⟩ := many 1000000
  have hb := bdi h0
  have hd := bd8 h2
  refine ⟨K + 1 + 1, ?_⟩
  unfold symbolonlaw03_TextNumbers.f
  rw [head_true _ (by omega), Option.bind_some]
  by_cases c : (a1.size : Int) > 3000
  · rw [if_pos c]
  · have hz : a1.size < 100000 := by omega
    have hsame : (getOf (tl a1)).2 = true → ((numOf (getOf (tl a1)).1).toList != a1.toList) = false := by
      intro hg
      rw [toList_tl, toList_tl, num_get a1 hg]
      simp
    rw [if_neg c, Number_is, Option.bind_some]
    by_cases ci : 0 ≤ a0 ∧ a0 ≤ 999999
    · obtain ⟨n, rfl⟩ := Int.eq_ofNat_of_zero_le ci.1
      obtain ⟨g1, g2, g3⟩ := get_num n (by omega)
      have hsz : (numOf (n : Int)).size ≤ 6 := by
        rw [tl_size, g2]
        exact (dec_facts 6 n (by have : (10 : Nat) ^ 6 = 1000000 := rfl; omega) (by decide)).2.2.1
      have last : symbolonlaw03_TextNumbers.j1 (K + 1) (n : Int) a2 true (numOf (n : Int)) false = some true := by
        simp only [symbolonlaw03_TextNumbers.j1]
        rw [if_neg (by simp)]
        by_cases c1 : (n : Int) < 1
        · rw [if_pos c1]
        · rw [if_neg c1]
          by_cases c2 : (n : Int) > 99999
          · rw [if_pos c2]
          · obtain ⟨d, rfl⟩ := Int.eq_ofNat_of_zero_le hd.1
            have e : (48 + Int.tmod (d : Int) 10) % 256 = ((48 + d % 10 : Nat) : Int) := by
              rw [Int.tmod_eq_emod_of_nonneg (by omega)]
              omega
            have t : tl (strOfNums [(48 + Int.tmod (d : Int) 10) % 256]) = [UInt8.ofNat (48 + d % 10)] := by
              rw [strOf_one _ (by rw [e]; omega) (by rw [e]; omega), e, Int.toNat_natCast]
            have ts : (strOfNums [(48 + Int.tmod (d : Int) 10) % 256]).size = 1 := rfl
            have m := get_more n (d % 10) (by omega) (by omega) (by omega)
            rw [if_neg c2, Option.bind_some, if_pos (by omega), Get_is _ (by rw [append_size]; omega), tl_append, t, g2, m, Option.bind_some]
            simp only []
            rw [if_pos trivial, if_pos trivial]
            congr 1
            exact more_eq n d (by omega) (by omega)
      have hne : ((numOf (n : Int)).toList != ([] : List UInt8)) = true := by
        rw [toList_tl, g2, bne_iff_ne]
        exact g3.1
      rw [Get_is _ (by omega), g1, Option.bind_some, Get_is _ hz, Option.bind_some, if_pos ci.1, decide_eq_true ci.2]
      simp only [symbolonlaw03_TextNumbers.j0]
      rw [hne, if_neg (by simp), if_neg (by simp), if_pos trivial, if_pos trivial]
      by_cases cg : (getOf (tl a1)).2 = true
      · rw [if_pos cg, Number_is, Option.bind_some, hsame cg]
        exact last
      · rw [if_neg cg]
        exact last
    · have last : symbolonlaw03_TextNumbers.j1 (K + 1) a0 a2 true (numOf a0) false = some true := by
        simp only [symbolonlaw03_TextNumbers.j1]
        rw [if_neg (by simp)]
        by_cases c1 : a0 < 1
        · rw [if_pos c1]
        · rw [if_neg c1, if_pos (by omega)]
      have hne : ((numOf a0).toList != ([] : List UInt8)) = false := by
        rw [num_out a0 ci, toList_tl]
        rfl
      have hj : symbolonlaw03_TextNumbers.j0 (K + 1 + 1) a0 a1 a2 true (numOf a0) 0 false (getOf (tl a1)).1 (getOf (tl a1)).2 false = some true := by
        simp only [symbolonlaw03_TextNumbers.j0]
        rw [hne, if_neg (by simp), if_neg (by simp), if_neg (by simp)]
        by_cases cg : (getOf (tl a1)).2 = true
        · rw [if_pos cg, Number_is, Option.bind_some, hsame cg]
          exact last
        · rw [if_neg cg]
          exact last
      have hg : getOf (tl (numOf a0)) = (0, false) := by rw [num_out a0 ci, get_empty]
      have hs0 : (numOf a0).size = 0 := by rw [num_out a0 ci]; rfl
      rw [Get_is _ (by omega), hg, Option.bind_some, Get_is _ hz, Option.bind_some]
      by_cases c0 : a0 ≥ 0
      · rw [if_pos c0, decide_eq_false (by omega)]
        exact hj
      · rw [if_neg c0]
        exact hj
end Go.Proofs.YtfjdlllmpgknpaaDoor.Pure
