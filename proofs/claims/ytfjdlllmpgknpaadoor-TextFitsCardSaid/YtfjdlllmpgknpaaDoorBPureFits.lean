/-
The law TextFits, in plain lists of bytes: it answers yes to whatever is handed in.
-/
import Derived.Test.YtfjdlllmpgknpaaDoorBBase
import Derived.Test.YtfjdlllmpgknpaaDoorQ37
set_option linter.unusedSimpArgs false
set_option linter.unusedVariables false
namespace Go.Proofs.YtfjdlllmpgknpaaDoor.Pure
open Go.RowKit Go.Proofs.YtfjdlllmpgknpaaDoorW.PrintWords Go.Proofs.YtfjdlllmpgknpaaDoor.Q
theorem TextFits : symbolonlaw03_TextFits.Pure := by
  intro a0 a1 a2 h0 h1 h2
  obtain ⟨K, hK⟩ := many 1000000
  have hd := bd8 h1
  have skip : symbolonlaw03_TextFits.j0 (K + 1) a0 a1 a2 true true = some true := by
    simp only [symbolonlaw03_TextFits.j0]
    rw [if_pos trivial]
  refine ⟨K + 1, ?_⟩
  unfold symbolonlaw03_TextFits.f
  rw [head_true _ (by omega), Option.bind_some]
  by_cases c : (a0.size : Int) > 3000
  · rw [if_pos c]
    exact skip
  · rw [if_neg c]
    by_cases c1 : (a2.size : Int) > 3000
    · rw [decide_eq_true c1]
      exact skip
    · rw [decide_eq_false c1]
      obtain ⟨n, rfl⟩ := Int.eq_ofNat_of_zero_le hd.1
      have ts : (strOfNums [(n : Int)]).size = 1 := rfl
      have tt : tl (strOfNums [(n : Int)]) = [UInt8.ofNat n] := by
        rw [strOf_one _ (by omega) (by omega), Int.toNat_natCast]
      have tn : (UInt8.ofNat n).toNat = n := by
        show n % 256 = n
        omega
      have hm : UInt8.ofNat n ∈ tl ((a0 ++ strOfNums [(n : Int)]) ++ a2) := by
        rw [tl_append, tl_append, tt]
        simp
      have hz : ((a0 ++ strOfNums [(n : Int)]) ++ a2).size < 100000 := by
        rw [append_size, append_size]
        omega
      have hz1 : (a0 ++ strOfNums [(n : Int)]).size + a2.size ≤ 9223372036854775807 := by
        rw [append_size]
        omega
      have f1 : (wordsOf ((a0 ++ strOfNums [(n : Int)]) ++ a2)).2 = true → (n = 32 ∨ 97 ≤ n ∧ n ≤ 122 ∨ 48 ≤ n ∧ n ≤ 57) := by
        intro hw
        rcases words_bytes _ hw _ hm with e | e
        · have := congrArg UInt8.toNat e
          rw [tn] at this
          exact .inl this
        · have := of_decide_eq_true e
          rw [tn] at this
          exact .inr this
      have f2 : (getOf (tl ((a0 ++ strOfNums [(n : Int)]) ++ a2))).2 = true → (48 ≤ n ∧ n ≤ 57) := by
        intro hw
        have := List.all_eq_true.1 (get_digits _ hw) _ hm
        have := of_decide_eq_true this
        rw [tn] at this
        exact this
      simp only [symbolonlaw03_TextFits.j0]
      rw [if_neg (by simp), Option.bind_some, if_pos (by omega), if_pos hz1, Words_is _ _ hz (by omega), Option.bind_some, Get_is _ hz, Option.bind_some]
      generalize (wordsOf ((a0 ++ strOfNums [(n : Int)]) ++ a2)).2 = b1 at f1 ⊢
      generalize (getOf (tl ((a0 ++ strOfNums [(n : Int)]) ++ a2))).2 = b2 at f2 ⊢
      have e1 : b1 = true → ¬ (n = 32 ∨ 97 ≤ n ∧ n ≤ 122 ∨ 48 ≤ n ∧ n ≤ 57) → False := fun x y => y (f1 x)
      have e2 : b2 = true → ¬ (48 ≤ n ∧ n ≤ 57) → False := fun x y => y (f2 x)
      clear hm hz hz1 tt ts skip
      repeat' split
      all_goals first
        | rfl
        | (exfalso; exact e1 ‹b1 = true› (by omega))
        | (exfalso; exact e2 ‹b2 = true› (by omega))
        | (refine congrArg some (decide_eq_true ?_); have := f2 ‹b2 = true›; omega)
        | contradiction
end Go.Proofs.YtfjdlllmpgknpaaDoor.Pure
