/-
The law TextLines, in plain lists of bytes: it answers yes to whatever is handed in.
-/
import Derived.Test.YtfjdlllmpgknpaaDoorBBase
import Derived.Test.YtfjdlllmpgknpaaDoorQ35
set_option linter.unusedSimpArgs false
set_option linter.unusedVariables false
namespace Go.Proofs.YtfjdlllmpgknpaaDoor.Pure
open Go.RowKit Go.Proofs.YtfjdlllmpgknpaaDoorW.PrintWords Go.Proofs.YtfjdlllmpgknpaaDoor.Q
theorem count_run (a0 a1 : ByteArray) (h0 : a0.size ≤ 3000) (h1 : a1.size ≤ 3000) : ∀ (rest pre : List UInt8) (K c : Nat), tl a0 = pre ++ rest → 20000 + rest.length < K → c ≤ pre.length → c + rest.count 10 = (linesOf a0).1.length →
    symbolonlaw03_TextLines.l0 K a0 a1 true (linesOf a0).1 (c : Int) (pre.length : Int) = some true
  | [], pre, K, c, h, hK, hc, he => by
    obtain ⟨K, rfl⟩ : ∃ k, K = k + 1 := ⟨K - 1, by omega⟩
    have hz : a0.size = pre.length := by rw [tl_size, h, List.append_nil]
    have hs := linesOf_sum a0
    have hs1 := linesOf_sum a1
    have hl := length_sum (linesOf a0).1
    have hl1 := length_sum (linesOf a1).1
    have ht := textOf_size (linesOf a0).1
    rw [List.count_nil] at he
    simp only [symbolonlaw03_TextLines.l0]
    rw [if_neg (by omega), Text_is _ _ (by omega) (by omega), Option.bind_some, if_pos (by omega), Lines_is _ (by rw [append_size]; omega), lines_again, Option.bind_some, Lines_is _ (by omega), Option.bind_some, if_pos trivial, if_pos (by omega), Option.bind_some, if_pos (by rw [List.length_nil]; omega), Option.bind_some, if_pos (by rw [List.nil_append]; omega), List.nil_append]
    simp only []
    rw [same_self _ _ (by rw [List.length_append]; omega) (by rw [List.length_append]; omega), Option.bind_some, if_pos rfl]
    simp
  | b :: rest, pre, K, c, h, hK, hc, he => by
    rw [List.length_cons] at hK
    obtain ⟨K, rfl⟩ : ∃ k, K = k + 1 := ⟨K - 1, by omega⟩
    have hlt : pre.length < a0.size := by rw [tl_size, h]; simp
    have hb := bt_tl a0 pre rest b h
    simp only [symbolonlaw03_TextLines.l0]
    rw [if_pos (by omega), if_pos (by omega), hb]
    by_cases cb : b = 10
    · subst cb
      have ih := count_run a0 a1 h0 h1 rest (pre ++ [10]) K (c + 1) (by rw [h]; simp) (by omega) (by simp; omega) (by rw [← he, List.count_cons_self]; omega)
      rw [List.length_append, List.length_singleton] at ih
      rw [if_pos (by rfl), w_nat c (by omega), w_nat pre.length (by omega), ih]
    · have hn : ¬ ((b.toNat : Int) = 10) := fun e => cb (UInt8.toNat_inj.1 (by have h10 : (10 : UInt8).toNat = 10 := rfl; omega))
      have ih := count_run a0 a1 h0 h1 rest (pre ++ [b]) K c (by rw [h]; simp) (by omega) (by simp; omega) (by rw [← he, List.count_cons_of_ne cb])
      rw [List.length_append, List.length_singleton] at ih
      rw [if_neg hn, w_nat _ (by omega), ih]
theorem TextLines : symbolonlaw03_TextLines.Pure := by
  intro a0 a1 h0 h1
  obtain ⟨K, hK⟩ := many 1000000
  have skip : symbolonlaw03_TextLines.j0 (K + 1) a0 a1 true true = some true := by
    simp only [symbolonlaw03_TextLines.j0]
    rw [if_pos trivial]
  refine ⟨K + 1, ?_⟩
  unfold symbolonlaw03_TextLines.f
  rw [head_true _ (by omega), Option.bind_some]
  by_cases c : (a0.size : Int) > 3000
  · rw [if_pos c]
    exact skip
  · rw [if_neg c]
    by_cases c1 : (a1.size : Int) > 3000
    · rw [decide_eq_true c1]
      exact skip
    · have hs := linesOf_sum a0
      have hl := length_sum (linesOf a0).1
      have ht := textOf_size (linesOf a0).1
      have hf := lines_text a0
      have hr := count_run a0 a1 (by omega) (by omega) (tl a0) [] K 0 rfl (by rw [← tl_size]; omega) (Nat.zero_le _) (by rw [lines_len]; omega)
      rw [List.length_nil, Int.natCast_zero] at hr
      rw [decide_eq_false c1]
      simp only [symbolonlaw03_TextLines.j0]
      rw [if_neg (by simp), Lines_is _ (by omega), Option.bind_some, Text_is _ _ (by omega) (by omega), Option.bind_some, if_pos (by omega), if_pos (by rw [toList_tl, toList_tl, tl_append, tl_textOf, hf]), hr]
end Go.Proofs.YtfjdlllmpgknpaaDoor.Pure
