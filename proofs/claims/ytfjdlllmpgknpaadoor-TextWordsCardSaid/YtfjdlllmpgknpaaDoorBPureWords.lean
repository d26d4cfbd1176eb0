/-
The law TextWords, in plain lists of bytes: it answers yes to whatever is handed in.
-/
import Derived.Test.YtfjdlllmpgknpaaDoorBBase
import Derived.Test.YtfjdlllmpgknpaaDoorQ34
set_option linter.unusedSimpArgs false
set_option linter.unusedVariables false
namespace Go.Proofs.YtfjdlllmpgknpaaDoor.Pure
open Go.RowKit Go.Proofs.YtfjdlllmpgknpaaDoorW.PrintWords Go.Proofs.YtfjdlllmpgknpaaDoor.Q
theorem TextWords : ∀ (l0 : List ByteArray) (a1 : ByteArray), (l0.length ≤ maxLen) → (∀ b ∈ l0, b.size ≤ maxLen) → (a1.size ≤ 140737488351232) → ∃ k, symbolonlaw03_TextWords.f k l0 a1 = some true := by
  intro l0 a1 h0 h2 h3
  obtain ⟨K, hK⟩ := many 1000000
  have skip : symbolonlaw03_TextWords.j0 (K + 1 + 1) l0 a1 true true = some true := by
    simp only [symbolonlaw03_TextWords.j0]
    rw [if_pos trivial]
  refine ⟨K + 1 + 1, ?_⟩
  unfold symbolonlaw03_TextWords.f
  rw [head_true _ (by omega), Option.bind_some]
  by_cases c : (a1.size : Int) > 3000
  · rw [if_pos c]
    exact skip
  · rw [if_neg c]
    rcases great l0 (K + 1 + 1) (fun s hs => Nat.le_trans (h2 s hs) (by decide)) (by omega) with g | ⟨g, hs⟩
    · rw [g, Option.bind_some]
      exact skip
    · have hl := length_sum l0
      have hj := joinOf_size l0
      have last : symbolonlaw03_TextWords.j1 (K + 1) a1 true false = some true := by
        simp only [symbolonlaw03_TextWords.j1]
        rw [if_neg (by simp), Words_is _ _ (by omega) (by omega), Option.bind_some, if_pos trivial]
        have hwl := words_len a1
        have hws := words_sum a1
        by_cases cw : (wordsOf a1).2 = true
        · rw [if_pos cw, Join_is _ _ (by omega) (by omega) (by omega), Option.bind_some, if_pos (by rw [toList_tl, toList_tl, join_words a1 cw])]
          have := words_pos a1 cw
          rw [decide_eq_true (by omega)]
        · have hn := words_none a1 (by simpa using cw)
          rw [if_neg cw, hn]
          rfl
      rw [g, Option.bind_some]
      simp only [symbolonlaw03_TextWords.j0]
      rw [if_neg (by simp), Join_is _ _ (by omega) (by omega) (by omega), Option.bind_some, Words_is _ _ (by omega) (by omega), Option.bind_some, words_join, toList_tl]
      by_cases cj : tl (joinOf l0) = []
      · rw [if_pos cj, cj, if_neg (by simp), if_neg (by simp)]
        exact last
      · rw [if_neg cj, if_neg (by simp [cj]), if_pos rfl, same_self _ _ (by show l0.length < _; omega) (by show l0.length < _; omega), Option.bind_some]
        exact last
end Go.Proofs.YtfjdlllmpgknpaaDoor.Pure
