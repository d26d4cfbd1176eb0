/-
The law TextTells, in plain lists of bytes: it answers yes to whatever is handed in.
-/
import Derived.Test.YtfjdlllmpgknpaaDoorBBase
import Derived.Test.YtfjdlllmpgknpaaDoorBRefs
import Derived.Test.YtfjdlllmpgknpaaDoorQ32
set_option linter.unusedSimpArgs false
set_option linter.unusedVariables false
namespace Go.Proofs.YtfjdlllmpgknpaaDoor.Pure
open Go.RowKit Go.Proofs.YtfjdlllmpgknpaaDoorW.PrintWords Go.Proofs.YtfjdlllmpgknpaaDoor.Q
theorem TextTells : ∀ (a0 : Int) (a1 : ByteArray) (l2 : List ByteArray), ((Lit.int .i64 a0).wf = true) → (a1.size ≤ 140737488351232) → (l2.length ≤ maxLen) → (∀ b ∈ l2, b.size ≤ maxLen) → ∃ k, symbolonlaw03_TextTells.f k a0 a1 l2 = some true := by
  intro a0 a1 l2 h0 h1 h2 h4
  obtain ⟨K, hK⟩ := many 1000000
  have hb := bdi h0
  have skip : symbolonlaw03_TextTells.j0 (K + 1) a0 a1 l2 true true = some true := by
    simp only [symbolonlaw03_TextTells.j0]
    rw [if_pos trivial]
  refine ⟨K + 1, ?_⟩
  unfold symbolonlaw03_TextTells.f
  rw [head_true _ (by omega), Option.bind_some]
  by_cases c : (a1.size : Int) > 3000
  · rw [if_pos c]
    exact skip
  · rw [if_neg c]
    rcases great l2 (K + 1) (fun s hs => Nat.le_trans (h4 s hs) (by decide)) (by omega) with g | ⟨g, hs⟩
    · rw [g, Option.bind_some]
      exact skip
    · have hl := length_sum l2
      have hz : a1.size < 100000 := by omega
      have hsum := linesOf_sum a1
      have hlen := length_sum (linesOf a1).1
      have hwl := words_len a1
      rw [g, Option.bind_some]
      simp only [symbolonlaw03_TextTells.j0]
      rw [if_neg (by simp), Get_is _ hz, Option.bind_some, rGet_is _ _ (by omega), Option.bind_some, Words_is _ _ hz (by omega), Option.bind_some, rWords_is _ _ hz (by omega), Option.bind_some, Lines_is _ hz, Option.bind_some, rLines_is _ _ hz (by omega), Option.bind_some, if_pos trivial, Number_is, Option.bind_some, rNumber_is _ _ hb (by omega), Option.bind_some, if_pos rfl, if_pos rfl, if_pos (by simp), same_self _ _ (by omega) (by omega), Option.bind_some, if_pos rfl, if_pos (by simp), same_self _ _ (by omega) (by omega), Option.bind_some, if_pos rfl, if_pos rfl, Join_is _ _ (by omega) (by omega) (by omega), Option.bind_some, rJoin_is _ _ (by omega) (by omega), Option.bind_some, if_pos rfl, Text_is _ _ (by omega) (by omega), Option.bind_some, rText_is _ _ (by omega) (by omega), Option.bind_some]
      simp
end Go.Proofs.YtfjdlllmpgknpaaDoor.Pure
