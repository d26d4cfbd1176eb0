/-
The plain law of ChunkSorts: the bytes of chunks of one number stand in the order of their positions, then of their numbers. No condition.
-/
import Derived.Test.YtfkgacjiccgdfaaQ21
import Derived.Test.YtfkgacjiccgdfaaBHead
import Derived.Test.YtfkgacjiccgdfaaBNum
set_option linter.unusedSimpArgs false
set_option linter.unusedVariables false
namespace Go.Proofs.Ytfkgacjiccgdfaa.Pure
open Go.RowKit Go.Proofs.YtfkgacjiccgdfaaW.PrintWords Go.Proofs.Ytfkgacjiccgdfaa.Q
theorem putB_one (a v : Int) : S.putB a [v] = [a / 256, a % 256, v / 72057594037927936 % 256, v / 281474976710656 % 256, v / 1099511627776 % 256, v / 4294967296 % 256, v / 16777216 % 256, v / 65536 % 256, v / 256 % 256, v / 1 % 256] := rfl
theorem put_one (a v : Int) (h0 : 0 ≤ a) (h1 : a < 65536) : chunk_Put.f a [v] = some (S.putB a [v]) := by
  unfold chunk_Put.f S.put
  rw [if_pos ⟨h0, by omega, by simp, by simp, by simp; omega⟩]
theorem one_bytes (a v : Int) (h0 : 0 ≤ a) (h1 : a < 65536) (k0 : 0 ≤ v) : ∀ x ∈ S.putB a [v], 0 ≤ x ∧ x < 256 := by
  rw [putB_one]
  intro x hx
  simp only [List.mem_cons, List.not_mem_nil, or_false] at hx
  omega
theorem one_val (a v : Int) (k0 : 0 ≤ v) (k1 : v < 18446744073709551616) : val (S.putB a [v]) = a * 18446744073709551616 + v := by
  rw [putB_one]
  simp [val]
  omega
theorem ChunkSorts : symbolonlaw14_ChunkSorts.Pure := by
  intro a b v w ha hb hv hw
  obtain ⟨a0, a1⟩ := bd16 ha
  obtain ⟨b0, b1⟩ := bd16 hb
  obtain ⟨v0, v1⟩ := bd64 hv
  obtain ⟨w0, w1⟩ := bd64 hw
  clear ha hb hv hw
  refine ⟨60, ?_⟩
  unfold symbolonlaw14_ChunkSorts.f
  rw [head_true 60 (by omega), w_id (by omega) (by omega), w_id (by omega) (by omega), put_one a v a0 a1, put_one b w b0 b1]
  have hs : ∀ a v, ((strOfNums (S.putB a [v])).size : Int) = 10 := by
    intro a v
    rw [strOfNums_size]
    simp [S.putB]
  have hl := less_val (S.putB a [v]) (S.putB b [w]) (by simp [S.putB]) (one_bytes a v a0 a1 v0) (one_bytes b w b0 b1 w0)
  rw [one_val a v v0 v1, one_val b w w0 w1] at hl
  simp only [Option.bind_some, if_true, str_list, hl, hs, beq_self_eq_true]
  by_cases h1 : a < b
  · rw [if_pos h1, if_pos (by rw [beq_iff_eq, decide_eq_true_iff]; omega)]
  · rw [if_neg h1]
    by_cases h2 : a = b
    · rw [if_pos h2, if_pos (by rw [beq_iff_eq, decide_eq_decide]; omega)]
    · rw [if_neg h2, if_pos (by rw [beq_iff_eq, decide_eq_false_iff_not]; omega)]
end Go.Proofs.Ytfkgacjiccgdfaa.Pure
