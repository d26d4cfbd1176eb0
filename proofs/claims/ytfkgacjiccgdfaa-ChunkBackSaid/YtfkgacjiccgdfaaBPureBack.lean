/-
The plain law of ChunkBack: a chunk is got from its bytes; bytes that are one's are those of what is got. No condition.
-/
import Derived.Test.YtfkgacjiccgdfaaQ16
import Derived.Test.YtfkgacjiccgdfaaBHead
import Derived.Test.YtfkgacjiccgdfaaBBytes
set_option linter.unusedSimpArgs false
set_option linter.unusedVariables false
namespace Go.Proofs.Ytfkgacjiccgdfaa.Pure
open Go.RowKit Go.Proofs.YtfkgacjiccgdfaaW.PrintWords Go.Proofs.Ytfkgacjiccgdfaa.Q
theorem nil_chunk : ¬ isChunk [] := by
  rintro ⟨m, h1, h2, h3, _⟩
  simp at h3
  omega
/-- The second half: what any bytes are. -/
theorem back_bytes (b : List Int) (k : Nat) (hb : ∀ x ∈ b, 0 ≤ x ∧ x < 256) (hl : b.length ≤ 900) (hk : 60 ≤ k) : symbolonlaw14_ChunkBack.j2 (k + 1) b true false = some true := by
  simp only [symbolonlaw14_ChunkBack.j2]
  by_cases h : isChunk b
  · obtain ⟨m, h1, h2, h3, h4⟩ := h
    have r0 := rd_byte hb 0 (by omega)
    have r1 := rd_byte hb 1 (by omega)
    simp only [Int.natCast_zero, Int.natCast_one] at r0 r1
    have hp : chunk_Put.f (rd b 0 * 256 + rd b 1) (nums_ b m) = some b := by
      unfold chunk_Put.f S.put
      rw [if_pos ⟨by omega, by omega, by rw [nums_len]; exact h1, by rw [nums_len]; exact h2, by rw [nums_len]; exact h4⟩, put_get b m hb h1 h3]
    rw [get_yes b m k hb h1 h2 h3 h4 hk]
    simp [hp]
  · rw [get_no b k hb (by omega) h hk]
    simp
theorem ChunkBack : symbolonlaw14_ChunkBack.Pure := by
  intro a l b ha _ _ hl _ _ hb
  obtain ⟨a0, a1⟩ := bdi ha
  have hL : ∀ x ∈ l, 0 ≤ x ∧ x < 18446744073709551616 := fun x hx => bd64 (hl x hx)
  have hB : ∀ x ∈ b, 0 ≤ x ∧ x < 256 := fun x hx => bd8 (hb x hx)
  clear ha hl hb
  refine ⟨63, ?_⟩
  unfold symbolonlaw14_ChunkBack.f
  rw [head_true 63 (by omega), Option.bind_some]
  have early : symbolonlaw14_ChunkBack.j0 63 a l b true true = some true := by
    simp only [symbolonlaw14_ChunkBack.j0, if_true]
  by_cases c1 : (l.length : Int) > 900
  · rw [if_pos c1, early]
  · rw [if_neg c1]
    by_cases c2 : (b.length : Int) > 900
    · rw [decide_eq_true c2, early]
    · rw [decide_eq_false c2]
      have hlast := back_bytes b 60 hB (by omega) (by omega)
      simp only [symbolonlaw14_ChunkBack.j0]
      rw [if_neg (by decide)]
      by_cases r : 0 ≤ a ∧ a ≤ 65535 ∧ 1 ≤ l.length ∧ l.length ≤ 6 ∧ (l.length : Int) ≤ 65536 - a
      · obtain ⟨r1, r2, r3, r4, r5⟩ := r
        have hp : chunk_Put.f a l = some (S.putB a l) := by
          unfold chunk_Put.f S.put
          rw [if_pos ⟨r1, r2, r3, r4, r5⟩]
        rw [hp, Option.bind_some, if_pos (by omega), if_pos (by omega), if_pos (by omega), if_pos (by omega), w_id (a := 65536 - a) (by omega) (by omega), decide_eq_true r5]
        simp only [symbolonlaw14_ChunkBack.j1]
        rw [get_put a l 61 r1 r2 r3 r4 r5 hL (by omega), Option.bind_some, decide_eq_true (by rw [putB_len]; omega), if_neg (by decide), if_neg (by simp), if_pos trivial, if_pos rfl, same_self l 61 (by omega) (by omega), Option.bind_some, if_pos rfl]
        rw [w_id (a := 8 * (l.length : Int)) (by omega) (by omega), w_id (by omega) (by omega), putB_len, show (((2 + 8 * l.length : Nat) : Int) != 2 + 8 * (l.length : Int)) = false by simp]
        exact hlast
      · have hp : chunk_Put.f a l = some [] := by
          unfold chunk_Put.f S.put
          rw [if_neg r]
        have hj1 : symbolonlaw14_ChunkBack.j1 62 a l b true [] false = some true := by
          simp only [symbolonlaw14_ChunkBack.j1]
          rw [get_no [] 61 (by simp) (by simp) nil_chunk (by omega), Option.bind_some, if_neg (by decide), if_neg (by decide), if_neg (by decide)]
          exact hlast
        rw [hp, Option.bind_some]
        by_cases d1 : a ≥ 0
        · rw [if_pos d1]
          by_cases d2 : a ≤ 65535
          · rw [if_pos d2]
            by_cases d3 : (l.length : Int) ≥ 1
            · rw [if_pos d3]
              by_cases d4 : (l.length : Int) ≤ 6
              · rw [if_pos d4, w_id (a := 65536 - a) (by omega) (by omega), decide_eq_false (by omega)]
                exact hj1
              · rw [if_neg d4]
                exact hj1
            · rw [if_neg d3]
              exact hj1
          · rw [if_neg d2]
            exact hj1
        · rw [if_neg d1]
          exact hj1
end Go.Proofs.Ytfkgacjiccgdfaa.Pure
