/-
A slice of strings that came in, in the form that the walks read. No condition.
-/
import Derived.SliceStrings
import Derived.Test.YtfjdlllmpgknpaaDoorWWords
set_option linter.unusedSimpArgs false
set_option linter.unusedVariables false
namespace Go.Proofs.YtfjdlllmpgknpaaDoor.Opens
open Go.RowKit Go.Proofs.YtfjdlllmpgknpaaDoorW.PrintWords Go.ChangeShapes Go.WideShapes
theorem open_strs {H : Type} {enc : TypeId × Value → H} {P : Program} {W : World} {base : Nat} {held : Bool} {t e : TypeId} {fuel : Nat} {v : Value} {x : DataW H × List MemPlace} (ht : P.underlying t = some (.slice e)) (he : P.underlying e = some .string)
    (ce : P.cellsOf e = 1) {A : Option Addr} {len cap : Nat} (hv : v = .slice A len cap) (h : DataW.trod enc P W base (fun _ => true) held fuel t v.cells.toList = some x) :
    ∃ l : List ByteArray, len = l.length ∧ Kd.C Kd.string W A l.length l ∧ l.length ≤ cap ∧ l.length ≤ maxLen ∧ ∀ b ∈ l, b.size ≤ maxLen := by
  subst hv
  rcases open_strings ht he ce h with ⟨hcs, _⟩ | ⟨a, l, c, ss, hcs, hb, hl, hm, hz, _, hcell, hs⟩
  · simp [Value.cells] at hcs
    obtain ⟨rfl, rfl, rfl⟩ := hcs
    exact ⟨[], rfl, Kd.C_nil _ _, Nat.le_refl _, Nat.zero_le _, by simp⟩
  · simp [Value.cells] at hcs
    obtain ⟨rfl, rfl, rfl⟩ := hcs
    rw [if_pos rfl] at hz
    have hlen : (ss.take len).length = len := by rw [List.length_take]; omega
    refine ⟨ss.take len, hlen.symm, ?_, by omega, by omega, fun b hb => hs b (List.mem_of_mem_take hb)⟩
    refine ⟨by omega, by unfold maxLen at hm; omega, fun hp => ⟨a, rfl, fun j p hj => ?_⟩⟩
    obtain ⟨hjl, hje⟩ := List.getElem?_eq_some_iff.1 hj
    have hc := hcell j (by omega)
    have e : ss.getD j ByteArray.empty = p := by
      rw [← hje, List.getElem_take, List.getD_eq_getElem?_getD, List.getElem?_eq_getElem (by omega)]
      rfl
    rw [e] at hc
    refine ⟨[.string p], rfl, rfl, fun i u hu => ?_⟩
    cases i with
    | zero =>
      have : Value.string p = u := by simpa using hu
      subst this
      have e : j * (Kd.string).sz + 0 = j := by rw [Nat.add_zero]; exact Nat.mul_one j
      rw [e]
      exact hc
    | succ i => simp at hu
end Go.Proofs.YtfjdlllmpgknpaaDoor.Opens
