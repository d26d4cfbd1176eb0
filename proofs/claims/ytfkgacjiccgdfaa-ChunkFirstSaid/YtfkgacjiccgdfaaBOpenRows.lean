/-
A slice of slices of numbers that came in, in the form that the walks read. No condition.
-/
import Derived.Deep.Matrix
import Derived.Test.YtfkgacjiccgdfaaWWords
set_option linter.unusedSimpArgs false
set_option linter.unusedVariables false
namespace Go.Proofs.Ytfkgacjiccgdfaa.Opens
open Go.RowKit Go.Proofs.YtfkgacjiccgdfaaW.PrintWords Go.Deep
theorem C_ints {k : IntKind} {W : World} {A : Option Addr} {n m : Nat} {zs : List Int} (hn : n ≤ m) (hm : m ≤ maxLen) (hz : zs.length = m) (h0 : A = none → m = 0) (hc : ∀ a', A = some a' → ∀ c, c < m → W.cell? (a'.add c) = some (.int k (zs.getD c 0))) :
    Kd.C (Kd.int k) W A n (zs.take n) := by
  refine Kd.C_of_reads (d := (0 : Int)) (h1 := fun _ => rfl) ⟨by rw [List.length_take, hz]; omega, by unfold maxLen at hm; omega, fun hp => ?_⟩
  cases A with
  | none => have := h0 rfl; omega
  | some a =>
    refine ⟨a, rfl, fun j hj => ?_⟩
    have := hc a rfl j (by omega)
    rw [this, List.getD_eq_getElem?_getD, List.getD_eq_getElem?_getD, List.getElem?_take, if_pos hj]
theorem open_rows {H : Type} {enc : TypeId × Value → H} {P : Program} {W : World} {base : Nat} {held : Bool} {t e q : TypeId} {k : IntKind} {fuel : Nat} {v : Value} {x : DataW H × List MemPlace} (ht : P.underlying t = some (.slice e)) (he : P.underlying e = some (.slice q)) (hq : P.underlying q = some (.int k))
    (ce : P.cellsOf e = 1) (cq : P.cellsOf q = 1) {A : Option Addr} {len cap : Nat} (hv : v = .slice A len cap) (h : DataW.trod enc P W base (fun _ => true) held fuel t v.cells.toList = some x) :
    ∃ l : List (List Int), len = l.length ∧ Kd.C (Kd.slice q (Kd.int k)) W A l.length l ∧ l.length ≤ cap ∧ l.length ≤ maxLen ∧ ∀ b ∈ l, b.length ≤ maxLen ∧ ∀ z ∈ b, (Lit.int k z).wf = true := by
  subst hv
  rcases open_int_rows ht he hq ce cq h with ⟨hcs, _⟩ | ⟨a, l, c, B, L, C, Z, hcs, hb, hl, hm, _, hr⟩
  · simp [Value.cells] at hcs
    obtain ⟨rfl, rfl, rfl⟩ := hcs
    exact ⟨[], rfl, Kd.C_nil _ _, Nat.le_refl _, Nat.zero_le _, by simp⟩
  · simp [Value.cells] at hcs
    obtain ⟨rfl, rfl, rfl⟩ := hcs
    refine ⟨(List.range len).map (fun r => (Z r).take (L r)), by simp, ?_, by simpa using hl, by simp; omega, ?_⟩
    · rw [List.length_map, List.length_range]
      refine ⟨by simp, by unfold maxLen at hm; omega, fun hp => ⟨a, rfl, fun j p hj => ?_⟩⟩
      rw [List.getElem?_map] at hj
      obtain ⟨j', hj', rfl⟩ := Option.map_eq_some_iff.1 hj
      obtain ⟨hjl, hje⟩ := List.getElem?_eq_some_iff.1 hj'
      rw [List.length_range] at hjl
      rw [List.getElem_range] at hje
      subst hje
      obtain ⟨r1, r2, r3, r4, r5, r6, r7⟩ := hr j (by omega)
      have hlen : ((Z j).take (L j)).length = L j := by rw [List.length_take, r4]; omega
      refine ⟨[.slice (B j) (L j) (C j)], rfl, ⟨B j, C j, by rw [hlen], by rw [hlen]; exact r2, by rw [hlen]; exact C_ints r2 r3 r4 r6 (fun a' ha c hc => (r7 a' ha).2 c hc)⟩, fun i u hu => ?_⟩
      cases i with
      | zero =>
        have : Value.slice (B j) (L j) (C j) = u := by simpa using hu
        subst this
        have e : j * (Kd.slice q (Kd.int k)).sz + 0 = j := by rw [Nat.add_zero]; exact Nat.mul_one j
        rw [e]
        exact r1
      | succ i => simp at hu
    · intro b hb
      obtain ⟨r, hr', rfl⟩ := List.mem_map.1 hb
      have hrl := List.mem_range.1 hr'
      obtain ⟨_, r2, r3, r4, r5, _⟩ := hr r (by omega)
      exact ⟨by rw [List.length_take, r4]; omega, fun z hz => r5 z (List.mem_of_mem_take hz)⟩
end Go.Proofs.Ytfkgacjiccgdfaa.Opens
