/-
What the library's functions read in memory (a table, two errors, one number), as a fact on a world that every later world keeps; strconv.Itoa, strings.Split and strings.Join under it. Conditions: that fact; lengths as told.
-/
import Derived.Test.YtfjdlllmpgknpaaDoorShelf
import Derived.Test.YtfjdlllmpgknpaaDoorQ0
import Derived.WalkSmall
import Derived.Lib.SmallJoins
import Derived.Lib.AppendIntMem
set_option linter.unusedVariables false
set_option linter.unusedSimpArgs false
namespace Go.Proofs.YtfjdlllmpgknpaaDoor.S
open Go.RowKit Go.Proofs.YtfjdlllmpgknpaaDoorW.PrintWords
/-- The library's variables, as its functions read them. -/
structure Tabs (w : World) : Prop where
  pow : Lib.TabIs Tryd.prog w "internal/strconv.uint64pow10" .u64 Lib.pow10Tab
  maxl : ∃ m : Int, w.cell? ⟨2, 0, none⟩ = some (.int .i64 m)
  syn : ∃ tp p, w.var? Tryd.prog "strconv.ErrSyntax" = some #[.iface tp p]
  rng : ∃ tp p, w.var? Tryd.prog "strconv.ErrRange" = some #[.iface tp p]
theorem Tabs.below {w w1 : World} (h : Tabs w) (hb : Below w.heap.size w w1) : Tabs w1 := by
  obtain ⟨h1, ⟨m, h2⟩, ⟨a, b, h3⟩, ⟨c, d, h4⟩⟩ := h
  refine ⟨Joins.tab_stays (g := 3) (by kernel_rfl) h1 hb (Nat.le_refl _), ⟨m, pw_cell_below hb h2⟩, ⟨a, b, Joins.var_stays (g := 0) (by kernel_rfl) h3 hb (Nat.le_refl _)⟩, ⟨c, d, Joins.var_stays (g := 1) (by kernel_rfl) h4 hb (Nat.le_refl _)⟩⟩
theorem empty_of_ne {l : List UInt8} {y : Bool} (h : ((l != []) != y) = true) : l.isEmpty = y := by
  cases l <;> cases y <;> simp_all
theorem empty_of_eq {l : List UInt8} {y : Bool} (h : ((l != []) != y) = false) : l.isEmpty = !y := by
  cases l <;> cases y <;> simp_all
theorem empty_of_ne' {l : List UInt8} {y : Bool} (h : (y != (l != [])) = true) : l.isEmpty = y := by
  cases l <;> cases y <;> simp_all
theorem empty_of_eq' {l : List UInt8} {y : Bool} (h : (y != (l != [])) = false) : l.isEmpty = !y := by
  cases l <;> cases y <;> simp_all
/-- strconv.Itoa. -/
def itoa (n : Int) : Option ByteArray := if -9223372036854775808 ≤ n ∧ n ≤ 9223372036854775807 then some ⟨(Lib.itoa n).toArray⟩ else none
theorem itoa_calls (a0 : Int) (r : ByteArray) (w : World) (h : itoa a0 = some r) (hT : Tabs w) :
    Calls Tryd.prog 28 #[.int .i64 a0] w fun e w' => e = .returned (.string r) ∧ Below w.heap.size w w' := by
  unfold itoa at h
  split at h
  · rename_i c
    obtain rfl := Option.some.inj h
    refine (Tryd.strconv_Itoa a0 c.1 c.2 w hT.pow).mono ?_
    rintro e w' ⟨rfl, k, os, rfl⟩
    exact ⟨rfl, Lib.below_grow _ w (Nat.le_refl _) k os⟩
  · cases h
/-- strings.Split at a separator of one byte. -/
def split (s sep : ByteArray) : Option (List ByteArray) := if s.size < 4294967281 ∧ sep.size = 1 then some (Lib.splitB sep 0 (Lib.countB s sep) s) else none
theorem split_raw (s sep : ByteArray) (r : List ByteArray) (w : World) (h : split s sep = some r) (hT : Tabs w) :
    Calls Tryd.prog 25 #[.string s, .string sep] w fun e w' => e = .returned (.slice (some ⟨w.heap.size, 0, none⟩) r.length r.length) ∧ w' = w.alloc (.cells (r.map Value.string).toArray 9) ∧ r.length ≤ 4294967282 := by
  unfold split at h
  split at h
  · rename_i c
    obtain rfl := Option.some.inj h
    obtain ⟨m, hm⟩ := hT.maxl
    refine (Tryd.strings_Split s sep m w c.1 hm (by omega)).mono ?_
    rintro e w' ⟨rfl, rfl⟩
    have h1 := Lib.splitB_all sep (by omega) 0 _ s rfl
    have h2 := Lib.countB_le sep (by omega) s.size s (Nat.le_refl _)
    exact ⟨by rw [h1], rfl, by rw [h1]; omega⟩
  · cases h
theorem split_calls (a0 a1 : ByteArray) (r : List ByteArray) (w : World) (h : split a0 a1 = some r) (hT : Tabs w) :
    Calls Tryd.prog 25 #[.string a0, .string a1] w fun e w' => ∃ v0_ : Value, e = .returned (v0_) ∧ Kd.R Kd.string 9 w' w.heap.size (fun _ => True) v0_ r ∧ Below w.heap.size w w' := by
  refine (split_raw a0 a1 r w h hT).mono ?_
  rintro e w' ⟨rfl, rfl, hn⟩
  refine ⟨_, rfl, Kd.R_of_own ?_ (fun _ _ => trivial), below_alloc (Below.refl _ _) _⟩
  exact own_lit_of w w.heap.size 9 r (Nat.le_refl _) (by omega)
theorem plain {w : World} (a : Addr) {v : Value} (h : w.cell? a = some v) : a = ⟨a.block, a.off, none⟩ := by
  obtain ⟨b, o, s⟩ := a
  cases s with
  | none => rfl
  | some k =>
    exfalso
    unfold World.cell? at h
    simp at h
    split at h <;> simp at h
/-- strings.Join. -/
def join (l : List ByteArray) (sep : ByteArray) : Option ByteArray := if l.length ≤ 140737488355328 ∧ (Lib.join (l.map (·.data.toList)) sep.data.toList).length ≤ 140737488355328 then some ⟨(Lib.join (l.map (·.data.toList)) sep.data.toList).toArray⟩ else none
theorem join_calls (A0 : Option Addr) (c0 : Nat) (l0 : List ByteArray) (a1 : ByteArray) (r : ByteArray) (w : World) (hr0 : Kd.C Kd.string w A0 l0.length l0) (hc0 : l0.length ≤ c0) (h : join l0 a1 = some r) :
    Calls Tryd.prog 29 #[.slice A0 l0.length c0, .string a1] w fun e w' => e = .returned (.string r) ∧ Below w.heap.size w w' := by
  unfold join at h
  split at h
  · rename_i c
    obtain rfl := Option.some.inj h
    rcases Nat.eq_zero_or_pos l0.length with h0 | h0
    · obtain rfl : l0 = [] := List.eq_nil_of_length_eq_zero h0
      refine (Tryd.strings_Join_none A0 c0 a1 w).mono ?_
      rintro e w' ⟨rfl, rfl⟩
      exact ⟨rfl, Below.refl _ _⟩
    · have hR := Kd.reads_of_C (d := ByteArray.empty) hr0
      obtain ⟨ad, rfl, hcell⟩ := hR.2.2 h0
      have hx := hcell 0 h0
      rw [show ad.add 0 = ad from rfl] at hx
      have hp : ad = ⟨ad.block, ad.off, none⟩ := plain ad hx
      have hN : l0.length ≤ 140737488355328 := c.1
      have hb : ad.block < w.heap.size := World.block_lt_of_cell? w ad hx
      rw [hp] at hcell ⊢
      exact Tryd.strings_Join ad.block ad.off c0 l0 a1 w (fun j x hj => by
        obtain ⟨hl, hq⟩ := List.getElem?_eq_some_iff.1 hj
        have := hcell j hl
        rw [add_at, List.getD_eq_getElem?_getD, hj] at this
        exact this) hb hN hc0 c.2
  · cases h
end Go.Proofs.YtfjdlllmpgknpaaDoor.S
