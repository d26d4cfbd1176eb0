/-
text.Lines comes to the pieces of a text between its line feeds, but the last, and the last. Conditions: a text below 4294967281 bytes; what the library reads.
-/
import Derived.Test.YtfjdlllmpgknpaaDoorSTabs
import Derived.RegionTactic
import Derived.ChangeAlike
import Derived.WalkSpells
set_option linter.unusedVariables false
set_option linter.unusedSimpArgs false
namespace Go.Proofs.YtfjdlllmpgknpaaDoor.S
open Go.RowKit Go.Proofs.YtfjdlllmpgknpaaDoorW.PrintWords
namespace Lr
/-- A slice of texts that is read and never written: it may be cut, its capacity too. (In the form of the print's word for rows of the call's own.) -/
def R (d : Kd ByteArray) (e : Nat) (w : World) (base : Nat) (ok : Nat → Prop) (v : Value) (xs : List ByteArray) : Prop :=
  (∀ k, v.ownBlock = some k → ok k ∧ base ≤ k ∧ k < w.heap.size) ∧ ∃ (A : Option Addr) (c : Nat), v = .slice A xs.length c ∧ xs.length ≤ c ∧ d.C w A xs.length xs
section
variable {d : Kd ByteArray} {e base : Nat} {w W w1 : World} {ok ok' : Nat → Prop} {v u v1 : Value} {xs : List ByteArray}
theorem R_below (h : R d e w base ok v xs) (hb : Below w.heap.size w w1) : R d e w1 base ok v xs := by
  obtain ⟨h1, A, c, h2, h3, h4⟩ := h
  exact ⟨fun k hk => ⟨(h1 k hk).1, (h1 k hk).2.1, Nat.lt_of_lt_of_le (h1 k hk).2.2 hb.size⟩, A, c, h2, h3, Kd.C_below h4 hb⟩
theorem R_alloc (h : R d e w base ok v xs) (o : Obj) : R d e (w.alloc o) base ok v xs := R_below h (below_alloc (Below.refl _ _) o)
theorem R_drew (h : R d e w base ok v xs) : R d e w.drew base ok v xs := R_below h (below_drew (Below.refl _ _))
theorem R_drewN (h : R d e w base ok v xs) (m : Nat) : R d e (w.drewN m) base ok v xs := R_below h (pw_below_drewN (Below.refl _ _) m)
theorem R_mono (h : R d e w base ok v xs) (hok : ∀ k, ok k → ok' k) : R d e w base ok' v xs := ⟨fun k hk => ⟨hok k (h.1 k hk).1, (h.1 k hk).2⟩, h.2⟩
theorem R_lower {base' : Nat} (h : R d e w base ok v xs) (hb : base' ≤ base) : R d e w base' ok v xs := ⟨fun k hk => ⟨(h.1 k hk).1, Nat.le_trans hb (h.1 k hk).2.1, (h.1 k hk).2.2⟩, h.2⟩
theorem R_base (h : R d e w base ok v xs) : ∀ k, v.ownBlock = some k → base ≤ k := fun k hk => (h.1 k hk).2.1
theorem R_lt (h : R d e w base ok v xs) : ∀ k, v.ownBlock = some k → k < w.heap.size := fun k hk => (h.1 k hk).2.2
theorem R_elder' (hu : R d e W base ok u xs) (hbase : ∀ k, v.ownBlock = some k → W.heap.size ≤ k) (hb : Below W.heap.size W w1) : R d e w1 base (fun k => ok k ∧ some k ≠ v.ownBlock) u xs := by
  have h := R_below hu hb
  refine ⟨fun k hk => ⟨⟨(h.1 k hk).1, fun he => ?_⟩, (h.1 k hk).2⟩, h.2⟩
  have h1 := hbase k he.symm
  have h2 := (hu.1 k hk).2.2
  omega
theorem R_new' (h : R d e w1 W.heap.size ok v xs) (hlt : ∀ k, u.ownBlock = some k → k < W.heap.size) : R d e w1 W.heap.size (fun k => ok k ∧ some k ≠ u.ownBlock) v xs := by
  refine ⟨fun k hk => ⟨⟨(h.1 k hk).1, fun he => ?_⟩, (h.1 k hk).2⟩, h.2⟩
  have h1 := hlt k he.symm
  have h2 := (h.1 k hk).2.1
  omega
theorem R_slice (h : R d e w base ok v xs) : ∃ A c, v = .slice A xs.length c := by
  obtain ⟨_, A, c, h2, _⟩ := h
  exact ⟨A, c, h2⟩
theorem R_reads' {A : Option Addr} {n c : Nat} (h : R d e w base ok (.slice A n c) xs) : n = xs.length ∧ n ≤ c ∧ d.C w A xs.length xs := by
  obtain ⟨_, B, c', h2, h3, h4⟩ := h
  injection h2 with e1 e2 e3
  subst e1 e2 e3
  exact ⟨rfl, h3, h4⟩
theorem R_after (h : R Kd.string e W base (fun k => ok k ∧ some k ≠ v.ownBlock) u xs) (hg : W.grownBy w1 v.ownBlock) (hat : v1.ownBlock = v.ownBlock ∨ ∃ b, v1.ownBlock = some b ∧ W.heap.size ≤ b) : R Kd.string e w1 base (fun k => ok k ∧ some k ≠ v1.ownBlock) u xs := by
  obtain ⟨h1, A, c, h2, h3, h4⟩ := h
  refine ⟨fun k hk => ⟨⟨(h1 k hk).1.1, fun he => ?_⟩, (h1 k hk).2.1, Nat.lt_of_lt_of_le (h1 k hk).2.2 hg.size⟩, A, c, h2, h3, ?_⟩
  · rcases hat with hat | ⟨b, hb, hle⟩
    · exact (h1 k hk).1.2 (by rw [← hat]; exact he)
    · rw [hb] at he
      injection he with he
      have := (h1 k hk).2.2
      omega
  · have hR := Kd.reads_of_C (d := ByteArray.empty) h4
    refine Kd.C_of_reads (d := ByteArray.empty) (h1 := fun _ => rfl) ⟨hR.1, hR.2.1, fun hn => ?_⟩
    obtain ⟨a, rfl, hc⟩ := hR.2.2 hn
    have ha := h1 a.block (by rw [h2]; rfl)
    refine ⟨a, rfl, fun j hj => ?_⟩
    have hb := hg.block a.block ha.2.2 ha.1.2
    have := hc j hj
    rw [← this]
    unfold World.cell?
    rw [show (a.add j).block = a.block by unfold Addr.add; split <;> rfl, hb]
end
end Lr
def lines (s : ByteArray) : Option (List ByteArray × ByteArray) := (split s ⟨#[10]⟩).bind fun l => if 0 < l.length then some (l.dropLast, l.getLastD ByteArray.empty) else none
theorem lit_strs (e : TypeId) (W : World) (xs : List ByteArray) (k : Nat) (hk : k ≤ xs.length) (hl : xs.length ≤ 9223372036854775807) : Kd.string.C (W.alloc (.cells (xs.map Value.string).toArray e)) (some ⟨W.heap.size, 0, none⟩) k (xs.take k) := by
  refine Kd.C_of_reads (d := ByteArray.empty) (h1 := fun _ => rfl) ⟨by rw [List.length_take]; omega, by omega, fun _ => ⟨_, rfl, fun j hj => ?_⟩⟩
  rw [add_plain, blk_cell (blk_new W _)]
  simp [hj, show j < xs.length by omega]
theorem split_len {s sep : ByteArray} {r : List ByteArray} (h : split s sep = some r) : 1 ≤ r.length ∧ r.length ≤ 4294967282 := by
  unfold split at h
  split at h
  · rename_i c
    obtain rfl := Option.some.inj h
    have h1 := Lib.splitB_all sep (by omega) 0 _ s rfl
    have h2 := Lib.countB_le sep (by omega) s.size s (Nat.le_refl _)
    omega
  · cases h
set_option maxHeartbeats 1000000 in
set_option maxRecDepth 100000 in
theorem lines_raw (a0 : ByteArray) (l : List ByteArray) (x : ByteArray) (m : Nat) (w : World) (hs : split a0 ⟨#[10]⟩ = some l) (hl : l.length = m + 1) (hx : l[m]? = some x) (hT : Tabs w) :
    Calls Tryd.prog 15 #[.string a0] w fun e w' => e = .returned (.tuple #[.slice (some ⟨w.heap.size, 0, none⟩) m m, .string x]) ∧ ∃ n, w' = (w.alloc (.cells (l.map Value.string).toArray 9)).drewN n := by
  have HS := Aside0.mk (split_raw a0 ⟨#[10]⟩ l w hs hT)
  have hm : m ≤ 4294967282 := by have := (split_len hs).2; omega
  have hc : (w.alloc (.cells (l.map Value.string).toArray 9)).cell? ⟨w.heap.size, m, none⟩ = some (.string x) := by
    rw [blk_cell (blk_new w _)]
    simp [hx]
  have i1 : (0 : Int) ≤ (m : Int) := by omega
  have i2 : (m : Int) < (m : Int) + 1 := by omega
  have i3 : (m : Int) ≤ (m : Int) + 1 := by omega
  clear hs hT
  rw [hl] at HS
  clear hl hx
  go_enter Tryd.func15, Tryd.ntmps15
  go_wp2_with (go_at_call 25; refine HS.out.mono ?_; rintro e w1 ⟨rfl, rfl, _⟩)
  go_region
  all_goals
    go_wp2
    go_ret2
    exact ⟨rfl, 1, rfl⟩
theorem lines_calls (a0 : ByteArray) (r1 : List ByteArray) (r2 : ByteArray) (w : World) (h : lines a0 = some (r1, r2)) (hT : Tabs w) :
    Calls Tryd.prog 15 #[.string a0] w fun e w' => ∃ v0_ : Value, e = .returned (.tuple #[v0_, .string r2]) ∧ Lr.R Kd.string 9 w' w.heap.size (fun _ => True) v0_ r1 ∧ Below w.heap.size w w' := by
  unfold lines at h
  obtain ⟨l, hs, h⟩ := Option.bind_eq_some_iff.1 h
  obtain ⟨n1, n2⟩ := split_len hs
  rw [if_pos (show 0 < l.length from n1)] at h
  injection h with h
  injection h with e1 e2
  subst e1 e2
  have hx : l[l.length - 1]? = some (l.getLastD ByteArray.empty) := by
    rw [List.getLastD_eq_getLast?, List.getLast?_eq_getElem?, List.getElem?_eq_getElem (by omega)]
    rfl
  refine (lines_raw a0 l _ (l.length - 1) w hs (by omega) hx hT).mono ?_
  rintro e w' ⟨rfl, n, rfl⟩
  refine ⟨_, rfl, ⟨fun k hk => ?_, some ⟨w.heap.size, 0, none⟩, l.length - 1, by rw [List.length_dropLast], by rw [List.length_dropLast]; exact Nat.le_refl _, ?_⟩, pw_below_drewN (below_alloc (Below.refl _ _) _) n⟩
  · simp [Value.ownBlock] at hk
    subst hk
    exact ⟨trivial, Nat.le_refl _, by rw [World.heap_drewN]; simp⟩
  rw [List.length_dropLast, List.dropLast_eq_take]
  exact Kd.C_drewN (lit_strs 9 w l (l.length - 1) (by omega) (by omega)) n
end Go.Proofs.YtfjdlllmpgknpaaDoor.S
