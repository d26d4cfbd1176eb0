/-
text.word comes to 'wordB': each byte is a small letter or a digit, and there is one. No condition.
-/
import Derived.Test.YtfjdlllmpgknpaaDoorQ0
import Derived.Lib.Strings
import Derived.Laws.RangeAny
import Derived.Lib.OthersKept
import Derived.WalkSmall
import Derived.WalkSpells
import Derived.WalkLawsBesides
set_option linter.unusedVariables false
set_option linter.unusedSimpArgs false
namespace Go.Proofs.YtfjdlllmpgknpaaDoor.S
open Go.RowKit Go.Proofs.YtfjdlllmpgknpaaDoorW.PrintWords
/-- A number that is no small letter's and no digit's. -/
def odd (c : Int) : Bool := decide (c < 97 ∨ 122 < c) && decide (c < 48 ∨ 57 < c)
set_option maxHeartbeats 400000 in
theorem odd_calls (c : Int) (w : World) (h0 : -2147483648 ≤ c) (h1 : c ≤ 2147483647) :
    Calls Tryd.prog 46 #[.int .i32 c] w fun e w' => e = .returned (.bool (odd c)) ∧ w = w' := by
  by_cases a1 : c < 97
  · have b1 : decide (c < 97) = true := decide_eq_true a1
    by_cases a3 : c < 48
    · have b3 : decide (c < 48) = true := decide_eq_true a3
      have H : Aside0 (odd c = true) := ⟨by unfold odd; simp; omega⟩
      clear a1 a3
      go_enter Tryd.func46, Tryd.ntmps46
      go_wp2
      go_ret
      exact ⟨by rw [H.out]; rfl, rfl⟩
    · have b3 : decide (c < 48) = false := decide_eq_false a3
      by_cases a4 : 57 < c
      · have b4 : decide (57 < c) = true := decide_eq_true a4
        have H : Aside0 (odd c = true) := ⟨by unfold odd; simp; omega⟩
        clear a1 a3 a4
        go_enter Tryd.func46, Tryd.ntmps46
        go_wp2
        go_ret
        exact ⟨by rw [H.out]; rfl, rfl⟩
      · have b4 : decide (57 < c) = false := decide_eq_false a4
        have H : Aside0 (odd c = false) := ⟨by unfold odd; simp; omega⟩
        clear a1 a3 a4
        go_enter Tryd.func46, Tryd.ntmps46
        go_wp2
        go_ret
        exact ⟨by rw [H.out]; rfl, rfl⟩
  · have b1 : decide (c < 97) = false := decide_eq_false a1
    by_cases a2 : 122 < c
    · have b2 : decide (122 < c) = true := decide_eq_true a2
      have b3 : decide (c < 48) = false := decide_eq_false (by omega)
      have b4 : decide (57 < c) = true := decide_eq_true (by omega)
      have H : Aside0 (odd c = true) := ⟨by unfold odd; simp; omega⟩
      clear a1 a2
      go_enter Tryd.func46, Tryd.ntmps46
      go_wp2
      go_ret
      exact ⟨by rw [H.out]; rfl, rfl⟩
    · have b2 : decide (122 < c) = false := decide_eq_false a2
      have H : Aside0 (odd c = false) := ⟨by unfold odd; simp; omega⟩
      clear a1 a2
      go_enter Tryd.func46, Tryd.ntmps46
      go_wp2
      go_ret
      exact ⟨by rw [H.out]; rfl, rfl⟩
/-- A byte of a word. -/
def okB (b : UInt8) : Bool := decide (97 ≤ b.toNat ∧ b.toNat ≤ 122 ∨ 48 ≤ b.toNat ∧ b.toNat ≤ 57)
/-- Is a text a word? -/
def wordB (s : ByteArray) : Bool := s.data.toList.all okB && !s.data.toList.isEmpty
theorem okB_lt {b : UInt8} (h : okB b = true) : b.toNat < 128 := by
  unfold okB at h
  have := of_decide_eq_true h
  omega
theorem odd_ok (b : UInt8) : odd (b.toNat : Int) = !okB b := by
  unfold odd okB
  rw [Bool.eq_iff_iff]
  simp
  omega
theorem odd_high (n : Nat) (h : 128 ≤ n) : odd (n : Int) = true := by
  unfold odd
  simp
  omega
theorem rune_at (s : ByteArray) (pos : Nat) (h : pos < s.size) : odd ((Utf8.decode s pos).1 : Int) = !okB s[pos] ∧ (okB s[pos] = true → (Utf8.decode s pos).2 = 1) := by
  by_cases hb : s[pos].toNat < 128
  · rw [decode_ascii s pos h hb]
    exact ⟨odd_ok _, fun _ => rfl⟩
  · have h1 := decode_high s pos h (by omega)
    have h2 : okB s[pos] = false := by
      cases hk : okB s[pos] with
      | false => rfl
      | true => have := okB_lt hk; omega
    rw [h2, odd_high _ h1.1]
    exact ⟨rfl, fun h => by cases h⟩
theorem take_ok (s : ByteArray) (pos : Nat) (h : pos < s.size) : s.data.toList.take (pos + 1) = s.data.toList.take pos ++ [s[pos]] := by
  rw [List.take_add_one, List.getElem?_eq_getElem (by simpa using h)]
  rfl
set_option maxHeartbeats 1000000 in
set_option maxRecDepth 100000 in
theorem word_calls (a0 : ByteArray) (r : Bool) (w : World) (h : some (wordB a0) = some r) :
    Calls Tryd.prog 33 #[.string a0] w fun e w' => e = .returned (.bool r) ∧ Below w.heap.size w w' := by
  obtain rfl := Option.some.inj h
  clear h
  go_enter Tryd.func33, Tryd.ntmps33
  go_wp2_with fail
  go_loopw [5] (fun _ wr => ∃ pos : Nat, pos ≤ a0.size ∧ Aside0 (wr.heap[w.heap.size]? = some (.stringIter a0 pos)) ∧ Aside0 (Below w.heap.size w wr) ∧ Aside0 ((a0.data.toList.take pos).all okB = true)) (fun _ wr => a0.size - wr.iterPos w.heap.size)
  case atStart =>
    exact ⟨0, Nat.zero_le _, ⟨by have := World.iter_heap w a0 0; simpa using this⟩, ⟨(Below.refl _ w).alloc (Nat.le_refl _) _⟩, ⟨by simp⟩⟩
  case round =>
    obtain ⟨pos, hpos, HI, HB, HA⟩ := hrel
    by_cases hp : pos < a0.size
    · have hnx : ∀ ty, (Instr.next (.pointer (some ⟨w.heap.size, 0, none⟩)) true ty).run Tryd.prog wr = _ := fun ty => Lib.run_next_any_at wr w.heap.size a0 pos ty HI.out hp
      obtain ⟨h1, h2⟩ := rune_at a0 pos hp
      have hd1 := decode_le a0 pos
      obtain ⟨c, hc⟩ : ∃ c : Int, ((Utf8.decode a0 pos).1 : Int) = c := ⟨_, rfl⟩
      obtain ⟨wd, hwd⟩ : ∃ wd, (Utf8.decode a0 pos).2 = wd := ⟨_, rfl⟩
      have hc0 : 0 ≤ c := by omega
      have hc1 : c ≤ 2147483647 := by omega
      rw [hc] at h1 hnx
      rw [hwd] at h2 hnx
      clear hc hwd hd1
      have HI2 := Aside0.mk (Lib.iterAt_heap wr w.heap.size a0 pos (pos + wd) HI.out)
      have HB2 := Aside0.mk (Lib.below_iterAt HB.out (k := w.heap.size) (Nat.le_refl _) a0 (pos + wd))
      have HT := Aside0.mk (take_ok a0 pos hp)
      have hpos2 := Aside0.mk (iterPos_of HI.out)
      have hpos3 := Aside0.mk (iterPos_of HI2.out)
      cases hk : okB a0[pos] with
      | true =>
        rw [hk] at h1
        obtain rfl : wd = 1 := h2 hk
        have ho : odd c = false := h1
        have HK := Aside0.mk hk
        have HO := Aside0.mk ho
        clear h1 h2 hk ho
        go_wp2_with (go_at_call 46; refine (odd_calls c _ (by omega) hc1).mono ?_; rintro e w1 ⟨rfl, rfl⟩; rw [HO.out])
        go_roundw
        case rel => exact ⟨pos + 1, hp, HI2, HB2, ⟨by rw [HT.out, List.all_append, HA.out]; simp [HK.out]⟩⟩
        case measure => rw [hpos2.out, hpos3.out]; omega
      | false =>
        rw [hk] at h1
        have ho : odd c = true := h1
        have HO := Aside0.mk ho
        have hw : Aside0 (wordB a0 = false) := ⟨by
          unfold wordB
          have : a0.data.toList.all okB = false := by
            rw [Bool.eq_false_iff]
            intro hh
            have := List.all_eq_true.1 hh a0[pos] (by exact List.getElem_mem (l := a0.data.toList) (n := pos) (by simpa using hp))
            rw [hk] at this
            cases this
          rw [this]
          rfl⟩
        clear h1 h2 hk ho
        go_wp2_with (go_at_call 46; refine (odd_calls c _ (by omega) hc1).mono ?_; rintro e w1 ⟨rfl, rfl⟩; rw [HO.out])
        go_ret
        exact ⟨by rw [hw.out]; rfl, HB2.out⟩
    · have hnx : ∀ ty, (Instr.next (.pointer (some ⟨w.heap.size, 0, none⟩)) true ty).run Tryd.prog wr = _ := fun ty => Lib.run_next_end_at wr w.heap.size a0 pos ty HI.out hp
      obtain rfl : pos = a0.size := by omega
      have HW : Aside0 (wordB a0 = !a0.data.toList.isEmpty) := ⟨by
        have := HA.out
        rw [List.take_of_length_le (by simp)] at this
        unfold wordB
        rw [this]
        rfl⟩
      go_wp2_with fail
      go_ret
      exact ⟨by rw [HW.out, ← Lib.toList_data]; rfl, HB.out⟩
end Go.Proofs.YtfjdlllmpgknpaaDoor.S
