/-
text.Get comes to 'get': the number that a text tells, if its text is that one. Conditions: a text of at most 2 to the 47 bytes; what the library reads.
-/
import Derived.Test.YtfjdlllmpgknpaaDoorSTabs
import Derived.Test.YtfjdlllmpgknpaaDoorQ2
import Derived.WalkSpells
import Derived.WalkLawsBesides
import Derived.Lib.AtoiBound
set_option linter.unusedVariables false
set_option linter.unusedSimpArgs false
namespace Go.Proofs.YtfjdlllmpgknpaaDoor.S
open Go.RowKit Go.Proofs.YtfjdlllmpgknpaaDoorW.PrintWords Go.Proofs.YtfjdlllmpgknpaaDoor.Q
/-- What strconv.Atoi makes of a text, if that is a number. -/
def num? (s : ByteArray) : Option Int := match Lib.atoiAll s.data.toList with
  | .ok v => some v
  | _ => none
def get (s : ByteArray) : Option (Int × Bool) := if s.size ≤ 140737488355328 then match num? s with
  | some v => (text_Number.f v).map fun t => if s.toList = [] then (0, false) else if t.toList = s.toList then (v, true) else (0, false)
  | none => some (0, false)
  else none
theorem atoi_ok (s : ByteArray) (v : Int) (hl : s.size ≤ 140737488355328) (h : num? s = some v) (w : World) :
    Calls Tryd.prog 24 #[.string s] w fun e w' => e = .returned (.tuple #[.int .i64 v, .nilIface]) ∧ Aside0 (Below w.heap.size w w') := by
  unfold num? at h
  split at h
  · rename_i u hu
    obtain rfl := Option.some.inj h
    refine (Tryd.strconv_Atoi_ok s (by omega) u hu w).mono ?_
    rintro e w' ⟨rfl, rfl | ⟨t, rfl⟩⟩
    · exact ⟨rfl, ⟨Below.refl _ _⟩⟩
    · exact ⟨rfl, ⟨Lib.bytesWorld_below _ _ _⟩⟩
  · cases h
theorem atoi_bad (s : ByteArray) (hl : s.size ≤ 140737488355328) (h : num? s = none) (w : World) (hT : Tabs w) :
    Calls Tryd.prog 24 #[.string s] w fun e w' => ∃ (n : Int) (g : Nat), e = .returned (.tuple #[.int .i64 n, .iface 58 (.pointer (some ⟨g, 0, none⟩))]) ∧ Aside0 (Below w.heap.size w w') := by
  unfold num? at h
  rcases hq : Lib.atoiAll s.data.toList with v | _ | _
  · rw [hq] at h
    cases h
  · obtain ⟨tp, p, hv⟩ := hT.syn
    refine (Any.strconv_Atoi_syntax_var Tryd.laysC172 s (by omega) hq tp p w hv).mono ?_
    rintro e w' ⟨g, rfl, _, _, hb⟩
    exact ⟨_, g, rfl, ⟨hb⟩⟩
  · obtain ⟨tp, p, hv⟩ := hT.rng
    refine (Any.strconv_Atoi_range_var Tryd.laysC172 s (by omega) hq tp p w hv).mono ?_
    rintro e w' ⟨g, rfl, _, _, hb⟩
    exact ⟨_, g, rfl, ⟨hb⟩⟩
theorem number_any (v : Int) (t : ByteArray) (w : World) (h : text_Number.f v = some t) (hT : Tabs w) :
    Calls Tryd.prog 17 #[.int .i64 v] w fun e w' => e = .returned (.string t) ∧ Aside0 (Below w.heap.size w w') :=
  (text_Number.calls v t w h hT).mono fun e w' ⟨h1, h2⟩ => ⟨h1, ⟨h2⟩⟩
set_option maxHeartbeats 1000000 in
set_option maxRecDepth 100000 in
theorem get_bad (s : ByteArray) (w : World) (hl : s.size ≤ 140737488355328) (h : num? s = none) (hT : Tabs w) :
    Calls Tryd.prog 11 #[.string s] w fun e w' => e = .returned (.tuple #[.int .i64 0, .bool false]) ∧ Below w.heap.size w w' := by
  have HA := Aside0.mk (atoi_bad s hl h w hT)
  clear h hT
  go_enter Tryd.func11, Tryd.ntmps11
  go_wp2_with (go_at_call 24; refine HA.out.mono ?_; rintro e w1 ⟨n, g, rfl, HB⟩)
  go_ret2
  exact ⟨rfl, HB.out⟩
set_option maxHeartbeats 1000000 in
set_option maxRecDepth 100000 in
theorem get_empty (s : ByteArray) (v : Int) (w : World) (hl : s.size ≤ 140737488355328) (h : num? s = some v) (he : s.toList = []) :
    Calls Tryd.prog 11 #[.string s] w fun e w' => e = .returned (.tuple #[.int .i64 0, .bool false]) ∧ Below w.heap.size w w' := by
  have HA := Aside0.mk (atoi_ok s v hl h w)
  have e1 : s.toList.isEmpty = true := by rw [he]; rfl
  clear h
  go_enter Tryd.func11, Tryd.ntmps11
  go_wp2_with (go_at_call 24; refine HA.out.mono ?_; rintro e w1 ⟨rfl, HB⟩)
  go_ret2
  exact ⟨rfl, HB.out⟩
set_option maxHeartbeats 1000000 in
set_option maxRecDepth 100000 in
theorem get_num (s : ByteArray) (v : Int) (t : ByteArray) (b : Bool) (w : World) (hl : s.size ≤ 140737488355328) (h : num? s = some v) (hn : text_Number.f v = some t) (he : s.toList.isEmpty = false) (hb : (t.toList == s.toList) = b) (hT : Tabs w) :
    Calls Tryd.prog 11 #[.string s] w fun e w' => e = .returned (.tuple #[.int .i64 (if b then v else 0), .bool b]) ∧ Below w.heap.size w w' := by
  have HA := Aside0.mk (atoi_ok s v hl h w)
  have HN := Aside0.mk hn
  have HT := Aside0.mk hT
  have e2 : (t.toList != s.toList) = !b := by rw [← hb]; rfl
  have e3 : s.toList ≠ [] := by intro h; rw [h] at he; cases he
  clear h hn hT
  cases b with
  | true =>
    go_enter Tryd.func11, Tryd.ntmps11
    go_wp2_with (first | (go_at_call 24; refine HA.out.mono ?_; rintro e w1 ⟨rfl, HB⟩) | (go_at_call 17; refine (number_any v t _ HN.out (HT.out.below HB.out)).mono ?_; rintro e w2 ⟨rfl, HB2⟩))
    go_ret2
    exact ⟨rfl, below_step HB.out HB2.out⟩
  | false =>
    go_enter Tryd.func11, Tryd.ntmps11
    go_wp2_with (first | (go_at_call 24; refine HA.out.mono ?_; rintro e w1 ⟨rfl, HB⟩) | (go_at_call 17; refine (number_any v t _ HN.out (HT.out.below HB.out)).mono ?_; rintro e w2 ⟨rfl, HB2⟩))
    go_ret2
    exact ⟨rfl, below_step HB.out HB2.out⟩
theorem get_calls (a0 : ByteArray) (r1 : Int) (r2 : Bool) (w : World) (h : get a0 = some (r1, r2)) (hT : Tabs w) :
    Calls Tryd.prog 11 #[.string a0] w fun e w' => e = .returned (.tuple #[.int .i64 r1, .bool r2]) ∧ Below w.heap.size w w' := by
  unfold get at h
  split at h
  · rename_i hl
    cases hn : num? a0 with
    | none =>
      rw [hn] at h
      injection h with h
      injection h with h1 h2
      subst h1 h2
      exact get_bad a0 w hl hn hT
    | some v =>
      rw [hn] at h
      obtain ⟨t, ht, h⟩ := Option.map_eq_some_iff.1 h
      by_cases he : a0.toList = []
      · rw [if_pos he] at h
        injection h with h1 h2
        subst h1 h2
        exact get_empty a0 v w hl hn he
      · rw [if_neg he] at h
        have he2 : a0.toList.isEmpty = false := by
          cases hq : a0.toList with
          | nil => exact absurd hq he
          | cons x y => rfl
        by_cases hb : t.toList = a0.toList
        · rw [if_pos hb] at h
          injection h with h1 h2
          subst h1 h2
          exact get_num a0 v t true w hl hn ht he2 (by rw [hb]; exact beq_self_eq_true _) hT
        · rw [if_neg hb] at h
          injection h with h1 h2
          subst h1 h2
          exact get_num a0 v t false w hl hn ht he2 (beq_eq_false_iff_ne.2 hb) hT
  · cases h
end Go.Proofs.YtfjdlllmpgknpaaDoor.S
