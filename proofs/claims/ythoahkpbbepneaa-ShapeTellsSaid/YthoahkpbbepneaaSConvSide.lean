/-
The closure of Conv: how many windows there are along a side. Condition: the captured variables' cells.
-/
import Derived.Test.YthoahkpbbepneaaSWords
namespace Go.Proofs.Ythoahkpbbepneaa.S
open Go.RowKit Go.Proofs.YthoahkpbbepneaaW.PrintWords Go.Proofs.Ythoahkpbbepneaa.Q
set_option linter.unusedVariables false
set_option linter.unusedSimpArgs false
def side (n size step : Int) : Int := if 1 ≤ size ∧ size ≤ n then (if 1 ≤ step ∧ step ≤ 12 then wrap64 (wrap64 (Int.tdiv (wrap64 (n - size)) step) + 1) else 0) else 0
set_option maxHeartbeats 1000000 in
theorem side_calls (n size step : Int) (b1 b2 : Nat) (w : World) (h1 : w.cell? ⟨b1, 0, none⟩ = some (.int .i64 size)) (h2 : w.cell? ⟨b2, 0, none⟩ = some (.int .i64 step)) :
    Calls Try.prog 25 #[.int .i64 n, .pointer (some ⟨b1, 0, none⟩), .pointer (some ⟨b2, 0, none⟩)] w fun e w' => e = .returned (.int .i64 (side n size step)) ∧ Drawn0 w w' := by
  by_cases c1 : 1 ≤ size ∧ size ≤ n
  · by_cases c2 : 1 ≤ step ∧ step ≤ 12
    · obtain ⟨sd, hs⟩ : ∃ s, s = side n size step := ⟨_, rfl⟩
      have hs2 : wrap64 (wrap64 (Int.tdiv (wrap64 (n - size)) step) + 1) = sd := by rw [hs]; unfold side; rw [if_pos c1, if_pos c2]
      rw [← hs]
      have C1 := Lib.hid c1
      have C2 := Lib.hid c2
      have HS := Lib.hid hs2
      have c3 : ¬ step = 0 := by omega
      clear hs hs2 c1 c2
      go_enter Try.func25, Try.ntmps25
      go_wp2_with fail
      refine (within_yes _ _ _ _ C1.out.1 C1.out.2).mono ?_
      rintro e w1 ⟨rfl, hd1⟩
      obtain ⟨k1, rfl⟩ := hd1.out
      go_wp2_with fail
      refine (within_yes _ _ _ _ C2.out.1 C2.out.2).mono ?_
      rintro e w1 ⟨rfl, hd2⟩
      obtain ⟨k2, rfl⟩ := hd2.out
      go_wp2_with fail
      go_ret
      exact ⟨by rw [← HS.out]; rfl, ⟨k1 + k2, rfl⟩⟩
    · obtain ⟨sd, hs⟩ : ∃ s, s = side n size step := ⟨_, rfl⟩
      have hs2 : 0 = sd := by rw [hs]; unfold side; rw [if_pos c1, if_neg c2]
      rw [← hs]
      have C1 := Lib.hid c1
      have C2 := Lib.hid c2
      have HS := Lib.hid hs2
      clear hs hs2 c1 c2
      go_enter Try.func25, Try.ntmps25
      go_wp2_with fail
      refine (within_yes _ _ _ _ C1.out.1 C1.out.2).mono ?_
      rintro e w1 ⟨rfl, hd1⟩
      obtain ⟨k1, rfl⟩ := hd1.out
      go_wp2_with fail
      refine (within_no _ _ _ _ C2.out).mono ?_
      rintro e w1 ⟨rfl, hd2⟩
      obtain ⟨k2, rfl⟩ := hd2.out
      go_wp2_with fail
      go_ret
      exact ⟨by rw [← HS.out]; rfl, ⟨k1 + k2, rfl⟩⟩
  · obtain ⟨sd, hs⟩ : ∃ s, s = side n size step := ⟨_, rfl⟩
    have hs2 : 0 = sd := by rw [hs]; unfold side; rw [if_neg c1]
    rw [← hs]
    have C1 := Lib.hid c1
    have HS := Lib.hid hs2
    clear hs hs2 c1
    go_enter Try.func25, Try.ntmps25
    go_wp2_with fail
    refine (within_no _ _ _ _ C1.out).mono ?_
    rintro e w1 ⟨rfl, hd1⟩
    obtain ⟨k1, rfl⟩ := hd1.out
    go_wp2_with fail
    go_ret
    exact ⟨by rw [← HS.out]; rfl, hd1⟩
end Go.Proofs.Ythoahkpbbepneaa.S
