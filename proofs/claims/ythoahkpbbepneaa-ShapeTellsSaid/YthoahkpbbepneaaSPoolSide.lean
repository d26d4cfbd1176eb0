/-
The closure of Pool: how many blocks there are along a side. Condition: the captured variable's cell.
-/
import Derived.Test.YthoahkpbbepneaaSWords
namespace Go.Proofs.Ythoahkpbbepneaa.S
open Go.RowKit Go.Proofs.YthoahkpbbepneaaW.PrintWords Go.Proofs.Ythoahkpbbepneaa.Q
set_option linter.unusedVariables false
set_option linter.unusedSimpArgs false
def pside (n size : Int) : Int := if size < 1 then 0 else (if Int.tmod n size = 0 then wrap64 (Int.tdiv n size) else 0)
set_option maxHeartbeats 1000000 in
theorem pside_calls (n size : Int) (b1 : Nat) (w : World) (h1 : w.cell? ⟨b1, 0, none⟩ = some (.int .i64 size)) :
    Calls Try.prog 26 #[.int .i64 n, .pointer (some ⟨b1, 0, none⟩)] w fun e w' => e = .returned (.int .i64 (pside n size)) ∧ Drawn0 w w' := by
  by_cases c1 : size < 1
  · have hs : pside n size = 0 := by unfold pside; rw [if_pos c1]
    have HS := Lib.hid hs
    have c1b : decide (size < 1) = true := decide_eq_true c1
    clear hs c1
    go_enter Try.func26, Try.ntmps26
    go_wp2_with fail
    go_ret
    exact ⟨by rw [HS.out]; rfl, Drawn0.refl _⟩
  · have c1b : decide (size < 1) = false := decide_eq_false c1
    have c0 : ¬ size = 0 := by omega
    by_cases c2 : Int.tmod n size = 0
    · have hs : pside n size = wrap64 (Int.tdiv n size) := by unfold pside; rw [if_neg c1, if_pos c2]
      have HS := Lib.hid hs
      have c2b : (Int.tmod n size != 0) = false := by rw [c2]; rfl
      clear hs c1 c2
      go_enter Try.func26, Try.ntmps26
      go_wp2_with fail
      go_ret
      exact ⟨by rw [HS.out]; rfl, Drawn0.refl _⟩
    · have hs : pside n size = 0 := by unfold pside; rw [if_neg c1, if_neg c2]
      have HS := Lib.hid hs
      have c2b : (Int.tmod n size != 0) = true := by rw [bne_iff_ne]; exact c2
      clear hs c1 c2
      go_enter Try.func26, Try.ntmps26
      go_wp2_with fail
      go_ret
      exact ⟨by rw [HS.out]; rfl, Drawn0.refl _⟩
end Go.Proofs.Ythoahkpbbepneaa.S
