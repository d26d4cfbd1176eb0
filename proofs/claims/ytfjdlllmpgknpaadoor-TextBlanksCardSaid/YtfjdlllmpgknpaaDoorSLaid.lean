/-
What a row's listed variables and the world's shape give: the fact that the library's functions ask; and a world that holds all that is listed. Condition: the row's list.
-/
import Derived.Test.YtfjdlllmpgknpaaDoorSTabs
import Derived.Test.YtfjdlllmpgknpaaDoorCards
import Derived.Lib.LaidTab
import Derived.Stop.LaidErr
import Derived.Stop.Joined
import Derived.Shelf.Vars
import Derived.MakeChecks
import Derived.Lay
import Derived.LaidLaws
set_option linter.unusedVariables false
namespace Go.Proofs.YtfjdlllmpgknpaaDoor.Laid
open Go.RowKit Go.ChangeShapes Go.WideShapes Go.ChangeAt
/-- The list that each row bears. -/
def L : List (String × DataW Unit) := Rows.textTellsRow.laid
theorem plain {W : World} (h : laidMetH Tryd.prog L W) : laidMet Tryd.prog L W := by
  rw [MakeChecks.laidMetH_plain _ _ _ (by kernel_rfl)] at h
  exact h
theorem star : "*" ++ "errors.errorString" = "*errors.errorString" := by decide
theorem row87 (u : TypeId) (h : Tryd.prog.typeName? 3 u = some "*errors.errorString") : u = 87 :=
  typeName_ptr_named (nm := "errors.errorString") (by rw [star]; kernel_rfl) (by kernel_rfl) (by decide) u (by rw [star]; exact h)
theorem gType (g : Nat) (hg : g = 0 ∨ g = 1) : (Tryd.prog.globals[g]?).map (·.type) = some 42 := by
  rcases hg with rfl | rfl
  · kernel_rfl
  · kernel_rfl
theorem tabs_of {W : World} (h : laidMetH Tryd.prog L W) (hsh : W.ShapedOpen Tryd.prog) : S.Tabs W := by
  have h0 := plain h
  have h2 := h0.tail.tail
  have h4 := h2.tail.tail
  obtain ⟨a1, s1, hv1, _⟩ := laid_sentinel h4 (by kernel_rfl) (gType _ (.inr rfl)) Tryd.underlying42 row87 Tryd.underlying87 Tryd.underlying89 rfl rfl Tryd.underlying9 (by kernel_rfl) (by kernel_rfl)
  obtain ⟨a2, s2, hv2, _⟩ := laid_sentinel h4.tail (by kernel_rfl) (gType _ (.inl rfl)) Tryd.underlying42 row87 Tryd.underlying87 Tryd.underlying89 rfl rfl Tryd.underlying9 (by kernel_rfl) (by kernel_rfl)
  exact ⟨Lib.tabIs_of_head (g := 3) (by kernel_rfl) (by kernel_rfl) Tryd.underlying92 Tryd.underlying66 (by kernel_rfl) (by kernel_rfl) h2,
    cell_of_shapedOpen_int (zero := #[.int .i64 0]) hsh (by decide +kernel) (by kernel_rfl) rfl (by kernel_rfl) (by kernel_rfl) Tryd.underlying3, ⟨_, _, hv2⟩, ⟨_, _, hv1⟩⟩
/-- A world that holds what is listed. -/
noncomputable def start (os : Os) : World := World.laidAll Tryd.prog os L
theorem start_met (os : Os) (args : Array Value) : laidMetH Tryd.prog L ((start os).forCall (fun _ _ => 0) ⟨#[], args, []⟩).memory := by
  rw [MakeChecks.laidMetH_plain _ _ _ (by kernel_rfl)]
  exact laidMet_laidAll _ (by kernel_rfl) (by kernel_rfl)
theorem start_shaped (os : Os) (args : Array Value) : ((start os).forCall (fun _ _ => 0) ⟨#[], args, []⟩).Shaped Tryd.prog := World.shaped_of_ZipB (by kernel_rfl) (by kernel_rfl)
end Go.Proofs.YtfjdlllmpgknpaaDoor.Laid
