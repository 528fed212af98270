/-
  What every card of this seat leans on: the listed table as the walks ask for it; a world for the witness.
-/
import Derived.Test.YtpphfeinmmmckaaDoorCards
import Derived.Test.YtpphfeinmmmckaaDoorTie
import Derived.Test.YtpphfeinmmmckaaDoorBits
import Derived.WalkKit
import Derived.ProofKit
import Derived.OpenShut
import Derived.Deep.DeepHandedRow
import Derived.Lib.LaidTab
namespace Go.Proofs.YtpphfeinmmmckaaDoor
open Go.ChangeShapes Go.WideShapes Go.ChangeAt Go.RowKit

theorem own : ownKnob Tryd.prog.godebug = none := by kernel_rfl
theorem gTab : Tryd.prog.globalNamed "math/bits.deBruijn64tab" = some 0 := by kernel_rfl
theorem gTabType : (Tryd.prog.globals[0]?).map (·.type) = some 54 := by kernel_rfl
theorem cells54 : Tryd.prog.cellsOf 54 = 64 := by kernel_rfl
theorem cells5 : Tryd.prog.cellsOf 5 = 1 := by kernel_rfl

/-- The table's numbers, as integers. -/
def tabInts : List Int := [0, 1, 56, 2, 57, 49, 28, 3, 61, 58, 42, 50, 38, 29, 17, 4, 62, 47, 59, 36, 45, 43, 51, 22, 53, 39, 33, 30, 24, 18, 12, 5, 63, 55, 48, 27, 60, 41, 37, 16, 46, 35, 44, 21, 52, 32, 23, 11, 54, 26, 40, 15, 34, 20, 31, 10, 25, 14, 19, 9, 13, 8, 7, 6]

theorem tab_of {W : World} (h : laidMetH Tryd.prog [("math/bits.deBruijn64tab", Rows.laid_math_bits_deBruijn64tab)] W) : TabAt W := by
  have t : Lib.TabIs Tryd.prog W "math/bits.deBruijn64tab" .u8 tabInts := Lib.tabIs_of_head (rest := []) gTab gTabType Tryd.underlying54 Tryd.underlying5 cells5 cells54 h
  intro j hj
  have hl : j < 64 := hj
  have h1 := t.cell gTab j (by exact hl)
  rw [h1]
  have e : ∀ j : Fin 64, tabInts.getD j.val 0 = ((Lib.deBruijn64tab.getD j.val 0 : Nat) : Int) := by decide
  rw [e ⟨j, hl⟩]

/-- A world for the witness: the settled one, the table (block 0) holding what its initialiser lays. -/
noncomputable def laidWorld (os : Os) : World :=
  { World.holding Tryd.prog os ⟨#[], #[], []⟩ with heap := (World.holding Tryd.prog os ⟨#[], #[], []⟩).heap.modify 0 fun
      | .cells _ t frozen => .cells (tabInts.map (Value.int .u8)).toArray t frozen
      | o => o }
end Go.Proofs.YtpphfeinmmmckaaDoor
