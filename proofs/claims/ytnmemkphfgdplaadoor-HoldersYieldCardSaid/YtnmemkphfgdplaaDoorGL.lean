/- What the package variables hold that the functions read: the table of lock modes; and that it stays so. Conditions: none. -/
import Derived.Test.YtnmemkphfgdplaaDoorMy
import Derived.Test.YtnmemkphfgdplaaDoorT8
set_option linter.unusedVariables false
set_option linter.unusedSimpArgs false
namespace Go.Proofs.YtnmemkphfgdplaaDoor
open Go.RowKit Go.Proofs.YtnmemkphfgdplaaDoorW.PrintWords
/-- The table of compatible modes, row by row. -/
def modeTab : List Bool := [false, false, false, false, false, false, false, true, true, true, true, false, false, true, true, false, false, false, false, true, false, true, false, false, false, true, false, false, false, false, false, false, false, false, false, false]
/-- The package variable holds the table. -/
def GL (w : World) : Prop := ∀ j : Nat, j < 36 → w.cell? ⟨0, j, none⟩ = some (.bool (modeTab.getD j false))
theorem GL.below {w w1 : World} (h : GL w) (hb : Below w.heap.size w w1) : GL w1 := fun j hj => pw_cell_below hb (h j hj)
theorem GL.drewN {w : World} {n : Nat} (h : GL w) : GL (w.drewN n) := h
theorem GL.drew {w : World} (h : GL w) : GL w.drew := h
end Go.Proofs.YtnmemkphfgdplaaDoor
