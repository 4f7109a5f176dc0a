/- What the tied tables give: when the call begins, the table of lock modes lies as its text lays it. Conditions: none. -/
import Derived.Test.YtnmemkphfgdplaaDoorRows
import Derived.Test.YtnmemkphfgdplaaDoorOpen
import Derived.Test.YtnmemkphfgdplaaDoorGL
import Derived.LaidMore
import Derived.Stop.Joined
import Derived.KernelRfl
set_option linter.unusedVariables false
set_option linter.unusedSimpArgs false
namespace Go.Proofs.YtnmemkphfgdplaaDoor
open Go Go.ChangeShapes Go.WideShapes Go.ChangeAt Go.RowKit
theorem own : ownKnob Tryd.prog.godebug = none := by kernel_rfl
theorem laidOut : laidOutB Tryd.prog = true := by kernel_rfl
/-- The listed variables, as the rows list them. -/
def LAID {H : Type} : List (String × DataW H) := [("clusterlocks/mode.together", Rows.laid_clusterlocks_mode_together)]
def STEPS : Nat := 35
/-- The heap that the program's own initialisers leave meets the condition. -/
theorem door_met (os : Os) (args : Array Value) : laidMetH Tryd.prog LAID ((World.doorLaid Tryd.prog STEPS os).forCall (fun _ _ => 0) ⟨#[], args, []⟩).memory :=
  laidMetH_of_parts3 (fuel := 8) (laidMet_of_run' 8 (by kernel_rfl) (by kernel_rfl)) (by kernel_rfl) (by kernel_rfl)
theorem gMode : Tryd.prog.globalNamed "clusterlocks/mode.together" = some 0 := by kernel_rfl
theorem tMode : (Tryd.prog.globals[0]?).map (·.type) = some 79 := by kernel_rfl
theorem gl_of_laid {W : World} (h : laidMetH Tryd.prog LAID W) : GL W := by
  rw [MakeChecks.laidMetH_plain _ _ _ (by kernel_rfl)] at h
  obtain ⟨ps, ⟨g0, t0, cs0, f0, p0, q0, hg0, ht0, hv0, hd0, _, _⟩, _, _⟩ := h
  obtain rfl := Option.some.inj (gMode.symm.trans hg0)
  obtain rfl := Option.some.inj (tMode.symm.trans ht0)
  have e := Open.Flat.array Tryd.underlying79 (by kernel_rfl) (Open.Flat.array Tryd.underlying78 (by kernel_rfl) (Open.Flat.bool Tryd.underlying4)) f0 _ _ hd0
  intro j hj
  have hc := World.var?_cell hg0 hv0 j
  rw [hc]
  have key : Open.flatA (Open.flatA Open.flat0) (Rows.laid_clusterlocks_mode_together (H := Unit)) = modeTab.map Value.bool := rfl
  have e2 : cs0.toList = modeTab.map Value.bool := e.trans key
  rw [← Array.getElem?_toList, e2, List.getElem?_map]
  have hl : modeTab.length = 36 := rfl
  rw [List.getD_eq_getElem?_getD, List.getElem?_eq_getElem (by omega)]
  rfl
end Go.Proofs.YtnmemkphfgdplaaDoor
