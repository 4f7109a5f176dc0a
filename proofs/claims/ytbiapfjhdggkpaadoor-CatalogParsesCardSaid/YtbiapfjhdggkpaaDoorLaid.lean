/- What the tied tables give: when the call begins, the tables lie as their texts lay them. Conditions: none. -/
import Derived.Test.YtbiapfjhdggkpaaDoorRows
import Derived.Test.YtbiapfjhdggkpaaDoorOpen
import Derived.LaidMore
import Derived.Stop.Joined
import Derived.KernelRfl
namespace Go.Proofs.YtbiapfjhdggkpaaDoor
open Go Go.ChangeShapes Go.WideShapes Go.ChangeAt Go.RowKit
theorem own : ownKnob Tryd.prog.godebug = none := by kernel_rfl
theorem laidOut : laidOutB Tryd.prog = true := by kernel_rfl
/-- The listed variables, as the rows list them. -/
def LAID {H : Type} : List (String × DataW H) := [("math/bits.deBruijn32tab", Rows.laid_math_bits_deBruijn32tab), ("math/bits.deBruijn64tab", Rows.laid_math_bits_deBruijn64tab), ("internal/strconv.uint64pow10", Rows.laid_internal_strconv_uint64pow10)]
def STEPS : Nat := 34
/-- The heap that the program's own initialisers leave meets the condition. -/
theorem door_met (os : Os) (args : Array Value) : laidMetH Tryd.prog LAID ((World.doorLaid Tryd.prog STEPS os).forCall (fun _ _ => 0) ⟨#[], args, []⟩).memory :=
  laidMetH_of_parts3 (fuel := 8) (laidMet_of_run' 8 (by kernel_rfl) (by kernel_rfl)) (by kernel_rfl) (by kernel_rfl)
end Go.Proofs.YtbiapfjhdggkpaaDoor
