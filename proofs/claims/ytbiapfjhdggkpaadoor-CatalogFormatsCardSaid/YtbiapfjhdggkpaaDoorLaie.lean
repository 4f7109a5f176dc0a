/- What the tied tables give, with those of package utf8: when the call begins, the tables lie as their texts lay them. Conditions: none. -/
import Derived.Test.YtbiapfjhdggkpaaDoorLaid
import Derived.Lay
import Derived.MakeChecks
namespace Go.Proofs.YtbiapfjhdggkpaaDoor
open Go Go.ChangeShapes Go.WideShapes Go.ChangeAt Go.RowKit
/-- The listed variables, as the rows list them. -/
def LAIE : List (String × DataW Unit) := [("math/bits.deBruijn32tab", Rows.laid_math_bits_deBruijn32tab), ("math/bits.deBruijn64tab", Rows.laid_math_bits_deBruijn64tab), ("internal/strconv.uint64pow10", Rows.laid_internal_strconv_uint64pow10), ("unicode/utf8.acceptRanges", Rows.laid_unicode_utf8_acceptRanges), ("unicode/utf8.first", Rows.laid_unicode_utf8_first)]
/-- The world with the tables laid meets the condition. -/
theorem door_mete (os : Os) (args : Array Value) : laidMetH Tryd.prog LAIE ((World.laidAll Tryd.prog os LAIE).forCall (fun _ _ => 0) ⟨#[], args, []⟩).memory := by
  rw [MakeChecks.laidMetH_plain _ _ _ (by kernel_rfl)]; exact laidMet_laidAll _ (by kernel_rfl) (by kernel_rfl)
/-- Its shape. -/
theorem shape_mete (os : Os) : (World.laidAll Tryd.prog os LAIE).Shaped Tryd.prog := World.shaped_of_ZipB (by kernel_rfl) (by kernel_rfl)
end Go.Proofs.YtbiapfjhdggkpaaDoor
