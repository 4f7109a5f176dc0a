/- Short words for the printed walks of this seat. Conditions: none. -/
import Derived.Test.YtlkhdhjdcgiciaaDoorWMore
namespace Go.Proofs.YtlkhdhjdcgiciaaDoor
open Go.RowKit Go.Proofs.YtlkhdhjdcgiciaaDoorW.PrintWords
theorem blkB {w0 w w1 : World} {g : Nat} {o : Obj} (_ : Aside0 (w0.heap[g]? = some o)) (h : w.heap[g]? = some o) (hb : Below w.heap.size w w1) : Aside0 (w1.heap[g]? = some o) := Aside0.mk (blk_below h hb)
theorem blkLt {w0 w : World} {g : Nat} {o : Obj} (_ : Aside0 (w0.heap[g]? = some o)) (h : w.heap[g]? = some o) : g < w.heap.size := blk_lt h
abbrev bN := @blk_drewN
abbrev bD := @blk_drew
abbrev bA := @blk_alloc
end Go.Proofs.YtlkhdhjdcgiciaaDoor
