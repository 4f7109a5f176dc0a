/- Short words for the printed walks of this seat. Conditions: none. -/
import Derived.Test.YtbiapfjhdggkpaaDoorWMore
import Derived.Test.YtbiapfjhdggkpaaDoorWTab
set_option linter.unusedVariables false
set_option linter.unusedSimpArgs false
namespace Go.Proofs.YtbiapfjhdggkpaaDoor
open Go.RowKit Go.Proofs.YtbiapfjhdggkpaaDoorW.PrintWords Go.Proofs.YtbiapfjhdggkpaaDoorW.PrintLast
theorem blkB {w0 w w1 : World} {g : Nat} {o : Obj} (_ : Aside0 (w0.heap[g]? = some o)) (h : w.heap[g]? = some o) (hb : Below w.heap.size w w1) : Aside0 (w1.heap[g]? = some o) := Aside0.mk (blk_below h hb)
theorem blkLt {w0 w : World} {g : Nat} {o : Obj} (_ : Aside0 (w0.heap[g]? = some o)) (h : w.heap[g]? = some o) : g < w.heap.size := blk_lt h
abbrev bN := @blk_drewN
abbrev bD := @blk_drew
abbrev bA := @blk_alloc
abbrev T : Bool := true
abbrev F : Bool := false
theorem bC {w : World} {g : Nat} {t : TypeId} {cs : Array Value} (h : Aside0 (w.heap[g]? = some (.cells cs t (0, 0)))) (i : Nat) {o : Option Value} (e : cs[i]? = o) : w.cell? ⟨g, i, none⟩ = o := (blk_cell h.out i).trans e
theorem bF {w : World} {g : Nat} {t : TypeId} {cs : Array Value} (h : Aside0 (w.heap[g]? = some (.cells cs t (0, 0)))) (i : Nat) : w.frozen? ⟨g, i, none⟩ = false := blk_frozen h.out i
theorem kC {w W : World} (h : Aside0 (Below w.heap.size w W)) {p : Addr} {v : Value} (hc : w.cell? p = some v) : W.cell? p = some v := (h.out.cell (World.block_lt_of_cell? w _ hc)).trans hc
abbrev bL := @below_alloc
abbrev bM := @pw_below_drewN
abbrev bR := @below_drew1
abbrev bS := @below_set
abbrev sA := @List.setIfInBounds_toArray
abbrev sB := @List.set_cons_zero
abbrev sC := @List.set_cons_succ
section
variable {P : Program} {md : Region.Mode} {ops : Array Oper} {Q : Exit → Act → World → Prop} {S : World → Prop} {ds : List Nat} {T0 : Bool × List (List Nat × List Nat)}
/-- pure_, with its table. -/
theorem pu (HT : Aside0 (rtab md ops = T0)) (i : Nat) (n : Tmp) {oi : Oper} {v : Value} {fuel : Nat} {l : Array Bool} {a : Act} {w : World} (l' : Array Bool) (hi : ops[i]? = some oi) (hN : oi.dst = some n) (hc : anyT T0 l.toList l'.toList i = true)
    (hQ : ∀ c a w, Q (.panic c) (a.put oi.dst v) w → Q (.panic c) a w) (hy : Yields P ops oi v a) {a' : Act} (ha : a.put (some n) v = a')
    (h : wpAnyLast P md ops Q S ds fuel l' a' w) : wpAnyLast P md ops Q S ds (fuel + 1) l a w := pure_ l' hi hN (any_of HT.out hc) hQ hy ha h
/-- take_, with its table. -/
theorem tk {B : List Nat} (HT : Aside0 (rtab md ops = T0)) (HW : Aside0 (waitsOk T0.2 B = true)) (i : Nat) (n : Tmp) {oi : Oper} {v : Value} {fuel : Nat} {l : Array Bool} {a : Act} {w : World} (l' : Array Bool) (hi : ops[i]? = some oi) (hN : oi.dst = some n) (hc : takeW T0 B ds l.toList l'.toList i = true)
    (hQ : ∀ c a w, Q (.panic c) (a.put oi.dst v) w → Q (.panic c) a w) (hy : YieldsIf P ops S oi v a) (hS : S w) {a' : Act} (ha : a.put (some n) v = a')
    (h : wpAnyLast P md ops Q S ds fuel l' a' w) : wpAnyLast P md ops Q S ds (fuel + 1) l a w := take_ l' hi hN (take_ofW HT.out HW.out hc) hQ hy hS ha h
end
/-- The second world is the first, with rows laid and orders drawn. -/
class Up (w0 w : World) : Prop where
  blk : ∀ {g : Nat} {o : Obj}, w0.heap[g]? = some o → w.heap[g]? = some o
  bel : ∀ {u : World}, Below u.heap.size u w0 → Below u.heap.size u w
instance upR (w : World) : Up w w := ⟨id, id⟩
instance upN {w0 w : World} [h : Up w0 w] (n : Nat) : Up w0 (w.drewN n) := ⟨fun k => blk_drewN (h.blk k) n, fun k => pw_below_drewN (h.bel k) n⟩
instance upD {w0 w : World} [h : Up w0 w] : Up w0 w.drew := ⟨fun k => blk_drew (h.blk k), fun k => below_drew1 (h.bel k)⟩
instance upA {w0 w : World} [h : Up w0 w] (o : Obj) : Up w0 (w.alloc o) := ⟨fun k => blk_alloc (h.blk k) o, fun k => below_alloc (h.bel k) o⟩
theorem uK {w0 w : World} {g : Nat} {o : Obj} (h : Aside0 (w0.heap[g]? = some o)) [u : Up w0 w] : w.heap[g]? = some o := u.blk h.out
theorem uB {u w0 w : World} (h : Aside0 (Below u.heap.size u w0)) [k : Up w0 w] : Below u.heap.size u w := k.bel h.out
theorem bK {w0 w w1 : World} {g : Nat} {o : Obj} (h : Aside0 (w0.heap[g]? = some o)) [u : Up w0 w] (hb : Below w.heap.size w w1) : Aside0 (w1.heap[g]? = some o) := Aside0.mk (blk_below (u.blk h.out) hb)
theorem sP1 (a : Act) (d : Tmp) (v : Value) : a.put (some d) v = { a with tmps := a.tmps.setIfInBounds d v } := rfl
theorem sP2 (a : Act) (v : Value) : a.put none v = a := rfl
theorem sP : (∀ (a : Act) (d : Tmp) (v : Value), a.put (some d) v = { a with tmps := a.tmps.setIfInBounds d v }) ∧ (∀ (l : List Value) (i : Nat) (v : Value), l.toArray.setIfInBounds i v = (l.set i v).toArray) ∧ (∀ (l : List Value) (x v : Value), (x :: l).set 0 v = v :: l) ∧ (∀ (l : List Value) (x v : Value) (n : Nat), (x :: l).set (n + 1) v = x :: l.set n v) ∧ (∀ n : Int, IntKind.i64.wrap n = wrap64 n) ∧ (∀ n : Int, IntKind.i32.wrap n = wrap32 n) :=
  ⟨fun _ _ _ => rfl, fun _ _ _ => List.setIfInBounds_toArray .., fun _ _ _ => rfl, fun _ _ _ _ => rfl, i64_w, i32_w⟩
theorem gE {u w0 w : World} {gb : Nat} (h : Aside0 (Below u.heap.size u w0)) [k : Up w0 w] (hg : gb = w.heap.size) : Aside0 (u.heap.size ≤ gb) := ⟨by rw [hg]; exact below_size (k.bel h.out)⟩
theorem gN {w0 w : World} {g gb : Nat} {o : Obj} (h : Aside0 (w0.heap[g]? = some o)) [k : Up w0 w] (hg : gb = w.heap.size) : Aside0 (g ≠ gb) := ⟨by rw [hg]; exact Nat.ne_of_lt (blk_lt (k.blk h.out))⟩
theorem bB {u w0 w w1 : World} (h : Aside0 (Below u.heap.size u w0)) [k : Up w0 w] (hb : Below w.heap.size w w1) : Aside0 (Below u.heap.size u w1) := ⟨below_step (k.bel h.out) hb⟩
theorem mA : (∀ (f : Operand → Value) (l : List Operand), l.toArray.map f = (l.map f).toArray) ∧ (∀ (f : Operand → Value) (a : Operand) (l : List Operand), (a :: l).map f = f a :: l.map f) ∧ (∀ (f : Operand → Value), ([] : List Operand).map f = []) ∧ (∀ {α : Type} (i : Nat) (l : List α), (l.drop i).length = l.length - i) ∧ (∀ {α : Type} (i : Nat) (l : List α), (l.take i).length = min i l.length) :=
  ⟨fun _ _ => List.map_toArray .., fun _ _ _ => rfl, fun _ => rfl, fun _ _ => List.length_drop, fun _ _ => List.length_take⟩
theorem c1 {w : World} {g : Nat} {t : TypeId} {v0 : Value} (h : Aside0 (w.heap[g]? = some (.cells #[v0] t (0, 0)))) : w.cell? ⟨g, 0, none⟩ = some v0 := bC h 0 rfl
theorem d1 {w : World} {g : Nat} {t : TypeId} {v0 : Value} (h : Aside0 (w.heap[g]? = some (.cells #[v0] t (0, 0)))) : w.cell? ⟨g, 0, none⟩ = some v0 ∧ w.frozen? ⟨g, 0, none⟩ = false := ⟨bC h 0 rfl, bF h 0⟩
theorem c2 {w : World} {g : Nat} {t : TypeId} {v0 v1 : Value} (h : Aside0 (w.heap[g]? = some (.cells #[v0, v1] t (0, 0)))) : w.cell? ⟨g, 0, none⟩ = some v0 ∧ w.cell? ⟨g, 1, none⟩ = some v1 := ⟨bC h 0 rfl, bC h 1 rfl⟩
theorem d2 {w : World} {g : Nat} {t : TypeId} {v0 v1 : Value} (h : Aside0 (w.heap[g]? = some (.cells #[v0, v1] t (0, 0)))) : w.cell? ⟨g, 0, none⟩ = some v0 ∧ w.cell? ⟨g, 1, none⟩ = some v1 ∧ w.frozen? ⟨g, 0, none⟩ = false ∧ w.frozen? ⟨g, 1, none⟩ = false := ⟨bC h 0 rfl, bC h 1 rfl, bF h 0, bF h 1⟩
theorem c3 {w : World} {g : Nat} {t : TypeId} {v0 v1 v2 : Value} (h : Aside0 (w.heap[g]? = some (.cells #[v0, v1, v2] t (0, 0)))) : w.cell? ⟨g, 0, none⟩ = some v0 ∧ w.cell? ⟨g, 1, none⟩ = some v1 ∧ w.cell? ⟨g, 2, none⟩ = some v2 := ⟨bC h 0 rfl, bC h 1 rfl, bC h 2 rfl⟩
theorem d3 {w : World} {g : Nat} {t : TypeId} {v0 v1 v2 : Value} (h : Aside0 (w.heap[g]? = some (.cells #[v0, v1, v2] t (0, 0)))) : w.cell? ⟨g, 0, none⟩ = some v0 ∧ w.cell? ⟨g, 1, none⟩ = some v1 ∧ w.cell? ⟨g, 2, none⟩ = some v2 ∧ w.frozen? ⟨g, 0, none⟩ = false ∧ w.frozen? ⟨g, 1, none⟩ = false ∧ w.frozen? ⟨g, 2, none⟩ = false := ⟨bC h 0 rfl, bC h 1 rfl, bC h 2 rfl, bF h 0, bF h 1, bF h 2⟩
theorem c4 {w : World} {g : Nat} {t : TypeId} {v0 v1 v2 v3 : Value} (h : Aside0 (w.heap[g]? = some (.cells #[v0, v1, v2, v3] t (0, 0)))) : w.cell? ⟨g, 0, none⟩ = some v0 ∧ w.cell? ⟨g, 1, none⟩ = some v1 ∧ w.cell? ⟨g, 2, none⟩ = some v2 ∧ w.cell? ⟨g, 3, none⟩ = some v3 := ⟨bC h 0 rfl, bC h 1 rfl, bC h 2 rfl, bC h 3 rfl⟩
theorem d4 {w : World} {g : Nat} {t : TypeId} {v0 v1 v2 v3 : Value} (h : Aside0 (w.heap[g]? = some (.cells #[v0, v1, v2, v3] t (0, 0)))) : w.cell? ⟨g, 0, none⟩ = some v0 ∧ w.cell? ⟨g, 1, none⟩ = some v1 ∧ w.cell? ⟨g, 2, none⟩ = some v2 ∧ w.cell? ⟨g, 3, none⟩ = some v3 ∧ w.frozen? ⟨g, 0, none⟩ = false ∧ w.frozen? ⟨g, 1, none⟩ = false ∧ w.frozen? ⟨g, 2, none⟩ = false ∧ w.frozen? ⟨g, 3, none⟩ = false := ⟨bC h 0 rfl, bC h 1 rfl, bC h 2 rfl, bC h 3 rfl, bF h 0, bF h 1, bF h 2, bF h 3⟩
theorem c5 {w : World} {g : Nat} {t : TypeId} {v0 v1 v2 v3 v4 : Value} (h : Aside0 (w.heap[g]? = some (.cells #[v0, v1, v2, v3, v4] t (0, 0)))) : w.cell? ⟨g, 0, none⟩ = some v0 ∧ w.cell? ⟨g, 1, none⟩ = some v1 ∧ w.cell? ⟨g, 2, none⟩ = some v2 ∧ w.cell? ⟨g, 3, none⟩ = some v3 ∧ w.cell? ⟨g, 4, none⟩ = some v4 := ⟨bC h 0 rfl, bC h 1 rfl, bC h 2 rfl, bC h 3 rfl, bC h 4 rfl⟩
theorem d5 {w : World} {g : Nat} {t : TypeId} {v0 v1 v2 v3 v4 : Value} (h : Aside0 (w.heap[g]? = some (.cells #[v0, v1, v2, v3, v4] t (0, 0)))) : w.cell? ⟨g, 0, none⟩ = some v0 ∧ w.cell? ⟨g, 1, none⟩ = some v1 ∧ w.cell? ⟨g, 2, none⟩ = some v2 ∧ w.cell? ⟨g, 3, none⟩ = some v3 ∧ w.cell? ⟨g, 4, none⟩ = some v4 ∧ w.frozen? ⟨g, 0, none⟩ = false ∧ w.frozen? ⟨g, 1, none⟩ = false ∧ w.frozen? ⟨g, 2, none⟩ = false ∧ w.frozen? ⟨g, 3, none⟩ = false ∧ w.frozen? ⟨g, 4, none⟩ = false := ⟨bC h 0 rfl, bC h 1 rfl, bC h 2 rfl, bC h 3 rfl, bC h 4 rfl, bF h 0, bF h 1, bF h 2, bF h 3, bF h 4⟩
theorem c6 {w : World} {g : Nat} {t : TypeId} {v0 v1 v2 v3 v4 v5 : Value} (h : Aside0 (w.heap[g]? = some (.cells #[v0, v1, v2, v3, v4, v5] t (0, 0)))) : w.cell? ⟨g, 0, none⟩ = some v0 ∧ w.cell? ⟨g, 1, none⟩ = some v1 ∧ w.cell? ⟨g, 2, none⟩ = some v2 ∧ w.cell? ⟨g, 3, none⟩ = some v3 ∧ w.cell? ⟨g, 4, none⟩ = some v4 ∧ w.cell? ⟨g, 5, none⟩ = some v5 := ⟨bC h 0 rfl, bC h 1 rfl, bC h 2 rfl, bC h 3 rfl, bC h 4 rfl, bC h 5 rfl⟩
theorem d6 {w : World} {g : Nat} {t : TypeId} {v0 v1 v2 v3 v4 v5 : Value} (h : Aside0 (w.heap[g]? = some (.cells #[v0, v1, v2, v3, v4, v5] t (0, 0)))) : w.cell? ⟨g, 0, none⟩ = some v0 ∧ w.cell? ⟨g, 1, none⟩ = some v1 ∧ w.cell? ⟨g, 2, none⟩ = some v2 ∧ w.cell? ⟨g, 3, none⟩ = some v3 ∧ w.cell? ⟨g, 4, none⟩ = some v4 ∧ w.cell? ⟨g, 5, none⟩ = some v5 ∧ w.frozen? ⟨g, 0, none⟩ = false ∧ w.frozen? ⟨g, 1, none⟩ = false ∧ w.frozen? ⟨g, 2, none⟩ = false ∧ w.frozen? ⟨g, 3, none⟩ = false ∧ w.frozen? ⟨g, 4, none⟩ = false ∧ w.frozen? ⟨g, 5, none⟩ = false := ⟨bC h 0 rfl, bC h 1 rfl, bC h 2 rfl, bC h 3 rfl, bC h 4 rfl, bC h 5 rfl, bF h 0, bF h 1, bF h 2, bF h 3, bF h 4, bF h 5⟩
/-- A block of number g stays as it is: rows laid, orders drawn, cells of other blocks set. -/
class UpG (g : Nat) (w0 w : World) : Prop where
  up : ∀ {o : Obj}, w0.heap[g]? = some o → w.heap[g]? = some o
class NeI (g g' : Nat) : Prop where
  ne : g ≠ g'
class GeI (u : World) (g : Nat) : Prop where
  ge : u.heap.size ≤ g
class UpS (u w0 w : World) : Prop where
  bel : Below u.heap.size u w0 → Below u.heap.size u w
instance ugR (g : Nat) (w : World) : UpG g w w := ⟨id⟩
instance ugN {g : Nat} {w0 w : World} [h : UpG g w0 w] (n : Nat) : UpG g w0 (w.drewN n) := ⟨fun k => blk_drewN (h.up k) n⟩
instance ugD {g : Nat} {w0 w : World} [h : UpG g w0 w] : UpG g w0 w.drew := ⟨fun k => blk_drew (h.up k)⟩
instance ugA {g : Nat} {w0 w : World} [h : UpG g w0 w] (o : Obj) : UpG g w0 (w.alloc o) := ⟨fun k => blk_alloc (h.up k) o⟩
instance ugS {g g' j : Nat} {w0 w : World} {v : Value} [h : UpG g w0 w] [n : NeI g g'] : UpG g w0 (w.setCell ⟨g', j, none⟩ v) := ⟨fun k => (Below.heap_setCell w ⟨g', j, none⟩ v g n.ne).trans (h.up k)⟩
instance usR (u w : World) : UpS u w w := ⟨id⟩
instance usN {u w0 w : World} [h : UpS u w0 w] (n : Nat) : UpS u w0 (w.drewN n) := ⟨fun k => pw_below_drewN (h.bel k) n⟩
instance usD {u w0 w : World} [h : UpS u w0 w] : UpS u w0 w.drew := ⟨fun k => below_drew1 (h.bel k)⟩
instance usA {u w0 w : World} [h : UpS u w0 w] (o : Obj) : UpS u w0 (w.alloc o) := ⟨fun k => below_alloc (h.bel k) o⟩
instance usS {u w0 w : World} {g j : Nat} {v : Value} [h : UpS u w0 w] [n : GeI u g] : UpS u w0 (w.setCell ⟨g, j, none⟩ v) := ⟨fun k => below_set (h.bel k) n.ge⟩
theorem nI {g g' : Nat} (h : Aside0 (g ≠ g')) : NeI g g' := ⟨h.out⟩
theorem gI {u : World} {g : Nat} (h : Aside0 (u.heap.size ≤ g)) : GeI u g := ⟨h.out⟩
theorem bG {g : Nat} {w0 w w1 : World} {o : Obj} (h : Aside0 (w0.heap[g]? = some o)) [k : UpG g w0 w] (hb : Below w.heap.size w w1) : Aside0 (w1.heap[g]? = some o) := ⟨blk_below (k.up h.out) hb⟩
theorem uG {g : Nat} {w0 w : World} {o : Obj} (h : Aside0 (w0.heap[g]? = some o)) [k : UpG g w0 w] : w.heap[g]? = some o := k.up h.out
theorem uS {u w0 w : World} (h : Aside0 (Below u.heap.size u w0)) [k : UpS u w0 w] : Below u.heap.size u w := k.bel h.out
theorem bT {u w0 w w1 : World} (h : Aside0 (Below u.heap.size u w0)) [k : UpS u w0 w] (hb : Below w.heap.size w w1) : Aside0 (Below u.heap.size u w1) := ⟨below_step (k.bel h.out) hb⟩
theorem p2 {w : World} {g : Nat} {t : TypeId} {v0 v1 z0 z1 : Value} (h : Aside0 (w.heap[g]? = some (.cells #[z0, z1] t (0, 0)))) : ((w.setCell ⟨g, 0, none⟩ v0).setCell ⟨g, 1, none⟩ v1).heap[g]? = some (.cells #[v0, v1] t (0, 0)) := blk_put (cs' := #[v0, v1]) (blk_put (cs' := #[v0, z1]) (h.out) 0 v0 rfl) 1 v1 rfl
theorem bP2 {w w1 : World} {g : Nat} {t : TypeId} {v0 v1 z0 z1 : Value} (h : Aside0 (w.heap[g]? = some (.cells #[z0, z1] t (0, 0)))) (hb : Below ((w.setCell ⟨g, 0, none⟩ v0).setCell ⟨g, 1, none⟩ v1).heap.size ((w.setCell ⟨g, 0, none⟩ v0).setCell ⟨g, 1, none⟩ v1) w1) : Aside0 (w1.heap[g]? = some (.cells #[v0, v1] t (0, 0))) := ⟨blk_below (p2 h) hb⟩
theorem p3 {w : World} {g : Nat} {t : TypeId} {v0 v1 v2 z0 z1 z2 : Value} (h : Aside0 (w.heap[g]? = some (.cells #[z0, z1, z2] t (0, 0)))) : (((w.setCell ⟨g, 0, none⟩ v0).setCell ⟨g, 1, none⟩ v1).setCell ⟨g, 2, none⟩ v2).heap[g]? = some (.cells #[v0, v1, v2] t (0, 0)) := blk_put (cs' := #[v0, v1, v2]) (blk_put (cs' := #[v0, v1, z2]) (blk_put (cs' := #[v0, z1, z2]) (h.out) 0 v0 rfl) 1 v1 rfl) 2 v2 rfl
theorem bP3 {w w1 : World} {g : Nat} {t : TypeId} {v0 v1 v2 z0 z1 z2 : Value} (h : Aside0 (w.heap[g]? = some (.cells #[z0, z1, z2] t (0, 0)))) (hb : Below (((w.setCell ⟨g, 0, none⟩ v0).setCell ⟨g, 1, none⟩ v1).setCell ⟨g, 2, none⟩ v2).heap.size (((w.setCell ⟨g, 0, none⟩ v0).setCell ⟨g, 1, none⟩ v1).setCell ⟨g, 2, none⟩ v2) w1) : Aside0 (w1.heap[g]? = some (.cells #[v0, v1, v2] t (0, 0))) := ⟨blk_below (p3 h) hb⟩
theorem p4 {w : World} {g : Nat} {t : TypeId} {v0 v1 v2 v3 z0 z1 z2 z3 : Value} (h : Aside0 (w.heap[g]? = some (.cells #[z0, z1, z2, z3] t (0, 0)))) : ((((w.setCell ⟨g, 0, none⟩ v0).setCell ⟨g, 1, none⟩ v1).setCell ⟨g, 2, none⟩ v2).setCell ⟨g, 3, none⟩ v3).heap[g]? = some (.cells #[v0, v1, v2, v3] t (0, 0)) := blk_put (cs' := #[v0, v1, v2, v3]) (blk_put (cs' := #[v0, v1, v2, z3]) (blk_put (cs' := #[v0, v1, z2, z3]) (blk_put (cs' := #[v0, z1, z2, z3]) (h.out) 0 v0 rfl) 1 v1 rfl) 2 v2 rfl) 3 v3 rfl
theorem bP4 {w w1 : World} {g : Nat} {t : TypeId} {v0 v1 v2 v3 z0 z1 z2 z3 : Value} (h : Aside0 (w.heap[g]? = some (.cells #[z0, z1, z2, z3] t (0, 0)))) (hb : Below ((((w.setCell ⟨g, 0, none⟩ v0).setCell ⟨g, 1, none⟩ v1).setCell ⟨g, 2, none⟩ v2).setCell ⟨g, 3, none⟩ v3).heap.size ((((w.setCell ⟨g, 0, none⟩ v0).setCell ⟨g, 1, none⟩ v1).setCell ⟨g, 2, none⟩ v2).setCell ⟨g, 3, none⟩ v3) w1) : Aside0 (w1.heap[g]? = some (.cells #[v0, v1, v2, v3] t (0, 0))) := ⟨blk_below (p4 h) hb⟩
theorem p5 {w : World} {g : Nat} {t : TypeId} {v0 v1 v2 v3 v4 z0 z1 z2 z3 z4 : Value} (h : Aside0 (w.heap[g]? = some (.cells #[z0, z1, z2, z3, z4] t (0, 0)))) : (((((w.setCell ⟨g, 0, none⟩ v0).setCell ⟨g, 1, none⟩ v1).setCell ⟨g, 2, none⟩ v2).setCell ⟨g, 3, none⟩ v3).setCell ⟨g, 4, none⟩ v4).heap[g]? = some (.cells #[v0, v1, v2, v3, v4] t (0, 0)) := blk_put (cs' := #[v0, v1, v2, v3, v4]) (blk_put (cs' := #[v0, v1, v2, v3, z4]) (blk_put (cs' := #[v0, v1, v2, z3, z4]) (blk_put (cs' := #[v0, v1, z2, z3, z4]) (blk_put (cs' := #[v0, z1, z2, z3, z4]) (h.out) 0 v0 rfl) 1 v1 rfl) 2 v2 rfl) 3 v3 rfl) 4 v4 rfl
theorem bP5 {w w1 : World} {g : Nat} {t : TypeId} {v0 v1 v2 v3 v4 z0 z1 z2 z3 z4 : Value} (h : Aside0 (w.heap[g]? = some (.cells #[z0, z1, z2, z3, z4] t (0, 0)))) (hb : Below (((((w.setCell ⟨g, 0, none⟩ v0).setCell ⟨g, 1, none⟩ v1).setCell ⟨g, 2, none⟩ v2).setCell ⟨g, 3, none⟩ v3).setCell ⟨g, 4, none⟩ v4).heap.size (((((w.setCell ⟨g, 0, none⟩ v0).setCell ⟨g, 1, none⟩ v1).setCell ⟨g, 2, none⟩ v2).setCell ⟨g, 3, none⟩ v3).setCell ⟨g, 4, none⟩ v4) w1) : Aside0 (w1.heap[g]? = some (.cells #[v0, v1, v2, v3, v4] t (0, 0))) := ⟨blk_below (p5 h) hb⟩
theorem p6 {w : World} {g : Nat} {t : TypeId} {v0 v1 v2 v3 v4 v5 z0 z1 z2 z3 z4 z5 : Value} (h : Aside0 (w.heap[g]? = some (.cells #[z0, z1, z2, z3, z4, z5] t (0, 0)))) : ((((((w.setCell ⟨g, 0, none⟩ v0).setCell ⟨g, 1, none⟩ v1).setCell ⟨g, 2, none⟩ v2).setCell ⟨g, 3, none⟩ v3).setCell ⟨g, 4, none⟩ v4).setCell ⟨g, 5, none⟩ v5).heap[g]? = some (.cells #[v0, v1, v2, v3, v4, v5] t (0, 0)) := blk_put (cs' := #[v0, v1, v2, v3, v4, v5]) (blk_put (cs' := #[v0, v1, v2, v3, v4, z5]) (blk_put (cs' := #[v0, v1, v2, v3, z4, z5]) (blk_put (cs' := #[v0, v1, v2, z3, z4, z5]) (blk_put (cs' := #[v0, v1, z2, z3, z4, z5]) (blk_put (cs' := #[v0, z1, z2, z3, z4, z5]) (h.out) 0 v0 rfl) 1 v1 rfl) 2 v2 rfl) 3 v3 rfl) 4 v4 rfl) 5 v5 rfl
theorem bP6 {w w1 : World} {g : Nat} {t : TypeId} {v0 v1 v2 v3 v4 v5 z0 z1 z2 z3 z4 z5 : Value} (h : Aside0 (w.heap[g]? = some (.cells #[z0, z1, z2, z3, z4, z5] t (0, 0)))) (hb : Below ((((((w.setCell ⟨g, 0, none⟩ v0).setCell ⟨g, 1, none⟩ v1).setCell ⟨g, 2, none⟩ v2).setCell ⟨g, 3, none⟩ v3).setCell ⟨g, 4, none⟩ v4).setCell ⟨g, 5, none⟩ v5).heap.size ((((((w.setCell ⟨g, 0, none⟩ v0).setCell ⟨g, 1, none⟩ v1).setCell ⟨g, 2, none⟩ v2).setCell ⟨g, 3, none⟩ v3).setCell ⟨g, 4, none⟩ v4).setCell ⟨g, 5, none⟩ v5) w1) : Aside0 (w1.heap[g]? = some (.cells #[v0, v1, v2, v3, v4, v5] t (0, 0))) := ⟨blk_below (p6 h) hb⟩
end Go.Proofs.YtbiapfjhdggkpaaDoor
