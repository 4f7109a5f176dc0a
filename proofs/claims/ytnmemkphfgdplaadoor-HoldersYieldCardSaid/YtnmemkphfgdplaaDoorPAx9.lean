-- Printed by wip/tool/myprint.py for this claim; Lean checks it.
import Derived.Test.YtnmemkphfgdplaaDoorPAx0
import Derived.Test.YtnmemkphfgdplaaDoorSlim
import Derived.Test.YtnmemkphfgdplaaDoorPAx1
import Derived.Test.YtnmemkphfgdplaaDoorPAx4
import Derived.Test.YtnmemkphfgdplaaDoorPAx6
import Derived.Test.YtnmemkphfgdplaaDoorPAx7
import Derived.Test.YtnmemkphfgdplaaDoorPAx8
namespace Go.Proofs.YtnmemkphfgdplaaDoor.PA
open Go.RowKit Go.Proofs.YtnmemkphfgdplaaDoorW.PrintWords Go.Proofs.YtnmemkphfgdplaaDoorW.PrintLast Go.Proofs.YtnmemkphfgdplaaDoorW.PrintMore
attribute [local go_sem] max2_int min2_int max_two min_two max_three min_three max_four min_four   -- for this text's walks alone
set_option linter.unusedVariables false
set_option linter.unusedSimpArgs false

attribute [local go_sem high] eqA24
/-! ### clusterlockslaw10_awake: function 11 -/
def clusterlockslaw10_awake.f (k : Nat)  : Option (Bool) := (holders_Set.f k ([] : List (S53)) 0 1 2 1 0).bind fun t205 => ((holders_Set.f k t205 0 1 1 2 0).bind fun t208 => ((holders_Against.f k (⟨#[97]⟩ : ByteArray) 1 1 0 t208 0 1 2 3 0).bind fun t211 => (if (t208.length : Int) = 2 then (if 0 < (t208.length : Int) then (if (((rd_T53 t208 0).f0.f0) == 0 && (((rd_T53 t208 0).f0.f1) == 1 && (((rd_T53 t208 0).f0.f2) == 1))) = true then ((holders_Valid.f k (⟨#[97]⟩ : ByteArray) 1 1 0 t208).bind fun t215 => (if t215 = true then (if (t211.length : Int) = 1 then (if 0 < (t211.length : Int) then (if (((rd_T24 t211 0).f0) == 0 && (((rd_T24 t211 0).f1) == 1 && (((rd_T24 t211 0).f2) == 1))) = true then ((holders_Room.f k (⟨#[97]⟩ : ByteArray) 1 1 0 t208 0 1 2 2 0).bind fun t217 => (some t217)) else (some false)) else (none)) else (some false)) else (some false))) else (some false)) else (none)) else (some false))))
theorem clusterlockslaw10_awake.mono : ∀ k, LeO (clusterlockslaw10_awake.f k ) (clusterlockslaw10_awake.f (k + 1) ) := by
 intro  k
 unfold clusterlockslaw10_awake.f
 repeat' first
   | (with_reducible exact holders_Against.mono _ _ _ _ _ _ _ _ _ _ _)
   | (with_reducible exact holders_Room.mono _ _ _ _ _ _ _ _ _ _ _)
   | (with_reducible exact holders_Set.mono _ _ _ _ _ _ _)
   | (with_reducible exact holders_Valid.mono _ _ _ _ _ _)
   | (with_reducible exact LeO.refl _)
   | (with_reducible exact LeO.none _)
   | (with_reducible refine LeO.ite ?_ ?_)
   | (with_reducible refine LeO.bind ?_ (fun _ => ?_))
   | exact holders_Against.mono _ _ _ _ _ _ _ _ _ _ _
   | exact holders_Room.mono _ _ _ _ _ _ _ _ _ _ _
   | exact holders_Set.mono _ _ _ _ _ _ _
   | exact holders_Valid.mono _ _ _ _ _ _
   | exact LeO.none _
   | refine LeO.ite ?_ ?_
   | refine LeO.bind ?_ (fun _ => ?_)
def clusterlockslaw10_awake.T5 : Bool × List (List Nat × List Nat) := (true, [([], []), ([0], [0]), ([1], [1]), ([2], [2]), ([3], [3]), ([4, 3], [3, 4]), ([5, 3], [3, 5]), ([6, 3], [3, 6]), ([3], [3]), ([7, 8, 3], [3, 7, 8]), ([3, 9], [3, 9]), ([10, 3], [10]), ([11], [11]), ([11], [11]), ([12, 13, 11, 11], [11, 12, 13]), ([11, 14], [11, 14]), ([15, 14], [15]), ([16], [16]), ([17, 16], [16, 17]), ([18, 16], [16, 18]), ([16, 19], [16, 19]), ([20, 16], [20]), ([21], [21]), ([22, 21], [21, 22]), ([23, 21], [21, 23]), ([21], [21]), ([24, 25, 21], [21, 24, 25]), ([21, 26], [21, 26]), ([27, 21], [27]), ([28], [28]), ([28], [28]), ([28], [28]), ([28], [28]), ([29, 30, 31, 32, 28, 28], [28, 29, 30, 31, 32]), ([28, 33], [28, 33]), ([34, 33, 0, 1, 2, 3, 4, 5, 6, 7, 8, 9, 10, 11, 12, 13, 14, 15, 16, 17, 18, 19, 20, 21, 22, 23, 24, 25, 26, 27, 28, 29, 30, 31, 32, 33, 34], [34])])
def clusterlockslaw10_awake.B5 : List Nat := [0, 1, 3, 7, 15, 31, 63, 127, 15, 511, 1023, 2047, 4095, 4095, 16383, 32767, 65535, 131071, 262143, 524287, 1048575, 2097151, 4194303, 8388607, 16777215, 4194303, 67108863, 134217727, 268435455, 536870911, 536870911, 536870911, 536870911, 8589934591, 17179869183, 34359738367]
theorem clusterlockslaw10_awake.tab5 : rtab .any (opsOf Tryd.f11 5) = clusterlockslaw10_awake.T5 := by kernel_rfl
theorem clusterlockslaw10_awake.bits5 : waitsOk clusterlockslaw10_awake.T5.2 clusterlockslaw10_awake.B5 = true := by kernel_rfl
theorem clusterlockslaw10_awake.at : clusterlockslaw10_awake.f 40 = some true := by decide +kernel
theorem clusterlockslaw10_awake.only {k : Nat} {r : Bool} (h : clusterlockslaw10_awake.f k = some r) : r = true := by
 rcases Nat.le_total k 40 with hk | hk
 ·have := at_rounds clusterlockslaw10_awake.mono hk h
  rw [clusterlockslaw10_awake.at] at this
  exact (Option.some.inj this).symm
 ·have := at_rounds clusterlockslaw10_awake.mono hk clusterlockslaw10_awake.at
  rw [h] at this
  exact Option.some.inj this
set_option maxHeartbeats 8000000 in
set_option maxRecDepth 100000 in
theorem clusterlockslaw10_awake.calls (k : Nat)  (r : Bool) (w : World) (hG : GL w) (h : clusterlockslaw10_awake.f k  = some r) :
  Calls Tryd.prog 11 #[] w fun e w' => e = .returned (.bool r) ∧ Below w.heap.size w w' := by
 have hu32 := Tryd.underlying32
 have hu24 := Tryd.underlying24
 have hu26 := Tryd.underlying26
 have HG := Aside0.mk hG
 clear hG
 have HB := Aside0.mk (Below.refl w.heap.size w)
 have H : ((holders_Set.f k ([] : List (S53)) 0 1 2 1 0).bind fun t205 => ((holders_Set.f k t205 0 1 1 2 0).bind fun t208 => ((holders_Against.f k (⟨#[97]⟩ : ByteArray) 1 1 0 t208 0 1 2 3 0).bind fun t211 => (if (t208.length : Int) = 2 then (if 0 < (t208.length : Int) then (if (((rd_T53 t208 0).f0.f0) == 0 && (((rd_T53 t208 0).f0.f1) == 1 && (((rd_T53 t208 0).f0.f2) == 1))) = true then ((holders_Valid.f k (⟨#[97]⟩ : ByteArray) 1 1 0 t208).bind fun t215 => (if t215 = true then (if (t211.length : Int) = 1 then (if 0 < (t211.length : Int) then (if (((rd_T24 t211 0).f0) == 0 && (((rd_T24 t211 0).f1) == 1 && (((rd_T24 t211 0).f2) == 1))) = true then ((holders_Room.f k (⟨#[97]⟩ : ByteArray) 1 1 0 t208 0 1 2 2 0).bind fun t217 => (some t217)) else (some false)) else (none)) else (some false)) else (some false))) else (some false)) else (none)) else (some false))))) = some r := h
 have HRT := Aside0.mk (clusterlockslaw10_awake.only h)
 clear h
 obtain ⟨t205, A10, H⟩ := Option.bind_eq_some_iff.mp H
 have A1 := Aside0.mk A10; clear A10
 obtain ⟨t208, A20, H⟩ := Option.bind_eq_some_iff.mp H
 have A2 := Aside0.mk A20; clear A20
 obtain ⟨t211, A30, H⟩ := Option.bind_eq_some_iff.mp H
 have A3 := Aside0.mk A30; clear A30
 have HH_ := Aside0.mk H
 clear H
 go_enter Tryd.func11, Tryd.ntmps11
 try go_wp2_with (first | ((with_reducible refine gate_dst (N := 1) rfl ?_); (try (refine gate_guard (by rfl) ?_; dsimp only)); refine box_event ?hg (N := 1) ?hd (cs := #[.string (⟨#[]⟩ : ByteArray), .int .i64 0, .int .i64 0, .int .i64 0]) (t := 32) ?hr ?_; (case hd => rfl); (case hg => rfl); (case hr => first | (go_simp; done) | (go_simp; rfl)); intro gb202 hg w13 hbox hb; have BK202 := Aside0.mk hbox; have GW202 := gE HB hg; replace HB := bB HB hb; have GE202 := GW202; clear hb hbox hg; have hcz14_0 : w13.cell? ⟨gb202, 0, none⟩ = some (.string (⟨#[]⟩ : ByteArray)) := bC BK202 0 rfl; have hcz14_1 : w13.cell? ⟨gb202, 1, none⟩ = some (.int .i64 0) := bC BK202 1 rfl; have hcz14_2 : w13.cell? ⟨gb202, 2, none⟩ = some (.int .i64 0) := bC BK202 2 rfl; have hcz14_3 : w13.cell? ⟨gb202, 3, none⟩ = some (.int .i64 0) := bC BK202 3 rfl; have hfz14_0 := bF BK202 0; have hfz14_1 := bF BK202 1; have hfz14_2 := bF BK202 2; have hfz14_3 := bF BK202 3) | ((with_reducible refine gate_dst (N := 2) rfl ?_); (try (refine gate_guard (by rfl) ?_; dsimp only)); refine box_event ?hg (N := 2) ?hd (cs := #[.int .i64 0, .int .i64 0, .int .i64 0]) (t := 24) ?hr ?_; (case hd => rfl); (case hg => rfl); (case hr => first | (go_simp; done) | (go_simp; rfl)); intro gb203 hg w15 hbox hb; have BK203 := Aside0.mk hbox; have GW203 := Aside0.mk ((by rw [hg]; exact (below_size (by repeat (first | (with_reducible first | exact HB.out | apply bL | apply bM | apply bR | refine bS ?_ GE202.out) | exact HB.out))) : w.heap.size ≤ gb203)); replace HB := Aside0.mk (below_step (by repeat (first | (with_reducible first | exact HB.out | apply bL | apply bM | apply bR | refine bS ?_ GE202.out) | exact HB.out)) hb); have GE203 := GW203; have NB202_203 := Aside0.mk ((by rw [hg]; exact Nat.ne_of_lt (blk_lt (g := gb202) (o := .cells #[.string (⟨#[97]⟩ : ByteArray), .int .i64 1, .int .i64 1, .int .i64 0] 32 (0, 0)) (by (with_reducible repeat first | refine bN ?_ _ | refine bD ?_ | refine bA ?_ _); refine blk_put (cs := #[.string (⟨#[97]⟩ : ByteArray), .int .i64 1, .int .i64 1, .int .i64 0]) ?_ 3 _ rfl; (with_reducible repeat first | refine bN ?_ _ | refine bD ?_ | refine bA ?_ _); refine blk_put (cs := #[.string (⟨#[97]⟩ : ByteArray), .int .i64 1, .int .i64 0, .int .i64 0]) ?_ 2 _ rfl; (with_reducible repeat first | refine bN ?_ _ | refine bD ?_ | refine bA ?_ _); refine blk_put (cs := #[.string (⟨#[97]⟩ : ByteArray), .int .i64 0, .int .i64 0, .int .i64 0]) ?_ 1 _ rfl; (with_reducible repeat first | refine bN ?_ _ | refine bD ?_ | refine bA ?_ _); refine blk_put (cs := #[.string (⟨#[]⟩ : ByteArray), .int .i64 0, .int .i64 0, .int .i64 0]) ?_ 0 _ rfl; (with_reducible repeat first | refine bN ?_ _ | refine bD ?_ | refine bA ?_ _); exact BK202.out)) : gb202 ≠ gb203)); have NB203_202 := Aside0.mk ((by rw [hg]; exact Nat.ne_of_gt (blk_lt (g := gb202) (o := .cells #[.string (⟨#[97]⟩ : ByteArray), .int .i64 1, .int .i64 1, .int .i64 0] 32 (0, 0)) (by (with_reducible repeat first | refine bN ?_ _ | refine bD ?_ | refine bA ?_ _); refine blk_put (cs := #[.string (⟨#[97]⟩ : ByteArray), .int .i64 1, .int .i64 1, .int .i64 0]) ?_ 3 _ rfl; (with_reducible repeat first | refine bN ?_ _ | refine bD ?_ | refine bA ?_ _); refine blk_put (cs := #[.string (⟨#[97]⟩ : ByteArray), .int .i64 1, .int .i64 0, .int .i64 0]) ?_ 2 _ rfl; (with_reducible repeat first | refine bN ?_ _ | refine bD ?_ | refine bA ?_ _); refine blk_put (cs := #[.string (⟨#[97]⟩ : ByteArray), .int .i64 0, .int .i64 0, .int .i64 0]) ?_ 1 _ rfl; (with_reducible repeat first | refine bN ?_ _ | refine bD ?_ | refine bA ?_ _); refine blk_put (cs := #[.string (⟨#[]⟩ : ByteArray), .int .i64 0, .int .i64 0, .int .i64 0]) ?_ 0 _ rfl; (with_reducible repeat first | refine bN ?_ _ | refine bD ?_ | refine bA ?_ _); exact BK202.out)) : gb203 ≠ gb202)); replace BK202 := Aside0.mk (blk_below (g := gb202) (o := .cells #[.string (⟨#[97]⟩ : ByteArray), .int .i64 1, .int .i64 1, .int .i64 0] 32 (0, 0)) (by (with_reducible repeat first | refine bN ?_ _ | refine bD ?_ | refine bA ?_ _); refine blk_put (cs := #[.string (⟨#[97]⟩ : ByteArray), .int .i64 1, .int .i64 1, .int .i64 0]) ?_ 3 _ rfl; (with_reducible repeat first | refine bN ?_ _ | refine bD ?_ | refine bA ?_ _); refine blk_put (cs := #[.string (⟨#[97]⟩ : ByteArray), .int .i64 1, .int .i64 0, .int .i64 0]) ?_ 2 _ rfl; (with_reducible repeat first | refine bN ?_ _ | refine bD ?_ | refine bA ?_ _); refine blk_put (cs := #[.string (⟨#[97]⟩ : ByteArray), .int .i64 0, .int .i64 0, .int .i64 0]) ?_ 1 _ rfl; (with_reducible repeat first | refine bN ?_ _ | refine bD ?_ | refine bA ?_ _); refine blk_put (cs := #[.string (⟨#[]⟩ : ByteArray), .int .i64 0, .int .i64 0, .int .i64 0]) ?_ 0 _ rfl; (with_reducible repeat first | refine bN ?_ _ | refine bD ?_ | refine bA ?_ _); exact BK202.out) hb); clear hb hbox hg) | ((with_reducible refine gate_dst (N := 3) rfl ?_); (try (refine gate_guard (by rfl) ?_; dsimp only)); refine box_event ?hg (N := 3) ?hd (cs := #[.int .i64 0, .int .i64 0, .int .i64 0]) (t := 24) ?hr ?_; (case hd => rfl); (case hg => rfl); (case hr => first | (go_simp; done) | (go_simp; rfl)); intro gb204 hg w16 hbox hb; have BK204 := Aside0.mk hbox; have GW204 := Aside0.mk ((by rw [hg]; exact (below_size (by repeat (first | (with_reducible first | exact HB.out | apply bL | apply bM | apply bR | refine bS ?_ GE202.out | refine bS ?_ GE203.out) | exact HB.out))) : w.heap.size ≤ gb204)); replace HB := Aside0.mk (below_step (by repeat (first | (with_reducible first | exact HB.out | apply bL | apply bM | apply bR | refine bS ?_ GE202.out | refine bS ?_ GE203.out) | exact HB.out)) hb); have GE204 := GW204; have NB202_204 := Aside0.mk ((by rw [hg]; exact Nat.ne_of_lt (blk_lt (g := gb202) (o := .cells #[.string (⟨#[97]⟩ : ByteArray), .int .i64 1, .int .i64 1, .int .i64 0] 32 (0, 0)) (uK BK202)) : gb202 ≠ gb204)); replace BK202 := Aside0.mk (blk_below (g := gb202) (o := .cells #[.string (⟨#[97]⟩ : ByteArray), .int .i64 1, .int .i64 1, .int .i64 0] 32 (0, 0)) (uK BK202) hb); have NB204_202 := Aside0.mk NB202_204.out.symm; have NB203_204 := gN BK203 hg; replace BK203 := bK BK203 hb; have NB204_203 := Aside0.mk NB203_204.out.symm; clear hb hbox hg; have hnb17 := NB203_202.out; have hnc17 := NB202_203.out; have hnb18 := NB203_204.out; have hnc18 := NB204_203.out; obtain ⟨hcz19_0, hcz19_1, hcz19_2, hfz19_0, hfz19_1, hfz19_2⟩ := d3 BK203; have hnb20 := NB204_202.out; have hnc20 := NB202_204.out; have hcz21_0 : w16.cell? ⟨gb204, 0, none⟩ = some (.int .i64 0) := bC BK204 0 rfl; have hcz21_1 : w16.cell? ⟨gb204, 1, none⟩ = some (.int .i64 0) := bC BK204 1 rfl; have hcz21_2 : w16.cell? ⟨gb204, 2, none⟩ = some (.int .i64 0) := bC BK204 2 rfl; have hfz21_0 := bF BK204 0; have hfz21_1 := bF BK204 1; have hfz21_2 := bF BK204 2))
 have n0_ : Aside0 (((((((w16.setCell ⟨gb203, 0, none⟩ (.int .i64 0)).setCell ⟨gb203, 1, none⟩ (.int .i64 1)).setCell ⟨gb203, 2, none⟩ (.int .i64 1)).setCell ⟨gb204, 0, none⟩ (.int .i64 0)).setCell ⟨gb204, 1, none⟩ (.int .i64 1)).setCell ⟨gb204, 2, none⟩ (.int .i64 2)).heap[gb202]? = some (.cells #[.string (⟨#[97]⟩ : ByteArray), .int .i64 1, .int .i64 1, .int .i64 0] 32 (0, 0))) := ⟨by (with_reducible repeat first | refine bN ?_ _ | refine bD ?_ | refine bA ?_ _); refine blk_far ?_ NB202_204.out _; (with_reducible repeat first | refine bN ?_ _ | refine bD ?_ | refine bA ?_ _); refine blk_far ?_ NB202_204.out _; (with_reducible repeat first | refine bN ?_ _ | refine bD ?_ | refine bA ?_ _); refine blk_far ?_ NB202_204.out _; (with_reducible repeat first | refine bN ?_ _ | refine bD ?_ | refine bA ?_ _); refine blk_far ?_ NB202_203.out _; (with_reducible repeat first | refine bN ?_ _ | refine bD ?_ | refine bA ?_ _); refine blk_far ?_ NB202_203.out _; (with_reducible repeat first | refine bN ?_ _ | refine bD ?_ | refine bA ?_ _); refine blk_far ?_ NB202_203.out _; (with_reducible repeat first | refine bN ?_ _ | refine bD ?_ | refine bA ?_ _); exact BK202.out⟩
 have n1_ : Aside0 (((((((w16.setCell ⟨gb203, 0, none⟩ (.int .i64 0)).setCell ⟨gb203, 1, none⟩ (.int .i64 1)).setCell ⟨gb203, 2, none⟩ (.int .i64 1)).setCell ⟨gb204, 0, none⟩ (.int .i64 0)).setCell ⟨gb204, 1, none⟩ (.int .i64 1)).setCell ⟨gb204, 2, none⟩ (.int .i64 2)).heap[gb203]? = some (.cells #[.int .i64 0, .int .i64 1, .int .i64 1] 24 (0, 0))) := ⟨by (with_reducible repeat first | refine bN ?_ _ | refine bD ?_ | refine bA ?_ _); refine blk_far ?_ NB203_204.out _; (with_reducible repeat first | refine bN ?_ _ | refine bD ?_ | refine bA ?_ _); refine blk_far ?_ NB203_204.out _; (with_reducible repeat first | refine bN ?_ _ | refine bD ?_ | refine bA ?_ _); refine blk_far ?_ NB203_204.out _; (with_reducible repeat first | refine bN ?_ _ | refine bD ?_ | refine bA ?_ _); refine blk_put (cs := #[.int .i64 0, .int .i64 1, .int .i64 0]) ?_ 2 _ rfl; (with_reducible repeat first | refine bN ?_ _ | refine bD ?_ | refine bA ?_ _); refine blk_put (cs := #[.int .i64 0, .int .i64 0, .int .i64 0]) ?_ 1 _ rfl; (with_reducible repeat first | refine bN ?_ _ | refine bD ?_ | refine bA ?_ _); refine blk_put (cs := #[.int .i64 0, .int .i64 0, .int .i64 0]) ?_ 0 _ rfl; (with_reducible repeat first | refine bN ?_ _ | refine bD ?_ | refine bA ?_ _); exact BK203.out⟩
 have n2_ : Aside0 (((((((w16.setCell ⟨gb203, 0, none⟩ (.int .i64 0)).setCell ⟨gb203, 1, none⟩ (.int .i64 1)).setCell ⟨gb203, 2, none⟩ (.int .i64 1)).setCell ⟨gb204, 0, none⟩ (.int .i64 0)).setCell ⟨gb204, 1, none⟩ (.int .i64 1)).setCell ⟨gb204, 2, none⟩ (.int .i64 2)).heap[gb204]? = some (.cells #[.int .i64 0, .int .i64 1, .int .i64 2] 24 (0, 0))) := ⟨by (with_reducible repeat first | refine bN ?_ _ | refine bD ?_ | refine bA ?_ _); refine blk_put (cs := #[.int .i64 0, .int .i64 1, .int .i64 0]) ?_ 2 _ rfl; (with_reducible repeat first | refine bN ?_ _ | refine bD ?_ | refine bA ?_ _); refine blk_put (cs := #[.int .i64 0, .int .i64 0, .int .i64 0]) ?_ 1 _ rfl; (with_reducible repeat first | refine bN ?_ _ | refine bD ?_ | refine bA ?_ _); refine blk_put (cs := #[.int .i64 0, .int .i64 0, .int .i64 0]) ?_ 0 _ rfl; (with_reducible repeat first | refine bN ?_ _ | refine bD ?_ | refine bA ?_ _); refine blk_far ?_ NB204_203.out _; (with_reducible repeat first | refine bN ?_ _ | refine bD ?_ | refine bA ?_ _); refine blk_far ?_ NB204_203.out _; (with_reducible repeat first | refine bN ?_ _ | refine bD ?_ | refine bA ?_ _); refine blk_far ?_ NB204_203.out _; (with_reducible repeat first | refine bN ?_ _ | refine bD ?_ | refine bA ?_ _); exact BK204.out⟩
 have n3_ : Aside0 (Below w.heap.size w ((((((w16.setCell ⟨gb203, 0, none⟩ (.int .i64 0)).setCell ⟨gb203, 1, none⟩ (.int .i64 1)).setCell ⟨gb203, 2, none⟩ (.int .i64 1)).setCell ⟨gb204, 0, none⟩ (.int .i64 0)).setCell ⟨gb204, 1, none⟩ (.int .i64 1)).setCell ⟨gb204, 2, none⟩ (.int .i64 2))) := ⟨by repeat (first | (with_reducible first | exact HB.out | apply bL | apply bM | apply bR | refine bS ?_ GE202.out | refine bS ?_ GE203.out | refine bS ?_ GE204.out) | exact HB.out)⟩
 (try clear BK202)
 (try clear BK203)
 (try clear BK204)
 (try clear HB)
 generalize ((((((w16.setCell ⟨gb203, 0, none⟩ (.int .i64 0)).setCell ⟨gb203, 1, none⟩ (.int .i64 1)).setCell ⟨gb203, 2, none⟩ (.int .i64 1)).setCell ⟨gb204, 0, none⟩ (.int .i64 0)).setCell ⟨gb204, 1, none⟩ (.int .i64 1)).setCell ⟨gb204, 2, none⟩ (.int .i64 2)) = w22 at n0_ n1_ n2_ n3_ ⊢
 have BK202 := n0_
 have BK203 := n1_
 have BK204 := n2_
 have HB := n3_
 clear n0_ n1_ n2_ n3_
 replace BK202 := Aside0.mk (blk_drew BK202.out)
 replace BK203 := Aside0.mk (blk_drew BK203.out)
 replace BK204 := Aside0.mk (blk_drew BK204.out)
 replace HB := Aside0.mk (below_drew1 HB.out)
 refine start_ (n := 7) (S := fun w' => w'.cell? ⟨gb204, 0, none⟩ = some (.int .i64 0) ∧ w'.cell? ⟨gb204, 1, none⟩ = some (.int .i64 1) ∧ w'.cell? ⟨gb204, 2, none⟩ = some (.int .i64 2) ∧ w'.cell? ⟨gb203, 0, none⟩ = some (.int .i64 0) ∧ w'.cell? ⟨gb203, 1, none⟩ = some (.int .i64 1) ∧ w'.cell? ⟨gb203, 2, none⟩ = some (.int .i64 1)) (ds := []) #[F,F,F,F,F,F,F] (by kernel_rfl) rfl rfl ⟨bC BK204 0 rfl, bC BK204 1 rfl, bC BK204 2 rfl, bC BK203 0 rfl, bC BK203 1 rfl, bC BK203 2 rfl⟩ (fun hHeld => ?_)
 generalize w22.drew = w23 at BK202 BK203 BK204 HB hHeld ⊢
 refine pure_ (i := 1) (N := some 10) (v := ?_) (a' := ?_) #[F,T,F,F,F,F,F] rfl rfl (by kernel_rfl) (fun _ _ _ h => h) (Or.inl ⟨by rfl, ?_⟩) ?_ ?_
 rotate_left
 ·intro w'; go_simp; with_reducible rfl
 rotate_left
 ·simp only [sP]; rfl
 refine pure_ (i := 4) (N := some 13) (v := ?_) (a' := ?_) #[F,T,F,F,T,F,F] rfl rfl (by kernel_rfl) (fun _ _ _ h => h) (Or.inl ⟨by rfl, ?_⟩) ?_ ?_
 rotate_left
 ·intro w'; go_simp; with_reducible rfl
 rotate_left
 ·simp only [sP]; rfl
 refine take_ (i := 0) (N := some 9) (v := ?_) (a' := ?_) #[T,T,F,F,T,F,F] rfl rfl (by kernel_rfl) (fun _ _ _ h => h) (Or.inl ⟨by rfl, ?_⟩) hHeld ?_ ?_
 rotate_left
 ·rintro w' ⟨s0, s1, s2, s3, s4, s5⟩; go_simp; with_reducible rfl
 rotate_left
 ·simp only [sP]; rfl
 refine take_ (i := 3) (N := some 12) (v := ?_) (a' := ?_) #[T,T,F,T,T,F,F] rfl rfl (by kernel_rfl) (fun _ _ _ h => h) (Or.inl ⟨by rfl, ?_⟩) hHeld ?_ ?_
 rotate_left
 ·rintro w' ⟨s0, s1, s2, s3, s4, s5⟩; go_simp; with_reducible rfl
 rotate_left
 ·simp only [sP]; rfl
 refine one_ (i := 2) (N := some 11) #[T,T,T,T,T,F,F] rfl rfl (by kernel_rfl) (by decide) (fun K hK => ?_)
 refine goes_ Tryd.func13 (by kernel_rfl) rfl #[.slice none 0 0, .agg #[.int .i64 0, .int .i64 1, .int .i64 2], .agg #[.int .i64 1, .int .i64 0]] (by rfl) rfl rfl (by (try simp only [mA]); first | done | rfl) ?_
 refine (holders_Set.calls k _ _ ([] : List (S53)) 0 1 2 1 0 t205 _ ?side1 ?side2 A1.out).mono ?_
 (case side1 => exact Kd.C_nil _ _)
 (case side2 => exact Nat.le_refl _)
 rintro e w24 ⟨v206, rfl, ho0, hb⟩
 refine ⟨_, rfl, ?_⟩
 have HO207 := Aside0.mk (Kd.R_lower ho0 (below_size (by repeat (first | (with_reducible first | exact HB.out | apply bL | apply bM | apply bR | refine bS ?_ GE202.out | refine bS ?_ GE203.out | refine bS ?_ GE204.out) | exact HB.out))))
 replace BK202 := Aside0.mk (blk_below (g := gb202) (o := .cells #[.string (⟨#[97]⟩ : ByteArray), .int .i64 1, .int .i64 1, .int .i64 0] 32 (0, 0)) (uK BK202) hb)
 replace BK203 := bK BK203 hb
 replace BK204 := bK BK204 hb
 replace HB := Aside0.mk (below_step (by repeat (first | (with_reducible first | exact HB.out | apply bL | apply bM | apply bR | refine bS ?_ GE202.out | refine bS ?_ GE203.out | refine bS ?_ GE204.out) | exact HB.out)) hb)
 (try clear hb)
 (try clear hk)
 (try clear ho0)
 obtain ⟨Ao25, co25, eo25⟩ := Kd.R_slice HO207.out
 (first | subst eo25 | (injection eo25 with f1_ f2_ f3_; have f4_ := f1_.symm; have f5_ := f3_.symm; clear f1_ f2_ f3_; subst f4_; subst f5_))
 refine hK.out _ _ ⟨bC BK204 0 rfl, bC BK204 1 rfl, bC BK204 2 rfl, bC BK203 0 rfl, bC BK203 1 rfl, bC BK203 2 rfl⟩ (fun hHeld => ?_)
 clear hK K
 refine norm_ (a' := ?_) ?_ ?_
 rotate_left
 ·show Act.put _ (some 11) _ = _
  simp only [sP]
  rfl
 refine one_ (i := 5) (N := some 14) #[T,T,T,T,T,T,F] rfl rfl (by kernel_rfl) (by decide) (fun K hK => ?_)
 refine goes_ Tryd.func13 (by kernel_rfl) rfl #[.slice Ao25 t205.length co25, .agg #[.int .i64 0, .int .i64 1, .int .i64 1], .agg #[.int .i64 2, .int .i64 0]] (by rfl) rfl rfl (by (try simp only [mA]); first | done | rfl) ?_
 with_reducible refine (holders_Set.calls k _ _ t205 0 1 1 2 0 t208 _ ?side1 ?side2 A2.out).mono ?_
 (case side1 => repeat (first | exact (Kd.R_reads' HO207.out).2.2 | (with_reducible refine Kd.C_alloc ?_ _) | (with_reducible refine Kd.C_drewN ?_ _) | (with_reducible refine Kd.C_drew ?_)))
 (case side2 => exact (Kd.R_reads' HO207.out).2.1)
 rintro e w26 ⟨v209, rfl, ho0, hb⟩
 refine ⟨_, rfl, ?_⟩
 have HO210 := Aside0.mk (Kd.R_lower (Kd.R_new' ho0 (Kd.R_lt (by (with_reducible repeat (first | apply Kd.R_alloc | apply Kd.R_drewN | apply Kd.R_drew)); exact HO207.out))) (below_size (by repeat (first | (with_reducible first | exact HB.out | apply bL | apply bM | apply bR | refine bS ?_ GE202.out | refine bS ?_ GE203.out | refine bS ?_ GE204.out) | exact HB.out))))
 replace HO207 := Aside0.mk (Kd.R_elder' (by (with_reducible repeat (first | apply Kd.R_alloc | apply Kd.R_drewN | apply Kd.R_drew)); exact HO207.out) (Kd.R_base ho0) hb)
 replace BK202 := Aside0.mk (blk_below (g := gb202) (o := .cells #[.string (⟨#[97]⟩ : ByteArray), .int .i64 1, .int .i64 1, .int .i64 0] 32 (0, 0)) (uK BK202) hb)
 replace BK203 := bK BK203 hb
 replace BK204 := bK BK204 hb
 replace HB := Aside0.mk (below_step (by repeat (first | (with_reducible first | exact HB.out | apply bL | apply bM | apply bR | refine bS ?_ GE202.out | refine bS ?_ GE203.out | refine bS ?_ GE204.out) | exact HB.out)) hb)
 (try clear hb)
 (try clear hk)
 (try clear ho0)
 refine hK.out _ _ ⟨bC BK204 0 rfl, bC BK204 1 rfl, bC BK204 2 rfl, bC BK203 0 rfl, bC BK203 1 rfl, bC BK203 2 rfl⟩ (fun hHeld => ?_)
 clear hK K
 refine norm_ (a' := ?_) ?_ ?_
 rotate_left
 ·show Act.put _ (some 14) _ = _
  simp only [sP]
  rfl
 refine pure_ (i := 6) (N := some 4) (v := ?_) (a' := ?_) #[T,T,T,T,T,T,T] rfl rfl (by kernel_rfl) (fun _ _ _ h => h) (Or.inl ⟨by rfl, ?_⟩) ?_ ?_
 rotate_left
 ·intro w'; go_simp; with_reducible rfl
 rotate_left
 ·simp only [sP]; rfl
 refine done_ (by kernel_rfl) ?_
 obtain ⟨hcz27_0, hcz27_1, hcz27_2, hcz27_3, hfz27_0, hfz27_1, hfz27_2, hfz27_3⟩ := d4 BK202
 obtain ⟨hcz28_0, hcz28_1, hcz28_2, hfz28_0, hfz28_1, hfz28_2⟩ := d3 BK204
 obtain ⟨Ao29, co29, eo29⟩ := Kd.R_slice HO210.out
 subst eo29
 have H := HH_.out
 clear HH_
 by_cases c4 : (t208.length : Int) = 2
 ·rw [if_pos c4] at H
  have c4b0 : ((t208.length : Int) == 2) = true := beq_iff_eq.mpr c4
  have c4b1 : ((t208.length : Int) != 2) = false := bne_eq_false_iff_eq.mpr c4
  clear c4
  by_cases c5 : 0 < (t208.length : Int)
  ·rw [if_pos c5] at H
   have c5b0 : decide (0 < (t208.length : Int)) = true := decide_eq_true c5
   have c5b1 : decide (0 < t208.length) = true := decide_eq_true (by omega)
   clear c5
   by_cases c6 : (((rd_T53 t208 0).f0.f0) == 0 && (((rd_T53 t208 0).f0.f1) == 1 && (((rd_T53 t208 0).f0.f2) == 1))) = true
   ·rw [if_pos c6] at H
    have c6b0 : (((rd_T53 t208 0).f0.f0) == 0 && (((rd_T53 t208 0).f0.f1) == 1 && (((rd_T53 t208 0).f0.f2) == 1))) = true := c6
    (try (have c6b1 : decide (((rd_T53 t208 0).f0.f0) = 0 && (((rd_T53 t208 0).f0.f1) == 1 && (((rd_T53 t208 0).f0.f2) == 1))) = true := by simpa using c6))
    (try (have c6b2 : (((rd_T53 t208 0).f0.f0) == 0 && (((rd_T53 t208 0).f0.f1) == 1 && (((rd_T53 t208 0).f0.f2) == 1))) = true := by simpa using c6))
    clear c6
    obtain ⟨t215, A70, H⟩ := Option.bind_eq_some_iff.mp H
    have A7 := Aside0.mk A70; clear A70
    by_cases c8 : t215 = true
    ·subst c8
     rw [if_pos rfl] at H
     by_cases c9 : (t211.length : Int) = 1
     ·rw [if_pos c9] at H
      have c9b0 : ((t211.length : Int) == 1) = true := beq_iff_eq.mpr c9
      have c9b1 : ((t211.length : Int) != 1) = false := bne_eq_false_iff_eq.mpr c9
      clear c9
      by_cases c10 : 0 < (t211.length : Int)
      ·rw [if_pos c10] at H
       have c10b0 : decide (0 < (t211.length : Int)) = true := decide_eq_true c10
       have c10b1 : decide (0 < t211.length) = true := decide_eq_true (by omega)
       clear c10
       by_cases c11 : (((rd_T24 t211 0).f0) == 0 && (((rd_T24 t211 0).f1) == 1 && (((rd_T24 t211 0).f2) == 1))) = true
       ·rw [if_pos c11] at H
        have c11b0 : (((rd_T24 t211 0).f0) == 0 && (((rd_T24 t211 0).f1) == 1 && (((rd_T24 t211 0).f2) == 1))) = true := c11
        (try (have c11b1 : decide (((rd_T24 t211 0).f0) = 0 && (((rd_T24 t211 0).f1) == 1 && (((rd_T24 t211 0).f2) == 1))) = true := by simpa using c11))
        (try (have c11b2 : (((rd_T24 t211 0).f0) == 0 && (((rd_T24 t211 0).f1) == 1 && (((rd_T24 t211 0).f2) == 1))) = true := by simpa using c11))
        clear c11
        obtain ⟨t217, A120, H⟩ := Option.bind_eq_some_iff.mp H
        have A12 := Aside0.mk A120; clear A120
        obtain rfl := Option.some.inj H
        try go_wp2_with (first | ((with_reducible refine gate_callee (f := 18) rfl ?_); refine goesL_ (some 19) rfl rfl Tryd.func18 (by kernel_rfl) rfl #[.agg #[.string (⟨#[97]⟩ : ByteArray), .int .i64 1, .int .i64 1, .int .i64 0], .slice Ao29 t208.length co29, .agg #[.int .i64 0, .int .i64 1, .int .i64 2], .agg #[.int .i64 3, .int .i64 0]] rfl (by (try simp only [mA]); first | done | rfl) ?_; (with_reducible refine (holders_Against.calls k (⟨#[97]⟩ : ByteArray) 1 1 0 _ _ t208 0 1 2 3 0 t211 _ ?side1 ?side2 ?side3 A3.out).mono ?_); (case side1 => repeat (first | exact (Kd.R_reads' HO210.out).2.2 | (with_reducible refine Kd.C_alloc ?_ _) | (with_reducible refine Kd.C_drewN ?_ _) | (with_reducible refine Kd.C_drew ?_))); (case side2 => exact (Kd.R_reads' HO210.out).2.1); (case side3 => exact GL.below HG.out (by repeat (first | (with_reducible first | exact HB.out | apply bL | apply bM | apply bR | refine bS ?_ GE202.out | refine bS ?_ GE203.out | refine bS ?_ GE204.out) | exact HB.out))); rintro e w30 ⟨v212, rfl, ho0, hb⟩; refine ⟨_, rfl, ?_⟩; replace HO207 := Aside0.mk (Kd.R_below (by (with_reducible repeat (first | apply Kd.R_alloc | apply Kd.R_drewN | apply Kd.R_drew)); exact HO207.out) hb); replace HO210 := Aside0.mk (Kd.R_below (by (with_reducible repeat (first | apply Kd.R_alloc | apply Kd.R_drewN | apply Kd.R_drew)); exact HO210.out) hb); have HO213 := Aside0.mk (Kd.R_lower (Kd.R_newB (Kd.R_newB ho0 (g := gb203) (o := .cells #[.int .i64 0, .int .i64 1, .int .i64 1] 24 (0, 0)) (uK BK203)) (g := gb204) (o := .cells #[.int .i64 0, .int .i64 1, .int .i64 2] 24 (0, 0)) (uK BK204)) (below_size (by repeat (first | (with_reducible first | exact HB.out | apply bL | apply bM | apply bR | refine bS ?_ GE202.out | refine bS ?_ GE203.out | refine bS ?_ GE204.out) | exact HB.out)))); replace BK202 := Aside0.mk (blk_below (g := gb202) (o := .cells #[.string (⟨#[97]⟩ : ByteArray), .int .i64 1, .int .i64 1, .int .i64 0] 32 (0, 0)) (uK BK202) hb); replace BK203 := bK BK203 hb; replace BK204 := bK BK204 hb; replace HB := Aside0.mk (below_step (by repeat (first | (with_reducible first | exact HB.out | apply bL | apply bM | apply bR | refine bS ?_ GE202.out | refine bS ?_ GE203.out | refine bS ?_ GE204.out) | exact HB.out)) hb); (try clear hb); (try clear hk); (try clear ho0)))
        replace HO207 := Aside0.mk (Kd.R_drew HO207.out)
        replace HO210 := Aside0.mk (Kd.R_drew HO210.out)
        replace HO213 := Aside0.mk (Kd.R_drew HO213.out)
        replace BK202 := Aside0.mk (blk_drew BK202.out)
        replace BK203 := Aside0.mk (blk_drew BK203.out)
        replace BK204 := Aside0.mk (blk_drew BK204.out)
        replace HB := Aside0.mk (below_drew1 HB.out)
        have p214 : 0 ≤ (0 : Int) := (by omega)
        have q214 : 0 < (t208.length : Int) := of_decide_eq_true (by first | (with_reducible assumption) | assumption)
        obtain ⟨ad214, e214, hx214_0, hx214_1, hx214_2, hx214_3, hx214_4⟩ := at_T53 (Kd.R_reads' HO210.out).2.2 0 p214 q214
        cases e214
        have qi214 : (0 < t208.length) = True := eq_true (by omega)
        (try rw [show ((0 : Int)).toNat = 0 from rfl] at hx214_0)
        (try rw [show 0 * 5 = 0 from rfl] at hx214_0)
        (try rw [Addr.add_zero'] at hx214_0)
        (try rw [show ((0 : Int)).toNat = 0 from rfl] at hx214_1)
        (try rw [show 0 * 5 = 0 from rfl] at hx214_1)
        (try rw [Addr.add_zero'] at hx214_1)
        (try rw [show ((0 : Int)).toNat = 0 from rfl] at hx214_2)
        (try rw [show 0 * 5 = 0 from rfl] at hx214_2)
        (try rw [Addr.add_zero'] at hx214_2)
        (try rw [show ((0 : Int)).toNat = 0 from rfl] at hx214_3)
        (try rw [show 0 * 5 = 0 from rfl] at hx214_3)
        (try rw [Addr.add_zero'] at hx214_3)
        (try rw [show ((0 : Int)).toNat = 0 from rfl] at hx214_4)
        (try rw [show 0 * 5 = 0 from rfl] at hx214_4)
        (try rw [Addr.add_zero'] at hx214_4)
        replace p214 := eq_true p214
        replace q214 := eq_true q214
        obtain ⟨Ao33, co33, eo33⟩ := Kd.R_slice HO213.out
        (first | subst eo33 | (injection eo33 with f1_ f2_ f3_; have f4_ := f1_.symm; have f5_ := f3_.symm; clear f1_ f2_ f3_; subst f4_; subst f5_))
        have p216 : 0 ≤ (0 : Int) := (by omega)
        have q216 : 0 < (t211.length : Int) := of_decide_eq_true (by first | (with_reducible assumption) | assumption)
        obtain ⟨ad216, e216, hx216_0, hx216_1, hx216_2⟩ := at_T24 (Kd.R_reads' HO213.out).2.2 0 p216 q216
        cases e216
        have qi216 : (0 < t211.length) = True := eq_true (by omega)
        (try rw [show ((0 : Int)).toNat = 0 from rfl] at hx216_0)
        (try rw [show 0 * 3 = 0 from rfl] at hx216_0)
        (try rw [Addr.add_zero'] at hx216_0)
        (try rw [show ((0 : Int)).toNat = 0 from rfl] at hx216_1)
        (try rw [show 0 * 3 = 0 from rfl] at hx216_1)
        (try rw [Addr.add_zero'] at hx216_1)
        (try rw [show ((0 : Int)).toNat = 0 from rfl] at hx216_2)
        (try rw [show 0 * 3 = 0 from rfl] at hx216_2)
        (try rw [Addr.add_zero'] at hx216_2)
        replace p216 := eq_true p216
        replace q216 := eq_true q216
        refine start_ (n := 36) (S := fun w' => w'.cell? ⟨gb203, 0, none⟩ = some (.int .i64 0) ∧ w'.cell? ⟨gb203, 1, none⟩ = some (.int .i64 1) ∧ w'.cell? ⟨gb203, 2, none⟩ = some (.int .i64 1) ∧ w'.cell? ⟨gb202, 0, none⟩ = some (.string (⟨#[97]⟩ : ByteArray)) ∧ w'.cell? ⟨gb202, 1, none⟩ = some (.int .i64 1) ∧ w'.cell? ⟨gb202, 2, none⟩ = some (.int .i64 1) ∧ w'.cell? ⟨gb202, 3, none⟩ = some (.int .i64 0) ∧ w'.cell? ⟨gb204, 0, none⟩ = some (.int .i64 0) ∧ w'.cell? ⟨gb204, 1, none⟩ = some (.int .i64 1) ∧ w'.cell? ⟨gb204, 2, none⟩ = some (.int .i64 2) ∧ w'.cell? ad214 = some (.int .i64 ((rd_T53 t208 0).f0.f0)) ∧ w'.cell? ⟨ad214.block, ad214.off + 1, none⟩ = some (.int .i64 ((rd_T53 t208 0).f0.f1)) ∧ w'.cell? ⟨ad214.block, ad214.off + 2, none⟩ = some (.int .i64 ((rd_T53 t208 0).f0.f2)) ∧ w'.cell? ⟨ad214.block, ad214.off + 3, none⟩ = some (.int .i64 ((rd_T53 t208 0).f1.f0)) ∧ w'.cell? ⟨ad214.block, ad214.off + 4, none⟩ = some (.int .i64 ((rd_T53 t208 0).f1.f1)) ∧ w'.cell? ad216 = some (.int .i64 ((rd_T24 t211 0).f0)) ∧ w'.cell? ⟨ad216.block, ad216.off + 1, none⟩ = some (.int .i64 ((rd_T24 t211 0).f1)) ∧ w'.cell? ⟨ad216.block, ad216.off + 2, none⟩ = some (.int .i64 ((rd_T24 t211 0).f2))) (ds := []) #[F,F,F,F,F,F,F,F,F,F,F,F,F,F,F,F,F,F,F,F,F,F,F,F,F,F,F,F,F,F,F,F,F,F,F,F] (by kernel_rfl) rfl rfl ⟨bC BK203 0 rfl, bC BK203 1 rfl, bC BK203 2 rfl, bC BK202 0 rfl, bC BK202 1 rfl, bC BK202 2 rfl, bC BK202 3 rfl, bC BK204 0 rfl, bC BK204 1 rfl, bC BK204 2 rfl, hx214_0, hx214_1, hx214_2, hx214_3, hx214_4, hx216_0, hx216_1, hx216_2⟩ (fun hHeld => ?_); refine with_tabW clusterlockslaw10_awake.tab5 clusterlockslaw10_awake.bits5 (fun HT_ HW_ => ?_)
        generalize w30.drew = w31 at HO207 HO210 HO213 BK202 BK203 BK204 HB hx214_0 hx214_1 hx214_2 hx214_3 hx214_4 hx216_0 hx216_1 hx216_2 hHeld ⊢
        refine pu HT_ 0 20 #[T,F,F,F,F,F,F,F,F,F,F,F,F,F,F,F,F,F,F,F,F,F,F,F,F,F,F,F,F,F,F,F,F,F,F,F] rfl rfl (by kernel_rfl) (fun _ _ _ => id) (.inl ⟨by rfl, by intro w'; go_simp; with_reducible rfl⟩) (by simp only [sP]; rfl) ?_
        refine pu HT_ 1 21 #[T,T,F,F,F,F,F,F,F,F,F,F,F,F,F,F,F,F,F,F,F,F,F,F,F,F,F,F,F,F,F,F,F,F,F,F] rfl rfl (by kernel_rfl) (fun _ _ _ => id) (.inl ⟨by rfl, by intro w'; go_simp; with_reducible rfl⟩) (by simp only [sP]; rfl) ?_
        refine pu HT_ 2 22 #[T,T,T,F,F,F,F,F,F,F,F,F,F,F,F,F,F,F,F,F,F,F,F,F,F,F,F,F,F,F,F,F,F,F,F,F] rfl rfl (by kernel_rfl) (fun _ _ _ => id) (.inl ⟨by rfl, by intro w'; go_simp; with_reducible rfl⟩) (by simp only [sP]; rfl) ?_
        refine pu HT_ 3 23 #[T,T,T,T,F,F,F,F,F,F,F,F,F,F,F,F,F,F,F,F,F,F,F,F,F,F,F,F,F,F,F,F,F,F,F,F] rfl rfl (by kernel_rfl) (fun _ _ _ => id) (.inl ⟨by rfl, by intro w'; go_simp; with_reducible rfl⟩) (by simp only [sP]; rfl) ?_
        refine pu HT_ 4 24 #[T,T,T,T,T,F,F,F,F,F,F,F,F,F,F,F,F,F,F,F,F,F,F,F,F,F,F,F,F,F,F,F,F,F,F,F] rfl rfl (by kernel_rfl) (fun _ _ _ => id) (.inl ⟨by rfl, by intro w'; go_simp; with_reducible rfl⟩) (by simp only [sP]; rfl) ?_
        refine pu HT_ 5 25 #[T,T,T,T,T,T,F,F,F,F,F,F,F,F,F,F,F,F,F,F,F,F,F,F,F,F,F,F,F,F,F,F,F,F,F,F] rfl rfl (by kernel_rfl) (fun _ _ _ => id) (.inl ⟨by rfl, by intro w'; go_simp; with_reducible rfl⟩) (by simp only [sP]; rfl) ?_
        refine pu HT_ 6 26 #[T,T,T,T,T,T,T,F,F,F,F,F,F,F,F,F,F,F,F,F,F,F,F,F,F,F,F,F,F,F,F,F,F,F,F,F] rfl rfl (by kernel_rfl) (fun _ _ _ => id) (.inl ⟨by rfl, by intro w'; go_simp; with_reducible rfl⟩) (by simp only [sP]; rfl) ?_
        refine tk HT_ HW_ 7 27 #[T,T,T,T,T,T,T,T,F,F,F,F,F,F,F,F,F,F,F,F,F,F,F,F,F,F,F,F,F,F,F,F,F,F,F,F] rfl rfl (by kernel_rfl) (fun _ _ _ => id) (.inl ⟨by rfl, by rintro w' ⟨s0, s1, s2, s3, s4, s5, s6, s7, s8, s9, s10, s11, s12, s13, s14, s15, s16, s17⟩; go_simp; with_reducible rfl⟩) hHeld (by simp only [sP]; rfl) ?_
        refine tk HT_ HW_ 8 28 #[T,T,T,T,T,T,T,T,T,F,F,F,F,F,F,F,F,F,F,F,F,F,F,F,F,F,F,F,F,F,F,F,F,F,F,F] rfl rfl (by kernel_rfl) (fun _ _ _ => id) (.inl ⟨by rfl, by rintro w' ⟨s0, s1, s2, s3, s4, s5, s6, s7, s8, s9, s10, s11, s12, s13, s14, s15, s16, s17⟩; go_simp; with_reducible rfl⟩) hHeld (by simp only [sP]; rfl) ?_
        refine pu HT_ 9 29 #[T,T,T,T,T,T,T,T,T,T,F,F,F,F,F,F,F,F,F,F,F,F,F,F,F,F,F,F,F,F,F,F,F,F,F,F] rfl rfl (by kernel_rfl) (fun _ _ _ => id) (.inl ⟨by rfl, by intro w'; go_simp; with_reducible rfl⟩) (by simp only [sP]; rfl) ?_
        refine pu HT_ 10 30 #[T,T,T,T,T,T,T,T,T,T,T,F,F,F,F,F,F,F,F,F,F,F,F,F,F,F,F,F,F,F,F,F,F,F,F,F] rfl rfl (by kernel_rfl) (fun _ _ _ => id) (.inl ⟨by rfl, by intro w'; go_simp; with_reducible rfl⟩) (by simp only [sP]; rfl) ?_
        refine pu HT_ 11 31 #[T,T,T,T,T,T,T,T,T,T,T,T,F,F,F,F,F,F,F,F,F,F,F,F,F,F,F,F,F,F,F,F,F,F,F,F] rfl rfl (by kernel_rfl) (fun _ _ _ => id) (.inl ⟨by rfl, by intro w'; go_simp; with_reducible rfl⟩) (by simp only [sP]; rfl) ?_
        refine pu HT_ 13 33 #[T,T,T,T,T,T,T,T,T,T,T,T,F,T,F,F,F,F,F,F,F,F,F,F,F,F,F,F,F,F,F,F,F,F,F,F] rfl rfl (by kernel_rfl) (fun _ _ _ => id) (.inl ⟨by rfl, by intro w'; go_simp; with_reducible rfl⟩) (by simp only [sP]; rfl) ?_
        refine tk HT_ HW_ 12 32 #[T,T,T,T,T,T,T,T,T,T,T,T,T,T,F,F,F,F,F,F,F,F,F,F,F,F,F,F,F,F,F,F,F,F,F,F] rfl rfl (by kernel_rfl) (fun _ _ _ => id) (.inl ⟨by rfl, by rintro w' ⟨s0, s1, s2, s3, s4, s5, s6, s7, s8, s9, s10, s11, s12, s13, s14, s15, s16, s17⟩; go_simp; with_reducible rfl⟩) hHeld (by simp only [sP]; rfl) ?_
        refine one_ (i := 14) (N := some 34) #[T,T,T,T,T,T,T,T,T,T,T,T,T,T,T,F,F,F,F,F,F,F,F,F,F,F,F,F,F,F,F,F,F,F,F,F] rfl rfl (one_of HT_.out (by kernel_rfl)) (by decide) (fun K hK => ?_)
        refine goes_ Tryd.func25 (by kernel_rfl) rfl #[.agg #[.string (⟨#[97]⟩ : ByteArray), .int .i64 1, .int .i64 1, .int .i64 0], .slice (some ad214) t208.length co29] (by rfl) rfl rfl (by (try simp only [mA]); first | done | rfl) ?_
        with_reducible refine (holders_Valid.calls k (⟨#[97]⟩ : ByteArray) 1 1 0 _ _ t208 true _ ?side1 ?side2 ?side3 A7.out).mono ?_
        (case side1 => repeat (first | exact (Kd.R_reads' HO210.out).2.2 | (with_reducible refine Kd.C_alloc ?_ _) | (with_reducible refine Kd.C_drewN ?_ _) | (with_reducible refine Kd.C_drew ?_)))
        (case side2 => exact (Kd.R_reads' HO210.out).2.1)
        (case side3 => exact GL.below HG.out (by repeat (first | (with_reducible first | exact HB.out | apply bL | apply bM | apply bR | refine bS ?_ GE202.out | refine bS ?_ GE203.out | refine bS ?_ GE204.out) | exact HB.out)))
        rintro e w32 ⟨rfl, hb⟩
        have HS10_ := (hb.cell (World.block_lt_of_cell? _ _ (hHeld.2.2.2.2.2.2.2.2.2.2.1))).trans (hHeld.2.2.2.2.2.2.2.2.2.2.1)
        have HS11_ := (hb.cell (World.block_lt_of_cell? _ _ (hHeld.2.2.2.2.2.2.2.2.2.2.2.1))).trans (hHeld.2.2.2.2.2.2.2.2.2.2.2.1)
        have HS12_ := (hb.cell (World.block_lt_of_cell? _ _ (hHeld.2.2.2.2.2.2.2.2.2.2.2.2.1))).trans (hHeld.2.2.2.2.2.2.2.2.2.2.2.2.1)
        have HS13_ := (hb.cell (World.block_lt_of_cell? _ _ (hHeld.2.2.2.2.2.2.2.2.2.2.2.2.2.1))).trans (hHeld.2.2.2.2.2.2.2.2.2.2.2.2.2.1)
        have HS14_ := (hb.cell (World.block_lt_of_cell? _ _ (hHeld.2.2.2.2.2.2.2.2.2.2.2.2.2.2.1))).trans (hHeld.2.2.2.2.2.2.2.2.2.2.2.2.2.2.1)
        have HS15_ := (hb.cell (World.block_lt_of_cell? _ _ (hHeld.2.2.2.2.2.2.2.2.2.2.2.2.2.2.2.1))).trans (hHeld.2.2.2.2.2.2.2.2.2.2.2.2.2.2.2.1)
        have HS16_ := (hb.cell (World.block_lt_of_cell? _ _ (hHeld.2.2.2.2.2.2.2.2.2.2.2.2.2.2.2.2.1))).trans (hHeld.2.2.2.2.2.2.2.2.2.2.2.2.2.2.2.2.1)
        have HS17_ := (hb.cell (World.block_lt_of_cell? _ _ (hHeld.2.2.2.2.2.2.2.2.2.2.2.2.2.2.2.2.2))).trans (hHeld.2.2.2.2.2.2.2.2.2.2.2.2.2.2.2.2.2)
        refine ⟨_, rfl, ?_⟩
        replace HO207 := Aside0.mk (Kd.R_below (by (with_reducible repeat (first | apply Kd.R_alloc | apply Kd.R_drewN | apply Kd.R_drew)); exact HO207.out) hb)
        replace HO210 := Aside0.mk (Kd.R_below (by (with_reducible repeat (first | apply Kd.R_alloc | apply Kd.R_drewN | apply Kd.R_drew)); exact HO210.out) hb)
        replace HO213 := Aside0.mk (Kd.R_below (by (with_reducible repeat (first | apply Kd.R_alloc | apply Kd.R_drewN | apply Kd.R_drew)); exact HO213.out) hb)
        replace BK202 := Aside0.mk (blk_below (g := gb202) (o := .cells #[.string (⟨#[97]⟩ : ByteArray), .int .i64 1, .int .i64 1, .int .i64 0] 32 (0, 0)) (uK BK202) hb)
        replace BK203 := bK BK203 hb
        replace BK204 := bK BK204 hb
        replace HB := Aside0.mk (below_step (by repeat (first | (with_reducible first | exact HB.out | apply bL | apply bM | apply bR | refine bS ?_ GE202.out | refine bS ?_ GE203.out | refine bS ?_ GE204.out) | exact HB.out)) hb)
        (try clear hb)
        (try clear hk)
        refine hK.out _ _ ⟨bC BK203 0 rfl, bC BK203 1 rfl, bC BK203 2 rfl, bC BK202 0 rfl, bC BK202 1 rfl, bC BK202 2 rfl, bC BK202 3 rfl, bC BK204 0 rfl, bC BK204 1 rfl, bC BK204 2 rfl, HS10_, HS11_, HS12_, HS13_, HS14_, HS15_, HS16_, HS17_⟩ (fun hHeld => ?_)
        clear hK K
        refine norm_ (a' := ?_) ?_ ?_
        rotate_left
        ·show Act.put _ (some 34) _ = _
         simp only [sP]
         rfl
        refine pu HT_ 15 35 #[T,T,T,T,T,T,T,T,T,T,T,T,T,T,T,T,F,F,F,F,F,F,F,F,F,F,F,F,F,F,F,F,F,F,F,F] rfl rfl (by kernel_rfl) (fun _ _ _ => id) (.inl ⟨by rfl, by intro w'; go_simp; with_reducible rfl⟩) (by simp only [sP]; rfl) ?_
        refine pu HT_ 16 36 #[T,T,T,T,T,T,T,T,T,T,T,T,T,T,T,T,T,F,F,F,F,F,F,F,F,F,F,F,F,F,F,F,F,F,F,F] rfl rfl (by kernel_rfl) (fun _ _ _ => id) (.inl ⟨by rfl, by intro w'; go_simp; with_reducible rfl⟩) (by simp only [sP]; rfl) ?_
        refine pu HT_ 17 37 #[T,T,T,T,T,T,T,T,T,T,T,T,T,T,T,T,T,T,F,F,F,F,F,F,F,F,F,F,F,F,F,F,F,F,F,F] rfl rfl (by kernel_rfl) (fun _ _ _ => id) (.inl ⟨by rfl, by intro w'; go_simp; with_reducible rfl⟩) (by simp only [sP]; rfl) ?_
        refine pu HT_ 18 38 #[T,T,T,T,T,T,T,T,T,T,T,T,T,T,T,T,T,T,T,F,F,F,F,F,F,F,F,F,F,F,F,F,F,F,F,F] rfl rfl (by kernel_rfl) (fun _ _ _ => id) (.inl ⟨by rfl, by intro w'; go_simp; with_reducible rfl⟩) (by simp only [sP]; rfl) ?_
        refine pu HT_ 19 39 #[T,T,T,T,T,T,T,T,T,T,T,T,T,T,T,T,T,T,T,T,F,F,F,F,F,F,F,F,F,F,F,F,F,F,F,F] rfl rfl (by kernel_rfl) (fun _ _ _ => id) (.inl ⟨by rfl, by intro w'; go_simp; with_reducible rfl⟩) (by simp only [sP]; rfl) ?_
        refine pu HT_ 20 40 #[T,T,T,T,T,T,T,T,T,T,T,T,T,T,T,T,T,T,T,T,T,F,F,F,F,F,F,F,F,F,F,F,F,F,F,F] rfl rfl (by kernel_rfl) (fun _ _ _ => id) (.inl ⟨by rfl, by intro w'; go_simp; with_reducible rfl⟩) (by simp only [sP]; rfl) ?_
        refine pu HT_ 21 41 #[T,T,T,T,T,T,T,T,T,T,T,T,T,T,T,T,T,T,T,T,T,T,F,F,F,F,F,F,F,F,F,F,F,F,F,F] rfl rfl (by kernel_rfl) (fun _ _ _ => id) (.inl ⟨by rfl, by intro w'; go_simp; with_reducible rfl⟩) (by simp only [sP]; rfl) ?_
        refine pu HT_ 22 42 #[T,T,T,T,T,T,T,T,T,T,T,T,T,T,T,T,T,T,T,T,T,T,T,F,F,F,F,F,F,F,F,F,F,F,F,F] rfl rfl (by kernel_rfl) (fun _ _ _ => id) (.inl ⟨by rfl, by intro w'; go_simp; with_reducible rfl⟩) (by simp only [sP]; rfl) ?_
        refine pu HT_ 23 43 #[T,T,T,T,T,T,T,T,T,T,T,T,T,T,T,T,T,T,T,T,T,T,T,T,F,F,F,F,F,F,F,F,F,F,F,F] rfl rfl (by kernel_rfl) (fun _ _ _ => id) (.inl ⟨by rfl, by intro w'; go_simp; with_reducible rfl⟩) (by simp only [sP]; rfl) ?_
        refine tk HT_ HW_ 24 44 #[T,T,T,T,T,T,T,T,T,T,T,T,T,T,T,T,T,T,T,T,T,T,T,T,T,F,F,F,F,F,F,F,F,F,F,F] rfl rfl (by kernel_rfl) (fun _ _ _ => id) (.inl ⟨by rfl, by rintro w' ⟨s0, s1, s2, s3, s4, s5, s6, s7, s8, s9, s10, s11, s12, s13, s14, s15, s16, s17⟩; go_simp; with_reducible rfl⟩) hHeld (by simp only [sP]; rfl) ?_
        refine tk HT_ HW_ 25 45 #[T,T,T,T,T,T,T,T,T,T,T,T,T,T,T,T,T,T,T,T,T,T,T,T,T,T,F,F,F,F,F,F,F,F,F,F] rfl rfl (by kernel_rfl) (fun _ _ _ => id) (.inl ⟨by rfl, by rintro w' ⟨s0, s1, s2, s3, s4, s5, s6, s7, s8, s9, s10, s11, s12, s13, s14, s15, s16, s17⟩; go_simp; with_reducible rfl⟩) hHeld (by simp only [sP]; rfl) ?_
        refine pu HT_ 26 46 #[T,T,T,T,T,T,T,T,T,T,T,T,T,T,T,T,T,T,T,T,T,T,T,T,T,T,T,F,F,F,F,F,F,F,F,F] rfl rfl (by kernel_rfl) (fun _ _ _ => id) (.inl ⟨by rfl, by intro w'; go_simp; with_reducible rfl⟩) (by simp only [sP]; rfl) ?_
        refine pu HT_ 27 47 #[T,T,T,T,T,T,T,T,T,T,T,T,T,T,T,T,T,T,T,T,T,T,T,T,T,T,T,T,F,F,F,F,F,F,F,F] rfl rfl (by kernel_rfl) (fun _ _ _ => id) (.inl ⟨by rfl, by intro w'; go_simp; with_reducible rfl⟩) (by simp only [sP]; rfl) ?_
        refine pu HT_ 28 48 #[T,T,T,T,T,T,T,T,T,T,T,T,T,T,T,T,T,T,T,T,T,T,T,T,T,T,T,T,T,F,F,F,F,F,F,F] rfl rfl (by kernel_rfl) (fun _ _ _ => id) (.inl ⟨by rfl, by intro w'; go_simp; with_reducible rfl⟩) (by simp only [sP]; rfl) ?_
        refine pu HT_ 30 50 #[T,T,T,T,T,T,T,T,T,T,T,T,T,T,T,T,T,T,T,T,T,T,T,T,T,T,T,T,T,F,T,F,F,F,F,F] rfl rfl (by kernel_rfl) (fun _ _ _ => id) (.inl ⟨by rfl, by intro w'; go_simp; with_reducible rfl⟩) (by simp only [sP]; rfl) ?_
        refine pu HT_ 32 52 #[T,T,T,T,T,T,T,T,T,T,T,T,T,T,T,T,T,T,T,T,T,T,T,T,T,T,T,T,T,F,T,F,T,F,F,F] rfl rfl (by kernel_rfl) (fun _ _ _ => id) (.inl ⟨by rfl, by intro w'; go_simp; with_reducible rfl⟩) (by simp only [sP]; rfl) ?_
        refine tk HT_ HW_ 29 49 #[T,T,T,T,T,T,T,T,T,T,T,T,T,T,T,T,T,T,T,T,T,T,T,T,T,T,T,T,T,T,T,F,T,F,F,F] rfl rfl (by kernel_rfl) (fun _ _ _ => id) (.inl ⟨by rfl, by rintro w' ⟨s0, s1, s2, s3, s4, s5, s6, s7, s8, s9, s10, s11, s12, s13, s14, s15, s16, s17⟩; go_simp; with_reducible rfl⟩) hHeld (by simp only [sP]; rfl) ?_
        refine tk HT_ HW_ 31 51 #[T,T,T,T,T,T,T,T,T,T,T,T,T,T,T,T,T,T,T,T,T,T,T,T,T,T,T,T,T,T,T,T,T,F,F,F] rfl rfl (by kernel_rfl) (fun _ _ _ => id) (.inl ⟨by rfl, by rintro w' ⟨s0, s1, s2, s3, s4, s5, s6, s7, s8, s9, s10, s11, s12, s13, s14, s15, s16, s17⟩; go_simp; with_reducible rfl⟩) hHeld (by simp only [sP]; rfl) ?_
        refine one_ (i := 33) (N := some 53) #[T,T,T,T,T,T,T,T,T,T,T,T,T,T,T,T,T,T,T,T,T,T,T,T,T,T,T,T,T,T,T,T,T,T,F,F] rfl rfl (one_of HT_.out (by kernel_rfl)) (by decide) (fun K hK => ?_)
        refine goes_ Tryd.func15 (by kernel_rfl) rfl #[.agg #[.string (⟨#[97]⟩ : ByteArray), .int .i64 1, .int .i64 1, .int .i64 0], .slice (some ad214) t208.length co29, .agg #[.int .i64 0, .int .i64 1, .int .i64 2], .agg #[.int .i64 2, .int .i64 0]] (by rfl) rfl rfl (by (try simp only [mA]); first | done | rfl) ?_
        with_reducible refine (holders_Room.calls k (⟨#[97]⟩ : ByteArray) 1 1 0 _ _ t208 0 1 2 2 0 t217 _ ?side1 ?side2 ?side3 A12.out).mono ?_
        (case side1 => repeat (first | exact (Kd.R_reads' HO210.out).2.2 | (with_reducible refine Kd.C_alloc ?_ _) | (with_reducible refine Kd.C_drewN ?_ _) | (with_reducible refine Kd.C_drew ?_)))
        (case side2 => exact (Kd.R_reads' HO210.out).2.1)
        (case side3 => exact GL.below HG.out (by repeat (first | (with_reducible first | exact HB.out | apply bL | apply bM | apply bR | refine bS ?_ GE202.out | refine bS ?_ GE203.out | refine bS ?_ GE204.out) | exact HB.out)))
        rintro e w34 ⟨rfl, hb⟩
        have HS10_ := (hb.cell (World.block_lt_of_cell? _ _ (hHeld.2.2.2.2.2.2.2.2.2.2.1))).trans (hHeld.2.2.2.2.2.2.2.2.2.2.1)
        have HS11_ := (hb.cell (World.block_lt_of_cell? _ _ (hHeld.2.2.2.2.2.2.2.2.2.2.2.1))).trans (hHeld.2.2.2.2.2.2.2.2.2.2.2.1)
        have HS12_ := (hb.cell (World.block_lt_of_cell? _ _ (hHeld.2.2.2.2.2.2.2.2.2.2.2.2.1))).trans (hHeld.2.2.2.2.2.2.2.2.2.2.2.2.1)
        have HS13_ := (hb.cell (World.block_lt_of_cell? _ _ (hHeld.2.2.2.2.2.2.2.2.2.2.2.2.2.1))).trans (hHeld.2.2.2.2.2.2.2.2.2.2.2.2.2.1)
        have HS14_ := (hb.cell (World.block_lt_of_cell? _ _ (hHeld.2.2.2.2.2.2.2.2.2.2.2.2.2.2.1))).trans (hHeld.2.2.2.2.2.2.2.2.2.2.2.2.2.2.1)
        have HS15_ := (hb.cell (World.block_lt_of_cell? _ _ (hHeld.2.2.2.2.2.2.2.2.2.2.2.2.2.2.2.1))).trans (hHeld.2.2.2.2.2.2.2.2.2.2.2.2.2.2.2.1)
        have HS16_ := (hb.cell (World.block_lt_of_cell? _ _ (hHeld.2.2.2.2.2.2.2.2.2.2.2.2.2.2.2.2.1))).trans (hHeld.2.2.2.2.2.2.2.2.2.2.2.2.2.2.2.2.1)
        have HS17_ := (hb.cell (World.block_lt_of_cell? _ _ (hHeld.2.2.2.2.2.2.2.2.2.2.2.2.2.2.2.2.2))).trans (hHeld.2.2.2.2.2.2.2.2.2.2.2.2.2.2.2.2.2)
        refine ⟨_, rfl, ?_⟩
        replace HO207 := Aside0.mk (Kd.R_below (by (with_reducible repeat (first | apply Kd.R_alloc | apply Kd.R_drewN | apply Kd.R_drew)); exact HO207.out) hb)
        replace HO210 := Aside0.mk (Kd.R_below (by (with_reducible repeat (first | apply Kd.R_alloc | apply Kd.R_drewN | apply Kd.R_drew)); exact HO210.out) hb)
        replace HO213 := Aside0.mk (Kd.R_below (by (with_reducible repeat (first | apply Kd.R_alloc | apply Kd.R_drewN | apply Kd.R_drew)); exact HO213.out) hb)
        replace BK202 := Aside0.mk (blk_below (g := gb202) (o := .cells #[.string (⟨#[97]⟩ : ByteArray), .int .i64 1, .int .i64 1, .int .i64 0] 32 (0, 0)) (uK BK202) hb)
        replace BK203 := bK BK203 hb
        replace BK204 := bK BK204 hb
        replace HB := Aside0.mk (below_step (by repeat (first | (with_reducible first | exact HB.out | apply bL | apply bM | apply bR | refine bS ?_ GE202.out | refine bS ?_ GE203.out | refine bS ?_ GE204.out) | exact HB.out)) hb)
        (try clear hb)
        (try clear hk)
        refine hK.out _ _ ⟨bC BK203 0 rfl, bC BK203 1 rfl, bC BK203 2 rfl, bC BK202 0 rfl, bC BK202 1 rfl, bC BK202 2 rfl, bC BK202 3 rfl, bC BK204 0 rfl, bC BK204 1 rfl, bC BK204 2 rfl, HS10_, HS11_, HS12_, HS13_, HS14_, HS15_, HS16_, HS17_⟩ (fun hHeld => ?_)
        clear hK K
        refine norm_ (a' := ?_) ?_ ?_
        rotate_left
        ·show Act.put _ (some 53) _ = _
         simp only [sP]
         rfl
        refine pu HT_ 34 54 #[T,T,T,T,T,T,T,T,T,T,T,T,T,T,T,T,T,T,T,T,T,T,T,T,T,T,T,T,T,T,T,T,T,T,T,F] rfl rfl (by kernel_rfl) (fun _ _ _ => id) (.inl ⟨by rfl, by intro w'; go_simp; with_reducible rfl⟩) (by simp only [sP]; rfl) ?_
        refine pu HT_ 35 0 #[T,T,T,T,T,T,T,T,T,T,T,T,T,T,T,T,T,T,T,T,T,T,T,T,T,T,T,T,T,T,T,T,T,T,T,T] rfl rfl (by kernel_rfl) (fun _ _ _ => id) (.inl ⟨by rfl, by intro w'; go_simp; with_reducible rfl⟩) (by simp only [sP]; rfl) ?_
        refine done_ (done_of HT_.out (by kernel_rfl)) ?_
        try go_wp2
        go_ret
        exact ⟨by first | rfl | (simp [errW_none, errW_some] <;> rfl) | (simp [*, errW_none, errW_some] <;> rfl), by repeat (first | (with_reducible first | exact HB.out | apply bL | apply bM | apply bR | refine bS ?_ GE202.out | refine bS ?_ GE203.out | refine bS ?_ GE204.out) | exact HB.out)⟩
       ·rw [if_neg c11] at H
        have c11b0 : (((rd_T24 t211 0).f0) == 0 && (((rd_T24 t211 0).f1) == 1 && (((rd_T24 t211 0).f2) == 1))) = false := by simpa using c11
        (try (have c11b1 : decide (((rd_T24 t211 0).f0) = 0 && (((rd_T24 t211 0).f1) == 1 && (((rd_T24 t211 0).f2) == 1))) = false := by simpa using c11))
        (try (have c11b2 : (((rd_T24 t211 0).f0) == 0 && (((rd_T24 t211 0).f1) == 1 && (((rd_T24 t211 0).f2) == 1))) = false := by simpa using c11))
        (try (have c11b3 : ¬ (((rd_T24 t211 0).f0) = 0 && (((rd_T24 t211 0).f1) == 1 && (((rd_T24 t211 0).f2) == 1))) := by simpa using c11))
        clear c11
        exact absurd (Option.some.inj H) (by rw [HRT.out]; decide)
      ·rw [if_neg c10] at H
       exact absurd H (by simp)
     ·rw [if_neg c9] at H
      have c9b0 : ((t211.length : Int) == 1) = false := beq_eq_false_iff_ne.mpr c9
      have c9b1 : ((t211.length : Int) != 1) = true := bne_iff_ne.mpr c9
      exact absurd (Option.some.inj H) (by rw [HRT.out]; decide)
    ·replace c8 := Bool.eq_false_iff.mpr c8
     subst c8
     rw [if_neg (show ¬ (false = true) by decide)] at H
     exact absurd (Option.some.inj H) (by rw [HRT.out]; decide)
   ·rw [if_neg c6] at H
    have c6b0 : (((rd_T53 t208 0).f0.f0) == 0 && (((rd_T53 t208 0).f0.f1) == 1 && (((rd_T53 t208 0).f0.f2) == 1))) = false := by simpa using c6
    (try (have c6b1 : decide (((rd_T53 t208 0).f0.f0) = 0 && (((rd_T53 t208 0).f0.f1) == 1 && (((rd_T53 t208 0).f0.f2) == 1))) = false := by simpa using c6))
    (try (have c6b2 : (((rd_T53 t208 0).f0.f0) == 0 && (((rd_T53 t208 0).f0.f1) == 1 && (((rd_T53 t208 0).f0.f2) == 1))) = false := by simpa using c6))
    (try (have c6b3 : ¬ (((rd_T53 t208 0).f0.f0) = 0 && (((rd_T53 t208 0).f0.f1) == 1 && (((rd_T53 t208 0).f0.f2) == 1))) := by simpa using c6))
    clear c6
    exact absurd (Option.some.inj H) (by rw [HRT.out]; decide)
  ·rw [if_neg c5] at H
   exact absurd H (by simp)
 ·rw [if_neg c4] at H
  have c4b0 : ((t208.length : Int) == 2) = false := beq_eq_false_iff_ne.mpr c4
  have c4b1 : ((t208.length : Int) != 2) = true := bne_iff_ne.mpr c4
  exact absurd (Option.some.inj H) (by rw [HRT.out]; decide)
end Go.Proofs.YtnmemkphfgdplaaDoor.PA
