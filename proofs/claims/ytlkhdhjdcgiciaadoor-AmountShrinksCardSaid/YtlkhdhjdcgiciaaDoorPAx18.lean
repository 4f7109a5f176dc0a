-- Printed by wip/tool/myprint.py for this claim; Lean checks it.
import Derived.Test.YtlkhdhjdcgiciaaDoorPAx0
import Derived.Test.YtlkhdhjdcgiciaaDoorSlim
import Derived.Test.YtlkhdhjdcgiciaaDoorPAx2
import Derived.Test.YtlkhdhjdcgiciaaDoorPAx4
import Derived.Test.YtlkhdhjdcgiciaaDoorPAx14
namespace Go.Proofs.YtlkhdhjdcgiciaaDoor.PA
open Go.RowKit Go.Proofs.YtlkhdhjdcgiciaaDoorW.PrintWords Go.Proofs.YtlkhdhjdcgiciaaDoorW.PrintLast Go.Proofs.YtlkhdhjdcgiciaaDoorW.PrintMore
attribute [local go_sem] max2_int min2_int max_two min_two max_three min_three max_four min_four   -- for this text's walks alone
set_option linter.unusedVariables false
set_option linter.unusedSimpArgs false

/-! ### clusterlockslaw04_AmountShrinks: function 10 -/
mutual
def clusterlockslaw04_AmountShrinks.j0 : Nat → List (S25) → Int → Bool → ByteArray → Int → Int → Int → Int → Int → Option (Bool)
 | 0, _, _, _, _, _, _, _, _, _ => none
 | k + 1, x1, x2, x29, x343000, x343001, x343002, x343003, x344000, x344001 => if x29 = true then ((clusterlockslaw04_awake.f k).bind fun t345 => (some t345)) else ((some (([] : List (S25)) : List (S25))).bind fun y346 => (if 0 ≤ x2 then (if x2 ≤ (x1.length : Int) then ((some (x1.take (x2 : Int).toNat : List (S25))).bind fun y349 => (if y346.length + y349.length < 8796093022208 then ((some (y346 ++ y349 : List (S25))).bind fun y353 => (if 0 ≤ (wrap64 (x2 + 1)) then (if (wrap64 (x2 + 1)) ≤ (x1.length : Int) then ((some (x1.drop ((wrap64 (x2 + 1)) : Int).toNat : List (S25))).bind fun y356 => (if y353.length + y356.length < 8796093022208 then ((some (y353 ++ y356 : List (S25))).bind fun y360 => ((some (([] : List (S25)) : List (S25))).bind fun y363 => (if y363.length + x1.length < 8796093022208 then ((some (y363 ++ x1 : List (S25))).bind fun y366 => (if x2 < (x1.length : Int) then ((amount_Covers.f k x343000 x343001 x343002 x343003 ((rd_T25 x1 x2).f0) ((rd_T25 x1 x2).f1) x344000 x344001).bind fun t370 => (if t370 = true then (if x2 < (y366.length : Int) then (clusterlockslaw04_AmountShrinks.j1 k y360 (y366.set (x2 : Int).toNat (⟨x344000, x344001⟩ : S25)) x343000 x343001 x343002 x343003) else (none)) else (clusterlockslaw04_AmountShrinks.j1 k y360 y366 x343000 x343001 x343002 x343003))) else (none))) else (none)))) else (none))) else (none)) else (none))) else (none))) else (none)) else (none)))
def clusterlockslaw04_AmountShrinks.j1 : Nat → List (S25) → List (S25) → ByteArray → Int → Int → Int → Option (Bool)
 | 0, _, _, _, _, _, _ => none
 | k + 1, x9, x10, x343000, x343001, x343002, x343003 => (clusterlockslaw04_awake.f k).bind fun t372 => (if t372 = true then ((amount_Compatible.f k x343000 x343001 x343002 x343003 x9).bind fun t373 => (if t373 = true then ((amount_Compatible.f k x343000 x343001 x343002 x343003 x10).bind fun t374 => (some t374)) else (some false))) else (some false))
end
def clusterlockslaw04_AmountShrinks.f (k : Nat) (a0_0 : ByteArray) (a0_1 : Int) (a0_2 : Int) (a0_3 : Int) (l1 : List (S25)) (a2 : Int) (a3_0 : Int) (a3_1 : Int) : Option (Bool) := if (l1.length : Int) > 60 then (clusterlockslaw04_AmountShrinks.j0 k l1 a2 true a0_0 a0_1 a0_2 a0_3 a3_0 a3_1) else (if a2 < 0 then (clusterlockslaw04_AmountShrinks.j0 k l1 a2 true a0_0 a0_1 a0_2 a0_3 a3_0 a3_1) else (if a2 ≥ (l1.length : Int) then (clusterlockslaw04_AmountShrinks.j0 k l1 a2 true a0_0 a0_1 a0_2 a0_3 a3_0 a3_1) else ((amount_Compatible.f k a0_0 a0_1 a0_2 a0_3 l1).bind fun t344 => (clusterlockslaw04_AmountShrinks.j0 k l1 a2 (!t344) a0_0 a0_1 a0_2 a0_3 a3_0 a3_1))))
theorem clusterlockslaw04_AmountShrinks.mono_l : ∀ k, (∀ y0 y1 y2 y3 y4 y5 y6 y7 y8, LeO (clusterlockslaw04_AmountShrinks.j0 k y0 y1 y2 y3 y4 y5 y6 y7 y8) (clusterlockslaw04_AmountShrinks.j0 (k + 1) y0 y1 y2 y3 y4 y5 y6 y7 y8)) ∧ (∀ y0 y1 y2 y3 y4 y5, LeO (clusterlockslaw04_AmountShrinks.j1 k y0 y1 y2 y3 y4 y5) (clusterlockslaw04_AmountShrinks.j1 (k + 1) y0 y1 y2 y3 y4 y5))
 | 0 => ⟨fun _ _ _ _ _ _ _ _ _ r h => by simp [clusterlockslaw04_AmountShrinks.j0] at h, fun _ _ _ _ _ _ r h => by simp [clusterlockslaw04_AmountShrinks.j1] at h⟩
 | k + 1 => by
  obtain ⟨ih0, ih1⟩ := clusterlockslaw04_AmountShrinks.mono_l k
  refine ⟨?_, ?_⟩
  ·intro y0 y1 y2 y3 y4 y5 y6 y7 y8
   unfold clusterlockslaw04_AmountShrinks.j0
   repeat' first
   | (with_reducible exact ih0 _ _ _ _ _ _ _ _ _)
   | (with_reducible exact ih1 _ _ _ _ _ _)
   | (with_reducible exact amount_Compatible.mono _ _ _ _ _ _)
   | (with_reducible exact amount_Covers.mono _ _ _ _ _ _ _ _ _)
   | (with_reducible exact clusterlockslaw04_awake.mono _)
   | (with_reducible exact LeO.refl _)
   | (with_reducible exact LeO.none _)
   | (with_reducible refine LeO.ite ?_ ?_)
   | (with_reducible refine LeO.bind ?_ (fun _ => ?_))
   | exact ih0 _ _ _ _ _ _ _ _ _
   | exact ih1 _ _ _ _ _ _
   | exact amount_Compatible.mono _ _ _ _ _ _
   | exact amount_Covers.mono _ _ _ _ _ _ _ _ _
   | exact clusterlockslaw04_awake.mono _
   | exact LeO.none _
   | refine LeO.ite ?_ ?_
   | refine LeO.bind ?_ (fun _ => ?_)
  ·intro y0 y1 y2 y3 y4 y5
   unfold clusterlockslaw04_AmountShrinks.j1
   repeat' first
   | (with_reducible exact ih0 _ _ _ _ _ _ _ _ _)
   | (with_reducible exact ih1 _ _ _ _ _ _)
   | (with_reducible exact amount_Compatible.mono _ _ _ _ _ _)
   | (with_reducible exact amount_Covers.mono _ _ _ _ _ _ _ _ _)
   | (with_reducible exact clusterlockslaw04_awake.mono _)
   | (with_reducible exact LeO.refl _)
   | (with_reducible exact LeO.none _)
   | (with_reducible refine LeO.ite ?_ ?_)
   | (with_reducible refine LeO.bind ?_ (fun _ => ?_))
   | exact ih0 _ _ _ _ _ _ _ _ _
   | exact ih1 _ _ _ _ _ _
   | exact amount_Compatible.mono _ _ _ _ _ _
   | exact amount_Covers.mono _ _ _ _ _ _ _ _ _
   | exact clusterlockslaw04_awake.mono _
   | exact LeO.none _
   | refine LeO.ite ?_ ?_
   | refine LeO.bind ?_ (fun _ => ?_)
theorem clusterlockslaw04_AmountShrinks.mono : ∀ a0 a1 a2 a3 a4 a5 a6 a7 k, LeO (clusterlockslaw04_AmountShrinks.f k a0 a1 a2 a3 a4 a5 a6 a7) (clusterlockslaw04_AmountShrinks.f (k + 1) a0 a1 a2 a3 a4 a5 a6 a7) := by
 intro a0 a1 a2 a3 a4 a5 a6 a7 k
 obtain ⟨ih0, ih1⟩ := clusterlockslaw04_AmountShrinks.mono_l k
 unfold clusterlockslaw04_AmountShrinks.f
 repeat' first
   | (with_reducible exact ih0 _ _ _ _ _ _ _ _ _)
   | (with_reducible exact ih1 _ _ _ _ _ _)
   | (with_reducible exact amount_Compatible.mono _ _ _ _ _ _)
   | (with_reducible exact amount_Covers.mono _ _ _ _ _ _ _ _ _)
   | (with_reducible exact clusterlockslaw04_awake.mono _)
   | (with_reducible exact LeO.refl _)
   | (with_reducible exact LeO.none _)
   | (with_reducible refine LeO.ite ?_ ?_)
   | (with_reducible refine LeO.bind ?_ (fun _ => ?_))
   | exact ih0 _ _ _ _ _ _ _ _ _
   | exact ih1 _ _ _ _ _ _
   | exact amount_Compatible.mono _ _ _ _ _ _
   | exact amount_Covers.mono _ _ _ _ _ _ _ _ _
   | exact clusterlockslaw04_awake.mono _
   | exact LeO.none _
   | refine LeO.ite ?_ ?_
   | refine LeO.bind ?_ (fun _ => ?_)
def clusterlockslaw04_AmountShrinks.T3 : Bool × List (List Nat × List Nat) := (true, [([], []), ([], []), ([], []), ([1, 2], [1, 2]), ([0, 3], [0, 3]), ([], []), ([], []), ([6], [6]), ([5, 7], [5, 7]), ([4, 8, 4], [4, 8]), ([9, 9, 0, 1, 2, 3, 4, 5, 6, 7, 8, 9], [9])])
def clusterlockslaw04_AmountShrinks.B3 : List Nat := [0, 0, 0, 6, 15, 0, 0, 64, 224, 511, 1023]
theorem clusterlockslaw04_AmountShrinks.tab3 : rtab .any (opsOf Tryd.f10 3) = clusterlockslaw04_AmountShrinks.T3 := by kernel_rfl
theorem clusterlockslaw04_AmountShrinks.bits3 : waitsOk clusterlockslaw04_AmountShrinks.T3.2 clusterlockslaw04_AmountShrinks.B3 = true := by kernel_rfl
set_option maxHeartbeats 8000000 in
set_option maxRecDepth 100000 in
theorem clusterlockslaw04_AmountShrinks.calls (k : Nat) (a0_0 : ByteArray) (a0_1 : Int) (a0_2 : Int) (a0_3 : Int) (A1 : Option Addr) (c1 : Nat) (l1 : List (S25)) (a2 : Int) (a3_0 : Int) (a3_1 : Int) (r : Bool) (w : World) (hr1 : Kd.C k25 w A1 l1.length l1) (hc1 : l1.length ≤ c1) (hG : GL w) (h : clusterlockslaw04_AmountShrinks.f k a0_0 a0_1 a0_2 a0_3 l1 a2 a3_0 a3_1 = some r) :
  Calls Tryd.prog 10 #[.agg #[.string a0_0, .int .i64 a0_1, .int .i64 a0_2, .int .i64 a0_3], .slice A1 l1.length c1, .int .i64 a2, .agg #[.int .i64 a3_0, .int .i64 a3_1]] w fun e w' => e = .returned (.bool r) ∧ Below w.heap.size w w' := by
 have hu23 := Tryd.underlying23
 have hu25 := Tryd.underlying25
 have HG := Aside0.mk hG
 clear hG
 have HR1 := Aside0.mk hr1
 have HC1 := Aside0.mk hc1
 clear hr1 hc1
 have HB := Aside0.mk (Below.refl w.heap.size w)
 have H : (if (l1.length : Int) > 60 then (clusterlockslaw04_AmountShrinks.j0 k l1 a2 true a0_0 a0_1 a0_2 a0_3 a3_0 a3_1) else (if a2 < 0 then (clusterlockslaw04_AmountShrinks.j0 k l1 a2 true a0_0 a0_1 a0_2 a0_3 a3_0 a3_1) else (if a2 ≥ (l1.length : Int) then (clusterlockslaw04_AmountShrinks.j0 k l1 a2 true a0_0 a0_1 a0_2 a0_3 a3_0 a3_1) else ((amount_Compatible.f k a0_0 a0_1 a0_2 a0_3 l1).bind fun t344 => (clusterlockslaw04_AmountShrinks.j0 k l1 a2 (!t344) a0_0 a0_1 a0_2 a0_3 a3_0 a3_1))))) = some r := h
 clear h
 have HC5 := Aside0.mk H
 clear H
 go_enter Tryd.func10, Tryd.ntmps10
 go_upto_region 1 with (first | ((with_reducible refine gate_dst (N := 4) rfl ?_); (try (refine gate_guard (by rfl) ?_; dsimp only)); refine box_event ?hg (N := 4) ?hd (cs := #[.string a0_0, .int .i64 a0_1, .int .i64 a0_2, .int .i64 a0_3]) (t := 23) ?hr ?_; (case hd => rfl); (case hg => rfl); (case hr => first | (go_simp; done) | (go_simp; rfl)); intro gb342 hg w6 hbox hb; have n0_ := Aside0.mk (below_step (by repeat (first | (with_reducible first | exact HB.out | apply below_alloc | apply pw_below_drewN | apply below_drew1) | exact HB.out)) hb); have n1_ := Aside0.mk (hbox); have n2_ := Aside0.mk ((by rw [hg]; exact (below_size (by repeat (first | (with_reducible first | exact HB.out | apply below_alloc | apply pw_below_drewN | apply below_drew1) | exact HB.out))) : w.heap.size ≤ gb342)); have n3_ := n2_; clear HB; have HB := n0_; have BK342 := n1_; have GW342 := n2_; have GE342 := n3_; clear n0_ n1_ n2_ n3_; clear hb hbox hg) | ((with_reducible refine gate_dst (N := 7) rfl ?_); (try (refine gate_guard (by rfl) ?_; dsimp only)); refine box_event ?hg (N := 7) ?hd (cs := #[.int .i64 a3_0, .int .i64 a3_1]) (t := 25) ?hr ?_; (case hd => rfl); (case hg => rfl); (case hr => first | (go_simp; done) | (go_simp; rfl)); intro gb343 hg w7 hbox hb; have n0_ := blkB BK342 (by (with_reducible repeat first | refine bN ?_ _ | refine bD ?_ | refine bA ?_ _); exact BK342.out) hb; have n1_ := Aside0.mk (below_step (by repeat (first | (with_reducible first | exact HB.out | apply below_alloc | apply pw_below_drewN | apply below_drew1 | refine below_set ?_ GE342.out) | exact HB.out)) hb); have n2_ := Aside0.mk (hbox); have n3_ := Aside0.mk ((by rw [hg]; exact (below_size (by repeat (first | (with_reducible first | exact HB.out | apply below_alloc | apply pw_below_drewN | apply below_drew1 | refine below_set ?_ GE342.out) | exact HB.out))) : w.heap.size ≤ gb343)); have n4_ := n3_; have n5_ := Aside0.mk ((by rw [hg]; exact Nat.ne_of_lt (blkLt BK342 (by (with_reducible repeat first | refine bN ?_ _ | refine bD ?_ | refine bA ?_ _); exact BK342.out)) : gb342 ≠ gb343)); have n6_ := Aside0.mk n5_.out.symm; clear BK342 HB; have BK342 := n0_; have HB := n1_; have BK343 := n2_; have GW343 := n3_; have GE343 := n4_; have NB342_343 := n5_; have NB343_342 := n6_; clear n0_ n1_ n2_ n3_ n4_ n5_ n6_; clear hb hbox hg))
 (try simp only [Act.put, List.setIfInBounds_toArray, List.set_cons_zero, List.set_cons_succ])
 go_cut [29] (fun v29 wc => ∃ (kq : Nat) (x29_4 : Bool), v29 = .bool x29_4 ∧ Aside0 (clusterlockslaw04_AmountShrinks.j0 kq l1 a2 x29_4 a0_0 a0_1 a0_2 a0_3 a3_0 a3_1 = some r) ∧ Aside0 (kq ≤ k) ∧ Aside0 (wc.heap[gb342]? = some (.cells #[.string a0_0, .int .i64 a0_1, .int .i64 a0_2, .int .i64 a0_3] 23 (0, 0))) ∧ Aside0 (wc.heap[gb343]? = some (.cells #[.int .i64 a3_0, .int .i64 a3_1] 25 (0, 0))) ∧ Aside0 (Below w.heap.size w wc))
 case first =>
  have H := HC5.out
  clear HC5
  by_cases c8 : (l1.length : Int) > 60
  ·rw [if_pos c8] at H
   have c8b0 : decide (60 < (l1.length : Int)) = true := decide_eq_true c8
   have c8b1 : decide (60 < l1.length) = true := decide_eq_true (by omega)
   clear c8
   (first | rw [c8b0] | (simp only [i64_w, i32_w]; rw [c8b0]) | skip)
   have H' := Aside0.mk H
   clear H
   go_wp2
   go_meet
   case rel => exact ⟨_, (true), (by first | rfl | (simp; done) | (simp [*]; done)), H', ⟨by first | omega | exact Nat.le_refl _⟩, ⟨by (with_reducible repeat first | refine bN ?_ _ | refine bD ?_ | refine bA ?_ _); exact BK342.out⟩, ⟨by (with_reducible repeat first | refine bN ?_ _ | refine bD ?_ | refine bA ?_ _); exact BK343.out⟩, ⟨by repeat (first | (with_reducible first | exact HB.out | apply below_alloc | apply pw_below_drewN | apply below_drew1 | refine below_set ?_ GE342.out | refine below_set ?_ GE343.out) | exact HB.out)⟩⟩
  ·rw [if_neg c8] at H
   have c8b0 : decide (60 < (l1.length : Int)) = false := decide_eq_false c8
   have c8b1 : decide (60 < l1.length) = false := decide_eq_false (by omega)
   clear c8
   (first | rw [c8b0] | (simp only [i64_w, i32_w]; rw [c8b0]) | skip)
   by_cases c9 : a2 < 0
   ·rw [if_pos c9] at H
    have c9b0 : decide (a2 < 0) = true := decide_eq_true c9
    clear c9
    have H' := Aside0.mk H
    clear H
    go_wp2
    go_meet
    case rel => exact ⟨_, (true), (by first | rfl | (simp; done) | (simp [*]; done)), H', ⟨by first | omega | exact Nat.le_refl _⟩, ⟨by (with_reducible repeat first | refine bN ?_ _ | refine bD ?_ | refine bA ?_ _); exact BK342.out⟩, ⟨by (with_reducible repeat first | refine bN ?_ _ | refine bD ?_ | refine bA ?_ _); exact BK343.out⟩, ⟨by repeat (first | (with_reducible first | exact HB.out | apply below_alloc | apply pw_below_drewN | apply below_drew1 | refine below_set ?_ GE342.out | refine below_set ?_ GE343.out) | exact HB.out)⟩⟩
   ·rw [if_neg c9] at H
    have c9b0 : decide (a2 < 0) = false := decide_eq_false c9
    clear c9
    by_cases c10 : a2 ≥ (l1.length : Int)
    ·rw [if_pos c10] at H
     have c10b0 : decide ((l1.length : Int) ≤ a2) = true := decide_eq_true c10
     clear c10
     have H' := Aside0.mk H
     clear H
     go_wp2
     go_meet
     case rel => exact ⟨_, (true), (by first | rfl | (simp; done) | (simp [*]; done)), H', ⟨by first | omega | exact Nat.le_refl _⟩, ⟨by (with_reducible repeat first | refine bN ?_ _ | refine bD ?_ | refine bA ?_ _); exact BK342.out⟩, ⟨by (with_reducible repeat first | refine bN ?_ _ | refine bD ?_ | refine bA ?_ _); exact BK343.out⟩, ⟨by repeat (first | (with_reducible first | exact HB.out | apply below_alloc | apply pw_below_drewN | apply below_drew1 | refine below_set ?_ GE342.out | refine below_set ?_ GE343.out) | exact HB.out)⟩⟩
    ·rw [if_neg c10] at H
     have c10b0 : decide ((l1.length : Int) ≤ a2) = false := decide_eq_false c10
     clear c10
     replace H := Option.bind_eq_some_iff.mp H
     obtain ⟨t344, A110, H⟩ := H
     replace H : (clusterlockslaw04_AmountShrinks.j0 k l1 a2 (!t344) a0_0 a0_1 a0_2 a0_3 a3_0 a3_1) = some r := H
     have A11 := Aside0.mk A110
     clear A110
     have H' := Aside0.mk H
     clear H
     have hnb12 := NB342_343.out
     have hnc12 := NB343_342.out
     have hcz13_0 : w7.cell? ⟨gb342, 0, none⟩ = some (.string a0_0) := (blk_cell BK342.out 0).trans rfl
     have hcz13_1 : w7.cell? ⟨gb342, 1, none⟩ = some (.int .i64 a0_1) := (blk_cell BK342.out 1).trans rfl
     have hcz13_2 : w7.cell? ⟨gb342, 2, none⟩ = some (.int .i64 a0_2) := (blk_cell BK342.out 2).trans rfl
     have hcz13_3 : w7.cell? ⟨gb342, 3, none⟩ = some (.int .i64 a0_3) := (blk_cell BK342.out 3).trans rfl
     have hfz13_0 := blk_frozen BK342.out 0
     have hfz13_1 := blk_frozen BK342.out 1
     have hfz13_2 := blk_frozen BK342.out 2
     have hfz13_3 := blk_frozen BK342.out 3
     go_wp2_with (first | (go_at_call 18; (with_reducible refine (amount_Compatible.calls k a0_0 a0_1 a0_2 a0_3 _ _ l1 t344 _ ?side1 ?side2 ?side3 A11.out).mono ?_); (case side1 => repeat (first | exact (Kd.C_below HR1.out HB.out) | (with_reducible refine Kd.C_alloc ?_ _) | (with_reducible refine Kd.C_drewN ?_ _) | (with_reducible refine Kd.C_drew ?_))); (case side2 => exact HC1.out); (case side3 => exact GL.below HG.out (by repeat (first | (with_reducible first | exact HB.out | apply below_alloc | apply pw_below_drewN | apply below_drew1 | refine below_set ?_ GE342.out | refine below_set ?_ GE343.out) | exact HB.out))); rintro e w14 ⟨rfl, hb⟩; have n0_ := blkB BK342 (by (with_reducible repeat first | refine bN ?_ _ | refine bD ?_ | refine bA ?_ _); exact BK342.out) hb; have n1_ := blkB BK343 (by (with_reducible repeat first | refine bN ?_ _ | refine bD ?_ | refine bA ?_ _); exact BK343.out) hb; have n2_ := Aside0.mk (below_step (by repeat (first | (with_reducible first | exact HB.out | apply below_alloc | apply pw_below_drewN | apply below_drew1 | refine below_set ?_ GE342.out | refine below_set ?_ GE343.out) | exact HB.out)) hb); clear BK342 BK343 HB; have BK342 := n0_; have BK343 := n1_; have HB := n2_; clear n0_ n1_ n2_; (try clear hb); (try clear hk)))
     go_meet
     case rel => exact ⟨_, (!t344), (by first | rfl | (simp; done) | (simp [*]; done)), H', ⟨by first | omega | exact Nat.le_refl _⟩, ⟨by (with_reducible repeat first | refine bN ?_ _ | refine bD ?_ | refine bA ?_ _); exact BK342.out⟩, ⟨by (with_reducible repeat first | refine bN ?_ _ | refine bD ?_ | refine bA ?_ _); exact BK343.out⟩, ⟨by repeat (first | (with_reducible first | exact HB.out | apply below_alloc | apply pw_below_drewN | apply below_drew1 | refine below_set ?_ GE342.out | refine below_set ?_ GE343.out) | exact HB.out)⟩⟩
 case rest =>
  clear HC5
  try clear c1
  try clear p2
  try clear c8
  try clear c8b0
  try clear c8b1
  try clear c9
  try clear c9b0
  try clear c10
  try clear c10b0
  try clear c12
  try clear hcz13_0
  try clear hcz13_1
  try clear hcz13_2
  try clear hcz13_3
  try clear hfz13_0
  try clear hfz13_1
  try clear hfz13_2
  try clear hfz13_3
  obtain ⟨kq, x29_4, rfl, HA, HJ4, BK342, BK343, HB⟩ := hcut
  cases kq with
  | zero => exact absurd HA.out (by simp [clusterlockslaw04_AmountShrinks.j0])
  | succ kj4 =>
   have H := HA.out
   clear HA
   simp only [clusterlockslaw04_AmountShrinks.j0] at H
   by_cases c15 : x29_4 = true
   ·subst c15
    have H1 : ((clusterlockslaw04_awake.f kj4).bind fun t345 => (some t345)) = some r := by rw [if_pos rfl] at H; exact H
    clear H
    have H := H1
    clear H1
    replace H := Option.bind_eq_some_iff.mp H
    obtain ⟨t345, A160, H⟩ := H
    replace H : (some t345) = some r := H
    have A16 := Aside0.mk A160
    clear A160
    obtain rfl := Option.some.inj H
    go_wp2_with (first | ((with_reducible refine gate_callee (f := 12) rfl ?_); refine goesL_ (some 30) rfl rfl Tryd.func12 (by kernel_rfl) rfl #[] rfl (by (try simp only [List.map_toArray, List.map_cons, List.map_nil]); first | done | rfl | (simp only [List.length_drop, List.length_take]; rfl)) ?_; (with_reducible refine (clusterlockslaw04_awake.calls kj4  t345 _ ?side1 A16.out).mono ?_); (case side1 => exact GL.below HG.out (by repeat (first | (with_reducible first | exact HB.out | apply below_alloc | apply pw_below_drewN | apply below_drew1 | refine below_set ?_ GE342.out | refine below_set ?_ GE343.out) | exact HB.out))); rintro e w17 ⟨rfl, hb⟩; refine ⟨_, rfl, ?_⟩; have n0_ := blkB BK342 (by (with_reducible repeat first | refine bN ?_ _ | refine bD ?_ | refine bA ?_ _); exact BK342.out) hb; have n1_ := blkB BK343 (by (with_reducible repeat first | refine bN ?_ _ | refine bD ?_ | refine bA ?_ _); exact BK343.out) hb; have n2_ := Aside0.mk (below_step (by repeat (first | (with_reducible first | exact HB.out | apply below_alloc | apply pw_below_drewN | apply below_drew1 | refine below_set ?_ GE342.out | refine below_set ?_ GE343.out) | exact HB.out)) hb); clear BK342 BK343 HB; have BK342 := n0_; have BK343 := n1_; have HB := n2_; clear n0_ n1_ n2_; (try clear hb); (try clear hk)))
    go_ret
    exact ⟨by first | rfl | (simp [errW_none, errW_some] <;> rfl) | (simp [*, errW_none, errW_some] <;> rfl), by repeat (first | (with_reducible first | exact HB.out | apply below_alloc | apply pw_below_drewN | apply below_drew1 | refine below_set ?_ GE342.out | refine below_set ?_ GE343.out) | exact HB.out)⟩
   ·replace c15 := Bool.eq_false_iff.mpr c15
    subst c15
    have H1 : ((some (([] : List (S25)) : List (S25))).bind fun y346 => (if 0 ≤ a2 then (if a2 ≤ (l1.length : Int) then ((some (l1.take (a2 : Int).toNat : List (S25))).bind fun y349 => (if y346.length + y349.length < 8796093022208 then ((some (y346 ++ y349 : List (S25))).bind fun y353 => (if 0 ≤ (wrap64 (a2 + 1)) then (if (wrap64 (a2 + 1)) ≤ (l1.length : Int) then ((some (l1.drop ((wrap64 (a2 + 1)) : Int).toNat : List (S25))).bind fun y356 => (if y353.length + y356.length < 8796093022208 then ((some (y353 ++ y356 : List (S25))).bind fun y360 => ((some (([] : List (S25)) : List (S25))).bind fun y363 => (if y363.length + l1.length < 8796093022208 then ((some (y363 ++ l1 : List (S25))).bind fun y366 => (if a2 < (l1.length : Int) then ((amount_Covers.f kj4 a0_0 a0_1 a0_2 a0_3 ((rd_T25 l1 a2).f0) ((rd_T25 l1 a2).f1) a3_0 a3_1).bind fun t370 => (if t370 = true then (if a2 < (y366.length : Int) then (clusterlockslaw04_AmountShrinks.j1 kj4 y360 (y366.set (a2 : Int).toNat (⟨a3_0, a3_1⟩ : S25)) a0_0 a0_1 a0_2 a0_3) else (none)) else (clusterlockslaw04_AmountShrinks.j1 kj4 y360 y366 a0_0 a0_1 a0_2 a0_3))) else (none))) else (none)))) else (none))) else (none)) else (none))) else (none))) else (none)) else (none))) = some r := by rw [if_neg (show ¬ (false = true) by decide)] at H; exact H
    clear H
    have H := H1
    clear H1
    obtain ⟨y346, hy346⟩ : ∃ y_ : List (S25), y_ = (([] : List (S25))) := ⟨_, rfl⟩
    replace H : (if 0 ≤ a2 then (if a2 ≤ (l1.length : Int) then ((some (l1.take (a2 : Int).toNat : List (S25))).bind fun y349 => (if y346.length + y349.length < 8796093022208 then ((some (y346 ++ y349 : List (S25))).bind fun y353 => (if 0 ≤ (wrap64 (a2 + 1)) then (if (wrap64 (a2 + 1)) ≤ (l1.length : Int) then ((some (l1.drop ((wrap64 (a2 + 1)) : Int).toNat : List (S25))).bind fun y356 => (if y353.length + y356.length < 8796093022208 then ((some (y353 ++ y356 : List (S25))).bind fun y360 => ((some (([] : List (S25)) : List (S25))).bind fun y363 => (if y363.length + l1.length < 8796093022208 then ((some (y363 ++ l1 : List (S25))).bind fun y366 => (if a2 < (l1.length : Int) then ((amount_Covers.f kj4 a0_0 a0_1 a0_2 a0_3 ((rd_T25 l1 a2).f0) ((rd_T25 l1 a2).f1) a3_0 a3_1).bind fun t370 => (if t370 = true then (if a2 < (y366.length : Int) then (clusterlockslaw04_AmountShrinks.j1 kj4 y360 (y366.set (a2 : Int).toNat (⟨a3_0, a3_1⟩ : S25)) a0_0 a0_1 a0_2 a0_3) else (none)) else (clusterlockslaw04_AmountShrinks.j1 kj4 y360 y366 a0_0 a0_1 a0_2 a0_3))) else (none))) else (none)))) else (none))) else (none)) else (none))) else (none))) else (none)) else (none)) = some r := by first | (rw [hy346]; with_reducible exact H) | (have H2_ := (Option.bind_some _ _).symm.trans H; rw [hy346]; with_reducible exact H2_) | (have H2_ := (Option.bind_some _ _).symm.trans H; with_reducible exact H2_) | with_reducible exact H | (rw [hy346]; exact H) | exact H
    have Ny346 := Aside0.mk hy346
    clear hy346
    by_cases c18 : 0 ≤ a2
    ·rw [if_pos c18] at H
     have c18b0 := eq_true c18
     have c18b1 : decide (0 ≤ a2) = true := decide_eq_true c18
     clear c18
     by_cases c19 : a2 ≤ (l1.length : Int)
     ·rw [if_pos c19] at H
      have c19b0 := eq_true c19
      have c19b1 : decide (a2 ≤ (l1.length : Int)) = true := decide_eq_true c19
      clear c19
      obtain ⟨y349, hy349⟩ : ∃ y_ : List (S25), y_ = (l1.take (a2 : Int).toNat) := ⟨_, rfl⟩
      replace H : (if y346.length + y349.length < 8796093022208 then ((some (y346 ++ y349 : List (S25))).bind fun y353 => (if 0 ≤ (wrap64 (a2 + 1)) then (if (wrap64 (a2 + 1)) ≤ (l1.length : Int) then ((some (l1.drop ((wrap64 (a2 + 1)) : Int).toNat : List (S25))).bind fun y356 => (if y353.length + y356.length < 8796093022208 then ((some (y353 ++ y356 : List (S25))).bind fun y360 => ((some (([] : List (S25)) : List (S25))).bind fun y363 => (if y363.length + l1.length < 8796093022208 then ((some (y363 ++ l1 : List (S25))).bind fun y366 => (if a2 < (l1.length : Int) then ((amount_Covers.f kj4 a0_0 a0_1 a0_2 a0_3 ((rd_T25 l1 a2).f0) ((rd_T25 l1 a2).f1) a3_0 a3_1).bind fun t370 => (if t370 = true then (if a2 < (y366.length : Int) then (clusterlockslaw04_AmountShrinks.j1 kj4 y360 (y366.set (a2 : Int).toNat (⟨a3_0, a3_1⟩ : S25)) a0_0 a0_1 a0_2 a0_3) else (none)) else (clusterlockslaw04_AmountShrinks.j1 kj4 y360 y366 a0_0 a0_1 a0_2 a0_3))) else (none))) else (none)))) else (none))) else (none)) else (none))) else (none)) = some r := by first | (rw [hy349]; with_reducible exact H) | (have H2_ := (Option.bind_some _ _).symm.trans H; rw [hy349]; with_reducible exact H2_) | (have H2_ := (Option.bind_some _ _).symm.trans H; with_reducible exact H2_) | with_reducible exact H | (rw [hy349]; exact H) | exact H
      have Ny349 := Aside0.mk hy349
      clear hy349
      by_cases c20 : y346.length + y349.length < 8796093022208
      ·rw [if_pos c20] at H
       have LMc20 := Aside0.mk c20
       clear c20
       obtain ⟨y353, hy353⟩ : ∃ y_ : List (S25), y_ = (y346 ++ y349) := ⟨_, rfl⟩
       replace H : (if 0 ≤ (wrap64 (a2 + 1)) then (if (wrap64 (a2 + 1)) ≤ (l1.length : Int) then ((some (l1.drop ((wrap64 (a2 + 1)) : Int).toNat : List (S25))).bind fun y356 => (if y353.length + y356.length < 8796093022208 then ((some (y353 ++ y356 : List (S25))).bind fun y360 => ((some (([] : List (S25)) : List (S25))).bind fun y363 => (if y363.length + l1.length < 8796093022208 then ((some (y363 ++ l1 : List (S25))).bind fun y366 => (if a2 < (l1.length : Int) then ((amount_Covers.f kj4 a0_0 a0_1 a0_2 a0_3 ((rd_T25 l1 a2).f0) ((rd_T25 l1 a2).f1) a3_0 a3_1).bind fun t370 => (if t370 = true then (if a2 < (y366.length : Int) then (clusterlockslaw04_AmountShrinks.j1 kj4 y360 (y366.set (a2 : Int).toNat (⟨a3_0, a3_1⟩ : S25)) a0_0 a0_1 a0_2 a0_3) else (none)) else (clusterlockslaw04_AmountShrinks.j1 kj4 y360 y366 a0_0 a0_1 a0_2 a0_3))) else (none))) else (none)))) else (none))) else (none)) else (none)) = some r := by first | (rw [hy353]; with_reducible exact H) | (have H2_ := (Option.bind_some _ _).symm.trans H; rw [hy353]; with_reducible exact H2_) | (have H2_ := (Option.bind_some _ _).symm.trans H; with_reducible exact H2_) | with_reducible exact H | (rw [hy353]; exact H) | exact H
       have Ny353 := Aside0.mk hy353
       clear hy353
       obtain ⟨ji21, hji21⟩ : ∃ j_ : Int, (wrap64 (a2 + 1)) = j_ := ⟨_, rfl⟩
       replace H : (if 0 ≤ (ji21) then (if (ji21) ≤ (l1.length : Int) then ((some (l1.drop ((ji21) : Int).toNat : List (S25))).bind fun y356 => (if y353.length + y356.length < 8796093022208 then ((some (y353 ++ y356 : List (S25))).bind fun y360 => ((some (([] : List (S25)) : List (S25))).bind fun y363 => (if y363.length + l1.length < 8796093022208 then ((some (y363 ++ l1 : List (S25))).bind fun y366 => (if a2 < (l1.length : Int) then ((amount_Covers.f kj4 a0_0 a0_1 a0_2 a0_3 ((rd_T25 l1 a2).f0) ((rd_T25 l1 a2).f1) a3_0 a3_1).bind fun t370 => (if t370 = true then (if a2 < (y366.length : Int) then (clusterlockslaw04_AmountShrinks.j1 kj4 y360 (y366.set (a2 : Int).toNat (⟨a3_0, a3_1⟩ : S25)) a0_0 a0_1 a0_2 a0_3) else (none)) else (clusterlockslaw04_AmountShrinks.j1 kj4 y360 y366 a0_0 a0_1 a0_2 a0_3))) else (none))) else (none)))) else (none))) else (none)) else (none)) = some r := by first | (rw [hji21] at H; exact H) | (simp only [hji21] at H ⊢; exact H)
       have hji21w : (IntKind.i64.wrap (a2 + 1)) = ji21 := (i64_w _).trans hji21
       by_cases c22 : 0 ≤ (ji21)
       ·rw [if_pos c22] at H
        have c22b0 := eq_true c22
        have c22b1 : decide (0 ≤ (ji21)) = true := decide_eq_true c22
        clear c22
        by_cases c23 : (ji21) ≤ (l1.length : Int)
        ·rw [if_pos c23] at H
         have c23b0 := eq_true c23
         have c23b1 : decide ((ji21) ≤ (l1.length : Int)) = true := decide_eq_true c23
         clear c23
         obtain ⟨y356, hy356⟩ : ∃ y_ : List (S25), y_ = (l1.drop ((ji21) : Int).toNat) := ⟨_, rfl⟩
         replace H : (if y353.length + y356.length < 8796093022208 then ((some (y353 ++ y356 : List (S25))).bind fun y360 => ((some (([] : List (S25)) : List (S25))).bind fun y363 => (if y363.length + l1.length < 8796093022208 then ((some (y363 ++ l1 : List (S25))).bind fun y366 => (if a2 < (l1.length : Int) then ((amount_Covers.f kj4 a0_0 a0_1 a0_2 a0_3 ((rd_T25 l1 a2).f0) ((rd_T25 l1 a2).f1) a3_0 a3_1).bind fun t370 => (if t370 = true then (if a2 < (y366.length : Int) then (clusterlockslaw04_AmountShrinks.j1 kj4 y360 (y366.set (a2 : Int).toNat (⟨a3_0, a3_1⟩ : S25)) a0_0 a0_1 a0_2 a0_3) else (none)) else (clusterlockslaw04_AmountShrinks.j1 kj4 y360 y366 a0_0 a0_1 a0_2 a0_3))) else (none))) else (none)))) else (none)) = some r := by first | (rw [hy356]; with_reducible exact H) | (have H2_ := (Option.bind_some _ _).symm.trans H; rw [hy356]; with_reducible exact H2_) | (have H2_ := (Option.bind_some _ _).symm.trans H; with_reducible exact H2_) | with_reducible exact H | (rw [hy356]; exact H) | exact H
         have Ny356 := Aside0.mk hy356
         clear hy356
         by_cases c24 : y353.length + y356.length < 8796093022208
         ·rw [if_pos c24] at H
          have LMc24 := Aside0.mk c24
          clear c24
          obtain ⟨y360, hy360⟩ : ∃ y_ : List (S25), y_ = (y353 ++ y356) := ⟨_, rfl⟩
          replace H : ((some (([] : List (S25)) : List (S25))).bind fun y363 => (if y363.length + l1.length < 8796093022208 then ((some (y363 ++ l1 : List (S25))).bind fun y366 => (if a2 < (l1.length : Int) then ((amount_Covers.f kj4 a0_0 a0_1 a0_2 a0_3 ((rd_T25 l1 a2).f0) ((rd_T25 l1 a2).f1) a3_0 a3_1).bind fun t370 => (if t370 = true then (if a2 < (y366.length : Int) then (clusterlockslaw04_AmountShrinks.j1 kj4 y360 (y366.set (a2 : Int).toNat (⟨a3_0, a3_1⟩ : S25)) a0_0 a0_1 a0_2 a0_3) else (none)) else (clusterlockslaw04_AmountShrinks.j1 kj4 y360 y366 a0_0 a0_1 a0_2 a0_3))) else (none))) else (none))) = some r := by first | (rw [hy360]; with_reducible exact H) | (have H2_ := (Option.bind_some _ _).symm.trans H; rw [hy360]; with_reducible exact H2_) | (have H2_ := (Option.bind_some _ _).symm.trans H; with_reducible exact H2_) | with_reducible exact H | (rw [hy360]; exact H) | exact H
          have Ny360 := Aside0.mk hy360
          clear hy360
          obtain ⟨y363, hy363⟩ : ∃ y_ : List (S25), y_ = (([] : List (S25))) := ⟨_, rfl⟩
          replace H : (if y363.length + l1.length < 8796093022208 then ((some (y363 ++ l1 : List (S25))).bind fun y366 => (if a2 < (l1.length : Int) then ((amount_Covers.f kj4 a0_0 a0_1 a0_2 a0_3 ((rd_T25 l1 a2).f0) ((rd_T25 l1 a2).f1) a3_0 a3_1).bind fun t370 => (if t370 = true then (if a2 < (y366.length : Int) then (clusterlockslaw04_AmountShrinks.j1 kj4 y360 (y366.set (a2 : Int).toNat (⟨a3_0, a3_1⟩ : S25)) a0_0 a0_1 a0_2 a0_3) else (none)) else (clusterlockslaw04_AmountShrinks.j1 kj4 y360 y366 a0_0 a0_1 a0_2 a0_3))) else (none))) else (none)) = some r := by first | (rw [hy363]; with_reducible exact H) | (have H2_ := (Option.bind_some _ _).symm.trans H; rw [hy363]; with_reducible exact H2_) | (have H2_ := (Option.bind_some _ _).symm.trans H; with_reducible exact H2_) | with_reducible exact H | (rw [hy363]; exact H) | exact H
          have Ny363 := Aside0.mk hy363
          clear hy363
          by_cases c25 : y363.length + l1.length < 8796093022208
          ·rw [if_pos c25] at H
           have LMc25 := Aside0.mk c25
           clear c25
           obtain ⟨y366, hy366⟩ : ∃ y_ : List (S25), y_ = (y363 ++ l1) := ⟨_, rfl⟩
           replace H : (if a2 < (l1.length : Int) then ((amount_Covers.f kj4 a0_0 a0_1 a0_2 a0_3 ((rd_T25 l1 a2).f0) ((rd_T25 l1 a2).f1) a3_0 a3_1).bind fun t370 => (if t370 = true then (if a2 < (y366.length : Int) then (clusterlockslaw04_AmountShrinks.j1 kj4 y360 (y366.set (a2 : Int).toNat (⟨a3_0, a3_1⟩ : S25)) a0_0 a0_1 a0_2 a0_3) else (none)) else (clusterlockslaw04_AmountShrinks.j1 kj4 y360 y366 a0_0 a0_1 a0_2 a0_3))) else (none)) = some r := by first | (rw [hy366]; with_reducible exact H) | (have H2_ := (Option.bind_some _ _).symm.trans H; rw [hy366]; with_reducible exact H2_) | (have H2_ := (Option.bind_some _ _).symm.trans H; with_reducible exact H2_) | with_reducible exact H | (rw [hy366]; exact H) | exact H
           have Ny366 := Aside0.mk hy366
           clear hy366
           by_cases c26 : a2 < (l1.length : Int)
           ·rw [if_pos c26] at H
            have c26b0 : decide (a2 < (l1.length : Int)) = true := decide_eq_true c26
            clear c26
            replace H := Option.bind_eq_some_iff.mp H
            obtain ⟨t370, A270, H⟩ := H
            replace H : (if t370 = true then (if a2 < (y366.length : Int) then (clusterlockslaw04_AmountShrinks.j1 kj4 y360 (y366.set (a2 : Int).toNat (⟨a3_0, a3_1⟩ : S25)) a0_0 a0_1 a0_2 a0_3) else (none)) else (clusterlockslaw04_AmountShrinks.j1 kj4 y360 y366 a0_0 a0_1 a0_2 a0_3)) = some r := H
            have A27 := Aside0.mk A270
            clear A270
            have HC28 := Aside0.mk H
            clear H
            try go_wp2
            have n0_ := Aside0.mk (blk_drew BK342.out)
            have n1_ := Aside0.mk (blk_drew BK343.out)
            have n2_ := Aside0.mk (below_drew1 HB.out)
            clear BK342
            clear BK343
            clear HB
            have BK342 := n0_
            have BK343 := n1_
            have HB := n2_
            clear n0_ n1_ n2_
            have q30 : (a2 : Int) ≤ ((l1.length : Int) : Int) := of_decide_eq_true (by first | (with_reducible assumption) | assumption)
            obtain ⟨i030, hi030, _, hsz30, _⟩ := info_parts info25
            have hroom30 : l1.length ≤ c1 := HC1.out
            have hC30 : Kd.C k25 _ A1 l1.length l1 := HR1.out
            have hcut30 := cut_to (P := Tryd.prog) 30 25 .i64 Tryd.underlying30 hi030 A1 l1.length c1 a2 (of_decide_eq_true (by first | (with_reducible assumption) | assumption)) q30 hroom30
            have hr30 := Kd.C_take (m := (a2 : Int).toNat) hC30 (by omega)
            have hy30 : y349.length = (a2 : Int).toNat := (by rw [Ny349.out, List.length_take]; omega)
            rw [← Ny349.out] at hr30
            rw [← hy30] at hcut30
            have HR352 := Aside0.mk hr30
            have HC352 := Aside0.mk (show y349.length ≤ c1 from by omega)
            clear hr30 hC30 hroom30 hi030 hsz30
            have KY30 := Aside0.mk hy30
            clear hy30
            replace q30 := eq_true q30
            have q31 : ((ji21) : Int) ≤ ((l1.length : Int) : Int) := of_decide_eq_true (by first | (with_reducible assumption) | assumption)
            obtain ⟨i031, hi031, _, hsz31, _⟩ := info_parts info25
            have hroom31 : l1.length ≤ c1 := HC1.out
            have hC31 : Kd.C k25 _ A1 l1.length l1 := HR1.out
            have q031 : (0 : Int) ≤ ((ji21) : Int) := of_decide_eq_true (by first | (with_reducible assumption) | assumption)
            have hcut31 := cut_from (P := Tryd.prog) 30 25 .i64 Tryd.underlying30 hi031 2 hsz31 A1 l1.length c1 (ji21) q031 q31
            have hr31 := Kd.C_drop (m := ((ji21) : Int).toNat) (c := c1) hC31 (by omega) hroom31
            obtain ⟨A31, hA31⟩ : ∃ A1_, A1_ = (if c1 = ((ji21) : Int).toNat then A1 else (A1 : Option Addr).map (·.add (((ji21) : Int).toNat * 2))) := ⟨_, rfl⟩
            obtain ⟨c31, hc31⟩ : ∃ c1_, c1_ = c1 - ((ji21) : Int).toNat := ⟨_, rfl⟩
            have hy31 : y356.length = l1.length - ((ji21) : Int).toNat := (by rw [Ny356.out, List.length_drop] <;> omega)
            rw [show (l1).drop ((ji21) : Int).toNat = y356 from Ny356.out.symm] at hr31
            replace hr31 : Kd.C k25 _ A31 y356.length y356 := (by rw [hA31]; exact hr31)
            rw [← hy31, ← hA31, ← hc31] at hcut31
            have HR359 := Aside0.mk hr31
            have HC359 := Aside0.mk (show y356.length ≤ c31 from by rw [hy31, hc31]; exact Nat.sub_le_sub_right hroom31 _)
            clear hr31 hC31 hroom31 hi031 hsz31 hc31
            have KY31 := Aside0.mk hy31
            have KA31 := Aside0.mk hA31
            clear hy31 hA31
            replace q31 := eq_true q31
            refine start_ (n := 11) (S := fun w' => True) (ds := []) #[false, false, false, false, false, false, false, false, false, false, false] (by kernel_rfl) rfl rfl trivial (fun hHeld => ?_); refine with_tabW clusterlockslaw04_AmountShrinks.tab3 clusterlockslaw04_AmountShrinks.bits3 (fun HT_ HW_ => ?_)
            generalize wc.drew = w29 at BK342 BK343 HB HR352 HR359 hHeld ⊢
            refine pure_ (i := 1) (N := some 32) (v := ?_) (a' := ?_) #[false, true, false, false, false, false, false, false, false, false, false] rfl rfl (any_of HT_.out (by kernel_rfl)) (fun _ _ _ h => h) (Or.inl ⟨by rfl, ?_⟩) ?_ ?_
            rotate_left
            ·intro w'
             go_simp
             with_reducible rfl
            rotate_left
            ·simp only [Act.put, List.setIfInBounds_toArray, List.set_cons_zero, List.set_cons_succ, i64_w, i32_w]
             rfl
            refine pure_ (i := 2) (N := some 33) (v := ?_) (a' := ?_) #[false, true, true, false, false, false, false, false, false, false, false] rfl rfl (any_of HT_.out (by kernel_rfl)) (fun _ _ _ h => h) (Or.inl ⟨by rfl, ?_⟩) ?_ ?_
            rotate_left
            ·intro w'
             go_simp
             with_reducible rfl
            rotate_left
            ·simp only [Act.put, List.setIfInBounds_toArray, List.set_cons_zero, List.set_cons_succ, i64_w, i32_w]
             rfl
            refine pure_ (i := 3) (N := some 34) (v := ?_) (a' := ?_) #[false, true, true, true, false, false, false, false, false, false, false] rfl rfl (any_of HT_.out (by kernel_rfl)) (fun _ _ _ h => h) (Or.inl ⟨by rfl, ?_⟩) ?_ ?_
            rotate_left
            ·intro w'
             go_simp
             with_reducible rfl
            rotate_left
            ·simp only [Act.put, List.setIfInBounds_toArray, List.set_cons_zero, List.set_cons_succ, i64_w, i32_w]
             rfl
            refine pure_ (i := 5) (N := some 36) (v := ?_) (a' := ?_) #[false, true, true, true, false, true, false, false, false, false, false] rfl rfl (any_of HT_.out (by kernel_rfl)) (fun _ _ _ h => h) (Or.inl ⟨by rfl, ?_⟩) ?_ ?_
            rotate_left
            ·intro w'
             go_simp
             with_reducible rfl
            rotate_left
            ·simp only [Act.put, List.setIfInBounds_toArray, List.set_cons_zero, List.set_cons_succ, i64_w, i32_w]
             rfl
            refine pure_ (i := 6) (N := some 37) (v := ?_) (a' := ?_) #[false, true, true, true, false, true, true, false, false, false, false] rfl rfl (any_of HT_.out (by kernel_rfl)) (fun _ _ _ h => h) (Or.inl ⟨by rfl, ?_⟩) ?_ ?_
            rotate_left
            ·intro w'
             go_simp
             with_reducible rfl
            rotate_left
            ·simp only [Act.put, List.setIfInBounds_toArray, List.set_cons_zero, List.set_cons_succ, i64_w, i32_w]
             rfl
            refine pure_ (i := 7) (N := some 38) (v := ?_) (a' := ?_) #[false, true, true, true, false, true, true, true, false, false, false] rfl rfl (any_of HT_.out (by kernel_rfl)) (fun _ _ _ h => h) (Or.inl ⟨by rfl, ?_⟩) ?_ ?_
            rotate_left
            ·intro w'
             go_simp
             with_reducible rfl
            rotate_left
            ·simp only [Act.put, List.setIfInBounds_toArray, List.set_cons_zero, List.set_cons_succ, i64_w, i32_w]
             rfl
            refine pure_ (i := 8) (N := some 39) (v := ?_) (a' := ?_) #[false, true, true, true, false, true, true, true, true, false, false] rfl rfl (any_of HT_.out (by kernel_rfl)) (fun _ _ _ h => h) (Or.inl ⟨by rfl, ?_⟩) ?_ ?_
            rotate_left
            ·intro w'
             go_simp
             with_reducible rfl
            rotate_left
            ·simp only [Act.put, List.setIfInBounds_toArray, List.set_cons_zero, List.set_cons_succ, i64_w, i32_w]
             rfl
            refine one_ (i := 0) (N := some 31) #[true, true, true, true, false, true, true, true, true, false, false] rfl rfl (one_of HT_.out (by kernel_rfl)) (by decide) (fun K hK => ?_)
            refine Kd.R_lit_step k25 _ 25 ?hg (N := 31) ?hd (xs := ([] : List (S25))) (inner := []) (ok := fun _ => True) (okp := fun _ => True) ?hr ?hp (fun _ hk => hk) trivial (Below.refl _ _) (Nat.le_refl _) (by simp) ?_; (case hd => rfl); (case hg => rfl); (case hr => first | (go_simp; done) | (go_simp; rfl)); (case hp => exact (Reps.none _ _))
            intro v347 w32 ho33 hb hg_ hnew_
            clear hg_ hnew_
            (first | rw [← Ny346.out] at ho33 | (simp only [Int.reduceToNat] at ho33; rw [← Ny346.out] at ho33))
            have n0_ := Aside0.mk (Kd.R_lower (Kd.R_newB ho33 (g := gb343) (o := .cells #[.int .i64 a3_0, .int .i64 a3_1] 25 (0, 0)) (by (with_reducible repeat first | refine bN ?_ _ | refine bD ?_ | refine bA ?_ _); exact BK343.out)) (below_size (by repeat (first | (with_reducible first | exact HB.out | apply below_alloc | apply pw_below_drewN | apply below_drew1 | refine below_set ?_ GE342.out | refine below_set ?_ GE343.out) | exact HB.out))))
            have n1_ := blkB BK342 (by (with_reducible repeat first | refine bN ?_ _ | refine bD ?_ | refine bA ?_ _); exact BK342.out) hb
            have n2_ := blkB BK343 (by (with_reducible repeat first | refine bN ?_ _ | refine bD ?_ | refine bA ?_ _); exact BK343.out) hb
            have n3_ := Aside0.mk (below_step (by repeat (first | (with_reducible first | exact HB.out | apply below_alloc | apply pw_below_drewN | apply below_drew1 | refine below_set ?_ GE342.out | refine below_set ?_ GE343.out) | exact HB.out)) hb)
            clear BK342
            clear BK343
            clear HB
            have HO348 := n0_
            have BK342 := n1_
            have BK343 := n2_
            have HB := n3_
            clear n0_ n1_ n2_ n3_
            clear hb ho33
            refine hK.out _ _ trivial (fun hHeld => ?_)
            clear hK K
            refine norm_ (a' := ?_) ?_ ?_
            rotate_left
            ·show Act.put _ (some 31) _ = _
             simp only [Act.put, List.setIfInBounds_toArray, List.set_cons_zero, List.set_cons_succ, i64_w, i32_w]
             rfl
            refine one_ (i := 4) (N := some 35) #[true, true, true, true, true, true, true, true, true, false, false] rfl rfl (one_of HT_.out (by kernel_rfl)) (by decide) (fun K hK => ?_)
            refine Kd.R_append_rows_step k25 (w0 := w) w.heap.size (by rfl) (.tmp 31) (.tmp 34) 30 25 (.agg #[(.int .i64 0), (.int .i64 0)]) 16 rfl Tryd.underlying30 info25 rfl (by decide) (by omega) v347 y346 y349 _ _ _ (fun k_ => k_ ≠ gb343) (fun _ => False) rfl rfl ?aO ?aR (fun _ _ h => h) (fun _ h => h.elim) ?aF ?aB ?aS ?aL ?_
            (case aR => repeat (first | exact (Kd.C_below HR352.out HB.out) | (with_reducible refine Kd.C_alloc ?_ _) | (with_reducible refine Kd.C_drewN ?_ _) | (with_reducible refine Kd.C_drew ?_)))
            (case aB => exact (by repeat (first | (with_reducible first | exact HB.out | apply below_alloc | apply pw_below_drewN | apply below_drew1 | refine below_set ?_ GE342.out | refine below_set ?_ GE343.out) | exact HB.out)))
            (case aF => exact (fun k_ hk => Kd.freshB (g := gb343) (o := .cells #[.int .i64 a3_0, .int .i64 a3_1] 25 (0, 0)) (by (with_reducible repeat first | refine bN ?_ _ | refine bD ?_ | refine bA ?_ _); exact BK343.out) k_ hk))
            (case aO => exact (by (with_reducible repeat (first | apply Kd.R_alloc | apply Kd.R_drewN | apply Kd.R_drew)); exact Kd.R_mono HO348.out (fun _ hk => hk.2)))
            (case aS => exact (below_size (by repeat (first | (with_reducible first | exact HB.out | apply below_alloc | apply pw_below_drewN | apply below_drew1 | refine below_set ?_ GE342.out | refine below_set ?_ GE343.out) | exact HB.out))))
            (case aL => have := LMc20.out; omega)
            intro v354 w34 ho hb hg hat
            rw [← Ny353.out] at ho
            have n0_ := Aside0.mk (blk_grown (g := gb342) (o := .cells #[.string a0_0, .int .i64 a0_1, .int .i64 a0_2, .int .i64 a0_3] 23 (0, 0)) (by (with_reducible repeat first | refine bN ?_ _ | refine bD ?_ | refine bA ?_ _); exact BK342.out) hg (Kd.R_ne HO348.out BK342.out (by decide)))
            have n1_ := Aside0.mk (blk_grown (g := gb343) (o := .cells #[.int .i64 a3_0, .int .i64 a3_1] 25 (0, 0)) (by (with_reducible repeat first | refine bN ?_ _ | refine bD ?_ | refine bA ?_ _); exact BK343.out) hg (Kd.R_away HO348.out (fun _ hk => hk.2)))
            have n2_ := Aside0.mk (hb)
            have n3_ := Aside0.mk (ho)
            clear BK342
            clear BK343
            clear HB
            clear HO348
            have BK342 := n0_
            have BK343 := n1_
            have HB := n2_
            have HO355 := n3_
            clear n0_ n1_ n2_ n3_
            clear ho hb hg hat
            refine hK.out _ _ trivial (fun hHeld => ?_)
            clear hK K
            refine norm_ (a' := ?_) ?_ ?_
            rotate_left
            ·show Act.put _ (some 35) _ = _
             simp only [Act.put, List.setIfInBounds_toArray, List.set_cons_zero, List.set_cons_succ, i64_w, i32_w]
             rfl
            refine one_ (i := 9) (N := some 40) #[true, true, true, true, true, true, true, true, true, true, false] rfl rfl (one_of HT_.out (by kernel_rfl)) (by decide) (fun K hK => ?_)
            refine Kd.R_append_rows_step k25 (w0 := w) w.heap.size (by rfl) (.tmp 35) (.tmp 39) 30 25 (.agg #[(.int .i64 0), (.int .i64 0)]) 16 rfl Tryd.underlying30 info25 rfl (by decide) (by omega) v354 y353 y356 _ _ _ (fun k_ => k_ ≠ gb343) (fun _ => False) rfl rfl ?aO ?aR (fun _ _ h => h) (fun _ h => h.elim) ?aF ?aB ?aS ?aL ?_
            (case aR => repeat (first | exact (Kd.C_below HR359.out HB.out) | (with_reducible refine Kd.C_alloc ?_ _) | (with_reducible refine Kd.C_drewN ?_ _) | (with_reducible refine Kd.C_drew ?_)))
            (case aB => exact (by repeat (first | (with_reducible first | exact HB.out | apply below_alloc | apply pw_below_drewN | apply below_drew1 | refine below_set ?_ GE342.out | refine below_set ?_ GE343.out) | exact HB.out)))
            (case aF => exact (fun k_ hk => Kd.freshB (g := gb343) (o := .cells #[.int .i64 a3_0, .int .i64 a3_1] 25 (0, 0)) (by (with_reducible repeat first | refine bN ?_ _ | refine bD ?_ | refine bA ?_ _); exact BK343.out) k_ hk))
            (case aO => exact (by (with_reducible repeat (first | apply Kd.R_alloc | apply Kd.R_drewN | apply Kd.R_drew)); exact HO355.out))
            (case aS => exact (below_size (by repeat (first | (with_reducible first | exact HB.out | apply below_alloc | apply pw_below_drewN | apply below_drew1 | refine below_set ?_ GE342.out | refine below_set ?_ GE343.out) | exact HB.out))))
            (case aL => have := LMc24.out; omega)
            intro v361 w35 ho hb hg hat
            rw [← Ny360.out] at ho
            have n0_ := Aside0.mk (blk_grown (g := gb342) (o := .cells #[.string a0_0, .int .i64 a0_1, .int .i64 a0_2, .int .i64 a0_3] 23 (0, 0)) (by (with_reducible repeat first | refine bN ?_ _ | refine bD ?_ | refine bA ?_ _); exact BK342.out) hg (Kd.R_ne HO355.out BK342.out (by decide)))
            have n1_ := Aside0.mk (blk_grown (g := gb343) (o := .cells #[.int .i64 a3_0, .int .i64 a3_1] 25 (0, 0)) (by (with_reducible repeat first | refine bN ?_ _ | refine bD ?_ | refine bA ?_ _); exact BK343.out) hg (Kd.R_away HO355.out (fun _ hk => hk)))
            have n2_ := Aside0.mk (hb)
            have n3_ := Aside0.mk (ho)
            clear BK342
            clear BK343
            clear HB
            clear HO355
            have BK342 := n0_
            have BK343 := n1_
            have HB := n2_
            have HO362 := n3_
            clear n0_ n1_ n2_ n3_
            clear ho hb hg hat
            refine hK.out _ _ trivial (fun hHeld => ?_)
            clear hK K
            refine norm_ (a' := ?_) ?_ ?_
            rotate_left
            ·show Act.put _ (some 40) _ = _
             simp only [Act.put, List.setIfInBounds_toArray, List.set_cons_zero, List.set_cons_succ, i64_w, i32_w]
             rfl
            refine pure_ (i := 10) (N := some 9) (v := ?_) (a' := ?_) #[true, true, true, true, true, true, true, true, true, true, true] rfl rfl (any_of HT_.out (by kernel_rfl)) (fun _ _ _ h => h) (Or.inl ⟨by rfl, ?_⟩) ?_ ?_
            rotate_left
            ·intro w'
             go_simp
             with_reducible rfl
            rotate_left
            ·simp only [Act.put, List.setIfInBounds_toArray, List.set_cons_zero, List.set_cons_succ, i64_w, i32_w]
             rfl
            refine done_ (done_of HT_.out (by kernel_rfl)) ?_
            try go_wp2_with (first | ((with_reducible refine gate_dst (N := 41) rfl ?_); (try (refine gate_guard (by rfl) ?_; dsimp only)); refine Kd.R_lit k25 _ 25 ?hg (N := 41) ?hd (xs := ([] : List (S25))) (inner := []) (ok := fun _ => True) (okp := fun _ => True) ?hr ?hp (fun _ hk => hk) trivial (Below.refl _ _) (Nat.le_refl _) (by simp) ?_; (case hd => rfl); (case hg => rfl); (case hr => first | (go_simp; done) | (go_simp; rfl)); (case hp => exact (Reps.none _ _)); intro v364 w36 ho37 hb hg_ hnew_; clear hg_ hnew_; (first | rw [← Ny363.out] at ho37 | (simp only [Int.reduceToNat] at ho37; rw [← Ny363.out] at ho37)); have n0_ := Aside0.mk (Kd.R_elder' (by (with_reducible repeat (first | apply Kd.R_alloc | apply Kd.R_drewN | apply Kd.R_drew)); exact HO362.out) (Kd.R_base ho37) hb); have n1_ := Aside0.mk (Kd.R_lower (Kd.R_newB (Kd.R_new' ho37 (Kd.R_lt (by (with_reducible repeat (first | apply Kd.R_alloc | apply Kd.R_drewN | apply Kd.R_drew)); exact HO362.out))) (g := gb343) (o := .cells #[.int .i64 a3_0, .int .i64 a3_1] 25 (0, 0)) (by (with_reducible repeat first | refine bN ?_ _ | refine bD ?_ | refine bA ?_ _); exact BK343.out)) (below_size (by repeat (first | (with_reducible first | exact HB.out | apply below_alloc | apply pw_below_drewN | apply below_drew1 | refine below_set ?_ GE342.out | refine below_set ?_ GE343.out) | exact HB.out)))); have n2_ := blkB BK342 (by (with_reducible repeat first | refine bN ?_ _ | refine bD ?_ | refine bA ?_ _); exact BK342.out) hb; have n3_ := blkB BK343 (by (with_reducible repeat first | refine bN ?_ _ | refine bD ?_ | refine bA ?_ _); exact BK343.out) hb; have n4_ := Aside0.mk (below_step (by repeat (first | (with_reducible first | exact HB.out | apply below_alloc | apply pw_below_drewN | apply below_drew1 | refine below_set ?_ GE342.out | refine below_set ?_ GE343.out) | exact HB.out)) hb); clear HO362; clear BK342 BK343 HB; have HO362 := n0_; have HO365 := n1_; have BK342 := n2_; have BK343 := n3_; have HB := n4_; clear n0_ n1_ n2_ n3_ n4_; clear hb ho37) | ((with_reducible refine gate_builtin (b := .append) (xs := #[.tmp 41, .tmp 42]) rfl ?_); (try (refine gate_guard (by rfl) ?_; dsimp only)); at_builtin; refine Kd.R_append_rows k25 (w0 := w) w.heap.size rfl (.tmp 41) (.tmp 42) 30 25 (.agg #[(.int .i64 0), (.int .i64 0)]) 16 rfl Tryd.underlying30 info25 rfl (by decide) (by omega) v364 y363 l1 _ _ _ (fun k_ => some k_ ≠ (v361 : Value).ownBlock ∧ k_ ≠ gb343) (fun _ => False) rfl rfl ?aO ?aR (fun _ _ h => h) (fun _ h => h.elim) ?aF ?aB ?aS ?aL ?_; (case aR => repeat (first | exact (Kd.C_below HR1.out HB.out) | (with_reducible refine Kd.C_alloc ?_ _) | (with_reducible refine Kd.C_drewN ?_ _) | (with_reducible refine Kd.C_drew ?_))); (case aB => exact (by repeat (first | (with_reducible first | exact HB.out | apply below_alloc | apply pw_below_drewN | apply below_drew1 | refine below_set ?_ GE342.out | refine below_set ?_ GE343.out) | exact HB.out))); (case aF => exact (fun k_ hk => ⟨Kd.fresh' (Kd.R_lt (by (with_reducible repeat (first | apply Kd.R_alloc | apply Kd.R_drewN | apply Kd.R_drew)); exact HO362.out)) k_ hk, Kd.freshB (g := gb343) (o := .cells #[.int .i64 a3_0, .int .i64 a3_1] 25 (0, 0)) (by (with_reducible repeat first | refine bN ?_ _ | refine bD ?_ | refine bA ?_ _); exact BK343.out) k_ hk⟩)); (case aO => exact (by (with_reducible repeat (first | apply Kd.R_alloc | apply Kd.R_drewN | apply Kd.R_drew)); exact Kd.R_mono HO365.out (fun _ hk => ⟨hk.1.2, hk.2⟩))); (case aS => exact (below_size (by repeat (first | (with_reducible first | exact HB.out | apply below_alloc | apply pw_below_drewN | apply below_drew1 | refine below_set ?_ GE342.out | refine below_set ?_ GE343.out) | exact HB.out)))); (case aL => have := LMc25.out; omega); intro v367 w38 ho hb hg hat; rw [← Ny366.out] at ho; have n0_ := Aside0.mk (blk_grown (g := gb342) (o := .cells #[.string a0_0, .int .i64 a0_1, .int .i64 a0_2, .int .i64 a0_3] 23 (0, 0)) (by (with_reducible repeat first | refine bN ?_ _ | refine bD ?_ | refine bA ?_ _); exact BK342.out) hg (Kd.R_ne HO365.out BK342.out (by decide))); have n1_ := Aside0.mk (blk_grown (g := gb343) (o := .cells #[.int .i64 a3_0, .int .i64 a3_1] 25 (0, 0)) (by (with_reducible repeat first | refine bN ?_ _ | refine bD ?_ | refine bA ?_ _); exact BK343.out) hg (Kd.R_away HO365.out (fun _ hk => hk.2))); have n2_ := Aside0.mk (Kd.R_after (ok := (fun k_ => k_ ≠ gb343)) (by (with_reducible repeat (first | apply Kd.R_alloc | apply Kd.R_drewN | apply Kd.R_drew)); exact HO362.out) hg hat); have n3_ := Aside0.mk (hb); have n4_ := Aside0.mk (ho); clear BK342 BK343; clear HO362; clear HB; clear HO365; have BK342 := n0_; have BK343 := n1_; have HO362 := n2_; have HB := n3_; have HO368 := n4_; clear n0_ n1_ n2_ n3_ n4_; clear ho hb hg hat))
            have n0_ := Aside0.mk (Kd.R_drew HO362.out)
            have n1_ := Aside0.mk (Kd.R_drew HO368.out)
            have n2_ := Aside0.mk (blk_drew BK342.out)
            have n3_ := Aside0.mk (blk_drew BK343.out)
            have n4_ := Aside0.mk (below_drew1 HB.out)
            clear HO362
            clear HO368
            clear BK342
            clear BK343
            clear HB
            have HO362 := n0_
            have HO368 := n1_
            have BK342 := n2_
            have BK343 := n3_
            have HB := n4_
            clear n0_ n1_ n2_ n3_ n4_
            have p369 : 0 ≤ (a2 : Int) := of_decide_eq_true (by first | (with_reducible assumption) | assumption)
            have q369 : a2 < (l1.length : Int) := of_decide_eq_true (by first | (with_reducible assumption) | assumption)
            obtain ⟨ad369, e369, hx369_0, hx369_1⟩ := at_T25 HR1.out a2 p369 q369
            have hw369_1 := hx369_1
            have hw369_0 := hx369_0
            cases e369
            replace hx369_0 := (HB.out.cell (World.block_lt_of_cell? w _ hx369_0)).trans hx369_0
            replace hx369_1 := (HB.out.cell (World.block_lt_of_cell? w _ hx369_1)).trans hx369_1
            replace p369 := eq_true p369
            replace q369 := eq_true q369
            refine start_ (n := 7) (S := fun w' => w'.cell? ⟨gb342, 0, none⟩ = some (.string a0_0) ∧ w'.cell? ⟨gb342, 1, none⟩ = some (.int .i64 a0_1) ∧ w'.cell? ⟨gb342, 2, none⟩ = some (.int .i64 a0_2) ∧ w'.cell? ⟨gb342, 3, none⟩ = some (.int .i64 a0_3) ∧ w'.cell? ⟨gb343, 0, none⟩ = some (.int .i64 a3_0) ∧ w'.cell? ⟨gb343, 1, none⟩ = some (.int .i64 a3_1) ∧ w'.cell? (ad369.add ((a2).toNat * 2)) = some (.int .i64 ((rd_T25 l1 a2).f0)) ∧ w'.cell? ⟨(ad369.add ((a2).toNat * 2)).block, (ad369.add ((a2).toNat * 2)).off + 1, none⟩ = some (.int .i64 ((rd_T25 l1 a2).f1))) (ds := []) #[false, false, false, false, false, false, false] (by kernel_rfl) rfl rfl ⟨(blk_cell BK342.out 0).trans rfl, (blk_cell BK342.out 1).trans rfl, (blk_cell BK342.out 2).trans rfl, (blk_cell BK342.out 3).trans rfl, (blk_cell BK343.out 0).trans rfl, (blk_cell BK343.out 1).trans rfl, ((HB.out.cell (World.block_lt_of_cell? w _ hw369_0)).trans hw369_0), ((HB.out.cell (World.block_lt_of_cell? w _ hw369_1)).trans hw369_1)⟩ (fun hHeld => ?_)
            generalize w38.drew = w39 at HO362 HO368 BK342 BK343 HB hx369_0 hx369_1 hHeld ⊢
            refine pure_ (i := 1) (N := some 45) (v := ?_) (a' := ?_) #[false, true, false, false, false, false, false] rfl rfl (by kernel_rfl) (fun _ _ _ h => h) (Or.inl ⟨by rfl, ?_⟩) ?_ ?_
            rotate_left
            ·intro w'
             go_simp
             with_reducible rfl
            rotate_left
            ·simp only [Act.put, List.setIfInBounds_toArray, List.set_cons_zero, List.set_cons_succ, i64_w, i32_w]
             rfl
            refine pure_ (i := 2) (N := some 46) (v := ?_) (a' := ?_) #[false, true, true, false, false, false, false] rfl rfl (by kernel_rfl) (fun _ _ _ h => h) (Or.inl ⟨by rfl, ?_⟩) ?_ ?_
            rotate_left
            ·intro w'
             go_simp
             with_reducible rfl
            rotate_left
            ·simp only [Act.put, List.setIfInBounds_toArray, List.set_cons_zero, List.set_cons_succ, i64_w, i32_w]
             rfl
            refine pure_ (i := 3) (N := some 47) (v := ?_) (a' := ?_) #[false, true, true, true, false, false, false] rfl rfl (by kernel_rfl) (fun _ _ _ h => h) (Or.inl ⟨by rfl, ?_⟩) ?_ ?_
            rotate_left
            ·intro w'
             go_simp
             with_reducible rfl
            rotate_left
            ·simp only [Act.put, List.setIfInBounds_toArray, List.set_cons_zero, List.set_cons_succ, i64_w, i32_w]
             rfl
            refine take_ (i := 0) (N := some 44) (v := ?_) (a' := ?_) #[true, true, true, true, false, false, false] rfl rfl (by kernel_rfl) (fun _ _ _ h => h) (Or.inl ⟨by rfl, ?_⟩) hHeld ?_ ?_
            rotate_left
            ·rintro w' ⟨s0, s1, s2, s3, s4, s5, s6, s7⟩
             go_simp
             with_reducible rfl
            rotate_left
            ·simp only [Act.put, List.setIfInBounds_toArray, List.set_cons_zero, List.set_cons_succ, i64_w, i32_w]
             rfl
            refine take_ (i := 4) (N := some 48) (v := ?_) (a' := ?_) #[true, true, true, true, true, false, false] rfl rfl (by kernel_rfl) (fun _ _ _ h => h) (Or.inl ⟨by rfl, ?_⟩) hHeld ?_ ?_
            rotate_left
            ·rintro w' ⟨s0, s1, s2, s3, s4, s5, s6, s7⟩
             go_simp
             with_reducible rfl
            rotate_left
            ·simp only [Act.put, List.setIfInBounds_toArray, List.set_cons_zero, List.set_cons_succ, i64_w, i32_w]
             rfl
            refine take_ (i := 5) (N := some 49) (v := ?_) (a' := ?_) #[true, true, true, true, true, true, false] rfl rfl (by kernel_rfl) (fun _ _ _ h => h) (Or.inl ⟨by rfl, ?_⟩) hHeld ?_ ?_
            rotate_left
            ·rintro w' ⟨s0, s1, s2, s3, s4, s5, s6, s7⟩
             go_simp
             with_reducible rfl
            rotate_left
            ·simp only [Act.put, List.setIfInBounds_toArray, List.set_cons_zero, List.set_cons_succ, i64_w, i32_w]
             rfl
            refine one_ (i := 6) (N := some 50) #[true, true, true, true, true, true, true] rfl rfl (by kernel_rfl) (by decide) (fun K hK => ?_)
            refine goes_ Tryd.func26 (by kernel_rfl) rfl #[.agg #[.string a0_0, .int .i64 a0_1, .int .i64 a0_2, .int .i64 a0_3], .agg #[.int .i64 ((rd_T25 l1 a2).f0), .int .i64 ((rd_T25 l1 a2).f1)], .agg #[.int .i64 a3_0, .int .i64 a3_1]] (by rfl) rfl rfl (by (try simp only [List.map_toArray, List.map_cons, List.map_nil]); first | done | rfl | (simp only [List.length_drop, List.length_take]; rfl)) ?_
            with_reducible refine (amount_Covers.calls kj4 a0_0 a0_1 a0_2 a0_3 ((rd_T25 l1 a2).f0) ((rd_T25 l1 a2).f1) a3_0 a3_1 t370 _ A27.out).mono ?_
            rintro e w40 ⟨rfl, hb⟩
            refine ⟨_, rfl, ?_⟩
            have n0_ := Aside0.mk (Kd.R_below (by (with_reducible repeat (first | apply Kd.R_alloc | apply Kd.R_drewN | apply Kd.R_drew)); exact HO362.out) hb)
            have n1_ := Aside0.mk (Kd.R_below (by (with_reducible repeat (first | apply Kd.R_alloc | apply Kd.R_drewN | apply Kd.R_drew)); exact HO368.out) hb)
            have n2_ := blkB BK342 (by (with_reducible repeat first | refine bN ?_ _ | refine bD ?_ | refine bA ?_ _); exact BK342.out) hb
            have n3_ := blkB BK343 (by (with_reducible repeat first | refine bN ?_ _ | refine bD ?_ | refine bA ?_ _); exact BK343.out) hb
            have n4_ := Aside0.mk (below_step (by repeat (first | (with_reducible first | exact HB.out | apply below_alloc | apply pw_below_drewN | apply below_drew1 | refine below_set ?_ GE342.out | refine below_set ?_ GE343.out) | exact HB.out)) hb)
            clear HO362
            clear HO368
            clear BK342
            clear BK343
            clear HB
            have HO362 := n0_
            have HO368 := n1_
            have BK342 := n2_
            have BK343 := n3_
            have HB := n4_
            clear n0_ n1_ n2_ n3_ n4_
            (try clear hb)
            (try clear hk)
            refine hK.out _ _ ⟨(blk_cell BK342.out 0).trans rfl, (blk_cell BK342.out 1).trans rfl, (blk_cell BK342.out 2).trans rfl, (blk_cell BK342.out 3).trans rfl, (blk_cell BK343.out 0).trans rfl, (blk_cell BK343.out 1).trans rfl, ((HB.out.cell (World.block_lt_of_cell? w _ hw369_0)).trans hw369_0), ((HB.out.cell (World.block_lt_of_cell? w _ hw369_1)).trans hw369_1)⟩ (fun hHeld => ?_)
            clear hK K
            refine norm_ (a' := ?_) ?_ ?_
            rotate_left
            ·show Act.put _ (some 50) _ = _
             simp only [Act.put, List.setIfInBounds_toArray, List.set_cons_zero, List.set_cons_succ, i64_w, i32_w]
             rfl
            refine done_ (by kernel_rfl) ?_
            go_upto_if 50 with (fail)
            go_cut [] (fun wc => ∃ (kq : Nat) (x10_27 : List (S25)) (x344000_27 : Int) (x344001_27 : Int), Aside0 (clusterlockslaw04_AmountShrinks.j1 kq y360 x10_27 a0_0 a0_1 a0_2 a0_3 = some r) ∧ Aside0 (kq ≤ kj4) ∧ Aside0 (Kd.R k25 25 wc w.heap.size (fun k_ => some k_ ≠ (v367 : Value).ownBlock ∧ k_ ≠ gb343) v361 y360) ∧ Aside0 (Kd.R k25 25 wc w.heap.size (fun k_ => some k_ ≠ (v361 : Value).ownBlock ∧ k_ ≠ gb343) v367 x10_27) ∧ Aside0 (wc.heap[gb342]? = some (.cells #[.string a0_0, .int .i64 a0_1, .int .i64 a0_2, .int .i64 a0_3] 23 (0, 0))) ∧ Aside0 (wc.heap[gb343]? = some (.cells #[.int .i64 x344000_27, .int .i64 x344001_27] 25 (0, 0))) ∧ Aside0 (Below w.heap.size w wc))
            case first =>
             have H := HC28.out
             clear HC28
             by_cases c41 : t370 = true
             ·subst c41
              have H1 : (if a2 < (y366.length : Int) then (clusterlockslaw04_AmountShrinks.j1 kj4 y360 (y366.set (a2 : Int).toNat (⟨a3_0, a3_1⟩ : S25)) a0_0 a0_1 a0_2 a0_3) else (none)) = some r := by rw [if_pos rfl] at H; exact H
              clear H
              have H := H1
              clear H1
              by_cases c42 : a2 < (y366.length : Int)
              ·rw [if_pos c42] at H
               have c42b0 : decide (a2 < (y366.length : Int)) = true := decide_eq_true c42
               clear c42
               (first | rw [c42b0] | (simp only [i64_w, i32_w]; rw [c42b0]) | skip)
               obtain ⟨y371, hy371⟩ : ∃ y_ : List (S25), y_ = (y366.set (a2 : Int).toNat (⟨a3_0, a3_1⟩ : S25)) := ⟨_, rfl⟩
               replace H : (clusterlockslaw04_AmountShrinks.j1 kj4 y360 y371 a0_0 a0_1 a0_2 a0_3) = some r := by first | (rw [hy371]; with_reducible exact H) | (have H2_ := (Option.bind_some _ _).symm.trans H; rw [hy371]; with_reducible exact H2_) | (have H2_ := (Option.bind_some _ _).symm.trans H; with_reducible exact H2_) | with_reducible exact H | (rw [hy371]; exact H) | exact H
               have Ny371 := Aside0.mk hy371
               clear hy371
               have H' := Aside0.mk H
               clear H
               have hnb44 := NB343_342.out
               have hnc44 := NB342_343.out
               have hcz45_0 : w40.cell? ⟨gb343, 0, none⟩ = some (.int .i64 a3_0) := (blk_cell BK343.out 0).trans rfl
               have hcz45_1 : w40.cell? ⟨gb343, 1, none⟩ = some (.int .i64 a3_1) := (blk_cell BK343.out 1).trans rfl
               have hfz45_0 := blk_frozen BK343.out 0
               have hfz45_1 := blk_frozen BK343.out 1
               have p43 : 0 ≤ (a2 : Int) := of_decide_eq_true (by first | (with_reducible assumption) | assumption)
               have q43 : (a2 : Int) < ((y366.length : Int) : Int) := of_decide_eq_true (by first | (with_reducible assumption) | assumption)
               obtain ⟨go43, co43, eo43, gb43, gl43, cl43, HG43⟩ := Kd.R_form HO368.out (by omega)
               (first | cases eo43 | (injection eo43 with ea_ en_ ec_; (first | subst ea_ | (injection ea_ with ea_; subst ea_)); subst ec_; clear en_))
               have GB43 := Aside0.mk gb43
               have GG43 := Aside0.mk HG43
               clear gb43 gl43 HG43
               obtain ⟨ce43, hcl43, hM43, hcc43, hfr43⟩ := Kd.R_elem HO368.out z25 (a2 : Int) p43 q43
               obtain rfl := k25_openM hM43
               have hx43_0 : w40.cell? ⟨go43, (a2 : Int).toNat * 2, none⟩ = some (.int .i64 ((rd_T25 y366 a2).f0)) := hcc43 0 _ rfl
               have hx43_1 : w40.cell? ⟨go43, (a2 : Int).toNat * 2 + 1, none⟩ = some (.int .i64 ((rd_T25 y366 a2).f1)) := hcc43 1 _ rfl
               have hf43_0 : w40.frozen? ⟨go43, (a2 : Int).toNat * 2, none⟩ = false := hfr43 0
               have hf43_1 : w40.frozen? ⟨go43, (a2 : Int).toNat * 2 + 1, none⟩ = false := hfr43 1
               clear hcl43 hcc43 hfr43 hM43
               replace p43 := eq_true p43
               replace q43 := eq_true q43
               have HX46 := Aside0.mk (show Kd.R k25 25 w40 w.heap.size (fun k_ => some k_ ≠ (v361 : Value).ownBlock ∧ k_ ≠ gb343) (.slice (some ⟨go43, 0, none⟩) y366.length co43) y366 from (by (with_reducible repeat (first | apply Kd.R_alloc | apply Kd.R_drewN | apply Kd.R_drew)); exact HO368.out))
               obtain ⟨ce46, hcl46, hM46, hcc46, hfr46⟩ := Kd.R_elem HX46.out z25 (a2 : Int) (of_decide_eq_true (by first | (with_reducible assumption) | assumption)) (by have h_ : (a2 : Int) < ((y366.length : Int) : Int) := of_decide_eq_true (by first | (with_reducible assumption) | assumption); first | exact h_ | (have e_ := (Kd.R_reads' HO368.out).1; omega) | simpa using h_)
               obtain rfl := k25_openM hM46
               have HP46 := Kd.R_seg HX46.out (a2 : Int) (of_decide_eq_true (by first | (with_reducible assumption) | assumption)) (by have h_ : (a2 : Int) < ((y366.length : Int) : Int) := of_decide_eq_true (by first | (with_reducible assumption) | assumption); first | exact h_ | (have e_ := (Kd.R_reads' HO368.out).1; omega) | simpa using h_) (seg := [.int .i64 a3_0, .int .i64 a3_1]) (j := 0) hcl46 hcc46 (show 2 ≤ 2 from by decide) (x' := (⟨a3_0, a3_1⟩ : S25)) (k25_mkM _ _ _ (⟨a3_0, a3_1⟩ : S25) ) (fun _ hk => hk)
               have hx46_0 := hcc46 0 _ rfl
               (try simp only [show (k25).sz = 2 from rfl, Nat.mul_one, Nat.add_zero] at hx46_0)
               have hf46_0 := hfr46 0
               (try simp only [show (k25).sz = 2 from rfl, Nat.mul_one, Nat.add_zero] at hf46_0)
               have hx46_1 := hcc46 1 _ rfl
               (try simp only [show (k25).sz = 2 from rfl, Nat.mul_one, Nat.add_zero] at hx46_1)
               have hf46_1 := hfr46 1
               (try simp only [show (k25).sz = 2 from rfl, Nat.mul_one, Nat.add_zero] at hf46_1)
               clear hcl46 hcc46 hfr46 hM46
               go_wp2_with (first | ((with_reducible refine gate_store (t := 25) (p := 54) rfl ?_); refine store_event (t := 25) (p := 54) (v := ?vo_w47) (w1 := ((w40.setCell ⟨go43, (a2 : Int).toNat * 2, none⟩ (.int .i64 a3_0)).setCell ⟨go43, (a2 : Int).toNat * 2 + 1, none⟩ (.int .i64 a3_1))) ?hg ?ho ?hn ?hr ?_; (case ho => rfl); (case hg => rfl); (case hn => rfl); (case hr => first | (go_simp; done) | (go_simp; rfl)); intro w47 hw; have hg : w40.grownBy w47 (some go43) := (by rw [hw]; exact HP46.2); have hp_ : Kd.R k25 25 w47 w.heap.size (fun k_ => some k_ ≠ (v361 : Value).ownBlock ∧ k_ ≠ gb343) (.slice (some ⟨go43, 0, none⟩) y366.length co43) y371 := (by rw [hw, Ny371.out]; exact HP46.1); clear HP46; have n0_ := Aside0.mk (blk_grown (g := gb342) (o := .cells #[.string a0_0, .int .i64 a0_1, .int .i64 a0_2, .int .i64 a0_3] 23 (0, 0)) (by (with_reducible repeat first | refine bN ?_ _ | refine bD ?_ | refine bA ?_ _); exact BK342.out) hg (Kd.R_ne HO368.out BK342.out (by decide))); have n1_ := Aside0.mk (blk_grown (g := gb343) (o := .cells #[.int .i64 a3_0, .int .i64 a3_1] 25 (0, 0)) (by (with_reducible repeat first | refine bN ?_ _ | refine bD ?_ | refine bA ?_ _); exact BK343.out) hg (Kd.R_away HO368.out (fun _ hk => hk.2))); have n2_ := Aside0.mk (Kd.R_after (v := (.slice (some ⟨go43, 0, none⟩) y366.length co43)) (v1 := (.slice (some ⟨go43, 0, none⟩) y366.length co43)) (ok := (fun k_ => k_ ≠ gb343)) (by (with_reducible repeat (first | apply Kd.R_alloc | apply Kd.R_drewN | apply Kd.R_drew)); exact HO362.out) hg (.inl rfl)); have n3_ := Aside0.mk (hp_); have n4_ := Aside0.mk ((by rw [hw]; exact below_set (below_set (HB.out) GB43.out) GB43.out : Below w.heap.size w w47)); clear BK342 BK343; clear HO362; clear HO368; clear HB; have BK342 := n0_; have BK343 := n1_; have HO362 := n2_; have HO368 := n3_; have HB := n4_; clear n0_ n1_ n2_ n3_ n4_; clear hg hw hp_))
               go_meet
               case rel => exact ⟨_, (y371), (a3_0), (a3_1), H', ⟨by have := HJ4.out; first | omega | exact Nat.le_refl _⟩, ⟨by (with_reducible repeat (first | apply Kd.R_alloc | apply Kd.R_drewN | apply Kd.R_drew)); exact Kd.R_mono HO362.out (fun _ hk => ⟨hk.2, hk.1⟩)⟩, ⟨by (with_reducible repeat (first | apply Kd.R_alloc | apply Kd.R_drewN | apply Kd.R_drew)); exact HO368.out⟩, ⟨by (with_reducible repeat first | refine bN ?_ _ | refine bD ?_ | refine bA ?_ _); exact BK342.out⟩, ⟨by (with_reducible repeat first | refine bN ?_ _ | refine bD ?_ | refine bA ?_ _); exact BK343.out⟩, ⟨by repeat (first | (with_reducible first | exact HB.out | apply below_alloc | apply pw_below_drewN | apply below_drew1 | refine below_set ?_ GE342.out | refine below_set ?_ GE343.out) | exact HB.out)⟩⟩
              ·rw [if_neg c42] at H
               exact absurd H (by simp)
             ·replace c41 := Bool.eq_false_iff.mpr c41
              subst c41
              have H1 : (clusterlockslaw04_AmountShrinks.j1 kj4 y360 y366 a0_0 a0_1 a0_2 a0_3) = some r := by rw [if_neg (show ¬ (false = true) by decide)] at H; exact H
              clear H
              have H := H1
              clear H1
              have H' := Aside0.mk H
              clear H
              go_wp2
              go_meet
              case rel => exact ⟨_, (y366), (a3_0), (a3_1), H', ⟨by have := HJ4.out; first | omega | exact Nat.le_refl _⟩, ⟨by (with_reducible repeat (first | apply Kd.R_alloc | apply Kd.R_drewN | apply Kd.R_drew)); exact Kd.R_mono HO362.out (fun _ hk => ⟨hk.2, hk.1⟩)⟩, ⟨by (with_reducible repeat (first | apply Kd.R_alloc | apply Kd.R_drewN | apply Kd.R_drew)); exact HO368.out⟩, ⟨by (with_reducible repeat first | refine bN ?_ _ | refine bD ?_ | refine bA ?_ _); exact BK342.out⟩, ⟨by (with_reducible repeat first | refine bN ?_ _ | refine bD ?_ | refine bA ?_ _); exact BK343.out⟩, ⟨by repeat (first | (with_reducible first | exact HB.out | apply below_alloc | apply pw_below_drewN | apply below_drew1 | refine below_set ?_ GE342.out | refine below_set ?_ GE343.out) | exact HB.out)⟩⟩
            case rest =>
             clear HC28
             try clear c1
             try clear c2
             try clear p2
             try clear c3
             try clear p3
             try clear q3
             try clear hx3
             try clear c4
             try clear p4
             try clear q4
             try clear hx4
             try clear hf4
             try clear p6
             try clear c8
             try clear c8b0
             try clear c8b1
             try clear c9
             try clear c9b0
             try clear c10
             try clear c10b0
             try clear c12
             try clear c15
             try clear c18
             try clear c18b0
             try clear c18b1
             try clear c19
             try clear c19b0
             try clear c19b1
             try clear c20
             try clear c22
             try clear c22b0
             try clear c22b1
             try clear c23
             try clear c23b0
             try clear c23b1
             try clear c24
             try clear c25
             try clear c26
             try clear c26b0
             try clear q30
             try clear c31
             try clear q31
             try clear p36
             try clear q36
             try clear hx36
             try clear c41
             try clear c42
             try clear c42b0
             try clear c43
             try clear p43
             try clear q43
             try clear hx43
             try clear hf43
             try clear c44
             try clear c46
             try clear hx46
             try clear hf46
             try clear hcz13_0
             try clear hcz13_1
             try clear hcz13_2
             try clear hcz13_3
             try clear hcz45_0
             try clear hcz45_1
             try clear hfz13_0
             try clear hfz13_1
             try clear hfz13_2
             try clear hfz13_3
             try clear hfz45_0
             try clear hfz45_1
             try clear hx369_0
             try clear hx369_1
             try clear hx43_0
             try clear hx43_1
             try clear hx46_0
             try clear hx46_1
             try clear p2
             try clear p369
             try clear p43
             try clear q031
             try clear q30
             try clear q31
             try clear q369
             try clear q43
             obtain ⟨kq, x10_27, x344000_27, x344001_27, HA, HJ27, HO_9, HO_10, BK342, BK343, HB⟩ := hcut
             cases kq with
             | zero => exact absurd HA.out (by simp [clusterlockslaw04_AmountShrinks.j1])
             | succ kj27 =>
              have H := HA.out
              clear HA
              simp only [clusterlockslaw04_AmountShrinks.j1] at H
              replace H := Option.bind_eq_some_iff.mp H
              obtain ⟨t372, A480, H⟩ := H
              replace H : (if t372 = true then ((amount_Compatible.f kj27 a0_0 a0_1 a0_2 a0_3 y360).bind fun t373 => (if t373 = true then ((amount_Compatible.f kj27 a0_0 a0_1 a0_2 a0_3 x10_27).bind fun t374 => (some t374)) else (some false))) else (some false)) = some r := H
              have A48 := Aside0.mk A480
              clear A480
              by_cases c49 : t372 = true
              ·subst c49
               have H1 : ((amount_Compatible.f kj27 a0_0 a0_1 a0_2 a0_3 y360).bind fun t373 => (if t373 = true then ((amount_Compatible.f kj27 a0_0 a0_1 a0_2 a0_3 x10_27).bind fun t374 => (some t374)) else (some false))) = some r := by rw [if_pos rfl] at H; exact H
               clear H
               have H := H1
               clear H1
               replace H := Option.bind_eq_some_iff.mp H
               obtain ⟨t373, A500, H⟩ := H
               replace H : (if t373 = true then ((amount_Compatible.f kj27 a0_0 a0_1 a0_2 a0_3 x10_27).bind fun t374 => (some t374)) else (some false)) = some r := H
               have A50 := Aside0.mk A500
               clear A500
               by_cases c51 : t373 = true
               ·subst c51
                have H1 : ((amount_Compatible.f kj27 a0_0 a0_1 a0_2 a0_3 x10_27).bind fun t374 => (some t374)) = some r := by rw [if_pos rfl] at H; exact H
                clear H
                have H := H1
                clear H1
                replace H := Option.bind_eq_some_iff.mp H
                obtain ⟨t374, A520, H⟩ := H
                replace H : (some t374) = some r := H
                have A52 := Aside0.mk A520
                clear A520
                obtain rfl := Option.some.inj H
                go_wp2_with (first | ((with_reducible refine gate_callee (f := 12) rfl ?_); refine goesL_ (some 55) rfl rfl Tryd.func12 (by kernel_rfl) rfl #[] rfl (by (try simp only [List.map_toArray, List.map_cons, List.map_nil]); first | done | rfl | (simp only [List.length_drop, List.length_take]; rfl)) ?_; (with_reducible refine (clusterlockslaw04_awake.calls kj27  true _ ?side1 A48.out).mono ?_); (case side1 => exact GL.below HG.out (by repeat (first | (with_reducible first | exact HB.out | apply below_alloc | apply pw_below_drewN | apply below_drew1 | refine below_set ?_ GE342.out | refine below_set ?_ GE343.out) | exact HB.out))); rintro e w53 ⟨rfl, hb⟩; refine ⟨_, rfl, ?_⟩; have n0_ := Aside0.mk (Kd.R_below (by (with_reducible repeat (first | apply Kd.R_alloc | apply Kd.R_drewN | apply Kd.R_drew)); exact HO_9.out) hb); have n1_ := Aside0.mk (Kd.R_below (by (with_reducible repeat (first | apply Kd.R_alloc | apply Kd.R_drewN | apply Kd.R_drew)); exact HO_10.out) hb); have n2_ := blkB BK342 (by (with_reducible repeat first | refine bN ?_ _ | refine bD ?_ | refine bA ?_ _); exact BK342.out) hb; have n3_ := blkB BK343 (by (with_reducible repeat first | refine bN ?_ _ | refine bD ?_ | refine bA ?_ _); exact BK343.out) hb; have n4_ := Aside0.mk (below_step (by repeat (first | (with_reducible first | exact HB.out | apply below_alloc | apply pw_below_drewN | apply below_drew1 | refine below_set ?_ GE342.out | refine below_set ?_ GE343.out) | exact HB.out)) hb); clear HO_9; clear HO_10; clear BK342 BK343 HB; have HO_9 := n0_; have HO_10 := n1_; have BK342 := n2_; have BK343 := n3_; have HB := n4_; clear n0_ n1_ n2_ n3_ n4_; (try clear hb); (try clear hk); have hnb54 := NB342_343.out; have hnc54 := NB343_342.out; have hcz55_0 : w53.cell? ⟨gb342, 0, none⟩ = some (.string a0_0) := (blk_cell BK342.out 0).trans rfl; have hcz55_1 : w53.cell? ⟨gb342, 1, none⟩ = some (.int .i64 a0_1) := (blk_cell BK342.out 1).trans rfl; have hcz55_2 : w53.cell? ⟨gb342, 2, none⟩ = some (.int .i64 a0_2) := (blk_cell BK342.out 2).trans rfl; have hcz55_3 : w53.cell? ⟨gb342, 3, none⟩ = some (.int .i64 a0_3) := (blk_cell BK342.out 3).trans rfl; have hfz55_0 := blk_frozen BK342.out 0; have hfz55_1 := blk_frozen BK342.out 1; have hfz55_2 := blk_frozen BK342.out 2; have hfz55_3 := blk_frozen BK342.out 3; obtain ⟨Ao56, co56, eo56⟩ := Kd.R_slice HO_9.out; subst eo56) | (go_at_call 18; (with_reducible refine (amount_Compatible.calls kj27 a0_0 a0_1 a0_2 a0_3 _ _ y360 true _ ?side1 ?side2 ?side3 A50.out).mono ?_); (case side1 => repeat (first | exact (Kd.R_reads' HO_9.out).2.2 | (with_reducible refine Kd.C_alloc ?_ _) | (with_reducible refine Kd.C_drewN ?_ _) | (with_reducible refine Kd.C_drew ?_))); (case side2 => exact (Kd.R_reads' HO_9.out).2.1); (case side3 => exact GL.below HG.out (by repeat (first | (with_reducible first | exact HB.out | apply below_alloc | apply pw_below_drewN | apply below_drew1 | refine below_set ?_ GE342.out | refine below_set ?_ GE343.out) | exact HB.out))); rintro e w57 ⟨rfl, hb⟩; have n0_ := Aside0.mk (Kd.R_below (by (with_reducible repeat (first | apply Kd.R_alloc | apply Kd.R_drewN | apply Kd.R_drew)); exact HO_9.out) hb); have n1_ := Aside0.mk (Kd.R_below (by (with_reducible repeat (first | apply Kd.R_alloc | apply Kd.R_drewN | apply Kd.R_drew)); exact HO_10.out) hb); have n2_ := blkB BK342 (by (with_reducible repeat first | refine bN ?_ _ | refine bD ?_ | refine bA ?_ _); exact BK342.out) hb; have n3_ := blkB BK343 (by (with_reducible repeat first | refine bN ?_ _ | refine bD ?_ | refine bA ?_ _); exact BK343.out) hb; have n4_ := Aside0.mk (below_step (by repeat (first | (with_reducible first | exact HB.out | apply below_alloc | apply pw_below_drewN | apply below_drew1 | refine below_set ?_ GE342.out | refine below_set ?_ GE343.out) | exact HB.out)) hb); clear HO_9; clear HO_10; clear BK342 BK343 HB; have HO_9 := n0_; have HO_10 := n1_; have BK342 := n2_; have BK343 := n3_; have HB := n4_; clear n0_ n1_ n2_ n3_ n4_; (try clear hb); (try clear hk); have hcz58_0 : w57.cell? ⟨gb342, 0, none⟩ = some (.string a0_0) := (blk_cell BK342.out 0).trans rfl; have hcz58_1 : w57.cell? ⟨gb342, 1, none⟩ = some (.int .i64 a0_1) := (blk_cell BK342.out 1).trans rfl; have hcz58_2 : w57.cell? ⟨gb342, 2, none⟩ = some (.int .i64 a0_2) := (blk_cell BK342.out 2).trans rfl; have hcz58_3 : w57.cell? ⟨gb342, 3, none⟩ = some (.int .i64 a0_3) := (blk_cell BK342.out 3).trans rfl; have hfz58_0 := blk_frozen BK342.out 0; have hfz58_1 := blk_frozen BK342.out 1; have hfz58_2 := blk_frozen BK342.out 2; have hfz58_3 := blk_frozen BK342.out 3; obtain ⟨Ao59, co59, eo59⟩ := Kd.R_slice HO_10.out; subst eo59) | (go_at_call 18; (with_reducible refine (amount_Compatible.calls kj27 a0_0 a0_1 a0_2 a0_3 _ _ x10_27 t374 _ ?side1 ?side2 ?side3 A52.out).mono ?_); (case side1 => repeat (first | exact (Kd.R_reads' HO_10.out).2.2 | (with_reducible refine Kd.C_alloc ?_ _) | (with_reducible refine Kd.C_drewN ?_ _) | (with_reducible refine Kd.C_drew ?_))); (case side2 => exact (Kd.R_reads' HO_10.out).2.1); (case side3 => exact GL.below HG.out (by repeat (first | (with_reducible first | exact HB.out | apply below_alloc | apply pw_below_drewN | apply below_drew1 | refine below_set ?_ GE342.out | refine below_set ?_ GE343.out) | exact HB.out))); rintro e w60 ⟨rfl, hb⟩; have n0_ := Aside0.mk (Kd.R_below (by (with_reducible repeat (first | apply Kd.R_alloc | apply Kd.R_drewN | apply Kd.R_drew)); exact HO_9.out) hb); have n1_ := Aside0.mk (Kd.R_below (by (with_reducible repeat (first | apply Kd.R_alloc | apply Kd.R_drewN | apply Kd.R_drew)); exact HO_10.out) hb); have n2_ := blkB BK342 (by (with_reducible repeat first | refine bN ?_ _ | refine bD ?_ | refine bA ?_ _); exact BK342.out) hb; have n3_ := blkB BK343 (by (with_reducible repeat first | refine bN ?_ _ | refine bD ?_ | refine bA ?_ _); exact BK343.out) hb; have n4_ := Aside0.mk (below_step (by repeat (first | (with_reducible first | exact HB.out | apply below_alloc | apply pw_below_drewN | apply below_drew1 | refine below_set ?_ GE342.out | refine below_set ?_ GE343.out) | exact HB.out)) hb); clear HO_9; clear HO_10; clear BK342 BK343 HB; have HO_9 := n0_; have HO_10 := n1_; have BK342 := n2_; have BK343 := n3_; have HB := n4_; clear n0_ n1_ n2_ n3_ n4_; (try clear hb); (try clear hk)))
                go_ret
                exact ⟨by first | rfl | (simp [errW_none, errW_some] <;> rfl) | (simp only [← hji21]; first | rfl | (simp [errW_none, errW_some] <;> rfl)) | (simp [*, errW_none, errW_some] <;> rfl), by repeat (first | (with_reducible first | exact HB.out | apply below_alloc | apply pw_below_drewN | apply below_drew1 | refine below_set ?_ GE342.out | refine below_set ?_ GE343.out) | exact HB.out)⟩
               ·replace c51 := Bool.eq_false_iff.mpr c51
                subst c51
                have H1 : (some false) = some r := by rw [if_neg (show ¬ (false = true) by decide)] at H; exact H
                clear H
                have H := H1
                clear H1
                obtain rfl := Option.some.inj H
                go_wp2_with (first | ((with_reducible refine gate_callee (f := 12) rfl ?_); refine goesL_ (some 55) rfl rfl Tryd.func12 (by kernel_rfl) rfl #[] rfl (by (try simp only [List.map_toArray, List.map_cons, List.map_nil]); first | done | rfl | (simp only [List.length_drop, List.length_take]; rfl)) ?_; (with_reducible refine (clusterlockslaw04_awake.calls kj27  true _ ?side1 A48.out).mono ?_); (case side1 => exact GL.below HG.out (by repeat (first | (with_reducible first | exact HB.out | apply below_alloc | apply pw_below_drewN | apply below_drew1 | refine below_set ?_ GE342.out | refine below_set ?_ GE343.out) | exact HB.out))); rintro e w61 ⟨rfl, hb⟩; refine ⟨_, rfl, ?_⟩; have n0_ := Aside0.mk (Kd.R_below (by (with_reducible repeat (first | apply Kd.R_alloc | apply Kd.R_drewN | apply Kd.R_drew)); exact HO_9.out) hb); have n1_ := Aside0.mk (Kd.R_below (by (with_reducible repeat (first | apply Kd.R_alloc | apply Kd.R_drewN | apply Kd.R_drew)); exact HO_10.out) hb); have n2_ := blkB BK342 (by (with_reducible repeat first | refine bN ?_ _ | refine bD ?_ | refine bA ?_ _); exact BK342.out) hb; have n3_ := blkB BK343 (by (with_reducible repeat first | refine bN ?_ _ | refine bD ?_ | refine bA ?_ _); exact BK343.out) hb; have n4_ := Aside0.mk (below_step (by repeat (first | (with_reducible first | exact HB.out | apply below_alloc | apply pw_below_drewN | apply below_drew1 | refine below_set ?_ GE342.out | refine below_set ?_ GE343.out) | exact HB.out)) hb); clear HO_9; clear HO_10; clear BK342 BK343 HB; have HO_9 := n0_; have HO_10 := n1_; have BK342 := n2_; have BK343 := n3_; have HB := n4_; clear n0_ n1_ n2_ n3_ n4_; (try clear hb); (try clear hk); have hnb62 := NB342_343.out; have hnc62 := NB343_342.out; have hcz63_0 : w61.cell? ⟨gb342, 0, none⟩ = some (.string a0_0) := (blk_cell BK342.out 0).trans rfl; have hcz63_1 : w61.cell? ⟨gb342, 1, none⟩ = some (.int .i64 a0_1) := (blk_cell BK342.out 1).trans rfl; have hcz63_2 : w61.cell? ⟨gb342, 2, none⟩ = some (.int .i64 a0_2) := (blk_cell BK342.out 2).trans rfl; have hcz63_3 : w61.cell? ⟨gb342, 3, none⟩ = some (.int .i64 a0_3) := (blk_cell BK342.out 3).trans rfl; have hfz63_0 := blk_frozen BK342.out 0; have hfz63_1 := blk_frozen BK342.out 1; have hfz63_2 := blk_frozen BK342.out 2; have hfz63_3 := blk_frozen BK342.out 3; obtain ⟨Ao64, co64, eo64⟩ := Kd.R_slice HO_9.out; subst eo64) | (go_at_call 18; (with_reducible refine (amount_Compatible.calls kj27 a0_0 a0_1 a0_2 a0_3 _ _ y360 false _ ?side1 ?side2 ?side3 A50.out).mono ?_); (case side1 => repeat (first | exact (Kd.R_reads' HO_9.out).2.2 | (with_reducible refine Kd.C_alloc ?_ _) | (with_reducible refine Kd.C_drewN ?_ _) | (with_reducible refine Kd.C_drew ?_))); (case side2 => exact (Kd.R_reads' HO_9.out).2.1); (case side3 => exact GL.below HG.out (by repeat (first | (with_reducible first | exact HB.out | apply below_alloc | apply pw_below_drewN | apply below_drew1 | refine below_set ?_ GE342.out | refine below_set ?_ GE343.out) | exact HB.out))); rintro e w65 ⟨rfl, hb⟩; have n0_ := Aside0.mk (Kd.R_below (by (with_reducible repeat (first | apply Kd.R_alloc | apply Kd.R_drewN | apply Kd.R_drew)); exact HO_9.out) hb); have n1_ := Aside0.mk (Kd.R_below (by (with_reducible repeat (first | apply Kd.R_alloc | apply Kd.R_drewN | apply Kd.R_drew)); exact HO_10.out) hb); have n2_ := blkB BK342 (by (with_reducible repeat first | refine bN ?_ _ | refine bD ?_ | refine bA ?_ _); exact BK342.out) hb; have n3_ := blkB BK343 (by (with_reducible repeat first | refine bN ?_ _ | refine bD ?_ | refine bA ?_ _); exact BK343.out) hb; have n4_ := Aside0.mk (below_step (by repeat (first | (with_reducible first | exact HB.out | apply below_alloc | apply pw_below_drewN | apply below_drew1 | refine below_set ?_ GE342.out | refine below_set ?_ GE343.out) | exact HB.out)) hb); clear HO_9; clear HO_10; clear BK342 BK343 HB; have HO_9 := n0_; have HO_10 := n1_; have BK342 := n2_; have BK343 := n3_; have HB := n4_; clear n0_ n1_ n2_ n3_ n4_; (try clear hb); (try clear hk)))
                go_ret
                exact ⟨by first | rfl | (simp [errW_none, errW_some] <;> rfl) | (simp only [← hji21]; first | rfl | (simp [errW_none, errW_some] <;> rfl)) | (simp [*, errW_none, errW_some] <;> rfl), by repeat (first | (with_reducible first | exact HB.out | apply below_alloc | apply pw_below_drewN | apply below_drew1 | refine below_set ?_ GE342.out | refine below_set ?_ GE343.out) | exact HB.out)⟩
              ·replace c49 := Bool.eq_false_iff.mpr c49
               subst c49
               have H1 : (some false) = some r := by rw [if_neg (show ¬ (false = true) by decide)] at H; exact H
               clear H
               have H := H1
               clear H1
               obtain rfl := Option.some.inj H
               go_wp2_with (first | ((with_reducible refine gate_callee (f := 12) rfl ?_); refine goesL_ (some 55) rfl rfl Tryd.func12 (by kernel_rfl) rfl #[] rfl (by (try simp only [List.map_toArray, List.map_cons, List.map_nil]); first | done | rfl | (simp only [List.length_drop, List.length_take]; rfl)) ?_; (with_reducible refine (clusterlockslaw04_awake.calls kj27  false _ ?side1 A48.out).mono ?_); (case side1 => exact GL.below HG.out (by repeat (first | (with_reducible first | exact HB.out | apply below_alloc | apply pw_below_drewN | apply below_drew1 | refine below_set ?_ GE342.out | refine below_set ?_ GE343.out) | exact HB.out))); rintro e w66 ⟨rfl, hb⟩; refine ⟨_, rfl, ?_⟩; have n0_ := Aside0.mk (Kd.R_below (by (with_reducible repeat (first | apply Kd.R_alloc | apply Kd.R_drewN | apply Kd.R_drew)); exact HO_9.out) hb); have n1_ := Aside0.mk (Kd.R_below (by (with_reducible repeat (first | apply Kd.R_alloc | apply Kd.R_drewN | apply Kd.R_drew)); exact HO_10.out) hb); have n2_ := blkB BK342 (by (with_reducible repeat first | refine bN ?_ _ | refine bD ?_ | refine bA ?_ _); exact BK342.out) hb; have n3_ := blkB BK343 (by (with_reducible repeat first | refine bN ?_ _ | refine bD ?_ | refine bA ?_ _); exact BK343.out) hb; have n4_ := Aside0.mk (below_step (by repeat (first | (with_reducible first | exact HB.out | apply below_alloc | apply pw_below_drewN | apply below_drew1 | refine below_set ?_ GE342.out | refine below_set ?_ GE343.out) | exact HB.out)) hb); clear HO_9; clear HO_10; clear BK342 BK343 HB; have HO_9 := n0_; have HO_10 := n1_; have BK342 := n2_; have BK343 := n3_; have HB := n4_; clear n0_ n1_ n2_ n3_ n4_; (try clear hb); (try clear hk)))
               go_ret
               exact ⟨by first | rfl | (simp [errW_none, errW_some] <;> rfl) | (simp only [← hji21]; first | rfl | (simp [errW_none, errW_some] <;> rfl)) | (simp [*, errW_none, errW_some] <;> rfl), by repeat (first | (with_reducible first | exact HB.out | apply below_alloc | apply pw_below_drewN | apply below_drew1 | refine below_set ?_ GE342.out | refine below_set ?_ GE343.out) | exact HB.out)⟩
           ·rw [if_neg c26] at H
            exact absurd H (by simp)
          ·rw [if_neg c25] at H
           exact absurd H (by simp)
         ·rw [if_neg c24] at H
          exact absurd H (by simp)
        ·rw [if_neg c23] at H
         exact absurd H (by simp)
       ·rw [if_neg c22] at H
        exact absurd H (by simp)
      ·rw [if_neg c20] at H
       exact absurd H (by simp)
     ·rw [if_neg c19] at H
      exact absurd H (by simp)
    ·rw [if_neg c18] at H
     exact absurd H (by simp)

end Go.Proofs.YtlkhdhjdcgiciaaDoor.PA
