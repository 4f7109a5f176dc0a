-- Printed by wip/tool/myprint.py for this claim; Lean checks it.
import Derived.Test.YtlkhdhjdcgiciaaDoorPAx0
import Derived.Test.YtlkhdhjdcgiciaaDoorSlim
import Derived.Test.YtlkhdhjdcgiciaaDoorPAx8
import Derived.Test.YtlkhdhjdcgiciaaDoorPAx14
namespace Go.Proofs.YtlkhdhjdcgiciaaDoor.PA
open Go.RowKit Go.Proofs.YtlkhdhjdcgiciaaDoorW.PrintWords Go.Proofs.YtlkhdhjdcgiciaaDoorW.PrintLast Go.Proofs.YtlkhdhjdcgiciaaDoorW.PrintMore
attribute [local go_sem] max2_int min2_int max_two min_two max_three min_three max_four min_four   -- for this text's walks alone
set_option linter.unusedVariables false
set_option linter.unusedSimpArgs false

/-! ### clusterlocksref04_Join: function 28 -/
def clusterlocksref04_Join.j0 : Nat → Bool → ByteArray → Int → Int → Int → Int → Int → Int → Int → Option (Int × Int)
 | 0, _, _, _, _, _, _, _, _, _ => none
 | k + 1, x16, x293000, x293001, x293002, x293003, x294000, x294001, x295000, x295001 => if x16 = true then (some (0, 0)) else ((clusterlocksref04_Covers.f k x293000 x293001 x293002 x293003 x294000 x294001 x295000 x295001).bind fun t298 => (if t298 = true then (some (x294000, x294001)) else ((clusterlocksref04_Covers.f k x293000 x293001 x293002 x293003 x295000 x295001 x294000 x294001).bind fun t299 => (if t299 = true then (some (x295000, x295001)) else ((clusterlocksref03_Sup.f k x294000 x295000).bind fun t300 => (some (t300, 0)))))))
def clusterlocksref04_Join.f (k : Nat) (a0_0 : ByteArray) (a0_1 : Int) (a0_2 : Int) (a0_3 : Int) (a1_0 : Int) (a1_1 : Int) (a2_0 : Int) (a2_1 : Int) : Option (Int × Int) := (clusterlocksref04_Permitted.f a0_0 a0_1 a0_2 a0_3 a1_0 a1_1).bind fun t296 => (if t296 = true then ((clusterlocksref04_Permitted.f a0_0 a0_1 a0_2 a0_3 a2_0 a2_1).bind fun t297 => (clusterlocksref04_Join.j0 k (!t297) a0_0 a0_1 a0_2 a0_3 a1_0 a1_1 a2_0 a2_1)) else (clusterlocksref04_Join.j0 k true a0_0 a0_1 a0_2 a0_3 a1_0 a1_1 a2_0 a2_1))
theorem clusterlocksref04_Join.mono_l : ∀ k, (∀ y0 y1 y2 y3 y4 y5 y6 y7 y8, LeO (clusterlocksref04_Join.j0 k y0 y1 y2 y3 y4 y5 y6 y7 y8) (clusterlocksref04_Join.j0 (k + 1) y0 y1 y2 y3 y4 y5 y6 y7 y8))
 | 0 => fun _ _ _ _ _ _ _ _ _ r h => by simp [clusterlocksref04_Join.j0] at h
 | k + 1 => by
  have ih0 := clusterlocksref04_Join.mono_l k
  ·intro y0 y1 y2 y3 y4 y5 y6 y7 y8
   unfold clusterlocksref04_Join.j0
   repeat' first
   | (with_reducible exact ih0 _ _ _ _ _ _ _ _ _)
   | (with_reducible exact clusterlocksref03_Sup.mono _ _ _)
   | (with_reducible exact clusterlocksref04_Covers.mono _ _ _ _ _ _ _ _ _)
   | (with_reducible exact LeO.refl _)
   | (with_reducible exact LeO.none _)
   | (with_reducible refine LeO.ite ?_ ?_)
   | (with_reducible refine LeO.bind ?_ (fun _ => ?_))
   | exact ih0 _ _ _ _ _ _ _ _ _
   | exact clusterlocksref03_Sup.mono _ _ _
   | exact clusterlocksref04_Covers.mono _ _ _ _ _ _ _ _ _
   | exact LeO.none _
   | refine LeO.ite ?_ ?_
   | refine LeO.bind ?_ (fun _ => ?_)
theorem clusterlocksref04_Join.mono : ∀ a0 a1 a2 a3 a4 a5 a6 a7 k, LeO (clusterlocksref04_Join.f k a0 a1 a2 a3 a4 a5 a6 a7) (clusterlocksref04_Join.f (k + 1) a0 a1 a2 a3 a4 a5 a6 a7) := by
 intro a0 a1 a2 a3 a4 a5 a6 a7 k
 have ih0 := clusterlocksref04_Join.mono_l k
 unfold clusterlocksref04_Join.f
 repeat' first
   | (with_reducible exact ih0 _ _ _ _ _ _ _ _ _)
   | (with_reducible exact clusterlocksref03_Sup.mono _ _ _)
   | (with_reducible exact clusterlocksref04_Covers.mono _ _ _ _ _ _ _ _ _)
   | (with_reducible exact LeO.refl _)
   | (with_reducible exact LeO.none _)
   | (with_reducible refine LeO.ite ?_ ?_)
   | (with_reducible refine LeO.bind ?_ (fun _ => ?_))
   | exact ih0 _ _ _ _ _ _ _ _ _
   | exact clusterlocksref03_Sup.mono _ _ _
   | exact clusterlocksref04_Covers.mono _ _ _ _ _ _ _ _ _
   | exact LeO.none _
   | refine LeO.ite ?_ ?_
   | refine LeO.bind ?_ (fun _ => ?_)
set_option maxHeartbeats 8000000 in
set_option maxRecDepth 100000 in
theorem clusterlocksref04_Join.calls (k : Nat) (a0_0 : ByteArray) (a0_1 : Int) (a0_2 : Int) (a0_3 : Int) (a1_0 : Int) (a1_1 : Int) (a2_0 : Int) (a2_1 : Int) (r1 : Int) (r2 : Int) (w : World) (h : clusterlocksref04_Join.f k a0_0 a0_1 a0_2 a0_3 a1_0 a1_1 a2_0 a2_1 = some (r1, r2)) :
  Calls Tryd.prog 28 #[.agg #[.string a0_0, .int .i64 a0_1, .int .i64 a0_2, .int .i64 a0_3], .agg #[.int .i64 a1_0, .int .i64 a1_1], .agg #[.int .i64 a2_0, .int .i64 a2_1]] w fun e w' => e = .returned (.agg #[.int .i64 r1, .int .i64 r2]) ∧ Below w.heap.size w w' := by
 have hu23 := Tryd.underlying23
 have hu25 := Tryd.underlying25
 have HB := Aside0.mk (Below.refl w.heap.size w)
 have H : ((clusterlocksref04_Permitted.f a0_0 a0_1 a0_2 a0_3 a1_0 a1_1).bind fun t296 => (if t296 = true then ((clusterlocksref04_Permitted.f a0_0 a0_1 a0_2 a0_3 a2_0 a2_1).bind fun t297 => (clusterlocksref04_Join.j0 k (!t297) a0_0 a0_1 a0_2 a0_3 a1_0 a1_1 a2_0 a2_1)) else (clusterlocksref04_Join.j0 k true a0_0 a0_1 a0_2 a0_3 a1_0 a1_1 a2_0 a2_1))) = some (r1, r2) := h
 clear h
 have HC4 := Aside0.mk H
 clear H
 go_enter Tryd.func28, Tryd.ntmps28
 go_upto_region 1 with (first | ((with_reducible refine gate_dst (N := 3) rfl ?_); refine box_event ?hg (N := 3) ?hd (cs := #[.string a0_0, .int .i64 a0_1, .int .i64 a0_2, .int .i64 a0_3]) (t := 23) ?hr ?_; (case hd => rfl); (case hg => rfl); (case hr => first | (go_simp; done) | (go_simp; rfl)); intro gb292 hg w5 hbox hb; have n0_ := Aside0.mk (below_step (by repeat (first | (with_reducible first | exact HB.out | apply below_alloc | apply pw_below_drewN | apply below_drew1) | exact HB.out)) hb); have n1_ := Aside0.mk (hbox); have n2_ := Aside0.mk ((by rw [hg]; exact (below_size (by repeat (first | (with_reducible first | exact HB.out | apply below_alloc | apply pw_below_drewN | apply below_drew1) | exact HB.out))) : w.heap.size ≤ gb292)); have n3_ := n2_; clear HB; have HB := n0_; have BK292 := n1_; have GW292 := n2_; have GE292 := n3_; clear n0_ n1_ n2_ n3_; clear hb hbox hg) | ((with_reducible refine gate_dst (N := 4) rfl ?_); refine box_event ?hg (N := 4) ?hd (cs := #[.int .i64 a1_0, .int .i64 a1_1]) (t := 25) ?hr ?_; (case hd => rfl); (case hg => rfl); (case hr => first | (go_simp; done) | (go_simp; rfl)); intro gb293 hg w6 hbox hb; have n0_ := blkB BK292 (by (with_reducible repeat first | refine bN ?_ _ | refine bD ?_ | refine bA ?_ _); exact BK292.out) hb; have n1_ := Aside0.mk (below_step (by repeat (first | (with_reducible first | exact HB.out | apply below_alloc | apply pw_below_drewN | apply below_drew1) | exact HB.out)) hb); have n2_ := Aside0.mk (hbox); have n3_ := Aside0.mk ((by rw [hg]; exact (below_size (by repeat (first | (with_reducible first | exact HB.out | apply below_alloc | apply pw_below_drewN | apply below_drew1) | exact HB.out))) : w.heap.size ≤ gb293)); have n4_ := n3_; have n5_ := Aside0.mk ((by rw [hg]; exact Nat.ne_of_lt (blkLt BK292 (by (with_reducible repeat first | refine bN ?_ _ | refine bD ?_ | refine bA ?_ _); exact BK292.out)) : gb292 ≠ gb293)); have n6_ := Aside0.mk n5_.out.symm; clear BK292 HB; have BK292 := n0_; have HB := n1_; have BK293 := n2_; have GW293 := n3_; have GE293 := n4_; have NB292_293 := n5_; have NB293_292 := n6_; clear n0_ n1_ n2_ n3_ n4_ n5_ n6_; clear hb hbox hg) | ((with_reducible refine gate_dst (N := 5) rfl ?_); refine box_event ?hg (N := 5) ?hd (cs := #[.int .i64 a2_0, .int .i64 a2_1]) (t := 25) ?hr ?_; (case hd => rfl); (case hg => rfl); (case hr => first | (go_simp; done) | (go_simp; rfl)); intro gb294 hg w7 hbox hb; have n0_ := blkB BK292 (by (with_reducible repeat first | refine bN ?_ _ | refine bD ?_ | refine bA ?_ _); exact BK292.out) hb; have n1_ := blkB BK293 (by (with_reducible repeat first | refine bN ?_ _ | refine bD ?_ | refine bA ?_ _); exact BK293.out) hb; have n2_ := Aside0.mk (below_step (by repeat (first | (with_reducible first | exact HB.out | apply below_alloc | apply pw_below_drewN | apply below_drew1) | exact HB.out)) hb); have n3_ := Aside0.mk (hbox); have n4_ := Aside0.mk ((by rw [hg]; exact (below_size (by repeat (first | (with_reducible first | exact HB.out | apply below_alloc | apply pw_below_drewN | apply below_drew1) | exact HB.out))) : w.heap.size ≤ gb294)); have n5_ := n4_; have n6_ := Aside0.mk ((by rw [hg]; exact Nat.ne_of_lt (blkLt BK292 (by (with_reducible repeat first | refine bN ?_ _ | refine bD ?_ | refine bA ?_ _); exact BK292.out)) : gb292 ≠ gb294)); have n7_ := Aside0.mk n6_.out.symm; have n8_ := Aside0.mk ((by rw [hg]; exact Nat.ne_of_lt (blkLt BK293 (by (with_reducible repeat first | refine bN ?_ _ | refine bD ?_ | refine bA ?_ _); exact BK293.out)) : gb293 ≠ gb294)); have n9_ := Aside0.mk n8_.out.symm; clear BK292 BK293 HB; have BK292 := n0_; have BK293 := n1_; have HB := n2_; have BK294 := n3_; have GW294 := n4_; have GE294 := n5_; have NB292_294 := n6_; have NB294_292 := n7_; have NB293_294 := n8_; have NB294_293 := n9_; clear n0_ n1_ n2_ n3_ n4_ n5_ n6_ n7_ n8_ n9_; clear hb hbox hg) | ((with_reducible refine gate_dst (N := 6) rfl ?_); refine box_event ?hg (N := 6) ?hd (cs := #[.int .i64 0, .int .i64 0]) (t := 25) ?hr ?_; (case hd => rfl); (case hg => rfl); (case hr => first | (go_simp; done) | (go_simp; rfl)); intro gb295 hg w8 hbox hb; have n0_ := blkB BK292 (by (with_reducible repeat first | refine bN ?_ _ | refine bD ?_ | refine bA ?_ _); exact BK292.out) hb; have n1_ := blkB BK293 (by (with_reducible repeat first | refine bN ?_ _ | refine bD ?_ | refine bA ?_ _); exact BK293.out) hb; have n2_ := blkB BK294 (by (with_reducible repeat first | refine bN ?_ _ | refine bD ?_ | refine bA ?_ _); exact BK294.out) hb; have n3_ := Aside0.mk (below_step (by repeat (first | (with_reducible first | exact HB.out | apply below_alloc | apply pw_below_drewN | apply below_drew1) | exact HB.out)) hb); have n4_ := Aside0.mk (hbox); have n5_ := Aside0.mk ((by rw [hg]; exact (below_size (by repeat (first | (with_reducible first | exact HB.out | apply below_alloc | apply pw_below_drewN | apply below_drew1) | exact HB.out))) : w.heap.size ≤ gb295)); have n6_ := n5_; have n7_ := Aside0.mk ((by rw [hg]; exact Nat.ne_of_lt (blkLt BK292 (by (with_reducible repeat first | refine bN ?_ _ | refine bD ?_ | refine bA ?_ _); exact BK292.out)) : gb292 ≠ gb295)); have n8_ := Aside0.mk n7_.out.symm; have n9_ := Aside0.mk ((by rw [hg]; exact Nat.ne_of_lt (blkLt BK293 (by (with_reducible repeat first | refine bN ?_ _ | refine bD ?_ | refine bA ?_ _); exact BK293.out)) : gb293 ≠ gb295)); have n10_ := Aside0.mk n9_.out.symm; have n11_ := Aside0.mk ((by rw [hg]; exact Nat.ne_of_lt (blkLt BK294 (by (with_reducible repeat first | refine bN ?_ _ | refine bD ?_ | refine bA ?_ _); exact BK294.out)) : gb294 ≠ gb295)); have n12_ := Aside0.mk n11_.out.symm; clear BK292 BK293 BK294 HB; have BK292 := n0_; have BK293 := n1_; have BK294 := n2_; have HB := n3_; have BK295 := n4_; have GW295 := n5_; have GE295 := n6_; have NB292_295 := n7_; have NB295_292 := n8_; have NB293_295 := n9_; have NB295_293 := n10_; have NB294_295 := n11_; have NB295_294 := n12_; clear n0_ n1_ n2_ n3_ n4_ n5_ n6_ n7_ n8_ n9_ n10_ n11_ n12_; clear hb hbox hg))
 (try simp only [Act.put, List.setIfInBounds_toArray, List.set_cons_zero, List.set_cons_succ])
 go_cut [16] (fun v16 wc => ∃ (kq : Nat) (x16_3 : Bool), v16 = .bool x16_3 ∧ Aside0 (clusterlocksref04_Join.j0 kq x16_3 a0_0 a0_1 a0_2 a0_3 a1_0 a1_1 a2_0 a2_1 = some (r1, r2)) ∧ Aside0 (kq ≤ k) ∧ Aside0 (wc.heap[gb292]? = some (.cells #[.string a0_0, .int .i64 a0_1, .int .i64 a0_2, .int .i64 a0_3] 23 (0, 0))) ∧ Aside0 (wc.heap[gb293]? = some (.cells #[.int .i64 a1_0, .int .i64 a1_1] 25 (0, 0))) ∧ Aside0 (wc.heap[gb294]? = some (.cells #[.int .i64 a2_0, .int .i64 a2_1] 25 (0, 0))) ∧ Aside0 (wc.heap[gb295]? = some (.cells #[.int .i64 0, .int .i64 0] 25 (0, 0))) ∧ Aside0 (Below w.heap.size w wc))
 case first =>
  have H := HC4.out
  clear HC4
  replace H := Option.bind_eq_some_iff.mp H
  obtain ⟨t296, A90, H⟩ := H
  replace H : (if t296 = true then ((clusterlocksref04_Permitted.f a0_0 a0_1 a0_2 a0_3 a2_0 a2_1).bind fun t297 => (clusterlocksref04_Join.j0 k (!t297) a0_0 a0_1 a0_2 a0_3 a1_0 a1_1 a2_0 a2_1)) else (clusterlocksref04_Join.j0 k true a0_0 a0_1 a0_2 a0_3 a1_0 a1_1 a2_0 a2_1)) = some (r1, r2) := H
  have A9 := Aside0.mk A90
  clear A90
  by_cases c10 : t296 = true
  ·subst c10
   have H1 : ((clusterlocksref04_Permitted.f a0_0 a0_1 a0_2 a0_3 a2_0 a2_1).bind fun t297 => (clusterlocksref04_Join.j0 k (!t297) a0_0 a0_1 a0_2 a0_3 a1_0 a1_1 a2_0 a2_1)) = some (r1, r2) := by rw [if_pos rfl] at H; exact H
   clear H
   have H := H1
   clear H1
   replace H := Option.bind_eq_some_iff.mp H
   obtain ⟨t297, A110, H⟩ := H
   replace H : (clusterlocksref04_Join.j0 k (!t297) a0_0 a0_1 a0_2 a0_3 a1_0 a1_1 a2_0 a2_1) = some (r1, r2) := H
   have A11 := Aside0.mk A110
   clear A110
   have H' := Aside0.mk H
   clear H
   have hnb12 := NB292_293.out
   have hnc12 := NB293_292.out
   have hnb13 := NB292_294.out
   have hnc13 := NB294_292.out
   have hnb14 := NB292_295.out
   have hnc14 := NB295_292.out
   have hcz15_0 : w8.cell? ⟨gb292, 0, none⟩ = some (.string a0_0) := (blk_cell BK292.out 0).trans rfl
   have hcz15_1 : w8.cell? ⟨gb292, 1, none⟩ = some (.int .i64 a0_1) := (blk_cell BK292.out 1).trans rfl
   have hcz15_2 : w8.cell? ⟨gb292, 2, none⟩ = some (.int .i64 a0_2) := (blk_cell BK292.out 2).trans rfl
   have hcz15_3 : w8.cell? ⟨gb292, 3, none⟩ = some (.int .i64 a0_3) := (blk_cell BK292.out 3).trans rfl
   have hfz15_0 := blk_frozen BK292.out 0
   have hfz15_1 := blk_frozen BK292.out 1
   have hfz15_2 := blk_frozen BK292.out 2
   have hfz15_3 := blk_frozen BK292.out 3
   have hnb16 := NB293_294.out
   have hnc16 := NB294_293.out
   have hnb17 := NB293_295.out
   have hnc17 := NB295_293.out
   have hcz18_0 : w8.cell? ⟨gb293, 0, none⟩ = some (.int .i64 a1_0) := (blk_cell BK293.out 0).trans rfl
   have hcz18_1 : w8.cell? ⟨gb293, 1, none⟩ = some (.int .i64 a1_1) := (blk_cell BK293.out 1).trans rfl
   have hfz18_0 := blk_frozen BK293.out 0
   have hfz18_1 := blk_frozen BK293.out 1
   go_wp2_with (first | ((with_reducible refine gate_callee (f := 21) rfl ?_); refine goesL_ (some 9) rfl rfl Tryd.func21 (by kernel_rfl) rfl #[.agg #[.string a0_0, .int .i64 a0_1, .int .i64 a0_2, .int .i64 a0_3], .agg #[.int .i64 a1_0, .int .i64 a1_1]] rfl (by (try simp only [List.map_toArray, List.map_cons, List.map_nil]); first | done | rfl | (simp only [List.length_drop, List.length_take]; rfl)) ?_; (with_reducible refine (clusterlocksref04_Permitted.calls a0_0 a0_1 a0_2 a0_3 a1_0 a1_1 true _ A9.out).mono ?_); rintro e w19 ⟨rfl, hb⟩; refine ⟨_, rfl, ?_⟩; have n0_ := blkB BK292 (by (with_reducible repeat first | refine bN ?_ _ | refine bD ?_ | refine bA ?_ _); exact BK292.out) hb; have n1_ := blkB BK293 (by (with_reducible repeat first | refine bN ?_ _ | refine bD ?_ | refine bA ?_ _); exact BK293.out) hb; have n2_ := blkB BK294 (by (with_reducible repeat first | refine bN ?_ _ | refine bD ?_ | refine bA ?_ _); exact BK294.out) hb; have n3_ := blkB BK295 (by (with_reducible repeat first | refine bN ?_ _ | refine bD ?_ | refine bA ?_ _); exact BK295.out) hb; have n4_ := Aside0.mk (below_step (by repeat (first | (with_reducible first | exact HB.out | apply below_alloc | apply pw_below_drewN | apply below_drew1 | refine below_set ?_ GE295.out) | exact HB.out)) hb); clear BK292 BK293 BK294 BK295 HB; have BK292 := n0_; have BK293 := n1_; have BK294 := n2_; have BK295 := n3_; have HB := n4_; clear n0_ n1_ n2_ n3_ n4_; (try clear hb); have hcz20_0 : w19.cell? ⟨gb292, 0, none⟩ = some (.string a0_0) := (blk_cell BK292.out 0).trans rfl; have hcz20_1 : w19.cell? ⟨gb292, 1, none⟩ = some (.int .i64 a0_1) := (blk_cell BK292.out 1).trans rfl; have hcz20_2 : w19.cell? ⟨gb292, 2, none⟩ = some (.int .i64 a0_2) := (blk_cell BK292.out 2).trans rfl; have hcz20_3 : w19.cell? ⟨gb292, 3, none⟩ = some (.int .i64 a0_3) := (blk_cell BK292.out 3).trans rfl; have hfz20_0 := blk_frozen BK292.out 0; have hfz20_1 := blk_frozen BK292.out 1; have hfz20_2 := blk_frozen BK292.out 2; have hfz20_3 := blk_frozen BK292.out 3; have hnb21 := NB294_295.out; have hnc21 := NB295_294.out; have hcz22_0 : w19.cell? ⟨gb294, 0, none⟩ = some (.int .i64 a2_0) := (blk_cell BK294.out 0).trans rfl; have hcz22_1 : w19.cell? ⟨gb294, 1, none⟩ = some (.int .i64 a2_1) := (blk_cell BK294.out 1).trans rfl; have hfz22_0 := blk_frozen BK294.out 0; have hfz22_1 := blk_frozen BK294.out 1) | (go_at_call 21; (with_reducible refine (clusterlocksref04_Permitted.calls a0_0 a0_1 a0_2 a0_3 a2_0 a2_1 t297 _ A11.out).mono ?_); rintro e w23 ⟨rfl, hb⟩; have n0_ := blkB BK292 (by (with_reducible repeat first | refine bN ?_ _ | refine bD ?_ | refine bA ?_ _); exact BK292.out) hb; have n1_ := blkB BK293 (by (with_reducible repeat first | refine bN ?_ _ | refine bD ?_ | refine bA ?_ _); exact BK293.out) hb; have n2_ := blkB BK294 (by (with_reducible repeat first | refine bN ?_ _ | refine bD ?_ | refine bA ?_ _); exact BK294.out) hb; have n3_ := blkB BK295 (by (with_reducible repeat first | refine bN ?_ _ | refine bD ?_ | refine bA ?_ _); exact BK295.out) hb; have n4_ := Aside0.mk (below_step (by repeat (first | (with_reducible first | exact HB.out | apply below_alloc | apply pw_below_drewN | apply below_drew1 | refine below_set ?_ GE295.out) | exact HB.out)) hb); clear BK292 BK293 BK294 BK295 HB; have BK292 := n0_; have BK293 := n1_; have BK294 := n2_; have BK295 := n3_; have HB := n4_; clear n0_ n1_ n2_ n3_ n4_; (try clear hb)))
   go_meet
   case rel => exact ⟨_, (!t297), (by first | rfl | (simp; done) | (simp [*]; done)), H', ⟨by first | omega | exact Nat.le_refl _⟩, ⟨by (with_reducible repeat first | refine bN ?_ _ | refine bD ?_ | refine bA ?_ _); exact BK292.out⟩, ⟨by (with_reducible repeat first | refine bN ?_ _ | refine bD ?_ | refine bA ?_ _); exact BK293.out⟩, ⟨by (with_reducible repeat first | refine bN ?_ _ | refine bD ?_ | refine bA ?_ _); exact BK294.out⟩, ⟨by (with_reducible repeat first | refine bN ?_ _ | refine bD ?_ | refine bA ?_ _); exact BK295.out⟩, ⟨by repeat (first | (with_reducible first | exact HB.out | apply below_alloc | apply pw_below_drewN | apply below_drew1 | refine below_set ?_ GE295.out) | exact HB.out)⟩⟩
  ·replace c10 := Bool.eq_false_iff.mpr c10
   subst c10
   have H1 : (clusterlocksref04_Join.j0 k true a0_0 a0_1 a0_2 a0_3 a1_0 a1_1 a2_0 a2_1) = some (r1, r2) := by rw [if_neg (show ¬ (false = true) by decide)] at H; exact H
   clear H
   have H := H1
   clear H1
   have H' := Aside0.mk H
   clear H
   have hnb24 := NB292_293.out
   have hnc24 := NB293_292.out
   have hnb25 := NB292_294.out
   have hnc25 := NB294_292.out
   have hnb26 := NB292_295.out
   have hnc26 := NB295_292.out
   have hcz27_0 : w8.cell? ⟨gb292, 0, none⟩ = some (.string a0_0) := (blk_cell BK292.out 0).trans rfl
   have hcz27_1 : w8.cell? ⟨gb292, 1, none⟩ = some (.int .i64 a0_1) := (blk_cell BK292.out 1).trans rfl
   have hcz27_2 : w8.cell? ⟨gb292, 2, none⟩ = some (.int .i64 a0_2) := (blk_cell BK292.out 2).trans rfl
   have hcz27_3 : w8.cell? ⟨gb292, 3, none⟩ = some (.int .i64 a0_3) := (blk_cell BK292.out 3).trans rfl
   have hfz27_0 := blk_frozen BK292.out 0
   have hfz27_1 := blk_frozen BK292.out 1
   have hfz27_2 := blk_frozen BK292.out 2
   have hfz27_3 := blk_frozen BK292.out 3
   have hnb28 := NB293_294.out
   have hnc28 := NB294_293.out
   have hnb29 := NB293_295.out
   have hnc29 := NB295_293.out
   have hcz30_0 : w8.cell? ⟨gb293, 0, none⟩ = some (.int .i64 a1_0) := (blk_cell BK293.out 0).trans rfl
   have hcz30_1 : w8.cell? ⟨gb293, 1, none⟩ = some (.int .i64 a1_1) := (blk_cell BK293.out 1).trans rfl
   have hfz30_0 := blk_frozen BK293.out 0
   have hfz30_1 := blk_frozen BK293.out 1
   go_wp2_with (first | ((with_reducible refine gate_callee (f := 21) rfl ?_); refine goesL_ (some 9) rfl rfl Tryd.func21 (by kernel_rfl) rfl #[.agg #[.string a0_0, .int .i64 a0_1, .int .i64 a0_2, .int .i64 a0_3], .agg #[.int .i64 a1_0, .int .i64 a1_1]] rfl (by (try simp only [List.map_toArray, List.map_cons, List.map_nil]); first | done | rfl | (simp only [List.length_drop, List.length_take]; rfl)) ?_; (with_reducible refine (clusterlocksref04_Permitted.calls a0_0 a0_1 a0_2 a0_3 a1_0 a1_1 false _ A9.out).mono ?_); rintro e w31 ⟨rfl, hb⟩; refine ⟨_, rfl, ?_⟩; have n0_ := blkB BK292 (by (with_reducible repeat first | refine bN ?_ _ | refine bD ?_ | refine bA ?_ _); exact BK292.out) hb; have n1_ := blkB BK293 (by (with_reducible repeat first | refine bN ?_ _ | refine bD ?_ | refine bA ?_ _); exact BK293.out) hb; have n2_ := blkB BK294 (by (with_reducible repeat first | refine bN ?_ _ | refine bD ?_ | refine bA ?_ _); exact BK294.out) hb; have n3_ := blkB BK295 (by (with_reducible repeat first | refine bN ?_ _ | refine bD ?_ | refine bA ?_ _); exact BK295.out) hb; have n4_ := Aside0.mk (below_step (by repeat (first | (with_reducible first | exact HB.out | apply below_alloc | apply pw_below_drewN | apply below_drew1 | refine below_set ?_ GE295.out) | exact HB.out)) hb); clear BK292 BK293 BK294 BK295 HB; have BK292 := n0_; have BK293 := n1_; have BK294 := n2_; have BK295 := n3_; have HB := n4_; clear n0_ n1_ n2_ n3_ n4_; (try clear hb)))
   go_meet
   case rel => exact ⟨_, (true), (by first | rfl | (simp; done) | (simp [*]; done)), H', ⟨by first | omega | exact Nat.le_refl _⟩, ⟨by (with_reducible repeat first | refine bN ?_ _ | refine bD ?_ | refine bA ?_ _); exact BK292.out⟩, ⟨by (with_reducible repeat first | refine bN ?_ _ | refine bD ?_ | refine bA ?_ _); exact BK293.out⟩, ⟨by (with_reducible repeat first | refine bN ?_ _ | refine bD ?_ | refine bA ?_ _); exact BK294.out⟩, ⟨by (with_reducible repeat first | refine bN ?_ _ | refine bD ?_ | refine bA ?_ _); exact BK295.out⟩, ⟨by repeat (first | (with_reducible first | exact HB.out | apply below_alloc | apply pw_below_drewN | apply below_drew1 | refine below_set ?_ GE295.out) | exact HB.out)⟩⟩
 case rest =>
  clear HC4
  try clear c1
  try clear c2
  try clear p2
  try clear c10
  try clear c12
  try clear c13
  try clear c14
  try clear c16
  try clear c17
  try clear c21
  try clear c24
  try clear c25
  try clear c26
  try clear c28
  try clear c29
  try clear hcz15_0
  try clear hcz15_1
  try clear hcz15_2
  try clear hcz15_3
  try clear hcz18_0
  try clear hcz18_1
  try clear hcz20_0
  try clear hcz20_1
  try clear hcz20_2
  try clear hcz20_3
  try clear hcz22_0
  try clear hcz22_1
  try clear hcz27_0
  try clear hcz27_1
  try clear hcz27_2
  try clear hcz27_3
  try clear hcz30_0
  try clear hcz30_1
  try clear hfz15_0
  try clear hfz15_1
  try clear hfz15_2
  try clear hfz15_3
  try clear hfz18_0
  try clear hfz18_1
  try clear hfz20_0
  try clear hfz20_1
  try clear hfz20_2
  try clear hfz20_3
  try clear hfz22_0
  try clear hfz22_1
  try clear hfz27_0
  try clear hfz27_1
  try clear hfz27_2
  try clear hfz27_3
  try clear hfz30_0
  try clear hfz30_1
  obtain ⟨kq, x16_3, rfl, HA, HJ3, BK292, BK293, BK294, BK295, HB⟩ := hcut
  cases kq with
  | zero => exact absurd HA.out (by simp [clusterlocksref04_Join.j0])
  | succ kj3 =>
   have H := HA.out
   clear HA
   simp only [clusterlocksref04_Join.j0] at H
   by_cases c32 : x16_3 = true
   ·subst c32
    have H1 : (some (0, 0)) = some (r1, r2) := by rw [if_pos rfl] at H; exact H
    clear H
    have H := H1
    clear H1
    simp only [Option.some.injEq, Prod.mk.injEq] at H
    obtain ⟨rfl, rfl⟩ := H
    have hnb33 := NB295_292.out
    have hnc33 := NB292_295.out
    have hnb34 := NB295_293.out
    have hnc34 := NB293_295.out
    have hnb35 := NB295_294.out
    have hnc35 := NB294_295.out
    have hcz36_0 : wc.cell? ⟨gb295, 0, none⟩ = some (.int .i64 0) := (blk_cell BK295.out 0).trans rfl
    have hcz36_1 : wc.cell? ⟨gb295, 1, none⟩ = some (.int .i64 0) := (blk_cell BK295.out 1).trans rfl
    have hfz36_0 := blk_frozen BK295.out 0
    have hfz36_1 := blk_frozen BK295.out 1
    go_wp2
    refine bodyPost_ret (results_cell_row rfl _ _ gb295 25 #[.int .i64 0, .int .i64 0] (0, 0) _ rfl (by (with_reducible repeat first | refine bN ?_ _ | refine bD ?_ | refine bA ?_ _); refine blk_put (cs := #[.int .i64 0, .int .i64 0]) ?_ 1 _ rfl; (with_reducible repeat first | refine bN ?_ _ | refine bD ?_ | refine bA ?_ _); refine blk_put (cs := #[.int .i64 0, .int .i64 0]) ?_ 0 _ rfl; (with_reducible repeat first | refine bN ?_ _ | refine bD ?_ | refine bA ?_ _); exact BK295.out) Tryd.underlying25 rfl (by kernel_rfl)) rfl ?_
    exact ⟨by first | rfl | (simp [errW_none, errW_some] <;> rfl) | (simp [*, errW_none, errW_some] <;> rfl), by repeat (first | (with_reducible first | exact HB.out | apply below_alloc | apply pw_below_drewN | apply below_drew1 | refine below_set ?_ GE295.out) | exact HB.out)⟩
   ·replace c32 := Bool.eq_false_iff.mpr c32
    subst c32
    have H1 : ((clusterlocksref04_Covers.f kj3 a0_0 a0_1 a0_2 a0_3 a1_0 a1_1 a2_0 a2_1).bind fun t298 => (if t298 = true then (some (a1_0, a1_1)) else ((clusterlocksref04_Covers.f kj3 a0_0 a0_1 a0_2 a0_3 a2_0 a2_1 a1_0 a1_1).bind fun t299 => (if t299 = true then (some (a2_0, a2_1)) else ((clusterlocksref03_Sup.f kj3 a1_0 a2_0).bind fun t300 => (some (t300, 0))))))) = some (r1, r2) := by rw [if_neg (show ¬ (false = true) by decide)] at H; exact H
    clear H
    have H := H1
    clear H1
    replace H := Option.bind_eq_some_iff.mp H
    obtain ⟨t298, A370, H⟩ := H
    replace H : (if t298 = true then (some (a1_0, a1_1)) else ((clusterlocksref04_Covers.f kj3 a0_0 a0_1 a0_2 a0_3 a2_0 a2_1 a1_0 a1_1).bind fun t299 => (if t299 = true then (some (a2_0, a2_1)) else ((clusterlocksref03_Sup.f kj3 a1_0 a2_0).bind fun t300 => (some (t300, 0)))))) = some (r1, r2) := H
    have A37 := Aside0.mk A370
    clear A370
    by_cases c38 : t298 = true
    ·subst c38
     have H1 : (some (a1_0, a1_1)) = some (r1, r2) := by rw [if_pos rfl] at H; exact H
     clear H
     have H := H1
     clear H1
     simp only [Option.some.injEq, Prod.mk.injEq] at H
     obtain ⟨rfl, rfl⟩ := H
     have hnb39 := NB292_293.out
     have hnc39 := NB293_292.out
     have hnb40 := NB292_294.out
     have hnc40 := NB294_292.out
     have hnb41 := NB292_295.out
     have hnc41 := NB295_292.out
     have hcz42_0 : wc.cell? ⟨gb292, 0, none⟩ = some (.string a0_0) := (blk_cell BK292.out 0).trans rfl
     have hcz42_1 : wc.cell? ⟨gb292, 1, none⟩ = some (.int .i64 a0_1) := (blk_cell BK292.out 1).trans rfl
     have hcz42_2 : wc.cell? ⟨gb292, 2, none⟩ = some (.int .i64 a0_2) := (blk_cell BK292.out 2).trans rfl
     have hcz42_3 : wc.cell? ⟨gb292, 3, none⟩ = some (.int .i64 a0_3) := (blk_cell BK292.out 3).trans rfl
     have hfz42_0 := blk_frozen BK292.out 0
     have hfz42_1 := blk_frozen BK292.out 1
     have hfz42_2 := blk_frozen BK292.out 2
     have hfz42_3 := blk_frozen BK292.out 3
     have hnb43 := NB293_294.out
     have hnc43 := NB294_293.out
     have hnb44 := NB293_295.out
     have hnc44 := NB295_293.out
     have hcz45_0 : wc.cell? ⟨gb293, 0, none⟩ = some (.int .i64 a1_0) := (blk_cell BK293.out 0).trans rfl
     have hcz45_1 : wc.cell? ⟨gb293, 1, none⟩ = some (.int .i64 a1_1) := (blk_cell BK293.out 1).trans rfl
     have hfz45_0 := blk_frozen BK293.out 0
     have hfz45_1 := blk_frozen BK293.out 1
     have hnb46 := NB294_295.out
     have hnc46 := NB295_294.out
     have hcz47_0 : wc.cell? ⟨gb294, 0, none⟩ = some (.int .i64 a2_0) := (blk_cell BK294.out 0).trans rfl
     have hcz47_1 : wc.cell? ⟨gb294, 1, none⟩ = some (.int .i64 a2_1) := (blk_cell BK294.out 1).trans rfl
     have hfz47_0 := blk_frozen BK294.out 0
     have hfz47_1 := blk_frozen BK294.out 1
     go_wp2_with (first | ((with_reducible refine gate_callee (f := 27) rfl ?_); refine goesL_ (some 21) rfl rfl Tryd.func27 (by kernel_rfl) rfl #[.agg #[.string a0_0, .int .i64 a0_1, .int .i64 a0_2, .int .i64 a0_3], .agg #[.int .i64 a1_0, .int .i64 a1_1], .agg #[.int .i64 a2_0, .int .i64 a2_1]] rfl (by (try simp only [List.map_toArray, List.map_cons, List.map_nil]); first | done | rfl | (simp only [List.length_drop, List.length_take]; rfl)) ?_; (with_reducible refine (clusterlocksref04_Covers.calls kj3 a0_0 a0_1 a0_2 a0_3 a1_0 a1_1 a2_0 a2_1 true _ A37.out).mono ?_); rintro e w48 ⟨rfl, hb⟩; refine ⟨_, rfl, ?_⟩; have n0_ := blkB BK292 (by (with_reducible repeat first | refine bN ?_ _ | refine bD ?_ | refine bA ?_ _); exact BK292.out) hb; have n1_ := blkB BK293 (by (with_reducible repeat first | refine bN ?_ _ | refine bD ?_ | refine bA ?_ _); exact BK293.out) hb; have n2_ := blkB BK294 (by (with_reducible repeat first | refine bN ?_ _ | refine bD ?_ | refine bA ?_ _); exact BK294.out) hb; have n3_ := blkB BK295 (by (with_reducible repeat first | refine bN ?_ _ | refine bD ?_ | refine bA ?_ _); exact BK295.out) hb; have n4_ := Aside0.mk (below_step (by repeat (first | (with_reducible first | exact HB.out | apply below_alloc | apply pw_below_drewN | apply below_drew1 | refine below_set ?_ GE295.out) | exact HB.out)) hb); clear BK292 BK293 BK294 BK295 HB; have BK292 := n0_; have BK293 := n1_; have BK294 := n2_; have BK295 := n3_; have HB := n4_; clear n0_ n1_ n2_ n3_ n4_; (try clear hb); have hcz49_0 : w48.cell? ⟨gb293, 0, none⟩ = some (.int .i64 a1_0) := (blk_cell BK293.out 0).trans rfl; have hcz49_1 : w48.cell? ⟨gb293, 1, none⟩ = some (.int .i64 a1_1) := (blk_cell BK293.out 1).trans rfl; have hfz49_0 := blk_frozen BK293.out 0; have hfz49_1 := blk_frozen BK293.out 1; have hcz50_0 : w48.cell? ⟨gb295, 0, none⟩ = some (.int .i64 0) := (blk_cell BK295.out 0).trans rfl; have hcz50_1 : w48.cell? ⟨gb295, 1, none⟩ = some (.int .i64 0) := (blk_cell BK295.out 1).trans rfl; have hfz50_0 := blk_frozen BK295.out 0; have hfz50_1 := blk_frozen BK295.out 1))
     refine bodyPost_ret (results_cell_row rfl _ _ gb295 25 #[.int .i64 a1_0, .int .i64 a1_1] (0, 0) _ rfl (by (with_reducible repeat first | refine bN ?_ _ | refine bD ?_ | refine bA ?_ _); refine blk_put (cs := #[.int .i64 a1_0, .int .i64 0]) ?_ 1 _ rfl; (with_reducible repeat first | refine bN ?_ _ | refine bD ?_ | refine bA ?_ _); refine blk_put (cs := #[.int .i64 0, .int .i64 0]) ?_ 0 _ rfl; (with_reducible repeat first | refine bN ?_ _ | refine bD ?_ | refine bA ?_ _); exact BK295.out) Tryd.underlying25 rfl (by kernel_rfl)) rfl ?_
     exact ⟨by first | rfl | (simp [errW_none, errW_some] <;> rfl) | (simp [*, errW_none, errW_some] <;> rfl), by repeat (first | (with_reducible first | exact HB.out | apply below_alloc | apply pw_below_drewN | apply below_drew1 | refine below_set ?_ GE295.out) | exact HB.out)⟩
    ·replace c38 := Bool.eq_false_iff.mpr c38
     subst c38
     have H1 : ((clusterlocksref04_Covers.f kj3 a0_0 a0_1 a0_2 a0_3 a2_0 a2_1 a1_0 a1_1).bind fun t299 => (if t299 = true then (some (a2_0, a2_1)) else ((clusterlocksref03_Sup.f kj3 a1_0 a2_0).bind fun t300 => (some (t300, 0))))) = some (r1, r2) := by rw [if_neg (show ¬ (false = true) by decide)] at H; exact H
     clear H
     have H := H1
     clear H1
     replace H := Option.bind_eq_some_iff.mp H
     obtain ⟨t299, A510, H⟩ := H
     replace H : (if t299 = true then (some (a2_0, a2_1)) else ((clusterlocksref03_Sup.f kj3 a1_0 a2_0).bind fun t300 => (some (t300, 0)))) = some (r1, r2) := H
     have A51 := Aside0.mk A510
     clear A510
     by_cases c52 : t299 = true
     ·subst c52
      have H1 : (some (a2_0, a2_1)) = some (r1, r2) := by rw [if_pos rfl] at H; exact H
      clear H
      have H := H1
      clear H1
      simp only [Option.some.injEq, Prod.mk.injEq] at H
      obtain ⟨rfl, rfl⟩ := H
      have hnb53 := NB292_293.out
      have hnc53 := NB293_292.out
      have hnb54 := NB292_294.out
      have hnc54 := NB294_292.out
      have hnb55 := NB292_295.out
      have hnc55 := NB295_292.out
      have hcz56_0 : wc.cell? ⟨gb292, 0, none⟩ = some (.string a0_0) := (blk_cell BK292.out 0).trans rfl
      have hcz56_1 : wc.cell? ⟨gb292, 1, none⟩ = some (.int .i64 a0_1) := (blk_cell BK292.out 1).trans rfl
      have hcz56_2 : wc.cell? ⟨gb292, 2, none⟩ = some (.int .i64 a0_2) := (blk_cell BK292.out 2).trans rfl
      have hcz56_3 : wc.cell? ⟨gb292, 3, none⟩ = some (.int .i64 a0_3) := (blk_cell BK292.out 3).trans rfl
      have hfz56_0 := blk_frozen BK292.out 0
      have hfz56_1 := blk_frozen BK292.out 1
      have hfz56_2 := blk_frozen BK292.out 2
      have hfz56_3 := blk_frozen BK292.out 3
      have hnb57 := NB293_294.out
      have hnc57 := NB294_293.out
      have hnb58 := NB293_295.out
      have hnc58 := NB295_293.out
      have hcz59_0 : wc.cell? ⟨gb293, 0, none⟩ = some (.int .i64 a1_0) := (blk_cell BK293.out 0).trans rfl
      have hcz59_1 : wc.cell? ⟨gb293, 1, none⟩ = some (.int .i64 a1_1) := (blk_cell BK293.out 1).trans rfl
      have hfz59_0 := blk_frozen BK293.out 0
      have hfz59_1 := blk_frozen BK293.out 1
      have hnb60 := NB294_295.out
      have hnc60 := NB295_294.out
      have hcz61_0 : wc.cell? ⟨gb294, 0, none⟩ = some (.int .i64 a2_0) := (blk_cell BK294.out 0).trans rfl
      have hcz61_1 : wc.cell? ⟨gb294, 1, none⟩ = some (.int .i64 a2_1) := (blk_cell BK294.out 1).trans rfl
      have hfz61_0 := blk_frozen BK294.out 0
      have hfz61_1 := blk_frozen BK294.out 1
      go_wp2_with (first | ((with_reducible refine gate_callee (f := 27) rfl ?_); refine goesL_ (some 21) rfl rfl Tryd.func27 (by kernel_rfl) rfl #[.agg #[.string a0_0, .int .i64 a0_1, .int .i64 a0_2, .int .i64 a0_3], .agg #[.int .i64 a1_0, .int .i64 a1_1], .agg #[.int .i64 a2_0, .int .i64 a2_1]] rfl (by (try simp only [List.map_toArray, List.map_cons, List.map_nil]); first | done | rfl | (simp only [List.length_drop, List.length_take]; rfl)) ?_; (with_reducible refine (clusterlocksref04_Covers.calls kj3 a0_0 a0_1 a0_2 a0_3 a1_0 a1_1 a2_0 a2_1 false _ A37.out).mono ?_); rintro e w62 ⟨rfl, hb⟩; refine ⟨_, rfl, ?_⟩; have n0_ := blkB BK292 (by (with_reducible repeat first | refine bN ?_ _ | refine bD ?_ | refine bA ?_ _); exact BK292.out) hb; have n1_ := blkB BK293 (by (with_reducible repeat first | refine bN ?_ _ | refine bD ?_ | refine bA ?_ _); exact BK293.out) hb; have n2_ := blkB BK294 (by (with_reducible repeat first | refine bN ?_ _ | refine bD ?_ | refine bA ?_ _); exact BK294.out) hb; have n3_ := blkB BK295 (by (with_reducible repeat first | refine bN ?_ _ | refine bD ?_ | refine bA ?_ _); exact BK295.out) hb; have n4_ := Aside0.mk (below_step (by repeat (first | (with_reducible first | exact HB.out | apply below_alloc | apply pw_below_drewN | apply below_drew1 | refine below_set ?_ GE295.out) | exact HB.out)) hb); clear BK292 BK293 BK294 BK295 HB; have BK292 := n0_; have BK293 := n1_; have BK294 := n2_; have BK295 := n3_; have HB := n4_; clear n0_ n1_ n2_ n3_ n4_; (try clear hb); have hcz63_0 : w62.cell? ⟨gb292, 0, none⟩ = some (.string a0_0) := (blk_cell BK292.out 0).trans rfl; have hcz63_1 : w62.cell? ⟨gb292, 1, none⟩ = some (.int .i64 a0_1) := (blk_cell BK292.out 1).trans rfl; have hcz63_2 : w62.cell? ⟨gb292, 2, none⟩ = some (.int .i64 a0_2) := (blk_cell BK292.out 2).trans rfl; have hcz63_3 : w62.cell? ⟨gb292, 3, none⟩ = some (.int .i64 a0_3) := (blk_cell BK292.out 3).trans rfl; have hfz63_0 := blk_frozen BK292.out 0; have hfz63_1 := blk_frozen BK292.out 1; have hfz63_2 := blk_frozen BK292.out 2; have hfz63_3 := blk_frozen BK292.out 3; have hcz64_0 : w62.cell? ⟨gb294, 0, none⟩ = some (.int .i64 a2_0) := (blk_cell BK294.out 0).trans rfl; have hcz64_1 : w62.cell? ⟨gb294, 1, none⟩ = some (.int .i64 a2_1) := (blk_cell BK294.out 1).trans rfl; have hfz64_0 := blk_frozen BK294.out 0; have hfz64_1 := blk_frozen BK294.out 1; have hcz65_0 : w62.cell? ⟨gb293, 0, none⟩ = some (.int .i64 a1_0) := (blk_cell BK293.out 0).trans rfl; have hcz65_1 : w62.cell? ⟨gb293, 1, none⟩ = some (.int .i64 a1_1) := (blk_cell BK293.out 1).trans rfl; have hfz65_0 := blk_frozen BK293.out 0; have hfz65_1 := blk_frozen BK293.out 1) | ((with_reducible refine gate_callee (f := 27) rfl ?_); refine goesL_ (some 26) rfl rfl Tryd.func27 (by kernel_rfl) rfl #[.agg #[.string a0_0, .int .i64 a0_1, .int .i64 a0_2, .int .i64 a0_3], .agg #[.int .i64 a2_0, .int .i64 a2_1], .agg #[.int .i64 a1_0, .int .i64 a1_1]] rfl (by (try simp only [List.map_toArray, List.map_cons, List.map_nil]); first | done | rfl | (simp only [List.length_drop, List.length_take]; rfl)) ?_; (with_reducible refine (clusterlocksref04_Covers.calls kj3 a0_0 a0_1 a0_2 a0_3 a2_0 a2_1 a1_0 a1_1 true _ A51.out).mono ?_); rintro e w66 ⟨rfl, hb⟩; refine ⟨_, rfl, ?_⟩; have n0_ := blkB BK292 (by (with_reducible repeat first | refine bN ?_ _ | refine bD ?_ | refine bA ?_ _); exact BK292.out) hb; have n1_ := blkB BK293 (by (with_reducible repeat first | refine bN ?_ _ | refine bD ?_ | refine bA ?_ _); exact BK293.out) hb; have n2_ := blkB BK294 (by (with_reducible repeat first | refine bN ?_ _ | refine bD ?_ | refine bA ?_ _); exact BK294.out) hb; have n3_ := blkB BK295 (by (with_reducible repeat first | refine bN ?_ _ | refine bD ?_ | refine bA ?_ _); exact BK295.out) hb; have n4_ := Aside0.mk (below_step (by repeat (first | (with_reducible first | exact HB.out | apply below_alloc | apply pw_below_drewN | apply below_drew1 | refine below_set ?_ GE295.out) | exact HB.out)) hb); clear BK292 BK293 BK294 BK295 HB; have BK292 := n0_; have BK293 := n1_; have BK294 := n2_; have BK295 := n3_; have HB := n4_; clear n0_ n1_ n2_ n3_ n4_; (try clear hb); have hcz67_0 : w66.cell? ⟨gb294, 0, none⟩ = some (.int .i64 a2_0) := (blk_cell BK294.out 0).trans rfl; have hcz67_1 : w66.cell? ⟨gb294, 1, none⟩ = some (.int .i64 a2_1) := (blk_cell BK294.out 1).trans rfl; have hfz67_0 := blk_frozen BK294.out 0; have hfz67_1 := blk_frozen BK294.out 1; have hcz68_0 : w66.cell? ⟨gb295, 0, none⟩ = some (.int .i64 0) := (blk_cell BK295.out 0).trans rfl; have hcz68_1 : w66.cell? ⟨gb295, 1, none⟩ = some (.int .i64 0) := (blk_cell BK295.out 1).trans rfl; have hfz68_0 := blk_frozen BK295.out 0; have hfz68_1 := blk_frozen BK295.out 1))
      refine bodyPost_ret (results_cell_row rfl _ _ gb295 25 #[.int .i64 a2_0, .int .i64 a2_1] (0, 0) _ rfl (by (with_reducible repeat first | refine bN ?_ _ | refine bD ?_ | refine bA ?_ _); refine blk_put (cs := #[.int .i64 a2_0, .int .i64 0]) ?_ 1 _ rfl; (with_reducible repeat first | refine bN ?_ _ | refine bD ?_ | refine bA ?_ _); refine blk_put (cs := #[.int .i64 0, .int .i64 0]) ?_ 0 _ rfl; (with_reducible repeat first | refine bN ?_ _ | refine bD ?_ | refine bA ?_ _); exact BK295.out) Tryd.underlying25 rfl (by kernel_rfl)) rfl ?_
      exact ⟨by first | rfl | (simp [errW_none, errW_some] <;> rfl) | (simp [*, errW_none, errW_some] <;> rfl), by repeat (first | (with_reducible first | exact HB.out | apply below_alloc | apply pw_below_drewN | apply below_drew1 | refine below_set ?_ GE295.out) | exact HB.out)⟩
     ·replace c52 := Bool.eq_false_iff.mpr c52
      subst c52
      have H1 : ((clusterlocksref03_Sup.f kj3 a1_0 a2_0).bind fun t300 => (some (t300, 0))) = some (r1, r2) := by rw [if_neg (show ¬ (false = true) by decide)] at H; exact H
      clear H
      have H := H1
      clear H1
      replace H := Option.bind_eq_some_iff.mp H
      obtain ⟨t300, A690, H⟩ := H
      replace H : (some (t300, 0)) = some (r1, r2) := H
      have A69 := Aside0.mk A690
      clear A690
      simp only [Option.some.injEq, Prod.mk.injEq] at H
      obtain ⟨rfl, rfl⟩ := H
      have hnb70 := NB292_293.out
      have hnc70 := NB293_292.out
      have hnb71 := NB292_294.out
      have hnc71 := NB294_292.out
      have hnb72 := NB292_295.out
      have hnc72 := NB295_292.out
      have hcz73_0 : wc.cell? ⟨gb292, 0, none⟩ = some (.string a0_0) := (blk_cell BK292.out 0).trans rfl
      have hcz73_1 : wc.cell? ⟨gb292, 1, none⟩ = some (.int .i64 a0_1) := (blk_cell BK292.out 1).trans rfl
      have hcz73_2 : wc.cell? ⟨gb292, 2, none⟩ = some (.int .i64 a0_2) := (blk_cell BK292.out 2).trans rfl
      have hcz73_3 : wc.cell? ⟨gb292, 3, none⟩ = some (.int .i64 a0_3) := (blk_cell BK292.out 3).trans rfl
      have hfz73_0 := blk_frozen BK292.out 0
      have hfz73_1 := blk_frozen BK292.out 1
      have hfz73_2 := blk_frozen BK292.out 2
      have hfz73_3 := blk_frozen BK292.out 3
      have hnb74 := NB293_294.out
      have hnc74 := NB294_293.out
      have hnb75 := NB293_295.out
      have hnc75 := NB295_293.out
      have hcz76_0 : wc.cell? ⟨gb293, 0, none⟩ = some (.int .i64 a1_0) := (blk_cell BK293.out 0).trans rfl
      have hcz76_1 : wc.cell? ⟨gb293, 1, none⟩ = some (.int .i64 a1_1) := (blk_cell BK293.out 1).trans rfl
      have hfz76_0 := blk_frozen BK293.out 0
      have hfz76_1 := blk_frozen BK293.out 1
      have hnb77 := NB294_295.out
      have hnc77 := NB295_294.out
      have hcz78_0 : wc.cell? ⟨gb294, 0, none⟩ = some (.int .i64 a2_0) := (blk_cell BK294.out 0).trans rfl
      have hcz78_1 : wc.cell? ⟨gb294, 1, none⟩ = some (.int .i64 a2_1) := (blk_cell BK294.out 1).trans rfl
      have hfz78_0 := blk_frozen BK294.out 0
      have hfz78_1 := blk_frozen BK294.out 1
      go_wp2_with (first | ((with_reducible refine gate_callee (f := 27) rfl ?_); refine goesL_ (some 21) rfl rfl Tryd.func27 (by kernel_rfl) rfl #[.agg #[.string a0_0, .int .i64 a0_1, .int .i64 a0_2, .int .i64 a0_3], .agg #[.int .i64 a1_0, .int .i64 a1_1], .agg #[.int .i64 a2_0, .int .i64 a2_1]] rfl (by (try simp only [List.map_toArray, List.map_cons, List.map_nil]); first | done | rfl | (simp only [List.length_drop, List.length_take]; rfl)) ?_; (with_reducible refine (clusterlocksref04_Covers.calls kj3 a0_0 a0_1 a0_2 a0_3 a1_0 a1_1 a2_0 a2_1 false _ A37.out).mono ?_); rintro e w79 ⟨rfl, hb⟩; refine ⟨_, rfl, ?_⟩; have n0_ := blkB BK292 (by (with_reducible repeat first | refine bN ?_ _ | refine bD ?_ | refine bA ?_ _); exact BK292.out) hb; have n1_ := blkB BK293 (by (with_reducible repeat first | refine bN ?_ _ | refine bD ?_ | refine bA ?_ _); exact BK293.out) hb; have n2_ := blkB BK294 (by (with_reducible repeat first | refine bN ?_ _ | refine bD ?_ | refine bA ?_ _); exact BK294.out) hb; have n3_ := blkB BK295 (by (with_reducible repeat first | refine bN ?_ _ | refine bD ?_ | refine bA ?_ _); exact BK295.out) hb; have n4_ := Aside0.mk (below_step (by repeat (first | (with_reducible first | exact HB.out | apply below_alloc | apply pw_below_drewN | apply below_drew1 | refine below_set ?_ GE295.out) | exact HB.out)) hb); clear BK292 BK293 BK294 BK295 HB; have BK292 := n0_; have BK293 := n1_; have BK294 := n2_; have BK295 := n3_; have HB := n4_; clear n0_ n1_ n2_ n3_ n4_; (try clear hb); have hcz80_0 : w79.cell? ⟨gb292, 0, none⟩ = some (.string a0_0) := (blk_cell BK292.out 0).trans rfl; have hcz80_1 : w79.cell? ⟨gb292, 1, none⟩ = some (.int .i64 a0_1) := (blk_cell BK292.out 1).trans rfl; have hcz80_2 : w79.cell? ⟨gb292, 2, none⟩ = some (.int .i64 a0_2) := (blk_cell BK292.out 2).trans rfl; have hcz80_3 : w79.cell? ⟨gb292, 3, none⟩ = some (.int .i64 a0_3) := (blk_cell BK292.out 3).trans rfl; have hfz80_0 := blk_frozen BK292.out 0; have hfz80_1 := blk_frozen BK292.out 1; have hfz80_2 := blk_frozen BK292.out 2; have hfz80_3 := blk_frozen BK292.out 3; have hcz81_0 : w79.cell? ⟨gb294, 0, none⟩ = some (.int .i64 a2_0) := (blk_cell BK294.out 0).trans rfl; have hcz81_1 : w79.cell? ⟨gb294, 1, none⟩ = some (.int .i64 a2_1) := (blk_cell BK294.out 1).trans rfl; have hfz81_0 := blk_frozen BK294.out 0; have hfz81_1 := blk_frozen BK294.out 1; have hcz82_0 : w79.cell? ⟨gb293, 0, none⟩ = some (.int .i64 a1_0) := (blk_cell BK293.out 0).trans rfl; have hcz82_1 : w79.cell? ⟨gb293, 1, none⟩ = some (.int .i64 a1_1) := (blk_cell BK293.out 1).trans rfl; have hfz82_0 := blk_frozen BK293.out 0; have hfz82_1 := blk_frozen BK293.out 1) | ((with_reducible refine gate_callee (f := 27) rfl ?_); refine goesL_ (some 26) rfl rfl Tryd.func27 (by kernel_rfl) rfl #[.agg #[.string a0_0, .int .i64 a0_1, .int .i64 a0_2, .int .i64 a0_3], .agg #[.int .i64 a2_0, .int .i64 a2_1], .agg #[.int .i64 a1_0, .int .i64 a1_1]] rfl (by (try simp only [List.map_toArray, List.map_cons, List.map_nil]); first | done | rfl | (simp only [List.length_drop, List.length_take]; rfl)) ?_; (with_reducible refine (clusterlocksref04_Covers.calls kj3 a0_0 a0_1 a0_2 a0_3 a2_0 a2_1 a1_0 a1_1 false _ A51.out).mono ?_); rintro e w83 ⟨rfl, hb⟩; refine ⟨_, rfl, ?_⟩; have n0_ := blkB BK292 (by (with_reducible repeat first | refine bN ?_ _ | refine bD ?_ | refine bA ?_ _); exact BK292.out) hb; have n1_ := blkB BK293 (by (with_reducible repeat first | refine bN ?_ _ | refine bD ?_ | refine bA ?_ _); exact BK293.out) hb; have n2_ := blkB BK294 (by (with_reducible repeat first | refine bN ?_ _ | refine bD ?_ | refine bA ?_ _); exact BK294.out) hb; have n3_ := blkB BK295 (by (with_reducible repeat first | refine bN ?_ _ | refine bD ?_ | refine bA ?_ _); exact BK295.out) hb; have n4_ := Aside0.mk (below_step (by repeat (first | (with_reducible first | exact HB.out | apply below_alloc | apply pw_below_drewN | apply below_drew1 | refine below_set ?_ GE295.out) | exact HB.out)) hb); clear BK292 BK293 BK294 BK295 HB; have BK292 := n0_; have BK293 := n1_; have BK294 := n2_; have BK295 := n3_; have HB := n4_; clear n0_ n1_ n2_ n3_ n4_; (try clear hb); have hcz84_0 : w83.cell? ⟨gb293, 0, none⟩ = some (.int .i64 a1_0) := (blk_cell BK293.out 0).trans rfl; have hcz84_1 : w83.cell? ⟨gb293, 1, none⟩ = some (.int .i64 a1_1) := (blk_cell BK293.out 1).trans rfl; have hfz84_0 := blk_frozen BK293.out 0; have hfz84_1 := blk_frozen BK293.out 1; have hcz85_0 : w83.cell? ⟨gb294, 0, none⟩ = some (.int .i64 a2_0) := (blk_cell BK294.out 0).trans rfl; have hcz85_1 : w83.cell? ⟨gb294, 1, none⟩ = some (.int .i64 a2_1) := (blk_cell BK294.out 1).trans rfl; have hfz85_0 := blk_frozen BK294.out 0; have hfz85_1 := blk_frozen BK294.out 1) | ((with_reducible refine gate_callee (f := 42) rfl ?_); refine goesL_ (some 32) rfl rfl Tryd.func42 (by kernel_rfl) rfl #[.int .i64 a1_0, .int .i64 a2_0] rfl (by (try simp only [List.map_toArray, List.map_cons, List.map_nil]); first | done | rfl | (simp only [List.length_drop, List.length_take]; rfl)) ?_; (with_reducible refine (clusterlocksref03_Sup.calls kj3 a1_0 a2_0 t300 _ A69.out).mono ?_); rintro e w' ⟨rfl, ⟨nd, rfl⟩⟩; refine ⟨_, rfl, ?_⟩; (try (rw [drewN_self w83]; generalize hq_ : World.drewN w83 _ = w83; have n0_ : Aside0 (w83.heap[gb292]? = some (.cells #[.string a0_0, .int .i64 a0_1, .int .i64 a0_2, .int .i64 a0_3] 23 (0, 0))) := ⟨by rw [← hq_]; exact (by (with_reducible repeat first | refine bN ?_ _ | refine bD ?_ | refine bA ?_ _); exact BK292.out)⟩; have n1_ : Aside0 (w83.heap[gb293]? = some (.cells #[.int .i64 a1_0, .int .i64 a1_1] 25 (0, 0))) := ⟨by rw [← hq_]; exact (by (with_reducible repeat first | refine bN ?_ _ | refine bD ?_ | refine bA ?_ _); exact BK293.out)⟩; have n2_ : Aside0 (w83.heap[gb294]? = some (.cells #[.int .i64 a2_0, .int .i64 a2_1] 25 (0, 0))) := ⟨by rw [← hq_]; exact (by (with_reducible repeat first | refine bN ?_ _ | refine bD ?_ | refine bA ?_ _); exact BK294.out)⟩; have n3_ : Aside0 (w83.heap[gb295]? = some (.cells #[.int .i64 0, .int .i64 0] 25 (0, 0))) := ⟨by rw [← hq_]; exact (by (with_reducible repeat first | refine bN ?_ _ | refine bD ?_ | refine bA ?_ _); exact BK295.out)⟩; have n4_ : Aside0 (Below w.heap.size w w83) := ⟨by rw [← hq_]; exact (by repeat (first | (with_reducible first | exact HB.out | apply below_alloc | apply pw_below_drewN | apply below_drew1 | refine below_set ?_ GE295.out) | exact HB.out))⟩; clear BK292 BK293 BK294 BK295 HB hq_; have BK292 := n0_; have BK293 := n1_; have BK294 := n2_; have BK295 := n3_; have HB := n4_; clear n0_ n1_ n2_ n3_ n4_)); have hcz86_0 : w83.cell? ⟨gb295, 0, none⟩ = some (.int .i64 0) := (blk_cell BK295.out 0).trans rfl; have hcz86_1 : w83.cell? ⟨gb295, 1, none⟩ = some (.int .i64 0) := (blk_cell BK295.out 1).trans rfl; have hfz86_0 := blk_frozen BK295.out 0; have hfz86_1 := blk_frozen BK295.out 1))
      refine bodyPost_ret (results_cell_row rfl _ _ gb295 25 #[.int .i64 t300, .int .i64 0] (0, 0) _ rfl (by (with_reducible repeat first | refine bN ?_ _ | refine bD ?_ | refine bA ?_ _); refine blk_put (cs := #[.int .i64 t300, .int .i64 0]) ?_ 1 _ rfl; (with_reducible repeat first | refine bN ?_ _ | refine bD ?_ | refine bA ?_ _); refine blk_put (cs := #[.int .i64 0, .int .i64 0]) ?_ 0 _ rfl; (with_reducible repeat first | refine bN ?_ _ | refine bD ?_ | refine bA ?_ _); exact BK295.out) Tryd.underlying25 rfl (by kernel_rfl)) rfl ?_
      exact ⟨by first | rfl | (simp [errW_none, errW_some] <;> rfl) | (simp [*, errW_none, errW_some] <;> rfl), by repeat (first | (with_reducible first | exact HB.out | apply below_alloc | apply pw_below_drewN | apply below_drew1 | refine below_set ?_ GE295.out) | exact HB.out)⟩

end Go.Proofs.YtlkhdhjdcgiciaaDoor.PA
