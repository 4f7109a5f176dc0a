-- Printed by wip/tool/myprint.py for this claim; Lean checks it.
import Derived.Test.YtlkhdhjdcgiciaaDoorPAx0
import Derived.Test.YtlkhdhjdcgiciaaDoorSlim
import Derived.Test.YtlkhdhjdcgiciaaDoorPAx1
import Derived.Test.YtlkhdhjdcgiciaaDoorPAx2
import Derived.Test.YtlkhdhjdcgiciaaDoorPAx4
import Derived.Test.YtlkhdhjdcgiciaaDoorPAx8
import Derived.Test.YtlkhdhjdcgiciaaDoorPAx14
namespace Go.Proofs.YtlkhdhjdcgiciaaDoor.PA
open Go.RowKit Go.Proofs.YtlkhdhjdcgiciaaDoorW.PrintWords Go.Proofs.YtlkhdhjdcgiciaaDoorW.PrintLast Go.Proofs.YtlkhdhjdcgiciaaDoorW.PrintMore
attribute [local go_sem] max2_int min2_int max_two min_two max_three min_three max_four min_four   -- for this text's walks alone
set_option linter.unusedVariables false
set_option linter.unusedSimpArgs false

attribute [local go_sem high] eqA25
/-! ### clusterlockslaw04_AmountLattice: function 9 -/
mutual
def clusterlockslaw04_AmountLattice.j0 : Nat → Bool → ByteArray → Int → Int → Int → Int → Int → Int → Int → Int → Int → Option (Bool)
 | 0, _, _, _, _, _, _, _, _, _, _, _ => none
 | k + 1, x21, x312000, x312001, x312002, x312003, x313000, x313001, x314000, x314001, x315000, x315001 => if x21 = true then (some false) else ((amount_Covers.f k x312000 x312001 x312002 x312003 x313000 x313001 x314000 x314001).bind fun t318 => (if t318 = true then ((amount_Covers.f k x312000 x312001 x312002 x312003 x314000 x314001 x313000 x313001).bind fun t319 => (if t319 = true then (if (!(x313000 == x314000) || (!(x313001 == x314001))) = true then (clusterlockslaw04_AmountLattice.j1 k true x312000 x312001 x312002 x312003 x313000 x313001 x314000 x314001 x315000 x315001) else ((amount_Covers.f k x312000 x312001 x312002 x312003 x313000 x313001 x314000 x314001).bind fun t320 => (if t320 = true then ((amount_Covers.f k x312000 x312001 x312002 x312003 x314000 x314001 x315000 x315001).bind fun t321 => (if t321 = true then ((amount_Covers.f k x312000 x312001 x312002 x312003 x313000 x313001 x315000 x315001).bind fun t322 => (clusterlockslaw04_AmountLattice.j1 k (!t322) x312000 x312001 x312002 x312003 x313000 x313001 x314000 x314001 x315000 x315001)) else (clusterlockslaw04_AmountLattice.j1 k false x312000 x312001 x312002 x312003 x313000 x313001 x314000 x314001 x315000 x315001))) else (clusterlockslaw04_AmountLattice.j1 k false x312000 x312001 x312002 x312003 x313000 x313001 x314000 x314001 x315000 x315001)))) else ((amount_Covers.f k x312000 x312001 x312002 x312003 x313000 x313001 x314000 x314001).bind fun t323 => (if t323 = true then ((amount_Covers.f k x312000 x312001 x312002 x312003 x314000 x314001 x315000 x315001).bind fun t324 => (if t324 = true then ((amount_Covers.f k x312000 x312001 x312002 x312003 x313000 x313001 x315000 x315001).bind fun t325 => (clusterlockslaw04_AmountLattice.j1 k (!t325) x312000 x312001 x312002 x312003 x313000 x313001 x314000 x314001 x315000 x315001)) else (clusterlockslaw04_AmountLattice.j1 k false x312000 x312001 x312002 x312003 x313000 x313001 x314000 x314001 x315000 x315001))) else (clusterlockslaw04_AmountLattice.j1 k false x312000 x312001 x312002 x312003 x313000 x313001 x314000 x314001 x315000 x315001))))) else ((amount_Covers.f k x312000 x312001 x312002 x312003 x313000 x313001 x314000 x314001).bind fun t326 => (if t326 = true then ((amount_Covers.f k x312000 x312001 x312002 x312003 x314000 x314001 x315000 x315001).bind fun t327 => (if t327 = true then ((amount_Covers.f k x312000 x312001 x312002 x312003 x313000 x313001 x315000 x315001).bind fun t328 => (clusterlockslaw04_AmountLattice.j1 k (!t328) x312000 x312001 x312002 x312003 x313000 x313001 x314000 x314001 x315000 x315001)) else (clusterlockslaw04_AmountLattice.j1 k false x312000 x312001 x312002 x312003 x313000 x313001 x314000 x314001 x315000 x315001))) else (clusterlockslaw04_AmountLattice.j1 k false x312000 x312001 x312002 x312003 x313000 x313001 x314000 x314001 x315000 x315001)))))
def clusterlockslaw04_AmountLattice.j1 : Nat → Bool → ByteArray → Int → Int → Int → Int → Int → Int → Int → Int → Int → Option (Bool)
 | 0, _, _, _, _, _, _, _, _, _, _, _ => none
 | k + 1, x55, x312000, x312001, x312002, x312003, x313000, x313001, x314000, x314001, x315000, x315001 => if x55 = true then (some false) else ((clusterlocksref04_Permitted.f x312000 x312001 x312002 x312003 x313000 x313001).bind fun t329 => (if t329 = true then ((clusterlocksref04_Permitted.f x312000 x312001 x312002 x312003 x314000 x314001).bind fun t330 => (clusterlockslaw04_AmountLattice.j2 k (!t330) x312000 x312001 x312002 x312003 x313000 x313001 x314000 x314001 x315000 x315001)) else (clusterlockslaw04_AmountLattice.j2 k true x312000 x312001 x312002 x312003 x313000 x313001 x314000 x314001 x315000 x315001)))
def clusterlockslaw04_AmountLattice.j2 : Nat → Bool → ByteArray → Int → Int → Int → Int → Int → Int → Int → Int → Int → Option (Bool)
 | 0, _, _, _, _, _, _, _, _, _, _, _ => none
 | k + 1, x65, x312000, x312001, x312002, x312003, x313000, x313001, x314000, x314001, x315000, x315001 => if x65 = true then ((amount_Join.f k x312000 x312001 x312002 x312003 x313000 x313001 x314000 x314001).bind fun bt331 => ((amount_Zero.f bt331.1 bt331.2).bind fun t333 => (some t333))) else ((amount_Join.f k x312000 x312001 x312002 x312003 x313000 x313001 x314000 x314001).bind fun bt334 => ((amount_Covers.f k x312000 x312001 x312002 x312003 bt334.1 bt334.2 x313000 x313001).bind fun t337 => (if t337 = true then ((amount_Covers.f k x312000 x312001 x312002 x312003 bt334.1 bt334.2 x314000 x314001).bind fun t338 => (if t338 = true then ((amount_Covers.f k x312000 x312001 x312002 x312003 x315000 x315001 x313000 x313001).bind fun t339 => (if t339 = true then ((amount_Covers.f k x312000 x312001 x312002 x312003 x315000 x315001 x314000 x314001).bind fun t340 => (if t340 = true then ((amount_Covers.f k x312000 x312001 x312002 x312003 x315000 x315001 bt334.1 bt334.2).bind fun t341 => (some t341)) else (some true))) else (some true))) else (some false))) else (some false))))
end
def clusterlockslaw04_AmountLattice.f (k : Nat) (a0_0 : ByteArray) (a0_1 : Int) (a0_2 : Int) (a0_3 : Int) (a1_0 : Int) (a1_1 : Int) (a2_0 : Int) (a2_1 : Int) (a3_0 : Int) (a3_1 : Int) : Option (Bool) := (clusterlockslaw04_awake.f k).bind fun t315 => (if t315 = true then ((amount_Covers.f k a0_0 a0_1 a0_2 a0_3 a1_0 a1_1 a1_0 a1_1).bind fun t316 => ((clusterlocksref04_Permitted.f a0_0 a0_1 a0_2 a0_3 a1_0 a1_1).bind fun t317 => (clusterlockslaw04_AmountLattice.j0 k (t316 != t317) a0_0 a0_1 a0_2 a0_3 a1_0 a1_1 a2_0 a2_1 a3_0 a3_1))) else (clusterlockslaw04_AmountLattice.j0 k true a0_0 a0_1 a0_2 a0_3 a1_0 a1_1 a2_0 a2_1 a3_0 a3_1))
theorem clusterlockslaw04_AmountLattice.mono_l : ∀ k, (∀ y0 y1 y2 y3 y4 y5 y6 y7 y8 y9 y10, LeO (clusterlockslaw04_AmountLattice.j0 k y0 y1 y2 y3 y4 y5 y6 y7 y8 y9 y10) (clusterlockslaw04_AmountLattice.j0 (k + 1) y0 y1 y2 y3 y4 y5 y6 y7 y8 y9 y10)) ∧ (∀ y0 y1 y2 y3 y4 y5 y6 y7 y8 y9 y10, LeO (clusterlockslaw04_AmountLattice.j1 k y0 y1 y2 y3 y4 y5 y6 y7 y8 y9 y10) (clusterlockslaw04_AmountLattice.j1 (k + 1) y0 y1 y2 y3 y4 y5 y6 y7 y8 y9 y10)) ∧ (∀ y0 y1 y2 y3 y4 y5 y6 y7 y8 y9 y10, LeO (clusterlockslaw04_AmountLattice.j2 k y0 y1 y2 y3 y4 y5 y6 y7 y8 y9 y10) (clusterlockslaw04_AmountLattice.j2 (k + 1) y0 y1 y2 y3 y4 y5 y6 y7 y8 y9 y10))
 | 0 => ⟨fun _ _ _ _ _ _ _ _ _ _ _ r h => by simp [clusterlockslaw04_AmountLattice.j0] at h, fun _ _ _ _ _ _ _ _ _ _ _ r h => by simp [clusterlockslaw04_AmountLattice.j1] at h, fun _ _ _ _ _ _ _ _ _ _ _ r h => by simp [clusterlockslaw04_AmountLattice.j2] at h⟩
 | k + 1 => by
  obtain ⟨ih0, ih1, ih2⟩ := clusterlockslaw04_AmountLattice.mono_l k
  refine ⟨?_, ?_, ?_⟩
  ·intro y0 y1 y2 y3 y4 y5 y6 y7 y8 y9 y10
   unfold clusterlockslaw04_AmountLattice.j0
   repeat' first
   | (with_reducible exact ih0 _ _ _ _ _ _ _ _ _ _ _)
   | (with_reducible exact ih1 _ _ _ _ _ _ _ _ _ _ _)
   | (with_reducible exact ih2 _ _ _ _ _ _ _ _ _ _ _)
   | (with_reducible exact amount_Covers.mono _ _ _ _ _ _ _ _ _)
   | (with_reducible exact amount_Join.mono _ _ _ _ _ _ _ _ _)
   | (with_reducible exact clusterlockslaw04_awake.mono _)
   | (with_reducible exact LeO.refl _)
   | (with_reducible exact LeO.none _)
   | (with_reducible refine LeO.ite ?_ ?_)
   | (with_reducible refine LeO.bind ?_ (fun _ => ?_))
   | exact ih0 _ _ _ _ _ _ _ _ _ _ _
   | exact ih1 _ _ _ _ _ _ _ _ _ _ _
   | exact ih2 _ _ _ _ _ _ _ _ _ _ _
   | exact amount_Covers.mono _ _ _ _ _ _ _ _ _
   | exact amount_Join.mono _ _ _ _ _ _ _ _ _
   | exact clusterlockslaw04_awake.mono _
   | exact LeO.none _
   | refine LeO.ite ?_ ?_
   | refine LeO.bind ?_ (fun _ => ?_)
  ·intro y0 y1 y2 y3 y4 y5 y6 y7 y8 y9 y10
   unfold clusterlockslaw04_AmountLattice.j1
   repeat' first
   | (with_reducible exact ih0 _ _ _ _ _ _ _ _ _ _ _)
   | (with_reducible exact ih1 _ _ _ _ _ _ _ _ _ _ _)
   | (with_reducible exact ih2 _ _ _ _ _ _ _ _ _ _ _)
   | (with_reducible exact amount_Covers.mono _ _ _ _ _ _ _ _ _)
   | (with_reducible exact amount_Join.mono _ _ _ _ _ _ _ _ _)
   | (with_reducible exact clusterlockslaw04_awake.mono _)
   | (with_reducible exact LeO.refl _)
   | (with_reducible exact LeO.none _)
   | (with_reducible refine LeO.ite ?_ ?_)
   | (with_reducible refine LeO.bind ?_ (fun _ => ?_))
   | exact ih0 _ _ _ _ _ _ _ _ _ _ _
   | exact ih1 _ _ _ _ _ _ _ _ _ _ _
   | exact ih2 _ _ _ _ _ _ _ _ _ _ _
   | exact amount_Covers.mono _ _ _ _ _ _ _ _ _
   | exact amount_Join.mono _ _ _ _ _ _ _ _ _
   | exact clusterlockslaw04_awake.mono _
   | exact LeO.none _
   | refine LeO.ite ?_ ?_
   | refine LeO.bind ?_ (fun _ => ?_)
  ·intro y0 y1 y2 y3 y4 y5 y6 y7 y8 y9 y10
   unfold clusterlockslaw04_AmountLattice.j2
   repeat' first
   | (with_reducible exact ih0 _ _ _ _ _ _ _ _ _ _ _)
   | (with_reducible exact ih1 _ _ _ _ _ _ _ _ _ _ _)
   | (with_reducible exact ih2 _ _ _ _ _ _ _ _ _ _ _)
   | (with_reducible exact amount_Covers.mono _ _ _ _ _ _ _ _ _)
   | (with_reducible exact amount_Join.mono _ _ _ _ _ _ _ _ _)
   | (with_reducible exact clusterlockslaw04_awake.mono _)
   | (with_reducible exact LeO.refl _)
   | (with_reducible exact LeO.none _)
   | (with_reducible refine LeO.ite ?_ ?_)
   | (with_reducible refine LeO.bind ?_ (fun _ => ?_))
   | exact ih0 _ _ _ _ _ _ _ _ _ _ _
   | exact ih1 _ _ _ _ _ _ _ _ _ _ _
   | exact ih2 _ _ _ _ _ _ _ _ _ _ _
   | exact amount_Covers.mono _ _ _ _ _ _ _ _ _
   | exact amount_Join.mono _ _ _ _ _ _ _ _ _
   | exact clusterlockslaw04_awake.mono _
   | exact LeO.none _
   | refine LeO.ite ?_ ?_
   | refine LeO.bind ?_ (fun _ => ?_)
theorem clusterlockslaw04_AmountLattice.mono : ∀ a0 a1 a2 a3 a4 a5 a6 a7 a8 a9 k, LeO (clusterlockslaw04_AmountLattice.f k a0 a1 a2 a3 a4 a5 a6 a7 a8 a9) (clusterlockslaw04_AmountLattice.f (k + 1) a0 a1 a2 a3 a4 a5 a6 a7 a8 a9) := by
 intro a0 a1 a2 a3 a4 a5 a6 a7 a8 a9 k
 obtain ⟨ih0, ih1, ih2⟩ := clusterlockslaw04_AmountLattice.mono_l k
 unfold clusterlockslaw04_AmountLattice.f
 repeat' first
   | (with_reducible exact ih0 _ _ _ _ _ _ _ _ _ _ _)
   | (with_reducible exact ih1 _ _ _ _ _ _ _ _ _ _ _)
   | (with_reducible exact ih2 _ _ _ _ _ _ _ _ _ _ _)
   | (with_reducible exact amount_Covers.mono _ _ _ _ _ _ _ _ _)
   | (with_reducible exact amount_Join.mono _ _ _ _ _ _ _ _ _)
   | (with_reducible exact clusterlockslaw04_awake.mono _)
   | (with_reducible exact LeO.refl _)
   | (with_reducible exact LeO.none _)
   | (with_reducible refine LeO.ite ?_ ?_)
   | (with_reducible refine LeO.bind ?_ (fun _ => ?_))
   | exact ih0 _ _ _ _ _ _ _ _ _ _ _
   | exact ih1 _ _ _ _ _ _ _ _ _ _ _
   | exact ih2 _ _ _ _ _ _ _ _ _ _ _
   | exact amount_Covers.mono _ _ _ _ _ _ _ _ _
   | exact amount_Join.mono _ _ _ _ _ _ _ _ _
   | exact clusterlockslaw04_awake.mono _
   | exact LeO.none _
   | refine LeO.ite ?_ ?_
   | refine LeO.bind ?_ (fun _ => ?_)
def clusterlockslaw04_AmountLattice.T1 : Bool × List (List Nat × List Nat) := (true, [([], []), ([0], [0]), ([1, 0], [1]), ([2], [2]), ([2], [2]), ([2], [2]), ([3, 4, 5, 2, 2], [2, 3, 4, 5]), ([2], [2]), ([2], [2]), ([7, 8, 6, 2], [2, 7, 8]), ([6, 9, 2], [2, 6, 9]), ([2, 10], [2, 10])])
def clusterlockslaw04_AmountLattice.B1 : List Nat := [0, 1, 3, 7, 7, 7, 63, 7, 7, 511, 1023, 2047]
theorem clusterlockslaw04_AmountLattice.tab1 : rtab .any (opsOf Tryd.f9 1) = clusterlockslaw04_AmountLattice.T1 := by kernel_rfl
theorem clusterlockslaw04_AmountLattice.bits1 : waitsOk clusterlockslaw04_AmountLattice.T1.2 clusterlockslaw04_AmountLattice.B1 = true := by kernel_rfl
set_option maxHeartbeats 8000000 in
set_option maxRecDepth 100000 in
theorem clusterlockslaw04_AmountLattice.calls (k : Nat) (a0_0 : ByteArray) (a0_1 : Int) (a0_2 : Int) (a0_3 : Int) (a1_0 : Int) (a1_1 : Int) (a2_0 : Int) (a2_1 : Int) (a3_0 : Int) (a3_1 : Int) (r : Bool) (w : World) (hG : GL w) (h : clusterlockslaw04_AmountLattice.f k a0_0 a0_1 a0_2 a0_3 a1_0 a1_1 a2_0 a2_1 a3_0 a3_1 = some r) :
  Calls Tryd.prog 9 #[.agg #[.string a0_0, .int .i64 a0_1, .int .i64 a0_2, .int .i64 a0_3], .agg #[.int .i64 a1_0, .int .i64 a1_1], .agg #[.int .i64 a2_0, .int .i64 a2_1], .agg #[.int .i64 a3_0, .int .i64 a3_1]] w fun e w' => e = .returned (.bool r) ∧ Below w.heap.size w w' := by
 have hu23 := Tryd.underlying23
 have hu25 := Tryd.underlying25
 have HG := Aside0.mk hG
 clear hG
 have HB := Aside0.mk (Below.refl w.heap.size w)
 have H : ((clusterlockslaw04_awake.f k).bind fun t315 => (if t315 = true then ((amount_Covers.f k a0_0 a0_1 a0_2 a0_3 a1_0 a1_1 a1_0 a1_1).bind fun t316 => ((clusterlocksref04_Permitted.f a0_0 a0_1 a0_2 a0_3 a1_0 a1_1).bind fun t317 => (clusterlockslaw04_AmountLattice.j0 k (t316 != t317) a0_0 a0_1 a0_2 a0_3 a1_0 a1_1 a2_0 a2_1 a3_0 a3_1))) else (clusterlockslaw04_AmountLattice.j0 k true a0_0 a0_1 a0_2 a0_3 a1_0 a1_1 a2_0 a2_1 a3_0 a3_1))) = some r := h
 clear h
 have HC5 := Aside0.mk H
 clear H
 go_enter Tryd.func9, Tryd.ntmps9
 go_upto_region 1 with (first | ((with_reducible refine gate_dst (N := 4) rfl ?_); refine box_event ?hg (N := 4) ?hd (cs := #[.string a0_0, .int .i64 a0_1, .int .i64 a0_2, .int .i64 a0_3]) (t := 23) ?hr ?_; (case hd => rfl); (case hg => rfl); (case hr => first | (go_simp; done) | (go_simp; rfl)); intro gb311 hg w6 hbox hb; have n0_ := Aside0.mk (below_step (by repeat (first | (with_reducible first | exact HB.out | apply below_alloc | apply pw_below_drewN | apply below_drew1) | exact HB.out)) hb); have n1_ := Aside0.mk (hbox); have n2_ := Aside0.mk ((by rw [hg]; exact (below_size (by repeat (first | (with_reducible first | exact HB.out | apply below_alloc | apply pw_below_drewN | apply below_drew1) | exact HB.out))) : w.heap.size ≤ gb311)); have n3_ := n2_; clear HB; have HB := n0_; have BK311 := n1_; have GW311 := n2_; have GE311 := n3_; clear n0_ n1_ n2_ n3_; clear hb hbox hg) | ((with_reducible refine gate_dst (N := 5) rfl ?_); refine box_event ?hg (N := 5) ?hd (cs := #[.int .i64 a1_0, .int .i64 a1_1]) (t := 25) ?hr ?_; (case hd => rfl); (case hg => rfl); (case hr => first | (go_simp; done) | (go_simp; rfl)); intro gb312 hg w7 hbox hb; have n0_ := blkB BK311 (by (with_reducible repeat first | refine bN ?_ _ | refine bD ?_ | refine bA ?_ _); exact BK311.out) hb; have n1_ := Aside0.mk (below_step (by repeat (first | (with_reducible first | exact HB.out | apply below_alloc | apply pw_below_drewN | apply below_drew1) | exact HB.out)) hb); have n2_ := Aside0.mk (hbox); have n3_ := Aside0.mk ((by rw [hg]; exact (below_size (by repeat (first | (with_reducible first | exact HB.out | apply below_alloc | apply pw_below_drewN | apply below_drew1) | exact HB.out))) : w.heap.size ≤ gb312)); have n4_ := n3_; have n5_ := Aside0.mk ((by rw [hg]; exact Nat.ne_of_lt (blkLt BK311 (by (with_reducible repeat first | refine bN ?_ _ | refine bD ?_ | refine bA ?_ _); exact BK311.out)) : gb311 ≠ gb312)); have n6_ := Aside0.mk n5_.out.symm; clear BK311 HB; have BK311 := n0_; have HB := n1_; have BK312 := n2_; have GW312 := n3_; have GE312 := n4_; have NB311_312 := n5_; have NB312_311 := n6_; clear n0_ n1_ n2_ n3_ n4_ n5_ n6_; clear hb hbox hg) | ((with_reducible refine gate_dst (N := 6) rfl ?_); refine box_event ?hg (N := 6) ?hd (cs := #[.int .i64 a2_0, .int .i64 a2_1]) (t := 25) ?hr ?_; (case hd => rfl); (case hg => rfl); (case hr => first | (go_simp; done) | (go_simp; rfl)); intro gb313 hg w8 hbox hb; have n0_ := blkB BK311 (by (with_reducible repeat first | refine bN ?_ _ | refine bD ?_ | refine bA ?_ _); exact BK311.out) hb; have n1_ := blkB BK312 (by (with_reducible repeat first | refine bN ?_ _ | refine bD ?_ | refine bA ?_ _); exact BK312.out) hb; have n2_ := Aside0.mk (below_step (by repeat (first | (with_reducible first | exact HB.out | apply below_alloc | apply pw_below_drewN | apply below_drew1) | exact HB.out)) hb); have n3_ := Aside0.mk (hbox); have n4_ := Aside0.mk ((by rw [hg]; exact (below_size (by repeat (first | (with_reducible first | exact HB.out | apply below_alloc | apply pw_below_drewN | apply below_drew1) | exact HB.out))) : w.heap.size ≤ gb313)); have n5_ := n4_; have n6_ := Aside0.mk ((by rw [hg]; exact Nat.ne_of_lt (blkLt BK311 (by (with_reducible repeat first | refine bN ?_ _ | refine bD ?_ | refine bA ?_ _); exact BK311.out)) : gb311 ≠ gb313)); have n7_ := Aside0.mk n6_.out.symm; have n8_ := Aside0.mk ((by rw [hg]; exact Nat.ne_of_lt (blkLt BK312 (by (with_reducible repeat first | refine bN ?_ _ | refine bD ?_ | refine bA ?_ _); exact BK312.out)) : gb312 ≠ gb313)); have n9_ := Aside0.mk n8_.out.symm; clear BK311 BK312 HB; have BK311 := n0_; have BK312 := n1_; have HB := n2_; have BK313 := n3_; have GW313 := n4_; have GE313 := n5_; have NB311_313 := n6_; have NB313_311 := n7_; have NB312_313 := n8_; have NB313_312 := n9_; clear n0_ n1_ n2_ n3_ n4_ n5_ n6_ n7_ n8_ n9_; clear hb hbox hg) | ((with_reducible refine gate_dst (N := 7) rfl ?_); refine box_event ?hg (N := 7) ?hd (cs := #[.int .i64 a3_0, .int .i64 a3_1]) (t := 25) ?hr ?_; (case hd => rfl); (case hg => rfl); (case hr => first | (go_simp; done) | (go_simp; rfl)); intro gb314 hg w9 hbox hb; have n0_ := blkB BK311 (by (with_reducible repeat first | refine bN ?_ _ | refine bD ?_ | refine bA ?_ _); exact BK311.out) hb; have n1_ := blkB BK312 (by (with_reducible repeat first | refine bN ?_ _ | refine bD ?_ | refine bA ?_ _); exact BK312.out) hb; have n2_ := blkB BK313 (by (with_reducible repeat first | refine bN ?_ _ | refine bD ?_ | refine bA ?_ _); exact BK313.out) hb; have n3_ := Aside0.mk (below_step (by repeat (first | (with_reducible first | exact HB.out | apply below_alloc | apply pw_below_drewN | apply below_drew1) | exact HB.out)) hb); have n4_ := Aside0.mk (hbox); have n5_ := Aside0.mk ((by rw [hg]; exact (below_size (by repeat (first | (with_reducible first | exact HB.out | apply below_alloc | apply pw_below_drewN | apply below_drew1) | exact HB.out))) : w.heap.size ≤ gb314)); have n6_ := n5_; have n7_ := Aside0.mk ((by rw [hg]; exact Nat.ne_of_lt (blkLt BK311 (by (with_reducible repeat first | refine bN ?_ _ | refine bD ?_ | refine bA ?_ _); exact BK311.out)) : gb311 ≠ gb314)); have n8_ := Aside0.mk n7_.out.symm; have n9_ := Aside0.mk ((by rw [hg]; exact Nat.ne_of_lt (blkLt BK312 (by (with_reducible repeat first | refine bN ?_ _ | refine bD ?_ | refine bA ?_ _); exact BK312.out)) : gb312 ≠ gb314)); have n10_ := Aside0.mk n9_.out.symm; have n11_ := Aside0.mk ((by rw [hg]; exact Nat.ne_of_lt (blkLt BK313 (by (with_reducible repeat first | refine bN ?_ _ | refine bD ?_ | refine bA ?_ _); exact BK313.out)) : gb313 ≠ gb314)); have n12_ := Aside0.mk n11_.out.symm; clear BK311 BK312 BK313 HB; have BK311 := n0_; have BK312 := n1_; have BK313 := n2_; have HB := n3_; have BK314 := n4_; have GW314 := n5_; have GE314 := n6_; have NB311_314 := n7_; have NB314_311 := n8_; have NB312_314 := n9_; have NB314_312 := n10_; have NB313_314 := n11_; have NB314_313 := n12_; clear n0_ n1_ n2_ n3_ n4_ n5_ n6_ n7_ n8_ n9_ n10_ n11_ n12_; clear hb hbox hg))
 (try simp only [Act.put, List.setIfInBounds_toArray, List.set_cons_zero, List.set_cons_succ])
 go_cut [21] (fun v21 wc => ∃ (kq : Nat) (x21_4 : Bool), v21 = .bool x21_4 ∧ Aside0 (clusterlockslaw04_AmountLattice.j0 kq x21_4 a0_0 a0_1 a0_2 a0_3 a1_0 a1_1 a2_0 a2_1 a3_0 a3_1 = some r) ∧ Aside0 (kq ≤ k) ∧ Aside0 (wc.heap[gb311]? = some (.cells #[.string a0_0, .int .i64 a0_1, .int .i64 a0_2, .int .i64 a0_3] 23 (0, 0))) ∧ Aside0 (wc.heap[gb312]? = some (.cells #[.int .i64 a1_0, .int .i64 a1_1] 25 (0, 0))) ∧ Aside0 (wc.heap[gb313]? = some (.cells #[.int .i64 a2_0, .int .i64 a2_1] 25 (0, 0))) ∧ Aside0 (wc.heap[gb314]? = some (.cells #[.int .i64 a3_0, .int .i64 a3_1] 25 (0, 0))) ∧ Aside0 (Below w.heap.size w wc))
 case first =>
  have H := HC5.out
  clear HC5
  replace H := Option.bind_eq_some_iff.mp H
  obtain ⟨t315, A100, H⟩ := H
  replace H : (if t315 = true then ((amount_Covers.f k a0_0 a0_1 a0_2 a0_3 a1_0 a1_1 a1_0 a1_1).bind fun t316 => ((clusterlocksref04_Permitted.f a0_0 a0_1 a0_2 a0_3 a1_0 a1_1).bind fun t317 => (clusterlockslaw04_AmountLattice.j0 k (t316 != t317) a0_0 a0_1 a0_2 a0_3 a1_0 a1_1 a2_0 a2_1 a3_0 a3_1))) else (clusterlockslaw04_AmountLattice.j0 k true a0_0 a0_1 a0_2 a0_3 a1_0 a1_1 a2_0 a2_1 a3_0 a3_1)) = some r := H
  have A10 := Aside0.mk A100
  clear A100
  by_cases c11 : t315 = true
  ·subst c11
   have H1 : ((amount_Covers.f k a0_0 a0_1 a0_2 a0_3 a1_0 a1_1 a1_0 a1_1).bind fun t316 => ((clusterlocksref04_Permitted.f a0_0 a0_1 a0_2 a0_3 a1_0 a1_1).bind fun t317 => (clusterlockslaw04_AmountLattice.j0 k (t316 != t317) a0_0 a0_1 a0_2 a0_3 a1_0 a1_1 a2_0 a2_1 a3_0 a3_1))) = some r := by rw [if_pos rfl] at H; exact H
   clear H
   have H := H1
   clear H1
   replace H := Option.bind_eq_some_iff.mp H
   obtain ⟨t316, A120, H⟩ := H
   replace H : ((clusterlocksref04_Permitted.f a0_0 a0_1 a0_2 a0_3 a1_0 a1_1).bind fun t317 => (clusterlockslaw04_AmountLattice.j0 k (t316 != t317) a0_0 a0_1 a0_2 a0_3 a1_0 a1_1 a2_0 a2_1 a3_0 a3_1)) = some r := H
   have A12 := Aside0.mk A120
   clear A120
   replace H := Option.bind_eq_some_iff.mp H
   obtain ⟨t317, A130, H⟩ := H
   replace H : (clusterlockslaw04_AmountLattice.j0 k (t316 != t317) a0_0 a0_1 a0_2 a0_3 a1_0 a1_1 a2_0 a2_1 a3_0 a3_1) = some r := H
   have A13 := Aside0.mk A130
   clear A130
   have H' := Aside0.mk H
   clear H
   try go_wp2
   have n0_ := Aside0.mk (blk_drew BK311.out)
   have n1_ := Aside0.mk (blk_drew BK312.out)
   have n2_ := Aside0.mk (blk_drew BK313.out)
   have n3_ := Aside0.mk (blk_drew BK314.out)
   have n4_ := Aside0.mk (below_drew1 HB.out)
   clear BK311
   clear BK312
   clear BK313
   clear BK314
   clear HB
   have BK311 := n0_
   have BK312 := n1_
   have BK313 := n2_
   have BK314 := n3_
   have HB := n4_
   clear n0_ n1_ n2_ n3_ n4_
   refine start_ (n := 12) (S := fun w' => w'.cell? ⟨gb311, 0, none⟩ = some (.string a0_0) ∧ w'.cell? ⟨gb311, 1, none⟩ = some (.int .i64 a0_1) ∧ w'.cell? ⟨gb311, 2, none⟩ = some (.int .i64 a0_2) ∧ w'.cell? ⟨gb311, 3, none⟩ = some (.int .i64 a0_3) ∧ w'.cell? ⟨gb312, 0, none⟩ = some (.int .i64 a1_0) ∧ w'.cell? ⟨gb312, 1, none⟩ = some (.int .i64 a1_1)) (ds := []) #[false, false, false, false, false, false, false, false, false, false, false, false] (by kernel_rfl) rfl rfl ⟨(blk_cell BK311.out 0).trans rfl, (blk_cell BK311.out 1).trans rfl, (blk_cell BK311.out 2).trans rfl, (blk_cell BK311.out 3).trans rfl, (blk_cell BK312.out 0).trans rfl, (blk_cell BK312.out 1).trans rfl⟩ (fun hHeld => ?_); refine with_tabW clusterlockslaw04_AmountLattice.tab1 clusterlockslaw04_AmountLattice.bits1 (fun HT_ HW_ => ?_)
   generalize w9.drew = w14 at BK311 BK312 BK313 BK314 HB hHeld ⊢
   refine one_ (i := 0) (N := some 10) #[true, false, false, false, false, false, false, false, false, false, false, false] rfl rfl (one_of HT_.out (by kernel_rfl)) (by decide) (fun K hK => ?_)
   refine goes_ Tryd.func12 (by kernel_rfl) rfl #[] (by rfl) rfl rfl (by (try simp only [List.map_toArray, List.map_cons, List.map_nil]); first | done | rfl | (simp only [List.length_drop, List.length_take]; rfl)) ?_
   with_reducible refine (clusterlockslaw04_awake.calls k  true _ ?side1 A10.out).mono ?_
   (case side1 => exact GL.below HG.out (by repeat (first | (with_reducible first | exact HB.out | apply below_alloc | apply pw_below_drewN | apply below_drew1) | exact HB.out)))
   rintro e w15 ⟨rfl, hb⟩
   refine ⟨_, rfl, ?_⟩
   have n0_ := blkB BK311 (by (with_reducible repeat first | refine bN ?_ _ | refine bD ?_ | refine bA ?_ _); exact BK311.out) hb
   have n1_ := blkB BK312 (by (with_reducible repeat first | refine bN ?_ _ | refine bD ?_ | refine bA ?_ _); exact BK312.out) hb
   have n2_ := blkB BK313 (by (with_reducible repeat first | refine bN ?_ _ | refine bD ?_ | refine bA ?_ _); exact BK313.out) hb
   have n3_ := blkB BK314 (by (with_reducible repeat first | refine bN ?_ _ | refine bD ?_ | refine bA ?_ _); exact BK314.out) hb
   have n4_ := Aside0.mk (below_step (by repeat (first | (with_reducible first | exact HB.out | apply below_alloc | apply pw_below_drewN | apply below_drew1) | exact HB.out)) hb)
   clear BK311
   clear BK312
   clear BK313
   clear BK314
   clear HB
   have BK311 := n0_
   have BK312 := n1_
   have BK313 := n2_
   have BK314 := n3_
   have HB := n4_
   clear n0_ n1_ n2_ n3_ n4_
   (try clear hb)
   refine hK.out _ _ ⟨(blk_cell BK311.out 0).trans rfl, (blk_cell BK311.out 1).trans rfl, (blk_cell BK311.out 2).trans rfl, (blk_cell BK311.out 3).trans rfl, (blk_cell BK312.out 0).trans rfl, (blk_cell BK312.out 1).trans rfl⟩ (fun hHeld => ?_)
   clear hK K
   refine norm_ (a' := ?_) ?_ ?_
   rotate_left
   ·show Act.put _ (some 10) _ = _
    simp only [Act.put, List.setIfInBounds_toArray, List.set_cons_zero, List.set_cons_succ, i64_w, i32_w]
    rfl
   refine pure_ (i := 1) (N := some 11) (v := ?_) (a' := ?_) #[true, true, false, false, false, false, false, false, false, false, false, false] rfl rfl (any_of HT_.out (by kernel_rfl)) (fun _ _ _ h => h) (Or.inl ⟨by rfl, ?_⟩) ?_ ?_
   rotate_left
   ·intro w'
    go_simp
    with_reducible rfl
   rotate_left
   ·simp only [Act.put, List.setIfInBounds_toArray, List.set_cons_zero, List.set_cons_succ, i64_w, i32_w]
    rfl
   refine pure_ (i := 2) (N := some 12) (v := ?_) (a' := ?_) #[true, true, true, false, false, false, false, false, false, false, false, false] rfl rfl (any_of HT_.out (by kernel_rfl)) (fun _ _ _ h => h) (Or.inl ⟨by rfl, ?_⟩) ?_ ?_
   rotate_left
   ·intro w'
    go_simp
    with_reducible rfl
   rotate_left
   ·simp only [Act.put, List.setIfInBounds_toArray, List.set_cons_zero, List.set_cons_succ, i64_w, i32_w]
    rfl
   refine take_ (i := 3) (N := some 13) (v := ?_) (a' := ?_) #[true, true, true, true, false, false, false, false, false, false, false, false] rfl rfl (take_ofW HT_.out HW_.out (by kernel_rfl)) (fun _ _ _ h => h) (Or.inl ⟨by rfl, ?_⟩) hHeld ?_ ?_
   rotate_left
   ·rintro w' ⟨s0, s1, s2, s3, s4, s5⟩
    go_simp
    with_reducible rfl
   rotate_left
   ·simp only [Act.put, List.setIfInBounds_toArray, List.set_cons_zero, List.set_cons_succ, i64_w, i32_w]
    rfl
   refine take_ (i := 4) (N := some 14) (v := ?_) (a' := ?_) #[true, true, true, true, true, false, false, false, false, false, false, false] rfl rfl (take_ofW HT_.out HW_.out (by kernel_rfl)) (fun _ _ _ h => h) (Or.inl ⟨by rfl, ?_⟩) hHeld ?_ ?_
   rotate_left
   ·rintro w' ⟨s0, s1, s2, s3, s4, s5⟩
    go_simp
    with_reducible rfl
   rotate_left
   ·simp only [Act.put, List.setIfInBounds_toArray, List.set_cons_zero, List.set_cons_succ, i64_w, i32_w]
    rfl
   refine take_ (i := 5) (N := some 15) (v := ?_) (a' := ?_) #[true, true, true, true, true, true, false, false, false, false, false, false] rfl rfl (take_ofW HT_.out HW_.out (by kernel_rfl)) (fun _ _ _ h => h) (Or.inl ⟨by rfl, ?_⟩) hHeld ?_ ?_
   rotate_left
   ·rintro w' ⟨s0, s1, s2, s3, s4, s5⟩
    go_simp
    with_reducible rfl
   rotate_left
   ·simp only [Act.put, List.setIfInBounds_toArray, List.set_cons_zero, List.set_cons_succ, i64_w, i32_w]
    rfl
   refine take_ (i := 7) (N := some 17) (v := ?_) (a' := ?_) #[true, true, true, true, true, true, false, true, false, false, false, false] rfl rfl (take_ofW HT_.out HW_.out (by kernel_rfl)) (fun _ _ _ h => h) (Or.inl ⟨by rfl, ?_⟩) hHeld ?_ ?_
   rotate_left
   ·rintro w' ⟨s0, s1, s2, s3, s4, s5⟩
    go_simp
    with_reducible rfl
   rotate_left
   ·simp only [Act.put, List.setIfInBounds_toArray, List.set_cons_zero, List.set_cons_succ, i64_w, i32_w]
    rfl
   refine take_ (i := 8) (N := some 18) (v := ?_) (a' := ?_) #[true, true, true, true, true, true, false, true, true, false, false, false] rfl rfl (take_ofW HT_.out HW_.out (by kernel_rfl)) (fun _ _ _ h => h) (Or.inl ⟨by rfl, ?_⟩) hHeld ?_ ?_
   rotate_left
   ·rintro w' ⟨s0, s1, s2, s3, s4, s5⟩
    go_simp
    with_reducible rfl
   rotate_left
   ·simp only [Act.put, List.setIfInBounds_toArray, List.set_cons_zero, List.set_cons_succ, i64_w, i32_w]
    rfl
   refine one_ (i := 6) (N := some 16) #[true, true, true, true, true, true, true, true, true, false, false, false] rfl rfl (one_of HT_.out (by kernel_rfl)) (by decide) (fun K hK => ?_)
   refine goes_ Tryd.func26 (by kernel_rfl) rfl #[.agg #[.string a0_0, .int .i64 a0_1, .int .i64 a0_2, .int .i64 a0_3], .agg #[.int .i64 a1_0, .int .i64 a1_1], .agg #[.int .i64 a1_0, .int .i64 a1_1]] (by rfl) rfl rfl (by (try simp only [List.map_toArray, List.map_cons, List.map_nil]); first | done | rfl | (simp only [List.length_drop, List.length_take]; rfl)) ?_
   with_reducible refine (amount_Covers.calls k a0_0 a0_1 a0_2 a0_3 a1_0 a1_1 a1_0 a1_1 t316 _ A12.out).mono ?_
   rintro e w16 ⟨rfl, hb⟩
   refine ⟨_, rfl, ?_⟩
   have n0_ := blkB BK311 (by (with_reducible repeat first | refine bN ?_ _ | refine bD ?_ | refine bA ?_ _); exact BK311.out) hb
   have n1_ := blkB BK312 (by (with_reducible repeat first | refine bN ?_ _ | refine bD ?_ | refine bA ?_ _); exact BK312.out) hb
   have n2_ := blkB BK313 (by (with_reducible repeat first | refine bN ?_ _ | refine bD ?_ | refine bA ?_ _); exact BK313.out) hb
   have n3_ := blkB BK314 (by (with_reducible repeat first | refine bN ?_ _ | refine bD ?_ | refine bA ?_ _); exact BK314.out) hb
   have n4_ := Aside0.mk (below_step (by repeat (first | (with_reducible first | exact HB.out | apply below_alloc | apply pw_below_drewN | apply below_drew1) | exact HB.out)) hb)
   clear BK311
   clear BK312
   clear BK313
   clear BK314
   clear HB
   have BK311 := n0_
   have BK312 := n1_
   have BK313 := n2_
   have BK314 := n3_
   have HB := n4_
   clear n0_ n1_ n2_ n3_ n4_
   (try clear hb)
   refine hK.out _ _ ⟨(blk_cell BK311.out 0).trans rfl, (blk_cell BK311.out 1).trans rfl, (blk_cell BK311.out 2).trans rfl, (blk_cell BK311.out 3).trans rfl, (blk_cell BK312.out 0).trans rfl, (blk_cell BK312.out 1).trans rfl⟩ (fun hHeld => ?_)
   clear hK K
   refine norm_ (a' := ?_) ?_ ?_
   rotate_left
   ·show Act.put _ (some 16) _ = _
    simp only [Act.put, List.setIfInBounds_toArray, List.set_cons_zero, List.set_cons_succ, i64_w, i32_w]
    rfl
   refine one_ (i := 9) (N := some 19) #[true, true, true, true, true, true, true, true, true, true, false, false] rfl rfl (one_of HT_.out (by kernel_rfl)) (by decide) (fun K hK => ?_)
   refine goes_ Tryd.func21 (by kernel_rfl) rfl #[.agg #[.string a0_0, .int .i64 a0_1, .int .i64 a0_2, .int .i64 a0_3], .agg #[.int .i64 a1_0, .int .i64 a1_1]] (by rfl) rfl rfl (by (try simp only [List.map_toArray, List.map_cons, List.map_nil]); first | done | rfl | (simp only [List.length_drop, List.length_take]; rfl)) ?_
   with_reducible refine (clusterlocksref04_Permitted.calls a0_0 a0_1 a0_2 a0_3 a1_0 a1_1 t317 _ A13.out).mono ?_
   rintro e w17 ⟨rfl, hb⟩
   refine ⟨_, rfl, ?_⟩
   have n0_ := blkB BK311 (by (with_reducible repeat first | refine bN ?_ _ | refine bD ?_ | refine bA ?_ _); exact BK311.out) hb
   have n1_ := blkB BK312 (by (with_reducible repeat first | refine bN ?_ _ | refine bD ?_ | refine bA ?_ _); exact BK312.out) hb
   have n2_ := blkB BK313 (by (with_reducible repeat first | refine bN ?_ _ | refine bD ?_ | refine bA ?_ _); exact BK313.out) hb
   have n3_ := blkB BK314 (by (with_reducible repeat first | refine bN ?_ _ | refine bD ?_ | refine bA ?_ _); exact BK314.out) hb
   have n4_ := Aside0.mk (below_step (by repeat (first | (with_reducible first | exact HB.out | apply below_alloc | apply pw_below_drewN | apply below_drew1) | exact HB.out)) hb)
   clear BK311
   clear BK312
   clear BK313
   clear BK314
   clear HB
   have BK311 := n0_
   have BK312 := n1_
   have BK313 := n2_
   have BK314 := n3_
   have HB := n4_
   clear n0_ n1_ n2_ n3_ n4_
   (try clear hb)
   refine hK.out _ _ ⟨(blk_cell BK311.out 0).trans rfl, (blk_cell BK311.out 1).trans rfl, (blk_cell BK311.out 2).trans rfl, (blk_cell BK311.out 3).trans rfl, (blk_cell BK312.out 0).trans rfl, (blk_cell BK312.out 1).trans rfl⟩ (fun hHeld => ?_)
   clear hK K
   refine norm_ (a' := ?_) ?_ ?_
   rotate_left
   ·show Act.put _ (some 19) _ = _
    simp only [Act.put, List.setIfInBounds_toArray, List.set_cons_zero, List.set_cons_succ, i64_w, i32_w]
    rfl
   refine pure_ (i := 10) (N := some 20) (v := ?_) (a' := ?_) #[true, true, true, true, true, true, true, true, true, true, true, false] rfl rfl (any_of HT_.out (by kernel_rfl)) (fun _ _ _ h => h) (Or.inl ⟨by rfl, ?_⟩) ?_ ?_
   rotate_left
   ·intro w'
    go_simp
    with_reducible rfl
   rotate_left
   ·simp only [Act.put, List.setIfInBounds_toArray, List.set_cons_zero, List.set_cons_succ, i64_w, i32_w]
    rfl
   refine pure_ (i := 11) (N := some 21) (v := ?_) (a' := ?_) #[true, true, true, true, true, true, true, true, true, true, true, true] rfl rfl (any_of HT_.out (by kernel_rfl)) (fun _ _ _ h => h) (Or.inl ⟨by rfl, ?_⟩) ?_ ?_
   rotate_left
   ·intro w'
    go_simp
    with_reducible rfl
   rotate_left
   ·simp only [Act.put, List.setIfInBounds_toArray, List.set_cons_zero, List.set_cons_succ, i64_w, i32_w]
    rfl
   refine done_ (done_of HT_.out (by kernel_rfl)) ?_
   try go_wp2
   go_meet
   case rel => exact ⟨_, ((t316 != t317)), (by first | rfl | (simp; done) | (simp [*]; done)), H', ⟨by first | omega | exact Nat.le_refl _⟩, ⟨by (with_reducible repeat first | refine bN ?_ _ | refine bD ?_ | refine bA ?_ _); exact BK311.out⟩, ⟨by (with_reducible repeat first | refine bN ?_ _ | refine bD ?_ | refine bA ?_ _); exact BK312.out⟩, ⟨by (with_reducible repeat first | refine bN ?_ _ | refine bD ?_ | refine bA ?_ _); exact BK313.out⟩, ⟨by (with_reducible repeat first | refine bN ?_ _ | refine bD ?_ | refine bA ?_ _); exact BK314.out⟩, ⟨by repeat (first | (with_reducible first | exact HB.out | apply below_alloc | apply pw_below_drewN | apply below_drew1) | exact HB.out)⟩⟩
  ·replace c11 := Bool.eq_false_iff.mpr c11
   subst c11
   have H1 : (clusterlockslaw04_AmountLattice.j0 k true a0_0 a0_1 a0_2 a0_3 a1_0 a1_1 a2_0 a2_1 a3_0 a3_1) = some r := by rw [if_neg (show ¬ (false = true) by decide)] at H; exact H
   clear H
   have H := H1
   clear H1
   have H' := Aside0.mk H
   clear H
   try go_wp2
   have n0_ := Aside0.mk (blk_drew BK311.out)
   have n1_ := Aside0.mk (blk_drew BK312.out)
   have n2_ := Aside0.mk (blk_drew BK313.out)
   have n3_ := Aside0.mk (blk_drew BK314.out)
   have n4_ := Aside0.mk (below_drew1 HB.out)
   clear BK311
   clear BK312
   clear BK313
   clear BK314
   clear HB
   have BK311 := n0_
   have BK312 := n1_
   have BK313 := n2_
   have BK314 := n3_
   have HB := n4_
   clear n0_ n1_ n2_ n3_ n4_
   refine start_ (n := 12) (S := fun w' => True) (ds := []) #[false, false, false, false, false, false, false, false, false, false, false, false] (by kernel_rfl) rfl rfl trivial (fun hHeld => ?_); refine with_tabW clusterlockslaw04_AmountLattice.tab1 clusterlockslaw04_AmountLattice.bits1 (fun HT_ HW_ => ?_)
   generalize w9.drew = w18 at BK311 BK312 BK313 BK314 HB hHeld ⊢
   refine one_ (i := 0) (N := some 10) #[true, false, false, false, false, false, false, false, false, false, false, false] rfl rfl (one_of HT_.out (by kernel_rfl)) (by decide) (fun K hK => ?_)
   refine goes_ Tryd.func12 (by kernel_rfl) rfl #[] (by rfl) rfl rfl (by (try simp only [List.map_toArray, List.map_cons, List.map_nil]); first | done | rfl | (simp only [List.length_drop, List.length_take]; rfl)) ?_
   with_reducible refine (clusterlockslaw04_awake.calls k  false _ ?side1 A10.out).mono ?_
   (case side1 => exact GL.below HG.out (by repeat (first | (with_reducible first | exact HB.out | apply below_alloc | apply pw_below_drewN | apply below_drew1) | exact HB.out)))
   rintro e w19 ⟨rfl, hb⟩
   refine ⟨_, rfl, ?_⟩
   have n0_ := blkB BK311 (by (with_reducible repeat first | refine bN ?_ _ | refine bD ?_ | refine bA ?_ _); exact BK311.out) hb
   have n1_ := blkB BK312 (by (with_reducible repeat first | refine bN ?_ _ | refine bD ?_ | refine bA ?_ _); exact BK312.out) hb
   have n2_ := blkB BK313 (by (with_reducible repeat first | refine bN ?_ _ | refine bD ?_ | refine bA ?_ _); exact BK313.out) hb
   have n3_ := blkB BK314 (by (with_reducible repeat first | refine bN ?_ _ | refine bD ?_ | refine bA ?_ _); exact BK314.out) hb
   have n4_ := Aside0.mk (below_step (by repeat (first | (with_reducible first | exact HB.out | apply below_alloc | apply pw_below_drewN | apply below_drew1) | exact HB.out)) hb)
   clear BK311
   clear BK312
   clear BK313
   clear BK314
   clear HB
   have BK311 := n0_
   have BK312 := n1_
   have BK313 := n2_
   have BK314 := n3_
   have HB := n4_
   clear n0_ n1_ n2_ n3_ n4_
   (try clear hb)
   refine hK.out _ _ trivial (fun hHeld => ?_)
   clear hK K
   refine norm_ (a' := ?_) ?_ ?_
   rotate_left
   ·show Act.put _ (some 10) _ = _
    simp only [Act.put, List.setIfInBounds_toArray, List.set_cons_zero, List.set_cons_succ, i64_w, i32_w]
    rfl
   refine pure_ (i := 1) (N := some 11) (v := ?_) (a' := ?_) #[true, true, false, false, false, false, false, false, false, false, false, false] rfl rfl (any_of HT_.out (by kernel_rfl)) (fun _ _ _ h => h) (Or.inl ⟨by rfl, ?_⟩) ?_ ?_
   rotate_left
   ·intro w'
    go_simp
    with_reducible rfl
   rotate_left
   ·simp only [Act.put, List.setIfInBounds_toArray, List.set_cons_zero, List.set_cons_succ, i64_w, i32_w]
    rfl
   refine pure_ (i := 2) (N := some 12) (v := ?_) (a' := ?_) #[true, true, true, false, false, false, false, false, false, false, false, false] rfl rfl (any_of HT_.out (by kernel_rfl)) (fun _ _ _ h => h) (Or.inl ⟨by rfl, ?_⟩) ?_ ?_
   rotate_left
   ·intro w'
    go_simp
    with_reducible rfl
   rotate_left
   ·simp only [Act.put, List.setIfInBounds_toArray, List.set_cons_zero, List.set_cons_succ, i64_w, i32_w]
    rfl
   refine pure_ (i := 3) (N := some 13) (v := undef) (a' := ?_) #[true, true, true, true, false, false, false, false, false, false, false, false] rfl rfl (any_of HT_.out (by kernel_rfl)) (fun _ _ _ h => h) (Or.inr ⟨by rfl, rfl⟩) ?_ ?_
   rotate_left
   ·simp only [Act.put, List.setIfInBounds_toArray, List.set_cons_zero, List.set_cons_succ, i64_w, i32_w]
    rfl
   refine pure_ (i := 4) (N := some 14) (v := undef) (a' := ?_) #[true, true, true, true, true, false, false, false, false, false, false, false] rfl rfl (any_of HT_.out (by kernel_rfl)) (fun _ _ _ h => h) (Or.inr ⟨by rfl, rfl⟩) ?_ ?_
   rotate_left
   ·simp only [Act.put, List.setIfInBounds_toArray, List.set_cons_zero, List.set_cons_succ, i64_w, i32_w]
    rfl
   refine pure_ (i := 5) (N := some 15) (v := undef) (a' := ?_) #[true, true, true, true, true, true, false, false, false, false, false, false] rfl rfl (any_of HT_.out (by kernel_rfl)) (fun _ _ _ h => h) (Or.inr ⟨by rfl, rfl⟩) ?_ ?_
   rotate_left
   ·simp only [Act.put, List.setIfInBounds_toArray, List.set_cons_zero, List.set_cons_succ, i64_w, i32_w]
    rfl
   refine pure_ (i := 6) (N := some 16) (v := undef) (a' := ?_) #[true, true, true, true, true, true, true, false, false, false, false, false] rfl rfl (any_of HT_.out (by kernel_rfl)) (fun _ _ _ h => h) (Or.inr ⟨by rfl, rfl⟩) ?_ ?_
   rotate_left
   ·simp only [Act.put, List.setIfInBounds_toArray, List.set_cons_zero, List.set_cons_succ, i64_w, i32_w]
    rfl
   refine pure_ (i := 7) (N := some 17) (v := undef) (a' := ?_) #[true, true, true, true, true, true, true, true, false, false, false, false] rfl rfl (any_of HT_.out (by kernel_rfl)) (fun _ _ _ h => h) (Or.inr ⟨by rfl, rfl⟩) ?_ ?_
   rotate_left
   ·simp only [Act.put, List.setIfInBounds_toArray, List.set_cons_zero, List.set_cons_succ, i64_w, i32_w]
    rfl
   refine pure_ (i := 8) (N := some 18) (v := undef) (a' := ?_) #[true, true, true, true, true, true, true, true, true, false, false, false] rfl rfl (any_of HT_.out (by kernel_rfl)) (fun _ _ _ h => h) (Or.inr ⟨by rfl, rfl⟩) ?_ ?_
   rotate_left
   ·simp only [Act.put, List.setIfInBounds_toArray, List.set_cons_zero, List.set_cons_succ, i64_w, i32_w]
    rfl
   refine pure_ (i := 9) (N := some 19) (v := undef) (a' := ?_) #[true, true, true, true, true, true, true, true, true, true, false, false] rfl rfl (any_of HT_.out (by kernel_rfl)) (fun _ _ _ h => h) (Or.inr ⟨by rfl, rfl⟩) ?_ ?_
   rotate_left
   ·simp only [Act.put, List.setIfInBounds_toArray, List.set_cons_zero, List.set_cons_succ, i64_w, i32_w]
    rfl
   refine pure_ (i := 10) (N := some 20) (v := undef) (a' := ?_) #[true, true, true, true, true, true, true, true, true, true, true, false] rfl rfl (any_of HT_.out (by kernel_rfl)) (fun _ _ _ h => h) (Or.inr ⟨by rfl, rfl⟩) ?_ ?_
   rotate_left
   ·simp only [Act.put, List.setIfInBounds_toArray, List.set_cons_zero, List.set_cons_succ, i64_w, i32_w]
    rfl
   refine pure_ (i := 11) (N := some 21) (v := ?_) (a' := ?_) #[true, true, true, true, true, true, true, true, true, true, true, true] rfl rfl (any_of HT_.out (by kernel_rfl)) (fun _ _ _ h => h) (Or.inl ⟨by rfl, ?_⟩) ?_ ?_
   rotate_left
   ·intro w'
    go_simp
    with_reducible rfl
   rotate_left
   ·simp only [Act.put, List.setIfInBounds_toArray, List.set_cons_zero, List.set_cons_succ, i64_w, i32_w]
    rfl
   refine done_ (done_of HT_.out (by kernel_rfl)) ?_
   try go_wp2
   go_meet
   case rel => exact ⟨_, (true), (by first | rfl | (simp; done) | (simp [*]; done)), H', ⟨by first | omega | exact Nat.le_refl _⟩, ⟨by (with_reducible repeat first | refine bN ?_ _ | refine bD ?_ | refine bA ?_ _); exact BK311.out⟩, ⟨by (with_reducible repeat first | refine bN ?_ _ | refine bD ?_ | refine bA ?_ _); exact BK312.out⟩, ⟨by (with_reducible repeat first | refine bN ?_ _ | refine bD ?_ | refine bA ?_ _); exact BK313.out⟩, ⟨by (with_reducible repeat first | refine bN ?_ _ | refine bD ?_ | refine bA ?_ _); exact BK314.out⟩, ⟨by repeat (first | (with_reducible first | exact HB.out | apply below_alloc | apply pw_below_drewN | apply below_drew1) | exact HB.out)⟩⟩
 case rest =>
  clear HC5
  try clear c1
  try clear c2
  try clear p2
  try clear c9
  try clear c11
  try clear c12
  obtain ⟨kq, x21_4, rfl, HA, HJ4, BK311, BK312, BK313, BK314, HB⟩ := hcut
  cases kq with
  | zero => exact absurd HA.out (by simp [clusterlockslaw04_AmountLattice.j0])
  | succ kj4 =>
   have H := HA.out
   clear HA
   simp only [clusterlockslaw04_AmountLattice.j0] at H
   by_cases c20 : x21_4 = true
   ·subst c20
    have H1 : (some false) = some r := by rw [if_pos rfl] at H; exact H
    clear H
    have H := H1
    clear H1
    obtain rfl := Option.some.inj H
    go_wp2
    go_ret
    exact ⟨by first | rfl | (simp [errW_none, errW_some] <;> rfl) | (simp [*, errW_none, errW_some] <;> rfl), by repeat (first | (with_reducible first | exact HB.out | apply below_alloc | apply pw_below_drewN | apply below_drew1) | exact HB.out)⟩
   ·replace c20 := Bool.eq_false_iff.mpr c20
    subst c20
    have H1 : ((amount_Covers.f kj4 a0_0 a0_1 a0_2 a0_3 a1_0 a1_1 a2_0 a2_1).bind fun t318 => (if t318 = true then ((amount_Covers.f kj4 a0_0 a0_1 a0_2 a0_3 a2_0 a2_1 a1_0 a1_1).bind fun t319 => (if t319 = true then (if (!(a1_0 == a2_0) || (!(a1_1 == a2_1))) = true then (clusterlockslaw04_AmountLattice.j1 kj4 true a0_0 a0_1 a0_2 a0_3 a1_0 a1_1 a2_0 a2_1 a3_0 a3_1) else ((amount_Covers.f kj4 a0_0 a0_1 a0_2 a0_3 a1_0 a1_1 a2_0 a2_1).bind fun t320 => (if t320 = true then ((amount_Covers.f kj4 a0_0 a0_1 a0_2 a0_3 a2_0 a2_1 a3_0 a3_1).bind fun t321 => (if t321 = true then ((amount_Covers.f kj4 a0_0 a0_1 a0_2 a0_3 a1_0 a1_1 a3_0 a3_1).bind fun t322 => (clusterlockslaw04_AmountLattice.j1 kj4 (!t322) a0_0 a0_1 a0_2 a0_3 a1_0 a1_1 a2_0 a2_1 a3_0 a3_1)) else (clusterlockslaw04_AmountLattice.j1 kj4 false a0_0 a0_1 a0_2 a0_3 a1_0 a1_1 a2_0 a2_1 a3_0 a3_1))) else (clusterlockslaw04_AmountLattice.j1 kj4 false a0_0 a0_1 a0_2 a0_3 a1_0 a1_1 a2_0 a2_1 a3_0 a3_1)))) else ((amount_Covers.f kj4 a0_0 a0_1 a0_2 a0_3 a1_0 a1_1 a2_0 a2_1).bind fun t323 => (if t323 = true then ((amount_Covers.f kj4 a0_0 a0_1 a0_2 a0_3 a2_0 a2_1 a3_0 a3_1).bind fun t324 => (if t324 = true then ((amount_Covers.f kj4 a0_0 a0_1 a0_2 a0_3 a1_0 a1_1 a3_0 a3_1).bind fun t325 => (clusterlockslaw04_AmountLattice.j1 kj4 (!t325) a0_0 a0_1 a0_2 a0_3 a1_0 a1_1 a2_0 a2_1 a3_0 a3_1)) else (clusterlockslaw04_AmountLattice.j1 kj4 false a0_0 a0_1 a0_2 a0_3 a1_0 a1_1 a2_0 a2_1 a3_0 a3_1))) else (clusterlockslaw04_AmountLattice.j1 kj4 false a0_0 a0_1 a0_2 a0_3 a1_0 a1_1 a2_0 a2_1 a3_0 a3_1))))) else ((amount_Covers.f kj4 a0_0 a0_1 a0_2 a0_3 a1_0 a1_1 a2_0 a2_1).bind fun t326 => (if t326 = true then ((amount_Covers.f kj4 a0_0 a0_1 a0_2 a0_3 a2_0 a2_1 a3_0 a3_1).bind fun t327 => (if t327 = true then ((amount_Covers.f kj4 a0_0 a0_1 a0_2 a0_3 a1_0 a1_1 a3_0 a3_1).bind fun t328 => (clusterlockslaw04_AmountLattice.j1 kj4 (!t328) a0_0 a0_1 a0_2 a0_3 a1_0 a1_1 a2_0 a2_1 a3_0 a3_1)) else (clusterlockslaw04_AmountLattice.j1 kj4 false a0_0 a0_1 a0_2 a0_3 a1_0 a1_1 a2_0 a2_1 a3_0 a3_1))) else (clusterlockslaw04_AmountLattice.j1 kj4 false a0_0 a0_1 a0_2 a0_3 a1_0 a1_1 a2_0 a2_1 a3_0 a3_1))))) = some r := by rw [if_neg (show ¬ (false = true) by decide)] at H; exact H
    clear H
    have H := H1
    clear H1
    have HC21 := Aside0.mk H
    clear H
    go_upto_region 3 with (fail)
    go_cut [55] (fun v55 wc => ∃ (kq : Nat) (x55_20 : Bool), v55 = .bool x55_20 ∧ Aside0 (clusterlockslaw04_AmountLattice.j1 kq x55_20 a0_0 a0_1 a0_2 a0_3 a1_0 a1_1 a2_0 a2_1 a3_0 a3_1 = some r) ∧ Aside0 (kq ≤ kj4) ∧ Aside0 (wc.heap[gb311]? = some (.cells #[.string a0_0, .int .i64 a0_1, .int .i64 a0_2, .int .i64 a0_3] 23 (0, 0))) ∧ Aside0 (wc.heap[gb312]? = some (.cells #[.int .i64 a1_0, .int .i64 a1_1] 25 (0, 0))) ∧ Aside0 (wc.heap[gb313]? = some (.cells #[.int .i64 a2_0, .int .i64 a2_1] 25 (0, 0))) ∧ Aside0 (wc.heap[gb314]? = some (.cells #[.int .i64 a3_0, .int .i64 a3_1] 25 (0, 0))) ∧ Aside0 (Below w.heap.size w wc))
    case first =>
     have H := HC21.out
     clear HC21
     replace H := Option.bind_eq_some_iff.mp H
     obtain ⟨t318, A220, H⟩ := H
     replace H : (if t318 = true then ((amount_Covers.f kj4 a0_0 a0_1 a0_2 a0_3 a2_0 a2_1 a1_0 a1_1).bind fun t319 => (if t319 = true then (if (!(a1_0 == a2_0) || (!(a1_1 == a2_1))) = true then (clusterlockslaw04_AmountLattice.j1 kj4 true a0_0 a0_1 a0_2 a0_3 a1_0 a1_1 a2_0 a2_1 a3_0 a3_1) else ((amount_Covers.f kj4 a0_0 a0_1 a0_2 a0_3 a1_0 a1_1 a2_0 a2_1).bind fun t320 => (if t320 = true then ((amount_Covers.f kj4 a0_0 a0_1 a0_2 a0_3 a2_0 a2_1 a3_0 a3_1).bind fun t321 => (if t321 = true then ((amount_Covers.f kj4 a0_0 a0_1 a0_2 a0_3 a1_0 a1_1 a3_0 a3_1).bind fun t322 => (clusterlockslaw04_AmountLattice.j1 kj4 (!t322) a0_0 a0_1 a0_2 a0_3 a1_0 a1_1 a2_0 a2_1 a3_0 a3_1)) else (clusterlockslaw04_AmountLattice.j1 kj4 false a0_0 a0_1 a0_2 a0_3 a1_0 a1_1 a2_0 a2_1 a3_0 a3_1))) else (clusterlockslaw04_AmountLattice.j1 kj4 false a0_0 a0_1 a0_2 a0_3 a1_0 a1_1 a2_0 a2_1 a3_0 a3_1)))) else ((amount_Covers.f kj4 a0_0 a0_1 a0_2 a0_3 a1_0 a1_1 a2_0 a2_1).bind fun t323 => (if t323 = true then ((amount_Covers.f kj4 a0_0 a0_1 a0_2 a0_3 a2_0 a2_1 a3_0 a3_1).bind fun t324 => (if t324 = true then ((amount_Covers.f kj4 a0_0 a0_1 a0_2 a0_3 a1_0 a1_1 a3_0 a3_1).bind fun t325 => (clusterlockslaw04_AmountLattice.j1 kj4 (!t325) a0_0 a0_1 a0_2 a0_3 a1_0 a1_1 a2_0 a2_1 a3_0 a3_1)) else (clusterlockslaw04_AmountLattice.j1 kj4 false a0_0 a0_1 a0_2 a0_3 a1_0 a1_1 a2_0 a2_1 a3_0 a3_1))) else (clusterlockslaw04_AmountLattice.j1 kj4 false a0_0 a0_1 a0_2 a0_3 a1_0 a1_1 a2_0 a2_1 a3_0 a3_1))))) else ((amount_Covers.f kj4 a0_0 a0_1 a0_2 a0_3 a1_0 a1_1 a2_0 a2_1).bind fun t326 => (if t326 = true then ((amount_Covers.f kj4 a0_0 a0_1 a0_2 a0_3 a2_0 a2_1 a3_0 a3_1).bind fun t327 => (if t327 = true then ((amount_Covers.f kj4 a0_0 a0_1 a0_2 a0_3 a1_0 a1_1 a3_0 a3_1).bind fun t328 => (clusterlockslaw04_AmountLattice.j1 kj4 (!t328) a0_0 a0_1 a0_2 a0_3 a1_0 a1_1 a2_0 a2_1 a3_0 a3_1)) else (clusterlockslaw04_AmountLattice.j1 kj4 false a0_0 a0_1 a0_2 a0_3 a1_0 a1_1 a2_0 a2_1 a3_0 a3_1))) else (clusterlockslaw04_AmountLattice.j1 kj4 false a0_0 a0_1 a0_2 a0_3 a1_0 a1_1 a2_0 a2_1 a3_0 a3_1)))) = some r := H
     have A22 := Aside0.mk A220
     clear A220
     by_cases c23 : t318 = true
     ·subst c23
      have H1 : ((amount_Covers.f kj4 a0_0 a0_1 a0_2 a0_3 a2_0 a2_1 a1_0 a1_1).bind fun t319 => (if t319 = true then (if (!(a1_0 == a2_0) || (!(a1_1 == a2_1))) = true then (clusterlockslaw04_AmountLattice.j1 kj4 true a0_0 a0_1 a0_2 a0_3 a1_0 a1_1 a2_0 a2_1 a3_0 a3_1) else ((amount_Covers.f kj4 a0_0 a0_1 a0_2 a0_3 a1_0 a1_1 a2_0 a2_1).bind fun t320 => (if t320 = true then ((amount_Covers.f kj4 a0_0 a0_1 a0_2 a0_3 a2_0 a2_1 a3_0 a3_1).bind fun t321 => (if t321 = true then ((amount_Covers.f kj4 a0_0 a0_1 a0_2 a0_3 a1_0 a1_1 a3_0 a3_1).bind fun t322 => (clusterlockslaw04_AmountLattice.j1 kj4 (!t322) a0_0 a0_1 a0_2 a0_3 a1_0 a1_1 a2_0 a2_1 a3_0 a3_1)) else (clusterlockslaw04_AmountLattice.j1 kj4 false a0_0 a0_1 a0_2 a0_3 a1_0 a1_1 a2_0 a2_1 a3_0 a3_1))) else (clusterlockslaw04_AmountLattice.j1 kj4 false a0_0 a0_1 a0_2 a0_3 a1_0 a1_1 a2_0 a2_1 a3_0 a3_1)))) else ((amount_Covers.f kj4 a0_0 a0_1 a0_2 a0_3 a1_0 a1_1 a2_0 a2_1).bind fun t323 => (if t323 = true then ((amount_Covers.f kj4 a0_0 a0_1 a0_2 a0_3 a2_0 a2_1 a3_0 a3_1).bind fun t324 => (if t324 = true then ((amount_Covers.f kj4 a0_0 a0_1 a0_2 a0_3 a1_0 a1_1 a3_0 a3_1).bind fun t325 => (clusterlockslaw04_AmountLattice.j1 kj4 (!t325) a0_0 a0_1 a0_2 a0_3 a1_0 a1_1 a2_0 a2_1 a3_0 a3_1)) else (clusterlockslaw04_AmountLattice.j1 kj4 false a0_0 a0_1 a0_2 a0_3 a1_0 a1_1 a2_0 a2_1 a3_0 a3_1))) else (clusterlockslaw04_AmountLattice.j1 kj4 false a0_0 a0_1 a0_2 a0_3 a1_0 a1_1 a2_0 a2_1 a3_0 a3_1))))) = some r := by rw [if_pos rfl] at H; exact H
      clear H
      have H := H1
      clear H1
      replace H := Option.bind_eq_some_iff.mp H
      obtain ⟨t319, A240, H⟩ := H
      replace H : (if t319 = true then (if (!(a1_0 == a2_0) || (!(a1_1 == a2_1))) = true then (clusterlockslaw04_AmountLattice.j1 kj4 true a0_0 a0_1 a0_2 a0_3 a1_0 a1_1 a2_0 a2_1 a3_0 a3_1) else ((amount_Covers.f kj4 a0_0 a0_1 a0_2 a0_3 a1_0 a1_1 a2_0 a2_1).bind fun t320 => (if t320 = true then ((amount_Covers.f kj4 a0_0 a0_1 a0_2 a0_3 a2_0 a2_1 a3_0 a3_1).bind fun t321 => (if t321 = true then ((amount_Covers.f kj4 a0_0 a0_1 a0_2 a0_3 a1_0 a1_1 a3_0 a3_1).bind fun t322 => (clusterlockslaw04_AmountLattice.j1 kj4 (!t322) a0_0 a0_1 a0_2 a0_3 a1_0 a1_1 a2_0 a2_1 a3_0 a3_1)) else (clusterlockslaw04_AmountLattice.j1 kj4 false a0_0 a0_1 a0_2 a0_3 a1_0 a1_1 a2_0 a2_1 a3_0 a3_1))) else (clusterlockslaw04_AmountLattice.j1 kj4 false a0_0 a0_1 a0_2 a0_3 a1_0 a1_1 a2_0 a2_1 a3_0 a3_1)))) else ((amount_Covers.f kj4 a0_0 a0_1 a0_2 a0_3 a1_0 a1_1 a2_0 a2_1).bind fun t323 => (if t323 = true then ((amount_Covers.f kj4 a0_0 a0_1 a0_2 a0_3 a2_0 a2_1 a3_0 a3_1).bind fun t324 => (if t324 = true then ((amount_Covers.f kj4 a0_0 a0_1 a0_2 a0_3 a1_0 a1_1 a3_0 a3_1).bind fun t325 => (clusterlockslaw04_AmountLattice.j1 kj4 (!t325) a0_0 a0_1 a0_2 a0_3 a1_0 a1_1 a2_0 a2_1 a3_0 a3_1)) else (clusterlockslaw04_AmountLattice.j1 kj4 false a0_0 a0_1 a0_2 a0_3 a1_0 a1_1 a2_0 a2_1 a3_0 a3_1))) else (clusterlockslaw04_AmountLattice.j1 kj4 false a0_0 a0_1 a0_2 a0_3 a1_0 a1_1 a2_0 a2_1 a3_0 a3_1)))) = some r := H
      have A24 := Aside0.mk A240
      clear A240
      by_cases c25 : t319 = true
      ·subst c25
       have H1 : (if (!(a1_0 == a2_0) || (!(a1_1 == a2_1))) = true then (clusterlockslaw04_AmountLattice.j1 kj4 true a0_0 a0_1 a0_2 a0_3 a1_0 a1_1 a2_0 a2_1 a3_0 a3_1) else ((amount_Covers.f kj4 a0_0 a0_1 a0_2 a0_3 a1_0 a1_1 a2_0 a2_1).bind fun t320 => (if t320 = true then ((amount_Covers.f kj4 a0_0 a0_1 a0_2 a0_3 a2_0 a2_1 a3_0 a3_1).bind fun t321 => (if t321 = true then ((amount_Covers.f kj4 a0_0 a0_1 a0_2 a0_3 a1_0 a1_1 a3_0 a3_1).bind fun t322 => (clusterlockslaw04_AmountLattice.j1 kj4 (!t322) a0_0 a0_1 a0_2 a0_3 a1_0 a1_1 a2_0 a2_1 a3_0 a3_1)) else (clusterlockslaw04_AmountLattice.j1 kj4 false a0_0 a0_1 a0_2 a0_3 a1_0 a1_1 a2_0 a2_1 a3_0 a3_1))) else (clusterlockslaw04_AmountLattice.j1 kj4 false a0_0 a0_1 a0_2 a0_3 a1_0 a1_1 a2_0 a2_1 a3_0 a3_1)))) = some r := by rw [if_pos rfl] at H; exact H
       clear H
       have H := H1
       clear H1
       by_cases c26 : (!(a1_0 == a2_0) || (!(a1_1 == a2_1))) = true
       ·rw [if_pos c26] at H
        have c26b0 : (!(a1_0 == a2_0) || (!(a1_1 == a2_1))) = true := c26
        clear c26
        (first | rw [c26b0] | (simp only [i64_w, i32_w]; rw [c26b0]) | skip)
        have H' := Aside0.mk H
        clear H
        have hnb27 := NB311_312.out
        have hnc27 := NB312_311.out
        have hnb28 := NB311_313.out
        have hnc28 := NB313_311.out
        have hnb29 := NB311_314.out
        have hnc29 := NB314_311.out
        have hcz30_0 : wc.cell? ⟨gb311, 0, none⟩ = some (.string a0_0) := (blk_cell BK311.out 0).trans rfl
        have hcz30_1 : wc.cell? ⟨gb311, 1, none⟩ = some (.int .i64 a0_1) := (blk_cell BK311.out 1).trans rfl
        have hcz30_2 : wc.cell? ⟨gb311, 2, none⟩ = some (.int .i64 a0_2) := (blk_cell BK311.out 2).trans rfl
        have hcz30_3 : wc.cell? ⟨gb311, 3, none⟩ = some (.int .i64 a0_3) := (blk_cell BK311.out 3).trans rfl
        have hfz30_0 := blk_frozen BK311.out 0
        have hfz30_1 := blk_frozen BK311.out 1
        have hfz30_2 := blk_frozen BK311.out 2
        have hfz30_3 := blk_frozen BK311.out 3
        have hnb31 := NB312_313.out
        have hnc31 := NB313_312.out
        have hnb32 := NB312_314.out
        have hnc32 := NB314_312.out
        have hcz33_0 : wc.cell? ⟨gb312, 0, none⟩ = some (.int .i64 a1_0) := (blk_cell BK312.out 0).trans rfl
        have hcz33_1 : wc.cell? ⟨gb312, 1, none⟩ = some (.int .i64 a1_1) := (blk_cell BK312.out 1).trans rfl
        have hfz33_0 := blk_frozen BK312.out 0
        have hfz33_1 := blk_frozen BK312.out 1
        have hnb34 := NB313_314.out
        have hnc34 := NB314_313.out
        have hcz35_0 : wc.cell? ⟨gb313, 0, none⟩ = some (.int .i64 a2_0) := (blk_cell BK313.out 0).trans rfl
        have hcz35_1 : wc.cell? ⟨gb313, 1, none⟩ = some (.int .i64 a2_1) := (blk_cell BK313.out 1).trans rfl
        have hfz35_0 := blk_frozen BK313.out 0
        have hfz35_1 := blk_frozen BK313.out 1
        go_wp2_with (first | ((with_reducible refine gate_callee (f := 26) rfl ?_); refine goesL_ (some 25) rfl rfl Tryd.func26 (by kernel_rfl) rfl #[.agg #[.string a0_0, .int .i64 a0_1, .int .i64 a0_2, .int .i64 a0_3], .agg #[.int .i64 a1_0, .int .i64 a1_1], .agg #[.int .i64 a2_0, .int .i64 a2_1]] rfl (by (try simp only [List.map_toArray, List.map_cons, List.map_nil]); first | done | rfl | (simp only [List.length_drop, List.length_take]; rfl)) ?_; (with_reducible refine (amount_Covers.calls kj4 a0_0 a0_1 a0_2 a0_3 a1_0 a1_1 a2_0 a2_1 true _ A22.out).mono ?_); rintro e w36 ⟨rfl, hb⟩; refine ⟨_, rfl, ?_⟩; have n0_ := blkB BK311 (by (with_reducible repeat first | refine bN ?_ _ | refine bD ?_ | refine bA ?_ _); exact BK311.out) hb; have n1_ := blkB BK312 (by (with_reducible repeat first | refine bN ?_ _ | refine bD ?_ | refine bA ?_ _); exact BK312.out) hb; have n2_ := blkB BK313 (by (with_reducible repeat first | refine bN ?_ _ | refine bD ?_ | refine bA ?_ _); exact BK313.out) hb; have n3_ := blkB BK314 (by (with_reducible repeat first | refine bN ?_ _ | refine bD ?_ | refine bA ?_ _); exact BK314.out) hb; have n4_ := Aside0.mk (below_step (by repeat (first | (with_reducible first | exact HB.out | apply below_alloc | apply pw_below_drewN | apply below_drew1) | exact HB.out)) hb); clear BK311 BK312 BK313 BK314 HB; have BK311 := n0_; have BK312 := n1_; have BK313 := n2_; have BK314 := n3_; have HB := n4_; clear n0_ n1_ n2_ n3_ n4_; (try clear hb); have hcz37_0 : w36.cell? ⟨gb311, 0, none⟩ = some (.string a0_0) := (blk_cell BK311.out 0).trans rfl; have hcz37_1 : w36.cell? ⟨gb311, 1, none⟩ = some (.int .i64 a0_1) := (blk_cell BK311.out 1).trans rfl; have hcz37_2 : w36.cell? ⟨gb311, 2, none⟩ = some (.int .i64 a0_2) := (blk_cell BK311.out 2).trans rfl; have hcz37_3 : w36.cell? ⟨gb311, 3, none⟩ = some (.int .i64 a0_3) := (blk_cell BK311.out 3).trans rfl; have hfz37_0 := blk_frozen BK311.out 0; have hfz37_1 := blk_frozen BK311.out 1; have hfz37_2 := blk_frozen BK311.out 2; have hfz37_3 := blk_frozen BK311.out 3; have hcz38_0 : w36.cell? ⟨gb313, 0, none⟩ = some (.int .i64 a2_0) := (blk_cell BK313.out 0).trans rfl; have hcz38_1 : w36.cell? ⟨gb313, 1, none⟩ = some (.int .i64 a2_1) := (blk_cell BK313.out 1).trans rfl; have hfz38_0 := blk_frozen BK313.out 0; have hfz38_1 := blk_frozen BK313.out 1; have hcz39_0 : w36.cell? ⟨gb312, 0, none⟩ = some (.int .i64 a1_0) := (blk_cell BK312.out 0).trans rfl; have hcz39_1 : w36.cell? ⟨gb312, 1, none⟩ = some (.int .i64 a1_1) := (blk_cell BK312.out 1).trans rfl; have hfz39_0 := blk_frozen BK312.out 0; have hfz39_1 := blk_frozen BK312.out 1) | (go_at_call 26; (with_reducible refine (amount_Covers.calls kj4 a0_0 a0_1 a0_2 a0_3 a2_0 a2_1 a1_0 a1_1 true _ A24.out).mono ?_); rintro e w40 ⟨rfl, hb⟩; have n0_ := blkB BK311 (by (with_reducible repeat first | refine bN ?_ _ | refine bD ?_ | refine bA ?_ _); exact BK311.out) hb; have n1_ := blkB BK312 (by (with_reducible repeat first | refine bN ?_ _ | refine bD ?_ | refine bA ?_ _); exact BK312.out) hb; have n2_ := blkB BK313 (by (with_reducible repeat first | refine bN ?_ _ | refine bD ?_ | refine bA ?_ _); exact BK313.out) hb; have n3_ := blkB BK314 (by (with_reducible repeat first | refine bN ?_ _ | refine bD ?_ | refine bA ?_ _); exact BK314.out) hb; have n4_ := Aside0.mk (below_step (by repeat (first | (with_reducible first | exact HB.out | apply below_alloc | apply pw_below_drewN | apply below_drew1) | exact HB.out)) hb); clear BK311 BK312 BK313 BK314 HB; have BK311 := n0_; have BK312 := n1_; have BK313 := n2_; have BK314 := n3_; have HB := n4_; clear n0_ n1_ n2_ n3_ n4_; (try clear hb); have hcz41_0 : w40.cell? ⟨gb312, 0, none⟩ = some (.int .i64 a1_0) := (blk_cell BK312.out 0).trans rfl; have hcz41_1 : w40.cell? ⟨gb312, 1, none⟩ = some (.int .i64 a1_1) := (blk_cell BK312.out 1).trans rfl; have hfz41_0 := blk_frozen BK312.out 0; have hfz41_1 := blk_frozen BK312.out 1; have hcz42_0 : w40.cell? ⟨gb313, 0, none⟩ = some (.int .i64 a2_0) := (blk_cell BK313.out 0).trans rfl; have hcz42_1 : w40.cell? ⟨gb313, 1, none⟩ = some (.int .i64 a2_1) := (blk_cell BK313.out 1).trans rfl; have hfz42_0 := blk_frozen BK313.out 0; have hfz42_1 := blk_frozen BK313.out 1))
        go_meet
        case rel => exact ⟨_, (true), (by first | rfl | (simp; done) | (simp [*]; done)), H', ⟨by have := HJ4.out; first | omega | exact Nat.le_refl _⟩, ⟨by (with_reducible repeat first | refine bN ?_ _ | refine bD ?_ | refine bA ?_ _); exact BK311.out⟩, ⟨by (with_reducible repeat first | refine bN ?_ _ | refine bD ?_ | refine bA ?_ _); exact BK312.out⟩, ⟨by (with_reducible repeat first | refine bN ?_ _ | refine bD ?_ | refine bA ?_ _); exact BK313.out⟩, ⟨by (with_reducible repeat first | refine bN ?_ _ | refine bD ?_ | refine bA ?_ _); exact BK314.out⟩, ⟨by repeat (first | (with_reducible first | exact HB.out | apply below_alloc | apply pw_below_drewN | apply below_drew1) | exact HB.out)⟩⟩
       ·rw [if_neg c26] at H
        have c26b0 : (!(a1_0 == a2_0) || (!(a1_1 == a2_1))) = false := by simpa using c26
        clear c26
        (first | rw [c26b0] | (simp only [i64_w, i32_w]; rw [c26b0]) | skip)
        replace H := Option.bind_eq_some_iff.mp H
        obtain ⟨t320, A430, H⟩ := H
        replace H : (if t320 = true then ((amount_Covers.f kj4 a0_0 a0_1 a0_2 a0_3 a2_0 a2_1 a3_0 a3_1).bind fun t321 => (if t321 = true then ((amount_Covers.f kj4 a0_0 a0_1 a0_2 a0_3 a1_0 a1_1 a3_0 a3_1).bind fun t322 => (clusterlockslaw04_AmountLattice.j1 kj4 (!t322) a0_0 a0_1 a0_2 a0_3 a1_0 a1_1 a2_0 a2_1 a3_0 a3_1)) else (clusterlockslaw04_AmountLattice.j1 kj4 false a0_0 a0_1 a0_2 a0_3 a1_0 a1_1 a2_0 a2_1 a3_0 a3_1))) else (clusterlockslaw04_AmountLattice.j1 kj4 false a0_0 a0_1 a0_2 a0_3 a1_0 a1_1 a2_0 a2_1 a3_0 a3_1)) = some r := H
        have A43 := Aside0.mk A430
        clear A430
        by_cases c44 : t320 = true
        ·subst c44
         have H1 : ((amount_Covers.f kj4 a0_0 a0_1 a0_2 a0_3 a2_0 a2_1 a3_0 a3_1).bind fun t321 => (if t321 = true then ((amount_Covers.f kj4 a0_0 a0_1 a0_2 a0_3 a1_0 a1_1 a3_0 a3_1).bind fun t322 => (clusterlockslaw04_AmountLattice.j1 kj4 (!t322) a0_0 a0_1 a0_2 a0_3 a1_0 a1_1 a2_0 a2_1 a3_0 a3_1)) else (clusterlockslaw04_AmountLattice.j1 kj4 false a0_0 a0_1 a0_2 a0_3 a1_0 a1_1 a2_0 a2_1 a3_0 a3_1))) = some r := by rw [if_pos rfl] at H; exact H
         clear H
         have H := H1
         clear H1
         replace H := Option.bind_eq_some_iff.mp H
         obtain ⟨t321, A450, H⟩ := H
         replace H : (if t321 = true then ((amount_Covers.f kj4 a0_0 a0_1 a0_2 a0_3 a1_0 a1_1 a3_0 a3_1).bind fun t322 => (clusterlockslaw04_AmountLattice.j1 kj4 (!t322) a0_0 a0_1 a0_2 a0_3 a1_0 a1_1 a2_0 a2_1 a3_0 a3_1)) else (clusterlockslaw04_AmountLattice.j1 kj4 false a0_0 a0_1 a0_2 a0_3 a1_0 a1_1 a2_0 a2_1 a3_0 a3_1)) = some r := H
         have A45 := Aside0.mk A450
         clear A450
         by_cases c46 : t321 = true
         ·subst c46
          have H1 : ((amount_Covers.f kj4 a0_0 a0_1 a0_2 a0_3 a1_0 a1_1 a3_0 a3_1).bind fun t322 => (clusterlockslaw04_AmountLattice.j1 kj4 (!t322) a0_0 a0_1 a0_2 a0_3 a1_0 a1_1 a2_0 a2_1 a3_0 a3_1)) = some r := by rw [if_pos rfl] at H; exact H
          clear H
          have H := H1
          clear H1
          replace H := Option.bind_eq_some_iff.mp H
          obtain ⟨t322, A470, H⟩ := H
          replace H : (clusterlockslaw04_AmountLattice.j1 kj4 (!t322) a0_0 a0_1 a0_2 a0_3 a1_0 a1_1 a2_0 a2_1 a3_0 a3_1) = some r := H
          have A47 := Aside0.mk A470
          clear A470
          have H' := Aside0.mk H
          clear H
          have hnb48 := NB311_312.out
          have hnc48 := NB312_311.out
          have hnb49 := NB311_313.out
          have hnc49 := NB313_311.out
          have hnb50 := NB311_314.out
          have hnc50 := NB314_311.out
          have hcz51_0 : wc.cell? ⟨gb311, 0, none⟩ = some (.string a0_0) := (blk_cell BK311.out 0).trans rfl
          have hcz51_1 : wc.cell? ⟨gb311, 1, none⟩ = some (.int .i64 a0_1) := (blk_cell BK311.out 1).trans rfl
          have hcz51_2 : wc.cell? ⟨gb311, 2, none⟩ = some (.int .i64 a0_2) := (blk_cell BK311.out 2).trans rfl
          have hcz51_3 : wc.cell? ⟨gb311, 3, none⟩ = some (.int .i64 a0_3) := (blk_cell BK311.out 3).trans rfl
          have hfz51_0 := blk_frozen BK311.out 0
          have hfz51_1 := blk_frozen BK311.out 1
          have hfz51_2 := blk_frozen BK311.out 2
          have hfz51_3 := blk_frozen BK311.out 3
          have hnb52 := NB312_313.out
          have hnc52 := NB313_312.out
          have hnb53 := NB312_314.out
          have hnc53 := NB314_312.out
          have hcz54_0 : wc.cell? ⟨gb312, 0, none⟩ = some (.int .i64 a1_0) := (blk_cell BK312.out 0).trans rfl
          have hcz54_1 : wc.cell? ⟨gb312, 1, none⟩ = some (.int .i64 a1_1) := (blk_cell BK312.out 1).trans rfl
          have hfz54_0 := blk_frozen BK312.out 0
          have hfz54_1 := blk_frozen BK312.out 1
          have hnb55 := NB313_314.out
          have hnc55 := NB314_313.out
          have hcz56_0 : wc.cell? ⟨gb313, 0, none⟩ = some (.int .i64 a2_0) := (blk_cell BK313.out 0).trans rfl
          have hcz56_1 : wc.cell? ⟨gb313, 1, none⟩ = some (.int .i64 a2_1) := (blk_cell BK313.out 1).trans rfl
          have hfz56_0 := blk_frozen BK313.out 0
          have hfz56_1 := blk_frozen BK313.out 1
          go_wp2_with (first | ((with_reducible refine gate_callee (f := 26) rfl ?_); refine goesL_ (some 25) rfl rfl Tryd.func26 (by kernel_rfl) rfl #[.agg #[.string a0_0, .int .i64 a0_1, .int .i64 a0_2, .int .i64 a0_3], .agg #[.int .i64 a1_0, .int .i64 a1_1], .agg #[.int .i64 a2_0, .int .i64 a2_1]] rfl (by (try simp only [List.map_toArray, List.map_cons, List.map_nil]); first | done | rfl | (simp only [List.length_drop, List.length_take]; rfl)) ?_; (with_reducible refine (amount_Covers.calls kj4 a0_0 a0_1 a0_2 a0_3 a1_0 a1_1 a2_0 a2_1 true _ A22.out).mono ?_); rintro e w57 ⟨rfl, hb⟩; refine ⟨_, rfl, ?_⟩; have n0_ := blkB BK311 (by (with_reducible repeat first | refine bN ?_ _ | refine bD ?_ | refine bA ?_ _); exact BK311.out) hb; have n1_ := blkB BK312 (by (with_reducible repeat first | refine bN ?_ _ | refine bD ?_ | refine bA ?_ _); exact BK312.out) hb; have n2_ := blkB BK313 (by (with_reducible repeat first | refine bN ?_ _ | refine bD ?_ | refine bA ?_ _); exact BK313.out) hb; have n3_ := blkB BK314 (by (with_reducible repeat first | refine bN ?_ _ | refine bD ?_ | refine bA ?_ _); exact BK314.out) hb; have n4_ := Aside0.mk (below_step (by repeat (first | (with_reducible first | exact HB.out | apply below_alloc | apply pw_below_drewN | apply below_drew1) | exact HB.out)) hb); clear BK311 BK312 BK313 BK314 HB; have BK311 := n0_; have BK312 := n1_; have BK313 := n2_; have BK314 := n3_; have HB := n4_; clear n0_ n1_ n2_ n3_ n4_; (try clear hb); have hcz58_0 : w57.cell? ⟨gb311, 0, none⟩ = some (.string a0_0) := (blk_cell BK311.out 0).trans rfl; have hcz58_1 : w57.cell? ⟨gb311, 1, none⟩ = some (.int .i64 a0_1) := (blk_cell BK311.out 1).trans rfl; have hcz58_2 : w57.cell? ⟨gb311, 2, none⟩ = some (.int .i64 a0_2) := (blk_cell BK311.out 2).trans rfl; have hcz58_3 : w57.cell? ⟨gb311, 3, none⟩ = some (.int .i64 a0_3) := (blk_cell BK311.out 3).trans rfl; have hfz58_0 := blk_frozen BK311.out 0; have hfz58_1 := blk_frozen BK311.out 1; have hfz58_2 := blk_frozen BK311.out 2; have hfz58_3 := blk_frozen BK311.out 3; have hcz59_0 : w57.cell? ⟨gb313, 0, none⟩ = some (.int .i64 a2_0) := (blk_cell BK313.out 0).trans rfl; have hcz59_1 : w57.cell? ⟨gb313, 1, none⟩ = some (.int .i64 a2_1) := (blk_cell BK313.out 1).trans rfl; have hfz59_0 := blk_frozen BK313.out 0; have hfz59_1 := blk_frozen BK313.out 1; have hcz60_0 : w57.cell? ⟨gb312, 0, none⟩ = some (.int .i64 a1_0) := (blk_cell BK312.out 0).trans rfl; have hcz60_1 : w57.cell? ⟨gb312, 1, none⟩ = some (.int .i64 a1_1) := (blk_cell BK312.out 1).trans rfl; have hfz60_0 := blk_frozen BK312.out 0; have hfz60_1 := blk_frozen BK312.out 1) | (go_at_call 26; (with_reducible refine (amount_Covers.calls kj4 a0_0 a0_1 a0_2 a0_3 a2_0 a2_1 a1_0 a1_1 true _ A24.out).mono ?_); rintro e w61 ⟨rfl, hb⟩; have n0_ := blkB BK311 (by (with_reducible repeat first | refine bN ?_ _ | refine bD ?_ | refine bA ?_ _); exact BK311.out) hb; have n1_ := blkB BK312 (by (with_reducible repeat first | refine bN ?_ _ | refine bD ?_ | refine bA ?_ _); exact BK312.out) hb; have n2_ := blkB BK313 (by (with_reducible repeat first | refine bN ?_ _ | refine bD ?_ | refine bA ?_ _); exact BK313.out) hb; have n3_ := blkB BK314 (by (with_reducible repeat first | refine bN ?_ _ | refine bD ?_ | refine bA ?_ _); exact BK314.out) hb; have n4_ := Aside0.mk (below_step (by repeat (first | (with_reducible first | exact HB.out | apply below_alloc | apply pw_below_drewN | apply below_drew1) | exact HB.out)) hb); clear BK311 BK312 BK313 BK314 HB; have BK311 := n0_; have BK312 := n1_; have BK313 := n2_; have BK314 := n3_; have HB := n4_; clear n0_ n1_ n2_ n3_ n4_; (try clear hb); have hcz62_0 : w61.cell? ⟨gb312, 0, none⟩ = some (.int .i64 a1_0) := (blk_cell BK312.out 0).trans rfl; have hcz62_1 : w61.cell? ⟨gb312, 1, none⟩ = some (.int .i64 a1_1) := (blk_cell BK312.out 1).trans rfl; have hfz62_0 := blk_frozen BK312.out 0; have hfz62_1 := blk_frozen BK312.out 1; have hcz63_0 : w61.cell? ⟨gb313, 0, none⟩ = some (.int .i64 a2_0) := (blk_cell BK313.out 0).trans rfl; have hcz63_1 : w61.cell? ⟨gb313, 1, none⟩ = some (.int .i64 a2_1) := (blk_cell BK313.out 1).trans rfl; have hfz63_0 := blk_frozen BK313.out 0; have hfz63_1 := blk_frozen BK313.out 1; have hcz64_0 : w61.cell? ⟨gb311, 0, none⟩ = some (.string a0_0) := (blk_cell BK311.out 0).trans rfl; have hcz64_1 : w61.cell? ⟨gb311, 1, none⟩ = some (.int .i64 a0_1) := (blk_cell BK311.out 1).trans rfl; have hcz64_2 : w61.cell? ⟨gb311, 2, none⟩ = some (.int .i64 a0_2) := (blk_cell BK311.out 2).trans rfl; have hcz64_3 : w61.cell? ⟨gb311, 3, none⟩ = some (.int .i64 a0_3) := (blk_cell BK311.out 3).trans rfl; have hfz64_0 := blk_frozen BK311.out 0; have hfz64_1 := blk_frozen BK311.out 1; have hfz64_2 := blk_frozen BK311.out 2; have hfz64_3 := blk_frozen BK311.out 3) | (go_at_call 26; (with_reducible refine (amount_Covers.calls kj4 a0_0 a0_1 a0_2 a0_3 a1_0 a1_1 a2_0 a2_1 true _ A43.out).mono ?_); rintro e w65 ⟨rfl, hb⟩; have n0_ := blkB BK311 (by (with_reducible repeat first | refine bN ?_ _ | refine bD ?_ | refine bA ?_ _); exact BK311.out) hb; have n1_ := blkB BK312 (by (with_reducible repeat first | refine bN ?_ _ | refine bD ?_ | refine bA ?_ _); exact BK312.out) hb; have n2_ := blkB BK313 (by (with_reducible repeat first | refine bN ?_ _ | refine bD ?_ | refine bA ?_ _); exact BK313.out) hb; have n3_ := blkB BK314 (by (with_reducible repeat first | refine bN ?_ _ | refine bD ?_ | refine bA ?_ _); exact BK314.out) hb; have n4_ := Aside0.mk (below_step (by repeat (first | (with_reducible first | exact HB.out | apply below_alloc | apply pw_below_drewN | apply below_drew1) | exact HB.out)) hb); clear BK311 BK312 BK313 BK314 HB; have BK311 := n0_; have BK312 := n1_; have BK313 := n2_; have BK314 := n3_; have HB := n4_; clear n0_ n1_ n2_ n3_ n4_; (try clear hb); have hcz66_0 : w65.cell? ⟨gb311, 0, none⟩ = some (.string a0_0) := (blk_cell BK311.out 0).trans rfl; have hcz66_1 : w65.cell? ⟨gb311, 1, none⟩ = some (.int .i64 a0_1) := (blk_cell BK311.out 1).trans rfl; have hcz66_2 : w65.cell? ⟨gb311, 2, none⟩ = some (.int .i64 a0_2) := (blk_cell BK311.out 2).trans rfl; have hcz66_3 : w65.cell? ⟨gb311, 3, none⟩ = some (.int .i64 a0_3) := (blk_cell BK311.out 3).trans rfl; have hfz66_0 := blk_frozen BK311.out 0; have hfz66_1 := blk_frozen BK311.out 1; have hfz66_2 := blk_frozen BK311.out 2; have hfz66_3 := blk_frozen BK311.out 3; have hcz67_0 : w65.cell? ⟨gb313, 0, none⟩ = some (.int .i64 a2_0) := (blk_cell BK313.out 0).trans rfl; have hcz67_1 : w65.cell? ⟨gb313, 1, none⟩ = some (.int .i64 a2_1) := (blk_cell BK313.out 1).trans rfl; have hfz67_0 := blk_frozen BK313.out 0; have hfz67_1 := blk_frozen BK313.out 1; have hcz68_0 : w65.cell? ⟨gb314, 0, none⟩ = some (.int .i64 a3_0) := (blk_cell BK314.out 0).trans rfl; have hcz68_1 : w65.cell? ⟨gb314, 1, none⟩ = some (.int .i64 a3_1) := (blk_cell BK314.out 1).trans rfl; have hfz68_0 := blk_frozen BK314.out 0; have hfz68_1 := blk_frozen BK314.out 1) | (go_at_call 26; (with_reducible refine (amount_Covers.calls kj4 a0_0 a0_1 a0_2 a0_3 a2_0 a2_1 a3_0 a3_1 true _ A45.out).mono ?_); rintro e w69 ⟨rfl, hb⟩; have n0_ := blkB BK311 (by (with_reducible repeat first | refine bN ?_ _ | refine bD ?_ | refine bA ?_ _); exact BK311.out) hb; have n1_ := blkB BK312 (by (with_reducible repeat first | refine bN ?_ _ | refine bD ?_ | refine bA ?_ _); exact BK312.out) hb; have n2_ := blkB BK313 (by (with_reducible repeat first | refine bN ?_ _ | refine bD ?_ | refine bA ?_ _); exact BK313.out) hb; have n3_ := blkB BK314 (by (with_reducible repeat first | refine bN ?_ _ | refine bD ?_ | refine bA ?_ _); exact BK314.out) hb; have n4_ := Aside0.mk (below_step (by repeat (first | (with_reducible first | exact HB.out | apply below_alloc | apply pw_below_drewN | apply below_drew1) | exact HB.out)) hb); clear BK311 BK312 BK313 BK314 HB; have BK311 := n0_; have BK312 := n1_; have BK313 := n2_; have BK314 := n3_; have HB := n4_; clear n0_ n1_ n2_ n3_ n4_; (try clear hb); have hcz70_0 : w69.cell? ⟨gb311, 0, none⟩ = some (.string a0_0) := (blk_cell BK311.out 0).trans rfl; have hcz70_1 : w69.cell? ⟨gb311, 1, none⟩ = some (.int .i64 a0_1) := (blk_cell BK311.out 1).trans rfl; have hcz70_2 : w69.cell? ⟨gb311, 2, none⟩ = some (.int .i64 a0_2) := (blk_cell BK311.out 2).trans rfl; have hcz70_3 : w69.cell? ⟨gb311, 3, none⟩ = some (.int .i64 a0_3) := (blk_cell BK311.out 3).trans rfl; have hfz70_0 := blk_frozen BK311.out 0; have hfz70_1 := blk_frozen BK311.out 1; have hfz70_2 := blk_frozen BK311.out 2; have hfz70_3 := blk_frozen BK311.out 3; have hcz71_0 : w69.cell? ⟨gb312, 0, none⟩ = some (.int .i64 a1_0) := (blk_cell BK312.out 0).trans rfl; have hcz71_1 : w69.cell? ⟨gb312, 1, none⟩ = some (.int .i64 a1_1) := (blk_cell BK312.out 1).trans rfl; have hfz71_0 := blk_frozen BK312.out 0; have hfz71_1 := blk_frozen BK312.out 1; have hcz72_0 : w69.cell? ⟨gb314, 0, none⟩ = some (.int .i64 a3_0) := (blk_cell BK314.out 0).trans rfl; have hcz72_1 : w69.cell? ⟨gb314, 1, none⟩ = some (.int .i64 a3_1) := (blk_cell BK314.out 1).trans rfl; have hfz72_0 := blk_frozen BK314.out 0; have hfz72_1 := blk_frozen BK314.out 1) | (go_at_call 26; (with_reducible refine (amount_Covers.calls kj4 a0_0 a0_1 a0_2 a0_3 a1_0 a1_1 a3_0 a3_1 t322 _ A47.out).mono ?_); rintro e w73 ⟨rfl, hb⟩; have n0_ := blkB BK311 (by (with_reducible repeat first | refine bN ?_ _ | refine bD ?_ | refine bA ?_ _); exact BK311.out) hb; have n1_ := blkB BK312 (by (with_reducible repeat first | refine bN ?_ _ | refine bD ?_ | refine bA ?_ _); exact BK312.out) hb; have n2_ := blkB BK313 (by (with_reducible repeat first | refine bN ?_ _ | refine bD ?_ | refine bA ?_ _); exact BK313.out) hb; have n3_ := blkB BK314 (by (with_reducible repeat first | refine bN ?_ _ | refine bD ?_ | refine bA ?_ _); exact BK314.out) hb; have n4_ := Aside0.mk (below_step (by repeat (first | (with_reducible first | exact HB.out | apply below_alloc | apply pw_below_drewN | apply below_drew1) | exact HB.out)) hb); clear BK311 BK312 BK313 BK314 HB; have BK311 := n0_; have BK312 := n1_; have BK313 := n2_; have BK314 := n3_; have HB := n4_; clear n0_ n1_ n2_ n3_ n4_; (try clear hb)))
          go_meet
          case rel => exact ⟨_, (!t322), (by first | rfl | (simp; done) | (simp [*]; done)), H', ⟨by have := HJ4.out; first | omega | exact Nat.le_refl _⟩, ⟨by (with_reducible repeat first | refine bN ?_ _ | refine bD ?_ | refine bA ?_ _); exact BK311.out⟩, ⟨by (with_reducible repeat first | refine bN ?_ _ | refine bD ?_ | refine bA ?_ _); exact BK312.out⟩, ⟨by (with_reducible repeat first | refine bN ?_ _ | refine bD ?_ | refine bA ?_ _); exact BK313.out⟩, ⟨by (with_reducible repeat first | refine bN ?_ _ | refine bD ?_ | refine bA ?_ _); exact BK314.out⟩, ⟨by repeat (first | (with_reducible first | exact HB.out | apply below_alloc | apply pw_below_drewN | apply below_drew1) | exact HB.out)⟩⟩
         ·replace c46 := Bool.eq_false_iff.mpr c46
          subst c46
          have H1 : (clusterlockslaw04_AmountLattice.j1 kj4 false a0_0 a0_1 a0_2 a0_3 a1_0 a1_1 a2_0 a2_1 a3_0 a3_1) = some r := by rw [if_neg (show ¬ (false = true) by decide)] at H; exact H
          clear H
          have H := H1
          clear H1
          have H' := Aside0.mk H
          clear H
          have hnb74 := NB311_312.out
          have hnc74 := NB312_311.out
          have hnb75 := NB311_313.out
          have hnc75 := NB313_311.out
          have hnb76 := NB311_314.out
          have hnc76 := NB314_311.out
          have hcz77_0 : wc.cell? ⟨gb311, 0, none⟩ = some (.string a0_0) := (blk_cell BK311.out 0).trans rfl
          have hcz77_1 : wc.cell? ⟨gb311, 1, none⟩ = some (.int .i64 a0_1) := (blk_cell BK311.out 1).trans rfl
          have hcz77_2 : wc.cell? ⟨gb311, 2, none⟩ = some (.int .i64 a0_2) := (blk_cell BK311.out 2).trans rfl
          have hcz77_3 : wc.cell? ⟨gb311, 3, none⟩ = some (.int .i64 a0_3) := (blk_cell BK311.out 3).trans rfl
          have hfz77_0 := blk_frozen BK311.out 0
          have hfz77_1 := blk_frozen BK311.out 1
          have hfz77_2 := blk_frozen BK311.out 2
          have hfz77_3 := blk_frozen BK311.out 3
          have hnb78 := NB312_313.out
          have hnc78 := NB313_312.out
          have hnb79 := NB312_314.out
          have hnc79 := NB314_312.out
          have hcz80_0 : wc.cell? ⟨gb312, 0, none⟩ = some (.int .i64 a1_0) := (blk_cell BK312.out 0).trans rfl
          have hcz80_1 : wc.cell? ⟨gb312, 1, none⟩ = some (.int .i64 a1_1) := (blk_cell BK312.out 1).trans rfl
          have hfz80_0 := blk_frozen BK312.out 0
          have hfz80_1 := blk_frozen BK312.out 1
          have hnb81 := NB313_314.out
          have hnc81 := NB314_313.out
          have hcz82_0 : wc.cell? ⟨gb313, 0, none⟩ = some (.int .i64 a2_0) := (blk_cell BK313.out 0).trans rfl
          have hcz82_1 : wc.cell? ⟨gb313, 1, none⟩ = some (.int .i64 a2_1) := (blk_cell BK313.out 1).trans rfl
          have hfz82_0 := blk_frozen BK313.out 0
          have hfz82_1 := blk_frozen BK313.out 1
          go_wp2_with (first | ((with_reducible refine gate_callee (f := 26) rfl ?_); refine goesL_ (some 25) rfl rfl Tryd.func26 (by kernel_rfl) rfl #[.agg #[.string a0_0, .int .i64 a0_1, .int .i64 a0_2, .int .i64 a0_3], .agg #[.int .i64 a1_0, .int .i64 a1_1], .agg #[.int .i64 a2_0, .int .i64 a2_1]] rfl (by (try simp only [List.map_toArray, List.map_cons, List.map_nil]); first | done | rfl | (simp only [List.length_drop, List.length_take]; rfl)) ?_; (with_reducible refine (amount_Covers.calls kj4 a0_0 a0_1 a0_2 a0_3 a1_0 a1_1 a2_0 a2_1 true _ A22.out).mono ?_); rintro e w83 ⟨rfl, hb⟩; refine ⟨_, rfl, ?_⟩; have n0_ := blkB BK311 (by (with_reducible repeat first | refine bN ?_ _ | refine bD ?_ | refine bA ?_ _); exact BK311.out) hb; have n1_ := blkB BK312 (by (with_reducible repeat first | refine bN ?_ _ | refine bD ?_ | refine bA ?_ _); exact BK312.out) hb; have n2_ := blkB BK313 (by (with_reducible repeat first | refine bN ?_ _ | refine bD ?_ | refine bA ?_ _); exact BK313.out) hb; have n3_ := blkB BK314 (by (with_reducible repeat first | refine bN ?_ _ | refine bD ?_ | refine bA ?_ _); exact BK314.out) hb; have n4_ := Aside0.mk (below_step (by repeat (first | (with_reducible first | exact HB.out | apply below_alloc | apply pw_below_drewN | apply below_drew1) | exact HB.out)) hb); clear BK311 BK312 BK313 BK314 HB; have BK311 := n0_; have BK312 := n1_; have BK313 := n2_; have BK314 := n3_; have HB := n4_; clear n0_ n1_ n2_ n3_ n4_; (try clear hb); have hcz84_0 : w83.cell? ⟨gb311, 0, none⟩ = some (.string a0_0) := (blk_cell BK311.out 0).trans rfl; have hcz84_1 : w83.cell? ⟨gb311, 1, none⟩ = some (.int .i64 a0_1) := (blk_cell BK311.out 1).trans rfl; have hcz84_2 : w83.cell? ⟨gb311, 2, none⟩ = some (.int .i64 a0_2) := (blk_cell BK311.out 2).trans rfl; have hcz84_3 : w83.cell? ⟨gb311, 3, none⟩ = some (.int .i64 a0_3) := (blk_cell BK311.out 3).trans rfl; have hfz84_0 := blk_frozen BK311.out 0; have hfz84_1 := blk_frozen BK311.out 1; have hfz84_2 := blk_frozen BK311.out 2; have hfz84_3 := blk_frozen BK311.out 3; have hcz85_0 : w83.cell? ⟨gb313, 0, none⟩ = some (.int .i64 a2_0) := (blk_cell BK313.out 0).trans rfl; have hcz85_1 : w83.cell? ⟨gb313, 1, none⟩ = some (.int .i64 a2_1) := (blk_cell BK313.out 1).trans rfl; have hfz85_0 := blk_frozen BK313.out 0; have hfz85_1 := blk_frozen BK313.out 1; have hcz86_0 : w83.cell? ⟨gb312, 0, none⟩ = some (.int .i64 a1_0) := (blk_cell BK312.out 0).trans rfl; have hcz86_1 : w83.cell? ⟨gb312, 1, none⟩ = some (.int .i64 a1_1) := (blk_cell BK312.out 1).trans rfl; have hfz86_0 := blk_frozen BK312.out 0; have hfz86_1 := blk_frozen BK312.out 1) | (go_at_call 26; (with_reducible refine (amount_Covers.calls kj4 a0_0 a0_1 a0_2 a0_3 a2_0 a2_1 a1_0 a1_1 true _ A24.out).mono ?_); rintro e w87 ⟨rfl, hb⟩; have n0_ := blkB BK311 (by (with_reducible repeat first | refine bN ?_ _ | refine bD ?_ | refine bA ?_ _); exact BK311.out) hb; have n1_ := blkB BK312 (by (with_reducible repeat first | refine bN ?_ _ | refine bD ?_ | refine bA ?_ _); exact BK312.out) hb; have n2_ := blkB BK313 (by (with_reducible repeat first | refine bN ?_ _ | refine bD ?_ | refine bA ?_ _); exact BK313.out) hb; have n3_ := blkB BK314 (by (with_reducible repeat first | refine bN ?_ _ | refine bD ?_ | refine bA ?_ _); exact BK314.out) hb; have n4_ := Aside0.mk (below_step (by repeat (first | (with_reducible first | exact HB.out | apply below_alloc | apply pw_below_drewN | apply below_drew1) | exact HB.out)) hb); clear BK311 BK312 BK313 BK314 HB; have BK311 := n0_; have BK312 := n1_; have BK313 := n2_; have BK314 := n3_; have HB := n4_; clear n0_ n1_ n2_ n3_ n4_; (try clear hb); have hcz88_0 : w87.cell? ⟨gb312, 0, none⟩ = some (.int .i64 a1_0) := (blk_cell BK312.out 0).trans rfl; have hcz88_1 : w87.cell? ⟨gb312, 1, none⟩ = some (.int .i64 a1_1) := (blk_cell BK312.out 1).trans rfl; have hfz88_0 := blk_frozen BK312.out 0; have hfz88_1 := blk_frozen BK312.out 1; have hcz89_0 : w87.cell? ⟨gb313, 0, none⟩ = some (.int .i64 a2_0) := (blk_cell BK313.out 0).trans rfl; have hcz89_1 : w87.cell? ⟨gb313, 1, none⟩ = some (.int .i64 a2_1) := (blk_cell BK313.out 1).trans rfl; have hfz89_0 := blk_frozen BK313.out 0; have hfz89_1 := blk_frozen BK313.out 1; have hcz90_0 : w87.cell? ⟨gb311, 0, none⟩ = some (.string a0_0) := (blk_cell BK311.out 0).trans rfl; have hcz90_1 : w87.cell? ⟨gb311, 1, none⟩ = some (.int .i64 a0_1) := (blk_cell BK311.out 1).trans rfl; have hcz90_2 : w87.cell? ⟨gb311, 2, none⟩ = some (.int .i64 a0_2) := (blk_cell BK311.out 2).trans rfl; have hcz90_3 : w87.cell? ⟨gb311, 3, none⟩ = some (.int .i64 a0_3) := (blk_cell BK311.out 3).trans rfl; have hfz90_0 := blk_frozen BK311.out 0; have hfz90_1 := blk_frozen BK311.out 1; have hfz90_2 := blk_frozen BK311.out 2; have hfz90_3 := blk_frozen BK311.out 3) | (go_at_call 26; (with_reducible refine (amount_Covers.calls kj4 a0_0 a0_1 a0_2 a0_3 a1_0 a1_1 a2_0 a2_1 true _ A43.out).mono ?_); rintro e w91 ⟨rfl, hb⟩; have n0_ := blkB BK311 (by (with_reducible repeat first | refine bN ?_ _ | refine bD ?_ | refine bA ?_ _); exact BK311.out) hb; have n1_ := blkB BK312 (by (with_reducible repeat first | refine bN ?_ _ | refine bD ?_ | refine bA ?_ _); exact BK312.out) hb; have n2_ := blkB BK313 (by (with_reducible repeat first | refine bN ?_ _ | refine bD ?_ | refine bA ?_ _); exact BK313.out) hb; have n3_ := blkB BK314 (by (with_reducible repeat first | refine bN ?_ _ | refine bD ?_ | refine bA ?_ _); exact BK314.out) hb; have n4_ := Aside0.mk (below_step (by repeat (first | (with_reducible first | exact HB.out | apply below_alloc | apply pw_below_drewN | apply below_drew1) | exact HB.out)) hb); clear BK311 BK312 BK313 BK314 HB; have BK311 := n0_; have BK312 := n1_; have BK313 := n2_; have BK314 := n3_; have HB := n4_; clear n0_ n1_ n2_ n3_ n4_; (try clear hb); have hcz92_0 : w91.cell? ⟨gb311, 0, none⟩ = some (.string a0_0) := (blk_cell BK311.out 0).trans rfl; have hcz92_1 : w91.cell? ⟨gb311, 1, none⟩ = some (.int .i64 a0_1) := (blk_cell BK311.out 1).trans rfl; have hcz92_2 : w91.cell? ⟨gb311, 2, none⟩ = some (.int .i64 a0_2) := (blk_cell BK311.out 2).trans rfl; have hcz92_3 : w91.cell? ⟨gb311, 3, none⟩ = some (.int .i64 a0_3) := (blk_cell BK311.out 3).trans rfl; have hfz92_0 := blk_frozen BK311.out 0; have hfz92_1 := blk_frozen BK311.out 1; have hfz92_2 := blk_frozen BK311.out 2; have hfz92_3 := blk_frozen BK311.out 3; have hcz93_0 : w91.cell? ⟨gb313, 0, none⟩ = some (.int .i64 a2_0) := (blk_cell BK313.out 0).trans rfl; have hcz93_1 : w91.cell? ⟨gb313, 1, none⟩ = some (.int .i64 a2_1) := (blk_cell BK313.out 1).trans rfl; have hfz93_0 := blk_frozen BK313.out 0; have hfz93_1 := blk_frozen BK313.out 1; have hcz94_0 : w91.cell? ⟨gb314, 0, none⟩ = some (.int .i64 a3_0) := (blk_cell BK314.out 0).trans rfl; have hcz94_1 : w91.cell? ⟨gb314, 1, none⟩ = some (.int .i64 a3_1) := (blk_cell BK314.out 1).trans rfl; have hfz94_0 := blk_frozen BK314.out 0; have hfz94_1 := blk_frozen BK314.out 1) | (go_at_call 26; (with_reducible refine (amount_Covers.calls kj4 a0_0 a0_1 a0_2 a0_3 a2_0 a2_1 a3_0 a3_1 false _ A45.out).mono ?_); rintro e w95 ⟨rfl, hb⟩; have n0_ := blkB BK311 (by (with_reducible repeat first | refine bN ?_ _ | refine bD ?_ | refine bA ?_ _); exact BK311.out) hb; have n1_ := blkB BK312 (by (with_reducible repeat first | refine bN ?_ _ | refine bD ?_ | refine bA ?_ _); exact BK312.out) hb; have n2_ := blkB BK313 (by (with_reducible repeat first | refine bN ?_ _ | refine bD ?_ | refine bA ?_ _); exact BK313.out) hb; have n3_ := blkB BK314 (by (with_reducible repeat first | refine bN ?_ _ | refine bD ?_ | refine bA ?_ _); exact BK314.out) hb; have n4_ := Aside0.mk (below_step (by repeat (first | (with_reducible first | exact HB.out | apply below_alloc | apply pw_below_drewN | apply below_drew1) | exact HB.out)) hb); clear BK311 BK312 BK313 BK314 HB; have BK311 := n0_; have BK312 := n1_; have BK313 := n2_; have BK314 := n3_; have HB := n4_; clear n0_ n1_ n2_ n3_ n4_; (try clear hb)))
          go_meet
          case rel => exact ⟨_, (false), (by first | rfl | (simp; done) | (simp [*]; done)), H', ⟨by have := HJ4.out; first | omega | exact Nat.le_refl _⟩, ⟨by (with_reducible repeat first | refine bN ?_ _ | refine bD ?_ | refine bA ?_ _); exact BK311.out⟩, ⟨by (with_reducible repeat first | refine bN ?_ _ | refine bD ?_ | refine bA ?_ _); exact BK312.out⟩, ⟨by (with_reducible repeat first | refine bN ?_ _ | refine bD ?_ | refine bA ?_ _); exact BK313.out⟩, ⟨by (with_reducible repeat first | refine bN ?_ _ | refine bD ?_ | refine bA ?_ _); exact BK314.out⟩, ⟨by repeat (first | (with_reducible first | exact HB.out | apply below_alloc | apply pw_below_drewN | apply below_drew1) | exact HB.out)⟩⟩
        ·replace c44 := Bool.eq_false_iff.mpr c44
         subst c44
         have H1 : (clusterlockslaw04_AmountLattice.j1 kj4 false a0_0 a0_1 a0_2 a0_3 a1_0 a1_1 a2_0 a2_1 a3_0 a3_1) = some r := by rw [if_neg (show ¬ (false = true) by decide)] at H; exact H
         clear H
         have H := H1
         clear H1
         have H' := Aside0.mk H
         clear H
         have hnb96 := NB311_312.out
         have hnc96 := NB312_311.out
         have hnb97 := NB311_313.out
         have hnc97 := NB313_311.out
         have hnb98 := NB311_314.out
         have hnc98 := NB314_311.out
         have hcz99_0 : wc.cell? ⟨gb311, 0, none⟩ = some (.string a0_0) := (blk_cell BK311.out 0).trans rfl
         have hcz99_1 : wc.cell? ⟨gb311, 1, none⟩ = some (.int .i64 a0_1) := (blk_cell BK311.out 1).trans rfl
         have hcz99_2 : wc.cell? ⟨gb311, 2, none⟩ = some (.int .i64 a0_2) := (blk_cell BK311.out 2).trans rfl
         have hcz99_3 : wc.cell? ⟨gb311, 3, none⟩ = some (.int .i64 a0_3) := (blk_cell BK311.out 3).trans rfl
         have hfz99_0 := blk_frozen BK311.out 0
         have hfz99_1 := blk_frozen BK311.out 1
         have hfz99_2 := blk_frozen BK311.out 2
         have hfz99_3 := blk_frozen BK311.out 3
         have hnb100 := NB312_313.out
         have hnc100 := NB313_312.out
         have hnb101 := NB312_314.out
         have hnc101 := NB314_312.out
         have hcz102_0 : wc.cell? ⟨gb312, 0, none⟩ = some (.int .i64 a1_0) := (blk_cell BK312.out 0).trans rfl
         have hcz102_1 : wc.cell? ⟨gb312, 1, none⟩ = some (.int .i64 a1_1) := (blk_cell BK312.out 1).trans rfl
         have hfz102_0 := blk_frozen BK312.out 0
         have hfz102_1 := blk_frozen BK312.out 1
         have hnb103 := NB313_314.out
         have hnc103 := NB314_313.out
         have hcz104_0 : wc.cell? ⟨gb313, 0, none⟩ = some (.int .i64 a2_0) := (blk_cell BK313.out 0).trans rfl
         have hcz104_1 : wc.cell? ⟨gb313, 1, none⟩ = some (.int .i64 a2_1) := (blk_cell BK313.out 1).trans rfl
         have hfz104_0 := blk_frozen BK313.out 0
         have hfz104_1 := blk_frozen BK313.out 1
         go_wp2_with (first | ((with_reducible refine gate_callee (f := 26) rfl ?_); refine goesL_ (some 25) rfl rfl Tryd.func26 (by kernel_rfl) rfl #[.agg #[.string a0_0, .int .i64 a0_1, .int .i64 a0_2, .int .i64 a0_3], .agg #[.int .i64 a1_0, .int .i64 a1_1], .agg #[.int .i64 a2_0, .int .i64 a2_1]] rfl (by (try simp only [List.map_toArray, List.map_cons, List.map_nil]); first | done | rfl | (simp only [List.length_drop, List.length_take]; rfl)) ?_; (with_reducible refine (amount_Covers.calls kj4 a0_0 a0_1 a0_2 a0_3 a1_0 a1_1 a2_0 a2_1 true _ A22.out).mono ?_); rintro e w105 ⟨rfl, hb⟩; refine ⟨_, rfl, ?_⟩; have n0_ := blkB BK311 (by (with_reducible repeat first | refine bN ?_ _ | refine bD ?_ | refine bA ?_ _); exact BK311.out) hb; have n1_ := blkB BK312 (by (with_reducible repeat first | refine bN ?_ _ | refine bD ?_ | refine bA ?_ _); exact BK312.out) hb; have n2_ := blkB BK313 (by (with_reducible repeat first | refine bN ?_ _ | refine bD ?_ | refine bA ?_ _); exact BK313.out) hb; have n3_ := blkB BK314 (by (with_reducible repeat first | refine bN ?_ _ | refine bD ?_ | refine bA ?_ _); exact BK314.out) hb; have n4_ := Aside0.mk (below_step (by repeat (first | (with_reducible first | exact HB.out | apply below_alloc | apply pw_below_drewN | apply below_drew1) | exact HB.out)) hb); clear BK311 BK312 BK313 BK314 HB; have BK311 := n0_; have BK312 := n1_; have BK313 := n2_; have BK314 := n3_; have HB := n4_; clear n0_ n1_ n2_ n3_ n4_; (try clear hb); have hcz106_0 : w105.cell? ⟨gb311, 0, none⟩ = some (.string a0_0) := (blk_cell BK311.out 0).trans rfl; have hcz106_1 : w105.cell? ⟨gb311, 1, none⟩ = some (.int .i64 a0_1) := (blk_cell BK311.out 1).trans rfl; have hcz106_2 : w105.cell? ⟨gb311, 2, none⟩ = some (.int .i64 a0_2) := (blk_cell BK311.out 2).trans rfl; have hcz106_3 : w105.cell? ⟨gb311, 3, none⟩ = some (.int .i64 a0_3) := (blk_cell BK311.out 3).trans rfl; have hfz106_0 := blk_frozen BK311.out 0; have hfz106_1 := blk_frozen BK311.out 1; have hfz106_2 := blk_frozen BK311.out 2; have hfz106_3 := blk_frozen BK311.out 3; have hcz107_0 : w105.cell? ⟨gb313, 0, none⟩ = some (.int .i64 a2_0) := (blk_cell BK313.out 0).trans rfl; have hcz107_1 : w105.cell? ⟨gb313, 1, none⟩ = some (.int .i64 a2_1) := (blk_cell BK313.out 1).trans rfl; have hfz107_0 := blk_frozen BK313.out 0; have hfz107_1 := blk_frozen BK313.out 1; have hcz108_0 : w105.cell? ⟨gb312, 0, none⟩ = some (.int .i64 a1_0) := (blk_cell BK312.out 0).trans rfl; have hcz108_1 : w105.cell? ⟨gb312, 1, none⟩ = some (.int .i64 a1_1) := (blk_cell BK312.out 1).trans rfl; have hfz108_0 := blk_frozen BK312.out 0; have hfz108_1 := blk_frozen BK312.out 1) | (go_at_call 26; (with_reducible refine (amount_Covers.calls kj4 a0_0 a0_1 a0_2 a0_3 a2_0 a2_1 a1_0 a1_1 true _ A24.out).mono ?_); rintro e w109 ⟨rfl, hb⟩; have n0_ := blkB BK311 (by (with_reducible repeat first | refine bN ?_ _ | refine bD ?_ | refine bA ?_ _); exact BK311.out) hb; have n1_ := blkB BK312 (by (with_reducible repeat first | refine bN ?_ _ | refine bD ?_ | refine bA ?_ _); exact BK312.out) hb; have n2_ := blkB BK313 (by (with_reducible repeat first | refine bN ?_ _ | refine bD ?_ | refine bA ?_ _); exact BK313.out) hb; have n3_ := blkB BK314 (by (with_reducible repeat first | refine bN ?_ _ | refine bD ?_ | refine bA ?_ _); exact BK314.out) hb; have n4_ := Aside0.mk (below_step (by repeat (first | (with_reducible first | exact HB.out | apply below_alloc | apply pw_below_drewN | apply below_drew1) | exact HB.out)) hb); clear BK311 BK312 BK313 BK314 HB; have BK311 := n0_; have BK312 := n1_; have BK313 := n2_; have BK314 := n3_; have HB := n4_; clear n0_ n1_ n2_ n3_ n4_; (try clear hb); have hcz110_0 : w109.cell? ⟨gb312, 0, none⟩ = some (.int .i64 a1_0) := (blk_cell BK312.out 0).trans rfl; have hcz110_1 : w109.cell? ⟨gb312, 1, none⟩ = some (.int .i64 a1_1) := (blk_cell BK312.out 1).trans rfl; have hfz110_0 := blk_frozen BK312.out 0; have hfz110_1 := blk_frozen BK312.out 1; have hcz111_0 : w109.cell? ⟨gb313, 0, none⟩ = some (.int .i64 a2_0) := (blk_cell BK313.out 0).trans rfl; have hcz111_1 : w109.cell? ⟨gb313, 1, none⟩ = some (.int .i64 a2_1) := (blk_cell BK313.out 1).trans rfl; have hfz111_0 := blk_frozen BK313.out 0; have hfz111_1 := blk_frozen BK313.out 1; have hcz112_0 : w109.cell? ⟨gb311, 0, none⟩ = some (.string a0_0) := (blk_cell BK311.out 0).trans rfl; have hcz112_1 : w109.cell? ⟨gb311, 1, none⟩ = some (.int .i64 a0_1) := (blk_cell BK311.out 1).trans rfl; have hcz112_2 : w109.cell? ⟨gb311, 2, none⟩ = some (.int .i64 a0_2) := (blk_cell BK311.out 2).trans rfl; have hcz112_3 : w109.cell? ⟨gb311, 3, none⟩ = some (.int .i64 a0_3) := (blk_cell BK311.out 3).trans rfl; have hfz112_0 := blk_frozen BK311.out 0; have hfz112_1 := blk_frozen BK311.out 1; have hfz112_2 := blk_frozen BK311.out 2; have hfz112_3 := blk_frozen BK311.out 3) | (go_at_call 26; (with_reducible refine (amount_Covers.calls kj4 a0_0 a0_1 a0_2 a0_3 a1_0 a1_1 a2_0 a2_1 false _ A43.out).mono ?_); rintro e w113 ⟨rfl, hb⟩; have n0_ := blkB BK311 (by (with_reducible repeat first | refine bN ?_ _ | refine bD ?_ | refine bA ?_ _); exact BK311.out) hb; have n1_ := blkB BK312 (by (with_reducible repeat first | refine bN ?_ _ | refine bD ?_ | refine bA ?_ _); exact BK312.out) hb; have n2_ := blkB BK313 (by (with_reducible repeat first | refine bN ?_ _ | refine bD ?_ | refine bA ?_ _); exact BK313.out) hb; have n3_ := blkB BK314 (by (with_reducible repeat first | refine bN ?_ _ | refine bD ?_ | refine bA ?_ _); exact BK314.out) hb; have n4_ := Aside0.mk (below_step (by repeat (first | (with_reducible first | exact HB.out | apply below_alloc | apply pw_below_drewN | apply below_drew1) | exact HB.out)) hb); clear BK311 BK312 BK313 BK314 HB; have BK311 := n0_; have BK312 := n1_; have BK313 := n2_; have BK314 := n3_; have HB := n4_; clear n0_ n1_ n2_ n3_ n4_; (try clear hb)))
         go_meet
         case rel => exact ⟨_, (false), (by first | rfl | (simp; done) | (simp [*]; done)), H', ⟨by have := HJ4.out; first | omega | exact Nat.le_refl _⟩, ⟨by (with_reducible repeat first | refine bN ?_ _ | refine bD ?_ | refine bA ?_ _); exact BK311.out⟩, ⟨by (with_reducible repeat first | refine bN ?_ _ | refine bD ?_ | refine bA ?_ _); exact BK312.out⟩, ⟨by (with_reducible repeat first | refine bN ?_ _ | refine bD ?_ | refine bA ?_ _); exact BK313.out⟩, ⟨by (with_reducible repeat first | refine bN ?_ _ | refine bD ?_ | refine bA ?_ _); exact BK314.out⟩, ⟨by repeat (first | (with_reducible first | exact HB.out | apply below_alloc | apply pw_below_drewN | apply below_drew1) | exact HB.out)⟩⟩
      ·replace c25 := Bool.eq_false_iff.mpr c25
       subst c25
       have H1 : ((amount_Covers.f kj4 a0_0 a0_1 a0_2 a0_3 a1_0 a1_1 a2_0 a2_1).bind fun t323 => (if t323 = true then ((amount_Covers.f kj4 a0_0 a0_1 a0_2 a0_3 a2_0 a2_1 a3_0 a3_1).bind fun t324 => (if t324 = true then ((amount_Covers.f kj4 a0_0 a0_1 a0_2 a0_3 a1_0 a1_1 a3_0 a3_1).bind fun t325 => (clusterlockslaw04_AmountLattice.j1 kj4 (!t325) a0_0 a0_1 a0_2 a0_3 a1_0 a1_1 a2_0 a2_1 a3_0 a3_1)) else (clusterlockslaw04_AmountLattice.j1 kj4 false a0_0 a0_1 a0_2 a0_3 a1_0 a1_1 a2_0 a2_1 a3_0 a3_1))) else (clusterlockslaw04_AmountLattice.j1 kj4 false a0_0 a0_1 a0_2 a0_3 a1_0 a1_1 a2_0 a2_1 a3_0 a3_1))) = some r := by rw [if_neg (show ¬ (false = true) by decide)] at H; exact H
       clear H
       have H := H1
       clear H1
       replace H := Option.bind_eq_some_iff.mp H
       obtain ⟨t323, A1140, H⟩ := H
       replace H : (if t323 = true then ((amount_Covers.f kj4 a0_0 a0_1 a0_2 a0_3 a2_0 a2_1 a3_0 a3_1).bind fun t324 => (if t324 = true then ((amount_Covers.f kj4 a0_0 a0_1 a0_2 a0_3 a1_0 a1_1 a3_0 a3_1).bind fun t325 => (clusterlockslaw04_AmountLattice.j1 kj4 (!t325) a0_0 a0_1 a0_2 a0_3 a1_0 a1_1 a2_0 a2_1 a3_0 a3_1)) else (clusterlockslaw04_AmountLattice.j1 kj4 false a0_0 a0_1 a0_2 a0_3 a1_0 a1_1 a2_0 a2_1 a3_0 a3_1))) else (clusterlockslaw04_AmountLattice.j1 kj4 false a0_0 a0_1 a0_2 a0_3 a1_0 a1_1 a2_0 a2_1 a3_0 a3_1)) = some r := H
       have A114 := Aside0.mk A1140
       clear A1140
       by_cases c115 : t323 = true
       ·subst c115
        have H1 : ((amount_Covers.f kj4 a0_0 a0_1 a0_2 a0_3 a2_0 a2_1 a3_0 a3_1).bind fun t324 => (if t324 = true then ((amount_Covers.f kj4 a0_0 a0_1 a0_2 a0_3 a1_0 a1_1 a3_0 a3_1).bind fun t325 => (clusterlockslaw04_AmountLattice.j1 kj4 (!t325) a0_0 a0_1 a0_2 a0_3 a1_0 a1_1 a2_0 a2_1 a3_0 a3_1)) else (clusterlockslaw04_AmountLattice.j1 kj4 false a0_0 a0_1 a0_2 a0_3 a1_0 a1_1 a2_0 a2_1 a3_0 a3_1))) = some r := by rw [if_pos rfl] at H; exact H
        clear H
        have H := H1
        clear H1
        replace H := Option.bind_eq_some_iff.mp H
        obtain ⟨t324, A1160, H⟩ := H
        replace H : (if t324 = true then ((amount_Covers.f kj4 a0_0 a0_1 a0_2 a0_3 a1_0 a1_1 a3_0 a3_1).bind fun t325 => (clusterlockslaw04_AmountLattice.j1 kj4 (!t325) a0_0 a0_1 a0_2 a0_3 a1_0 a1_1 a2_0 a2_1 a3_0 a3_1)) else (clusterlockslaw04_AmountLattice.j1 kj4 false a0_0 a0_1 a0_2 a0_3 a1_0 a1_1 a2_0 a2_1 a3_0 a3_1)) = some r := H
        have A116 := Aside0.mk A1160
        clear A1160
        by_cases c117 : t324 = true
        ·subst c117
         have H1 : ((amount_Covers.f kj4 a0_0 a0_1 a0_2 a0_3 a1_0 a1_1 a3_0 a3_1).bind fun t325 => (clusterlockslaw04_AmountLattice.j1 kj4 (!t325) a0_0 a0_1 a0_2 a0_3 a1_0 a1_1 a2_0 a2_1 a3_0 a3_1)) = some r := by rw [if_pos rfl] at H; exact H
         clear H
         have H := H1
         clear H1
         replace H := Option.bind_eq_some_iff.mp H
         obtain ⟨t325, A1180, H⟩ := H
         replace H : (clusterlockslaw04_AmountLattice.j1 kj4 (!t325) a0_0 a0_1 a0_2 a0_3 a1_0 a1_1 a2_0 a2_1 a3_0 a3_1) = some r := H
         have A118 := Aside0.mk A1180
         clear A1180
         have H' := Aside0.mk H
         clear H
         have hnb119 := NB311_312.out
         have hnc119 := NB312_311.out
         have hnb120 := NB311_313.out
         have hnc120 := NB313_311.out
         have hnb121 := NB311_314.out
         have hnc121 := NB314_311.out
         have hcz122_0 : wc.cell? ⟨gb311, 0, none⟩ = some (.string a0_0) := (blk_cell BK311.out 0).trans rfl
         have hcz122_1 : wc.cell? ⟨gb311, 1, none⟩ = some (.int .i64 a0_1) := (blk_cell BK311.out 1).trans rfl
         have hcz122_2 : wc.cell? ⟨gb311, 2, none⟩ = some (.int .i64 a0_2) := (blk_cell BK311.out 2).trans rfl
         have hcz122_3 : wc.cell? ⟨gb311, 3, none⟩ = some (.int .i64 a0_3) := (blk_cell BK311.out 3).trans rfl
         have hfz122_0 := blk_frozen BK311.out 0
         have hfz122_1 := blk_frozen BK311.out 1
         have hfz122_2 := blk_frozen BK311.out 2
         have hfz122_3 := blk_frozen BK311.out 3
         have hnb123 := NB312_313.out
         have hnc123 := NB313_312.out
         have hnb124 := NB312_314.out
         have hnc124 := NB314_312.out
         have hcz125_0 : wc.cell? ⟨gb312, 0, none⟩ = some (.int .i64 a1_0) := (blk_cell BK312.out 0).trans rfl
         have hcz125_1 : wc.cell? ⟨gb312, 1, none⟩ = some (.int .i64 a1_1) := (blk_cell BK312.out 1).trans rfl
         have hfz125_0 := blk_frozen BK312.out 0
         have hfz125_1 := blk_frozen BK312.out 1
         have hnb126 := NB313_314.out
         have hnc126 := NB314_313.out
         have hcz127_0 : wc.cell? ⟨gb313, 0, none⟩ = some (.int .i64 a2_0) := (blk_cell BK313.out 0).trans rfl
         have hcz127_1 : wc.cell? ⟨gb313, 1, none⟩ = some (.int .i64 a2_1) := (blk_cell BK313.out 1).trans rfl
         have hfz127_0 := blk_frozen BK313.out 0
         have hfz127_1 := blk_frozen BK313.out 1
         go_wp2_with (first | ((with_reducible refine gate_callee (f := 26) rfl ?_); refine goesL_ (some 25) rfl rfl Tryd.func26 (by kernel_rfl) rfl #[.agg #[.string a0_0, .int .i64 a0_1, .int .i64 a0_2, .int .i64 a0_3], .agg #[.int .i64 a1_0, .int .i64 a1_1], .agg #[.int .i64 a2_0, .int .i64 a2_1]] rfl (by (try simp only [List.map_toArray, List.map_cons, List.map_nil]); first | done | rfl | (simp only [List.length_drop, List.length_take]; rfl)) ?_; (with_reducible refine (amount_Covers.calls kj4 a0_0 a0_1 a0_2 a0_3 a1_0 a1_1 a2_0 a2_1 true _ A22.out).mono ?_); rintro e w128 ⟨rfl, hb⟩; refine ⟨_, rfl, ?_⟩; have n0_ := blkB BK311 (by (with_reducible repeat first | refine bN ?_ _ | refine bD ?_ | refine bA ?_ _); exact BK311.out) hb; have n1_ := blkB BK312 (by (with_reducible repeat first | refine bN ?_ _ | refine bD ?_ | refine bA ?_ _); exact BK312.out) hb; have n2_ := blkB BK313 (by (with_reducible repeat first | refine bN ?_ _ | refine bD ?_ | refine bA ?_ _); exact BK313.out) hb; have n3_ := blkB BK314 (by (with_reducible repeat first | refine bN ?_ _ | refine bD ?_ | refine bA ?_ _); exact BK314.out) hb; have n4_ := Aside0.mk (below_step (by repeat (first | (with_reducible first | exact HB.out | apply below_alloc | apply pw_below_drewN | apply below_drew1) | exact HB.out)) hb); clear BK311 BK312 BK313 BK314 HB; have BK311 := n0_; have BK312 := n1_; have BK313 := n2_; have BK314 := n3_; have HB := n4_; clear n0_ n1_ n2_ n3_ n4_; (try clear hb); have hcz129_0 : w128.cell? ⟨gb311, 0, none⟩ = some (.string a0_0) := (blk_cell BK311.out 0).trans rfl; have hcz129_1 : w128.cell? ⟨gb311, 1, none⟩ = some (.int .i64 a0_1) := (blk_cell BK311.out 1).trans rfl; have hcz129_2 : w128.cell? ⟨gb311, 2, none⟩ = some (.int .i64 a0_2) := (blk_cell BK311.out 2).trans rfl; have hcz129_3 : w128.cell? ⟨gb311, 3, none⟩ = some (.int .i64 a0_3) := (blk_cell BK311.out 3).trans rfl; have hfz129_0 := blk_frozen BK311.out 0; have hfz129_1 := blk_frozen BK311.out 1; have hfz129_2 := blk_frozen BK311.out 2; have hfz129_3 := blk_frozen BK311.out 3; have hcz130_0 : w128.cell? ⟨gb313, 0, none⟩ = some (.int .i64 a2_0) := (blk_cell BK313.out 0).trans rfl; have hcz130_1 : w128.cell? ⟨gb313, 1, none⟩ = some (.int .i64 a2_1) := (blk_cell BK313.out 1).trans rfl; have hfz130_0 := blk_frozen BK313.out 0; have hfz130_1 := blk_frozen BK313.out 1; have hcz131_0 : w128.cell? ⟨gb312, 0, none⟩ = some (.int .i64 a1_0) := (blk_cell BK312.out 0).trans rfl; have hcz131_1 : w128.cell? ⟨gb312, 1, none⟩ = some (.int .i64 a1_1) := (blk_cell BK312.out 1).trans rfl; have hfz131_0 := blk_frozen BK312.out 0; have hfz131_1 := blk_frozen BK312.out 1) | (go_at_call 26; (with_reducible refine (amount_Covers.calls kj4 a0_0 a0_1 a0_2 a0_3 a2_0 a2_1 a1_0 a1_1 false _ A24.out).mono ?_); rintro e w132 ⟨rfl, hb⟩; have n0_ := blkB BK311 (by (with_reducible repeat first | refine bN ?_ _ | refine bD ?_ | refine bA ?_ _); exact BK311.out) hb; have n1_ := blkB BK312 (by (with_reducible repeat first | refine bN ?_ _ | refine bD ?_ | refine bA ?_ _); exact BK312.out) hb; have n2_ := blkB BK313 (by (with_reducible repeat first | refine bN ?_ _ | refine bD ?_ | refine bA ?_ _); exact BK313.out) hb; have n3_ := blkB BK314 (by (with_reducible repeat first | refine bN ?_ _ | refine bD ?_ | refine bA ?_ _); exact BK314.out) hb; have n4_ := Aside0.mk (below_step (by repeat (first | (with_reducible first | exact HB.out | apply below_alloc | apply pw_below_drewN | apply below_drew1) | exact HB.out)) hb); clear BK311 BK312 BK313 BK314 HB; have BK311 := n0_; have BK312 := n1_; have BK313 := n2_; have BK314 := n3_; have HB := n4_; clear n0_ n1_ n2_ n3_ n4_; (try clear hb); have hcz133_0 : w132.cell? ⟨gb311, 0, none⟩ = some (.string a0_0) := (blk_cell BK311.out 0).trans rfl; have hcz133_1 : w132.cell? ⟨gb311, 1, none⟩ = some (.int .i64 a0_1) := (blk_cell BK311.out 1).trans rfl; have hcz133_2 : w132.cell? ⟨gb311, 2, none⟩ = some (.int .i64 a0_2) := (blk_cell BK311.out 2).trans rfl; have hcz133_3 : w132.cell? ⟨gb311, 3, none⟩ = some (.int .i64 a0_3) := (blk_cell BK311.out 3).trans rfl; have hfz133_0 := blk_frozen BK311.out 0; have hfz133_1 := blk_frozen BK311.out 1; have hfz133_2 := blk_frozen BK311.out 2; have hfz133_3 := blk_frozen BK311.out 3; have hcz134_0 : w132.cell? ⟨gb312, 0, none⟩ = some (.int .i64 a1_0) := (blk_cell BK312.out 0).trans rfl; have hcz134_1 : w132.cell? ⟨gb312, 1, none⟩ = some (.int .i64 a1_1) := (blk_cell BK312.out 1).trans rfl; have hfz134_0 := blk_frozen BK312.out 0; have hfz134_1 := blk_frozen BK312.out 1; have hcz135_0 : w132.cell? ⟨gb313, 0, none⟩ = some (.int .i64 a2_0) := (blk_cell BK313.out 0).trans rfl; have hcz135_1 : w132.cell? ⟨gb313, 1, none⟩ = some (.int .i64 a2_1) := (blk_cell BK313.out 1).trans rfl; have hfz135_0 := blk_frozen BK313.out 0; have hfz135_1 := blk_frozen BK313.out 1) | (go_at_call 26; (with_reducible refine (amount_Covers.calls kj4 a0_0 a0_1 a0_2 a0_3 a1_0 a1_1 a2_0 a2_1 true _ A114.out).mono ?_); rintro e w136 ⟨rfl, hb⟩; have n0_ := blkB BK311 (by (with_reducible repeat first | refine bN ?_ _ | refine bD ?_ | refine bA ?_ _); exact BK311.out) hb; have n1_ := blkB BK312 (by (with_reducible repeat first | refine bN ?_ _ | refine bD ?_ | refine bA ?_ _); exact BK312.out) hb; have n2_ := blkB BK313 (by (with_reducible repeat first | refine bN ?_ _ | refine bD ?_ | refine bA ?_ _); exact BK313.out) hb; have n3_ := blkB BK314 (by (with_reducible repeat first | refine bN ?_ _ | refine bD ?_ | refine bA ?_ _); exact BK314.out) hb; have n4_ := Aside0.mk (below_step (by repeat (first | (with_reducible first | exact HB.out | apply below_alloc | apply pw_below_drewN | apply below_drew1) | exact HB.out)) hb); clear BK311 BK312 BK313 BK314 HB; have BK311 := n0_; have BK312 := n1_; have BK313 := n2_; have BK314 := n3_; have HB := n4_; clear n0_ n1_ n2_ n3_ n4_; (try clear hb); have hcz137_0 : w136.cell? ⟨gb311, 0, none⟩ = some (.string a0_0) := (blk_cell BK311.out 0).trans rfl; have hcz137_1 : w136.cell? ⟨gb311, 1, none⟩ = some (.int .i64 a0_1) := (blk_cell BK311.out 1).trans rfl; have hcz137_2 : w136.cell? ⟨gb311, 2, none⟩ = some (.int .i64 a0_2) := (blk_cell BK311.out 2).trans rfl; have hcz137_3 : w136.cell? ⟨gb311, 3, none⟩ = some (.int .i64 a0_3) := (blk_cell BK311.out 3).trans rfl; have hfz137_0 := blk_frozen BK311.out 0; have hfz137_1 := blk_frozen BK311.out 1; have hfz137_2 := blk_frozen BK311.out 2; have hfz137_3 := blk_frozen BK311.out 3; have hcz138_0 : w136.cell? ⟨gb313, 0, none⟩ = some (.int .i64 a2_0) := (blk_cell BK313.out 0).trans rfl; have hcz138_1 : w136.cell? ⟨gb313, 1, none⟩ = some (.int .i64 a2_1) := (blk_cell BK313.out 1).trans rfl; have hfz138_0 := blk_frozen BK313.out 0; have hfz138_1 := blk_frozen BK313.out 1; have hcz139_0 : w136.cell? ⟨gb314, 0, none⟩ = some (.int .i64 a3_0) := (blk_cell BK314.out 0).trans rfl; have hcz139_1 : w136.cell? ⟨gb314, 1, none⟩ = some (.int .i64 a3_1) := (blk_cell BK314.out 1).trans rfl; have hfz139_0 := blk_frozen BK314.out 0; have hfz139_1 := blk_frozen BK314.out 1) | (go_at_call 26; (with_reducible refine (amount_Covers.calls kj4 a0_0 a0_1 a0_2 a0_3 a2_0 a2_1 a3_0 a3_1 true _ A116.out).mono ?_); rintro e w140 ⟨rfl, hb⟩; have n0_ := blkB BK311 (by (with_reducible repeat first | refine bN ?_ _ | refine bD ?_ | refine bA ?_ _); exact BK311.out) hb; have n1_ := blkB BK312 (by (with_reducible repeat first | refine bN ?_ _ | refine bD ?_ | refine bA ?_ _); exact BK312.out) hb; have n2_ := blkB BK313 (by (with_reducible repeat first | refine bN ?_ _ | refine bD ?_ | refine bA ?_ _); exact BK313.out) hb; have n3_ := blkB BK314 (by (with_reducible repeat first | refine bN ?_ _ | refine bD ?_ | refine bA ?_ _); exact BK314.out) hb; have n4_ := Aside0.mk (below_step (by repeat (first | (with_reducible first | exact HB.out | apply below_alloc | apply pw_below_drewN | apply below_drew1) | exact HB.out)) hb); clear BK311 BK312 BK313 BK314 HB; have BK311 := n0_; have BK312 := n1_; have BK313 := n2_; have BK314 := n3_; have HB := n4_; clear n0_ n1_ n2_ n3_ n4_; (try clear hb); have hcz141_0 : w140.cell? ⟨gb311, 0, none⟩ = some (.string a0_0) := (blk_cell BK311.out 0).trans rfl; have hcz141_1 : w140.cell? ⟨gb311, 1, none⟩ = some (.int .i64 a0_1) := (blk_cell BK311.out 1).trans rfl; have hcz141_2 : w140.cell? ⟨gb311, 2, none⟩ = some (.int .i64 a0_2) := (blk_cell BK311.out 2).trans rfl; have hcz141_3 : w140.cell? ⟨gb311, 3, none⟩ = some (.int .i64 a0_3) := (blk_cell BK311.out 3).trans rfl; have hfz141_0 := blk_frozen BK311.out 0; have hfz141_1 := blk_frozen BK311.out 1; have hfz141_2 := blk_frozen BK311.out 2; have hfz141_3 := blk_frozen BK311.out 3; have hcz142_0 : w140.cell? ⟨gb312, 0, none⟩ = some (.int .i64 a1_0) := (blk_cell BK312.out 0).trans rfl; have hcz142_1 : w140.cell? ⟨gb312, 1, none⟩ = some (.int .i64 a1_1) := (blk_cell BK312.out 1).trans rfl; have hfz142_0 := blk_frozen BK312.out 0; have hfz142_1 := blk_frozen BK312.out 1; have hcz143_0 : w140.cell? ⟨gb314, 0, none⟩ = some (.int .i64 a3_0) := (blk_cell BK314.out 0).trans rfl; have hcz143_1 : w140.cell? ⟨gb314, 1, none⟩ = some (.int .i64 a3_1) := (blk_cell BK314.out 1).trans rfl; have hfz143_0 := blk_frozen BK314.out 0; have hfz143_1 := blk_frozen BK314.out 1) | (go_at_call 26; (with_reducible refine (amount_Covers.calls kj4 a0_0 a0_1 a0_2 a0_3 a1_0 a1_1 a3_0 a3_1 t325 _ A118.out).mono ?_); rintro e w144 ⟨rfl, hb⟩; have n0_ := blkB BK311 (by (with_reducible repeat first | refine bN ?_ _ | refine bD ?_ | refine bA ?_ _); exact BK311.out) hb; have n1_ := blkB BK312 (by (with_reducible repeat first | refine bN ?_ _ | refine bD ?_ | refine bA ?_ _); exact BK312.out) hb; have n2_ := blkB BK313 (by (with_reducible repeat first | refine bN ?_ _ | refine bD ?_ | refine bA ?_ _); exact BK313.out) hb; have n3_ := blkB BK314 (by (with_reducible repeat first | refine bN ?_ _ | refine bD ?_ | refine bA ?_ _); exact BK314.out) hb; have n4_ := Aside0.mk (below_step (by repeat (first | (with_reducible first | exact HB.out | apply below_alloc | apply pw_below_drewN | apply below_drew1) | exact HB.out)) hb); clear BK311 BK312 BK313 BK314 HB; have BK311 := n0_; have BK312 := n1_; have BK313 := n2_; have BK314 := n3_; have HB := n4_; clear n0_ n1_ n2_ n3_ n4_; (try clear hb)))
         go_meet
         case rel => exact ⟨_, (!t325), (by first | rfl | (simp; done) | (simp [*]; done)), H', ⟨by have := HJ4.out; first | omega | exact Nat.le_refl _⟩, ⟨by (with_reducible repeat first | refine bN ?_ _ | refine bD ?_ | refine bA ?_ _); exact BK311.out⟩, ⟨by (with_reducible repeat first | refine bN ?_ _ | refine bD ?_ | refine bA ?_ _); exact BK312.out⟩, ⟨by (with_reducible repeat first | refine bN ?_ _ | refine bD ?_ | refine bA ?_ _); exact BK313.out⟩, ⟨by (with_reducible repeat first | refine bN ?_ _ | refine bD ?_ | refine bA ?_ _); exact BK314.out⟩, ⟨by repeat (first | (with_reducible first | exact HB.out | apply below_alloc | apply pw_below_drewN | apply below_drew1) | exact HB.out)⟩⟩
        ·replace c117 := Bool.eq_false_iff.mpr c117
         subst c117
         have H1 : (clusterlockslaw04_AmountLattice.j1 kj4 false a0_0 a0_1 a0_2 a0_3 a1_0 a1_1 a2_0 a2_1 a3_0 a3_1) = some r := by rw [if_neg (show ¬ (false = true) by decide)] at H; exact H
         clear H
         have H := H1
         clear H1
         have H' := Aside0.mk H
         clear H
         have hnb145 := NB311_312.out
         have hnc145 := NB312_311.out
         have hnb146 := NB311_313.out
         have hnc146 := NB313_311.out
         have hnb147 := NB311_314.out
         have hnc147 := NB314_311.out
         have hcz148_0 : wc.cell? ⟨gb311, 0, none⟩ = some (.string a0_0) := (blk_cell BK311.out 0).trans rfl
         have hcz148_1 : wc.cell? ⟨gb311, 1, none⟩ = some (.int .i64 a0_1) := (blk_cell BK311.out 1).trans rfl
         have hcz148_2 : wc.cell? ⟨gb311, 2, none⟩ = some (.int .i64 a0_2) := (blk_cell BK311.out 2).trans rfl
         have hcz148_3 : wc.cell? ⟨gb311, 3, none⟩ = some (.int .i64 a0_3) := (blk_cell BK311.out 3).trans rfl
         have hfz148_0 := blk_frozen BK311.out 0
         have hfz148_1 := blk_frozen BK311.out 1
         have hfz148_2 := blk_frozen BK311.out 2
         have hfz148_3 := blk_frozen BK311.out 3
         have hnb149 := NB312_313.out
         have hnc149 := NB313_312.out
         have hnb150 := NB312_314.out
         have hnc150 := NB314_312.out
         have hcz151_0 : wc.cell? ⟨gb312, 0, none⟩ = some (.int .i64 a1_0) := (blk_cell BK312.out 0).trans rfl
         have hcz151_1 : wc.cell? ⟨gb312, 1, none⟩ = some (.int .i64 a1_1) := (blk_cell BK312.out 1).trans rfl
         have hfz151_0 := blk_frozen BK312.out 0
         have hfz151_1 := blk_frozen BK312.out 1
         have hnb152 := NB313_314.out
         have hnc152 := NB314_313.out
         have hcz153_0 : wc.cell? ⟨gb313, 0, none⟩ = some (.int .i64 a2_0) := (blk_cell BK313.out 0).trans rfl
         have hcz153_1 : wc.cell? ⟨gb313, 1, none⟩ = some (.int .i64 a2_1) := (blk_cell BK313.out 1).trans rfl
         have hfz153_0 := blk_frozen BK313.out 0
         have hfz153_1 := blk_frozen BK313.out 1
         go_wp2_with (first | ((with_reducible refine gate_callee (f := 26) rfl ?_); refine goesL_ (some 25) rfl rfl Tryd.func26 (by kernel_rfl) rfl #[.agg #[.string a0_0, .int .i64 a0_1, .int .i64 a0_2, .int .i64 a0_3], .agg #[.int .i64 a1_0, .int .i64 a1_1], .agg #[.int .i64 a2_0, .int .i64 a2_1]] rfl (by (try simp only [List.map_toArray, List.map_cons, List.map_nil]); first | done | rfl | (simp only [List.length_drop, List.length_take]; rfl)) ?_; (with_reducible refine (amount_Covers.calls kj4 a0_0 a0_1 a0_2 a0_3 a1_0 a1_1 a2_0 a2_1 true _ A22.out).mono ?_); rintro e w154 ⟨rfl, hb⟩; refine ⟨_, rfl, ?_⟩; have n0_ := blkB BK311 (by (with_reducible repeat first | refine bN ?_ _ | refine bD ?_ | refine bA ?_ _); exact BK311.out) hb; have n1_ := blkB BK312 (by (with_reducible repeat first | refine bN ?_ _ | refine bD ?_ | refine bA ?_ _); exact BK312.out) hb; have n2_ := blkB BK313 (by (with_reducible repeat first | refine bN ?_ _ | refine bD ?_ | refine bA ?_ _); exact BK313.out) hb; have n3_ := blkB BK314 (by (with_reducible repeat first | refine bN ?_ _ | refine bD ?_ | refine bA ?_ _); exact BK314.out) hb; have n4_ := Aside0.mk (below_step (by repeat (first | (with_reducible first | exact HB.out | apply below_alloc | apply pw_below_drewN | apply below_drew1) | exact HB.out)) hb); clear BK311 BK312 BK313 BK314 HB; have BK311 := n0_; have BK312 := n1_; have BK313 := n2_; have BK314 := n3_; have HB := n4_; clear n0_ n1_ n2_ n3_ n4_; (try clear hb); have hcz155_0 : w154.cell? ⟨gb311, 0, none⟩ = some (.string a0_0) := (blk_cell BK311.out 0).trans rfl; have hcz155_1 : w154.cell? ⟨gb311, 1, none⟩ = some (.int .i64 a0_1) := (blk_cell BK311.out 1).trans rfl; have hcz155_2 : w154.cell? ⟨gb311, 2, none⟩ = some (.int .i64 a0_2) := (blk_cell BK311.out 2).trans rfl; have hcz155_3 : w154.cell? ⟨gb311, 3, none⟩ = some (.int .i64 a0_3) := (blk_cell BK311.out 3).trans rfl; have hfz155_0 := blk_frozen BK311.out 0; have hfz155_1 := blk_frozen BK311.out 1; have hfz155_2 := blk_frozen BK311.out 2; have hfz155_3 := blk_frozen BK311.out 3; have hcz156_0 : w154.cell? ⟨gb313, 0, none⟩ = some (.int .i64 a2_0) := (blk_cell BK313.out 0).trans rfl; have hcz156_1 : w154.cell? ⟨gb313, 1, none⟩ = some (.int .i64 a2_1) := (blk_cell BK313.out 1).trans rfl; have hfz156_0 := blk_frozen BK313.out 0; have hfz156_1 := blk_frozen BK313.out 1; have hcz157_0 : w154.cell? ⟨gb312, 0, none⟩ = some (.int .i64 a1_0) := (blk_cell BK312.out 0).trans rfl; have hcz157_1 : w154.cell? ⟨gb312, 1, none⟩ = some (.int .i64 a1_1) := (blk_cell BK312.out 1).trans rfl; have hfz157_0 := blk_frozen BK312.out 0; have hfz157_1 := blk_frozen BK312.out 1) | (go_at_call 26; (with_reducible refine (amount_Covers.calls kj4 a0_0 a0_1 a0_2 a0_3 a2_0 a2_1 a1_0 a1_1 false _ A24.out).mono ?_); rintro e w158 ⟨rfl, hb⟩; have n0_ := blkB BK311 (by (with_reducible repeat first | refine bN ?_ _ | refine bD ?_ | refine bA ?_ _); exact BK311.out) hb; have n1_ := blkB BK312 (by (with_reducible repeat first | refine bN ?_ _ | refine bD ?_ | refine bA ?_ _); exact BK312.out) hb; have n2_ := blkB BK313 (by (with_reducible repeat first | refine bN ?_ _ | refine bD ?_ | refine bA ?_ _); exact BK313.out) hb; have n3_ := blkB BK314 (by (with_reducible repeat first | refine bN ?_ _ | refine bD ?_ | refine bA ?_ _); exact BK314.out) hb; have n4_ := Aside0.mk (below_step (by repeat (first | (with_reducible first | exact HB.out | apply below_alloc | apply pw_below_drewN | apply below_drew1) | exact HB.out)) hb); clear BK311 BK312 BK313 BK314 HB; have BK311 := n0_; have BK312 := n1_; have BK313 := n2_; have BK314 := n3_; have HB := n4_; clear n0_ n1_ n2_ n3_ n4_; (try clear hb); have hcz159_0 : w158.cell? ⟨gb311, 0, none⟩ = some (.string a0_0) := (blk_cell BK311.out 0).trans rfl; have hcz159_1 : w158.cell? ⟨gb311, 1, none⟩ = some (.int .i64 a0_1) := (blk_cell BK311.out 1).trans rfl; have hcz159_2 : w158.cell? ⟨gb311, 2, none⟩ = some (.int .i64 a0_2) := (blk_cell BK311.out 2).trans rfl; have hcz159_3 : w158.cell? ⟨gb311, 3, none⟩ = some (.int .i64 a0_3) := (blk_cell BK311.out 3).trans rfl; have hfz159_0 := blk_frozen BK311.out 0; have hfz159_1 := blk_frozen BK311.out 1; have hfz159_2 := blk_frozen BK311.out 2; have hfz159_3 := blk_frozen BK311.out 3; have hcz160_0 : w158.cell? ⟨gb312, 0, none⟩ = some (.int .i64 a1_0) := (blk_cell BK312.out 0).trans rfl; have hcz160_1 : w158.cell? ⟨gb312, 1, none⟩ = some (.int .i64 a1_1) := (blk_cell BK312.out 1).trans rfl; have hfz160_0 := blk_frozen BK312.out 0; have hfz160_1 := blk_frozen BK312.out 1; have hcz161_0 : w158.cell? ⟨gb313, 0, none⟩ = some (.int .i64 a2_0) := (blk_cell BK313.out 0).trans rfl; have hcz161_1 : w158.cell? ⟨gb313, 1, none⟩ = some (.int .i64 a2_1) := (blk_cell BK313.out 1).trans rfl; have hfz161_0 := blk_frozen BK313.out 0; have hfz161_1 := blk_frozen BK313.out 1) | (go_at_call 26; (with_reducible refine (amount_Covers.calls kj4 a0_0 a0_1 a0_2 a0_3 a1_0 a1_1 a2_0 a2_1 true _ A114.out).mono ?_); rintro e w162 ⟨rfl, hb⟩; have n0_ := blkB BK311 (by (with_reducible repeat first | refine bN ?_ _ | refine bD ?_ | refine bA ?_ _); exact BK311.out) hb; have n1_ := blkB BK312 (by (with_reducible repeat first | refine bN ?_ _ | refine bD ?_ | refine bA ?_ _); exact BK312.out) hb; have n2_ := blkB BK313 (by (with_reducible repeat first | refine bN ?_ _ | refine bD ?_ | refine bA ?_ _); exact BK313.out) hb; have n3_ := blkB BK314 (by (with_reducible repeat first | refine bN ?_ _ | refine bD ?_ | refine bA ?_ _); exact BK314.out) hb; have n4_ := Aside0.mk (below_step (by repeat (first | (with_reducible first | exact HB.out | apply below_alloc | apply pw_below_drewN | apply below_drew1) | exact HB.out)) hb); clear BK311 BK312 BK313 BK314 HB; have BK311 := n0_; have BK312 := n1_; have BK313 := n2_; have BK314 := n3_; have HB := n4_; clear n0_ n1_ n2_ n3_ n4_; (try clear hb); have hcz163_0 : w162.cell? ⟨gb311, 0, none⟩ = some (.string a0_0) := (blk_cell BK311.out 0).trans rfl; have hcz163_1 : w162.cell? ⟨gb311, 1, none⟩ = some (.int .i64 a0_1) := (blk_cell BK311.out 1).trans rfl; have hcz163_2 : w162.cell? ⟨gb311, 2, none⟩ = some (.int .i64 a0_2) := (blk_cell BK311.out 2).trans rfl; have hcz163_3 : w162.cell? ⟨gb311, 3, none⟩ = some (.int .i64 a0_3) := (blk_cell BK311.out 3).trans rfl; have hfz163_0 := blk_frozen BK311.out 0; have hfz163_1 := blk_frozen BK311.out 1; have hfz163_2 := blk_frozen BK311.out 2; have hfz163_3 := blk_frozen BK311.out 3; have hcz164_0 : w162.cell? ⟨gb313, 0, none⟩ = some (.int .i64 a2_0) := (blk_cell BK313.out 0).trans rfl; have hcz164_1 : w162.cell? ⟨gb313, 1, none⟩ = some (.int .i64 a2_1) := (blk_cell BK313.out 1).trans rfl; have hfz164_0 := blk_frozen BK313.out 0; have hfz164_1 := blk_frozen BK313.out 1; have hcz165_0 : w162.cell? ⟨gb314, 0, none⟩ = some (.int .i64 a3_0) := (blk_cell BK314.out 0).trans rfl; have hcz165_1 : w162.cell? ⟨gb314, 1, none⟩ = some (.int .i64 a3_1) := (blk_cell BK314.out 1).trans rfl; have hfz165_0 := blk_frozen BK314.out 0; have hfz165_1 := blk_frozen BK314.out 1) | (go_at_call 26; (with_reducible refine (amount_Covers.calls kj4 a0_0 a0_1 a0_2 a0_3 a2_0 a2_1 a3_0 a3_1 false _ A116.out).mono ?_); rintro e w166 ⟨rfl, hb⟩; have n0_ := blkB BK311 (by (with_reducible repeat first | refine bN ?_ _ | refine bD ?_ | refine bA ?_ _); exact BK311.out) hb; have n1_ := blkB BK312 (by (with_reducible repeat first | refine bN ?_ _ | refine bD ?_ | refine bA ?_ _); exact BK312.out) hb; have n2_ := blkB BK313 (by (with_reducible repeat first | refine bN ?_ _ | refine bD ?_ | refine bA ?_ _); exact BK313.out) hb; have n3_ := blkB BK314 (by (with_reducible repeat first | refine bN ?_ _ | refine bD ?_ | refine bA ?_ _); exact BK314.out) hb; have n4_ := Aside0.mk (below_step (by repeat (first | (with_reducible first | exact HB.out | apply below_alloc | apply pw_below_drewN | apply below_drew1) | exact HB.out)) hb); clear BK311 BK312 BK313 BK314 HB; have BK311 := n0_; have BK312 := n1_; have BK313 := n2_; have BK314 := n3_; have HB := n4_; clear n0_ n1_ n2_ n3_ n4_; (try clear hb)))
         go_meet
         case rel => exact ⟨_, (false), (by first | rfl | (simp; done) | (simp [*]; done)), H', ⟨by have := HJ4.out; first | omega | exact Nat.le_refl _⟩, ⟨by (with_reducible repeat first | refine bN ?_ _ | refine bD ?_ | refine bA ?_ _); exact BK311.out⟩, ⟨by (with_reducible repeat first | refine bN ?_ _ | refine bD ?_ | refine bA ?_ _); exact BK312.out⟩, ⟨by (with_reducible repeat first | refine bN ?_ _ | refine bD ?_ | refine bA ?_ _); exact BK313.out⟩, ⟨by (with_reducible repeat first | refine bN ?_ _ | refine bD ?_ | refine bA ?_ _); exact BK314.out⟩, ⟨by repeat (first | (with_reducible first | exact HB.out | apply below_alloc | apply pw_below_drewN | apply below_drew1) | exact HB.out)⟩⟩
       ·replace c115 := Bool.eq_false_iff.mpr c115
        subst c115
        have H1 : (clusterlockslaw04_AmountLattice.j1 kj4 false a0_0 a0_1 a0_2 a0_3 a1_0 a1_1 a2_0 a2_1 a3_0 a3_1) = some r := by rw [if_neg (show ¬ (false = true) by decide)] at H; exact H
        clear H
        have H := H1
        clear H1
        have H' := Aside0.mk H
        clear H
        have hnb167 := NB311_312.out
        have hnc167 := NB312_311.out
        have hnb168 := NB311_313.out
        have hnc168 := NB313_311.out
        have hnb169 := NB311_314.out
        have hnc169 := NB314_311.out
        have hcz170_0 : wc.cell? ⟨gb311, 0, none⟩ = some (.string a0_0) := (blk_cell BK311.out 0).trans rfl
        have hcz170_1 : wc.cell? ⟨gb311, 1, none⟩ = some (.int .i64 a0_1) := (blk_cell BK311.out 1).trans rfl
        have hcz170_2 : wc.cell? ⟨gb311, 2, none⟩ = some (.int .i64 a0_2) := (blk_cell BK311.out 2).trans rfl
        have hcz170_3 : wc.cell? ⟨gb311, 3, none⟩ = some (.int .i64 a0_3) := (blk_cell BK311.out 3).trans rfl
        have hfz170_0 := blk_frozen BK311.out 0
        have hfz170_1 := blk_frozen BK311.out 1
        have hfz170_2 := blk_frozen BK311.out 2
        have hfz170_3 := blk_frozen BK311.out 3
        have hnb171 := NB312_313.out
        have hnc171 := NB313_312.out
        have hnb172 := NB312_314.out
        have hnc172 := NB314_312.out
        have hcz173_0 : wc.cell? ⟨gb312, 0, none⟩ = some (.int .i64 a1_0) := (blk_cell BK312.out 0).trans rfl
        have hcz173_1 : wc.cell? ⟨gb312, 1, none⟩ = some (.int .i64 a1_1) := (blk_cell BK312.out 1).trans rfl
        have hfz173_0 := blk_frozen BK312.out 0
        have hfz173_1 := blk_frozen BK312.out 1
        have hnb174 := NB313_314.out
        have hnc174 := NB314_313.out
        have hcz175_0 : wc.cell? ⟨gb313, 0, none⟩ = some (.int .i64 a2_0) := (blk_cell BK313.out 0).trans rfl
        have hcz175_1 : wc.cell? ⟨gb313, 1, none⟩ = some (.int .i64 a2_1) := (blk_cell BK313.out 1).trans rfl
        have hfz175_0 := blk_frozen BK313.out 0
        have hfz175_1 := blk_frozen BK313.out 1
        go_wp2_with (first | ((with_reducible refine gate_callee (f := 26) rfl ?_); refine goesL_ (some 25) rfl rfl Tryd.func26 (by kernel_rfl) rfl #[.agg #[.string a0_0, .int .i64 a0_1, .int .i64 a0_2, .int .i64 a0_3], .agg #[.int .i64 a1_0, .int .i64 a1_1], .agg #[.int .i64 a2_0, .int .i64 a2_1]] rfl (by (try simp only [List.map_toArray, List.map_cons, List.map_nil]); first | done | rfl | (simp only [List.length_drop, List.length_take]; rfl)) ?_; (with_reducible refine (amount_Covers.calls kj4 a0_0 a0_1 a0_2 a0_3 a1_0 a1_1 a2_0 a2_1 true _ A22.out).mono ?_); rintro e w176 ⟨rfl, hb⟩; refine ⟨_, rfl, ?_⟩; have n0_ := blkB BK311 (by (with_reducible repeat first | refine bN ?_ _ | refine bD ?_ | refine bA ?_ _); exact BK311.out) hb; have n1_ := blkB BK312 (by (with_reducible repeat first | refine bN ?_ _ | refine bD ?_ | refine bA ?_ _); exact BK312.out) hb; have n2_ := blkB BK313 (by (with_reducible repeat first | refine bN ?_ _ | refine bD ?_ | refine bA ?_ _); exact BK313.out) hb; have n3_ := blkB BK314 (by (with_reducible repeat first | refine bN ?_ _ | refine bD ?_ | refine bA ?_ _); exact BK314.out) hb; have n4_ := Aside0.mk (below_step (by repeat (first | (with_reducible first | exact HB.out | apply below_alloc | apply pw_below_drewN | apply below_drew1) | exact HB.out)) hb); clear BK311 BK312 BK313 BK314 HB; have BK311 := n0_; have BK312 := n1_; have BK313 := n2_; have BK314 := n3_; have HB := n4_; clear n0_ n1_ n2_ n3_ n4_; (try clear hb); have hcz177_0 : w176.cell? ⟨gb311, 0, none⟩ = some (.string a0_0) := (blk_cell BK311.out 0).trans rfl; have hcz177_1 : w176.cell? ⟨gb311, 1, none⟩ = some (.int .i64 a0_1) := (blk_cell BK311.out 1).trans rfl; have hcz177_2 : w176.cell? ⟨gb311, 2, none⟩ = some (.int .i64 a0_2) := (blk_cell BK311.out 2).trans rfl; have hcz177_3 : w176.cell? ⟨gb311, 3, none⟩ = some (.int .i64 a0_3) := (blk_cell BK311.out 3).trans rfl; have hfz177_0 := blk_frozen BK311.out 0; have hfz177_1 := blk_frozen BK311.out 1; have hfz177_2 := blk_frozen BK311.out 2; have hfz177_3 := blk_frozen BK311.out 3; have hcz178_0 : w176.cell? ⟨gb313, 0, none⟩ = some (.int .i64 a2_0) := (blk_cell BK313.out 0).trans rfl; have hcz178_1 : w176.cell? ⟨gb313, 1, none⟩ = some (.int .i64 a2_1) := (blk_cell BK313.out 1).trans rfl; have hfz178_0 := blk_frozen BK313.out 0; have hfz178_1 := blk_frozen BK313.out 1; have hcz179_0 : w176.cell? ⟨gb312, 0, none⟩ = some (.int .i64 a1_0) := (blk_cell BK312.out 0).trans rfl; have hcz179_1 : w176.cell? ⟨gb312, 1, none⟩ = some (.int .i64 a1_1) := (blk_cell BK312.out 1).trans rfl; have hfz179_0 := blk_frozen BK312.out 0; have hfz179_1 := blk_frozen BK312.out 1) | (go_at_call 26; (with_reducible refine (amount_Covers.calls kj4 a0_0 a0_1 a0_2 a0_3 a2_0 a2_1 a1_0 a1_1 false _ A24.out).mono ?_); rintro e w180 ⟨rfl, hb⟩; have n0_ := blkB BK311 (by (with_reducible repeat first | refine bN ?_ _ | refine bD ?_ | refine bA ?_ _); exact BK311.out) hb; have n1_ := blkB BK312 (by (with_reducible repeat first | refine bN ?_ _ | refine bD ?_ | refine bA ?_ _); exact BK312.out) hb; have n2_ := blkB BK313 (by (with_reducible repeat first | refine bN ?_ _ | refine bD ?_ | refine bA ?_ _); exact BK313.out) hb; have n3_ := blkB BK314 (by (with_reducible repeat first | refine bN ?_ _ | refine bD ?_ | refine bA ?_ _); exact BK314.out) hb; have n4_ := Aside0.mk (below_step (by repeat (first | (with_reducible first | exact HB.out | apply below_alloc | apply pw_below_drewN | apply below_drew1) | exact HB.out)) hb); clear BK311 BK312 BK313 BK314 HB; have BK311 := n0_; have BK312 := n1_; have BK313 := n2_; have BK314 := n3_; have HB := n4_; clear n0_ n1_ n2_ n3_ n4_; (try clear hb); have hcz181_0 : w180.cell? ⟨gb311, 0, none⟩ = some (.string a0_0) := (blk_cell BK311.out 0).trans rfl; have hcz181_1 : w180.cell? ⟨gb311, 1, none⟩ = some (.int .i64 a0_1) := (blk_cell BK311.out 1).trans rfl; have hcz181_2 : w180.cell? ⟨gb311, 2, none⟩ = some (.int .i64 a0_2) := (blk_cell BK311.out 2).trans rfl; have hcz181_3 : w180.cell? ⟨gb311, 3, none⟩ = some (.int .i64 a0_3) := (blk_cell BK311.out 3).trans rfl; have hfz181_0 := blk_frozen BK311.out 0; have hfz181_1 := blk_frozen BK311.out 1; have hfz181_2 := blk_frozen BK311.out 2; have hfz181_3 := blk_frozen BK311.out 3; have hcz182_0 : w180.cell? ⟨gb312, 0, none⟩ = some (.int .i64 a1_0) := (blk_cell BK312.out 0).trans rfl; have hcz182_1 : w180.cell? ⟨gb312, 1, none⟩ = some (.int .i64 a1_1) := (blk_cell BK312.out 1).trans rfl; have hfz182_0 := blk_frozen BK312.out 0; have hfz182_1 := blk_frozen BK312.out 1; have hcz183_0 : w180.cell? ⟨gb313, 0, none⟩ = some (.int .i64 a2_0) := (blk_cell BK313.out 0).trans rfl; have hcz183_1 : w180.cell? ⟨gb313, 1, none⟩ = some (.int .i64 a2_1) := (blk_cell BK313.out 1).trans rfl; have hfz183_0 := blk_frozen BK313.out 0; have hfz183_1 := blk_frozen BK313.out 1) | (go_at_call 26; (with_reducible refine (amount_Covers.calls kj4 a0_0 a0_1 a0_2 a0_3 a1_0 a1_1 a2_0 a2_1 false _ A114.out).mono ?_); rintro e w184 ⟨rfl, hb⟩; have n0_ := blkB BK311 (by (with_reducible repeat first | refine bN ?_ _ | refine bD ?_ | refine bA ?_ _); exact BK311.out) hb; have n1_ := blkB BK312 (by (with_reducible repeat first | refine bN ?_ _ | refine bD ?_ | refine bA ?_ _); exact BK312.out) hb; have n2_ := blkB BK313 (by (with_reducible repeat first | refine bN ?_ _ | refine bD ?_ | refine bA ?_ _); exact BK313.out) hb; have n3_ := blkB BK314 (by (with_reducible repeat first | refine bN ?_ _ | refine bD ?_ | refine bA ?_ _); exact BK314.out) hb; have n4_ := Aside0.mk (below_step (by repeat (first | (with_reducible first | exact HB.out | apply below_alloc | apply pw_below_drewN | apply below_drew1) | exact HB.out)) hb); clear BK311 BK312 BK313 BK314 HB; have BK311 := n0_; have BK312 := n1_; have BK313 := n2_; have BK314 := n3_; have HB := n4_; clear n0_ n1_ n2_ n3_ n4_; (try clear hb)))
        go_meet
        case rel => exact ⟨_, (false), (by first | rfl | (simp; done) | (simp [*]; done)), H', ⟨by have := HJ4.out; first | omega | exact Nat.le_refl _⟩, ⟨by (with_reducible repeat first | refine bN ?_ _ | refine bD ?_ | refine bA ?_ _); exact BK311.out⟩, ⟨by (with_reducible repeat first | refine bN ?_ _ | refine bD ?_ | refine bA ?_ _); exact BK312.out⟩, ⟨by (with_reducible repeat first | refine bN ?_ _ | refine bD ?_ | refine bA ?_ _); exact BK313.out⟩, ⟨by (with_reducible repeat first | refine bN ?_ _ | refine bD ?_ | refine bA ?_ _); exact BK314.out⟩, ⟨by repeat (first | (with_reducible first | exact HB.out | apply below_alloc | apply pw_below_drewN | apply below_drew1) | exact HB.out)⟩⟩
     ·replace c23 := Bool.eq_false_iff.mpr c23
      subst c23
      have H1 : ((amount_Covers.f kj4 a0_0 a0_1 a0_2 a0_3 a1_0 a1_1 a2_0 a2_1).bind fun t326 => (if t326 = true then ((amount_Covers.f kj4 a0_0 a0_1 a0_2 a0_3 a2_0 a2_1 a3_0 a3_1).bind fun t327 => (if t327 = true then ((amount_Covers.f kj4 a0_0 a0_1 a0_2 a0_3 a1_0 a1_1 a3_0 a3_1).bind fun t328 => (clusterlockslaw04_AmountLattice.j1 kj4 (!t328) a0_0 a0_1 a0_2 a0_3 a1_0 a1_1 a2_0 a2_1 a3_0 a3_1)) else (clusterlockslaw04_AmountLattice.j1 kj4 false a0_0 a0_1 a0_2 a0_3 a1_0 a1_1 a2_0 a2_1 a3_0 a3_1))) else (clusterlockslaw04_AmountLattice.j1 kj4 false a0_0 a0_1 a0_2 a0_3 a1_0 a1_1 a2_0 a2_1 a3_0 a3_1))) = some r := by rw [if_neg (show ¬ (false = true) by decide)] at H; exact H
      clear H
      have H := H1
      clear H1
      replace H := Option.bind_eq_some_iff.mp H
      obtain ⟨t326, A1850, H⟩ := H
      replace H : (if t326 = true then ((amount_Covers.f kj4 a0_0 a0_1 a0_2 a0_3 a2_0 a2_1 a3_0 a3_1).bind fun t327 => (if t327 = true then ((amount_Covers.f kj4 a0_0 a0_1 a0_2 a0_3 a1_0 a1_1 a3_0 a3_1).bind fun t328 => (clusterlockslaw04_AmountLattice.j1 kj4 (!t328) a0_0 a0_1 a0_2 a0_3 a1_0 a1_1 a2_0 a2_1 a3_0 a3_1)) else (clusterlockslaw04_AmountLattice.j1 kj4 false a0_0 a0_1 a0_2 a0_3 a1_0 a1_1 a2_0 a2_1 a3_0 a3_1))) else (clusterlockslaw04_AmountLattice.j1 kj4 false a0_0 a0_1 a0_2 a0_3 a1_0 a1_1 a2_0 a2_1 a3_0 a3_1)) = some r := H
      have A185 := Aside0.mk A1850
      clear A1850
      by_cases c186 : t326 = true
      ·subst c186
       have H1 : ((amount_Covers.f kj4 a0_0 a0_1 a0_2 a0_3 a2_0 a2_1 a3_0 a3_1).bind fun t327 => (if t327 = true then ((amount_Covers.f kj4 a0_0 a0_1 a0_2 a0_3 a1_0 a1_1 a3_0 a3_1).bind fun t328 => (clusterlockslaw04_AmountLattice.j1 kj4 (!t328) a0_0 a0_1 a0_2 a0_3 a1_0 a1_1 a2_0 a2_1 a3_0 a3_1)) else (clusterlockslaw04_AmountLattice.j1 kj4 false a0_0 a0_1 a0_2 a0_3 a1_0 a1_1 a2_0 a2_1 a3_0 a3_1))) = some r := by rw [if_pos rfl] at H; exact H
       clear H
       have H := H1
       clear H1
       replace H := Option.bind_eq_some_iff.mp H
       obtain ⟨t327, A1870, H⟩ := H
       replace H : (if t327 = true then ((amount_Covers.f kj4 a0_0 a0_1 a0_2 a0_3 a1_0 a1_1 a3_0 a3_1).bind fun t328 => (clusterlockslaw04_AmountLattice.j1 kj4 (!t328) a0_0 a0_1 a0_2 a0_3 a1_0 a1_1 a2_0 a2_1 a3_0 a3_1)) else (clusterlockslaw04_AmountLattice.j1 kj4 false a0_0 a0_1 a0_2 a0_3 a1_0 a1_1 a2_0 a2_1 a3_0 a3_1)) = some r := H
       have A187 := Aside0.mk A1870
       clear A1870
       by_cases c188 : t327 = true
       ·subst c188
        have H1 : ((amount_Covers.f kj4 a0_0 a0_1 a0_2 a0_3 a1_0 a1_1 a3_0 a3_1).bind fun t328 => (clusterlockslaw04_AmountLattice.j1 kj4 (!t328) a0_0 a0_1 a0_2 a0_3 a1_0 a1_1 a2_0 a2_1 a3_0 a3_1)) = some r := by rw [if_pos rfl] at H; exact H
        clear H
        have H := H1
        clear H1
        replace H := Option.bind_eq_some_iff.mp H
        obtain ⟨t328, A1890, H⟩ := H
        replace H : (clusterlockslaw04_AmountLattice.j1 kj4 (!t328) a0_0 a0_1 a0_2 a0_3 a1_0 a1_1 a2_0 a2_1 a3_0 a3_1) = some r := H
        have A189 := Aside0.mk A1890
        clear A1890
        have H' := Aside0.mk H
        clear H
        have hnb190 := NB311_312.out
        have hnc190 := NB312_311.out
        have hnb191 := NB311_313.out
        have hnc191 := NB313_311.out
        have hnb192 := NB311_314.out
        have hnc192 := NB314_311.out
        have hcz193_0 : wc.cell? ⟨gb311, 0, none⟩ = some (.string a0_0) := (blk_cell BK311.out 0).trans rfl
        have hcz193_1 : wc.cell? ⟨gb311, 1, none⟩ = some (.int .i64 a0_1) := (blk_cell BK311.out 1).trans rfl
        have hcz193_2 : wc.cell? ⟨gb311, 2, none⟩ = some (.int .i64 a0_2) := (blk_cell BK311.out 2).trans rfl
        have hcz193_3 : wc.cell? ⟨gb311, 3, none⟩ = some (.int .i64 a0_3) := (blk_cell BK311.out 3).trans rfl
        have hfz193_0 := blk_frozen BK311.out 0
        have hfz193_1 := blk_frozen BK311.out 1
        have hfz193_2 := blk_frozen BK311.out 2
        have hfz193_3 := blk_frozen BK311.out 3
        have hnb194 := NB312_313.out
        have hnc194 := NB313_312.out
        have hnb195 := NB312_314.out
        have hnc195 := NB314_312.out
        have hcz196_0 : wc.cell? ⟨gb312, 0, none⟩ = some (.int .i64 a1_0) := (blk_cell BK312.out 0).trans rfl
        have hcz196_1 : wc.cell? ⟨gb312, 1, none⟩ = some (.int .i64 a1_1) := (blk_cell BK312.out 1).trans rfl
        have hfz196_0 := blk_frozen BK312.out 0
        have hfz196_1 := blk_frozen BK312.out 1
        have hnb197 := NB313_314.out
        have hnc197 := NB314_313.out
        have hcz198_0 : wc.cell? ⟨gb313, 0, none⟩ = some (.int .i64 a2_0) := (blk_cell BK313.out 0).trans rfl
        have hcz198_1 : wc.cell? ⟨gb313, 1, none⟩ = some (.int .i64 a2_1) := (blk_cell BK313.out 1).trans rfl
        have hfz198_0 := blk_frozen BK313.out 0
        have hfz198_1 := blk_frozen BK313.out 1
        go_wp2_with (first | ((with_reducible refine gate_callee (f := 26) rfl ?_); refine goesL_ (some 25) rfl rfl Tryd.func26 (by kernel_rfl) rfl #[.agg #[.string a0_0, .int .i64 a0_1, .int .i64 a0_2, .int .i64 a0_3], .agg #[.int .i64 a1_0, .int .i64 a1_1], .agg #[.int .i64 a2_0, .int .i64 a2_1]] rfl (by (try simp only [List.map_toArray, List.map_cons, List.map_nil]); first | done | rfl | (simp only [List.length_drop, List.length_take]; rfl)) ?_; (with_reducible refine (amount_Covers.calls kj4 a0_0 a0_1 a0_2 a0_3 a1_0 a1_1 a2_0 a2_1 false _ A22.out).mono ?_); rintro e w199 ⟨rfl, hb⟩; refine ⟨_, rfl, ?_⟩; have n0_ := blkB BK311 (by (with_reducible repeat first | refine bN ?_ _ | refine bD ?_ | refine bA ?_ _); exact BK311.out) hb; have n1_ := blkB BK312 (by (with_reducible repeat first | refine bN ?_ _ | refine bD ?_ | refine bA ?_ _); exact BK312.out) hb; have n2_ := blkB BK313 (by (with_reducible repeat first | refine bN ?_ _ | refine bD ?_ | refine bA ?_ _); exact BK313.out) hb; have n3_ := blkB BK314 (by (with_reducible repeat first | refine bN ?_ _ | refine bD ?_ | refine bA ?_ _); exact BK314.out) hb; have n4_ := Aside0.mk (below_step (by repeat (first | (with_reducible first | exact HB.out | apply below_alloc | apply pw_below_drewN | apply below_drew1) | exact HB.out)) hb); clear BK311 BK312 BK313 BK314 HB; have BK311 := n0_; have BK312 := n1_; have BK313 := n2_; have BK314 := n3_; have HB := n4_; clear n0_ n1_ n2_ n3_ n4_; (try clear hb); have hcz200_0 : w199.cell? ⟨gb311, 0, none⟩ = some (.string a0_0) := (blk_cell BK311.out 0).trans rfl; have hcz200_1 : w199.cell? ⟨gb311, 1, none⟩ = some (.int .i64 a0_1) := (blk_cell BK311.out 1).trans rfl; have hcz200_2 : w199.cell? ⟨gb311, 2, none⟩ = some (.int .i64 a0_2) := (blk_cell BK311.out 2).trans rfl; have hcz200_3 : w199.cell? ⟨gb311, 3, none⟩ = some (.int .i64 a0_3) := (blk_cell BK311.out 3).trans rfl; have hfz200_0 := blk_frozen BK311.out 0; have hfz200_1 := blk_frozen BK311.out 1; have hfz200_2 := blk_frozen BK311.out 2; have hfz200_3 := blk_frozen BK311.out 3; have hcz201_0 : w199.cell? ⟨gb312, 0, none⟩ = some (.int .i64 a1_0) := (blk_cell BK312.out 0).trans rfl; have hcz201_1 : w199.cell? ⟨gb312, 1, none⟩ = some (.int .i64 a1_1) := (blk_cell BK312.out 1).trans rfl; have hfz201_0 := blk_frozen BK312.out 0; have hfz201_1 := blk_frozen BK312.out 1; have hcz202_0 : w199.cell? ⟨gb313, 0, none⟩ = some (.int .i64 a2_0) := (blk_cell BK313.out 0).trans rfl; have hcz202_1 : w199.cell? ⟨gb313, 1, none⟩ = some (.int .i64 a2_1) := (blk_cell BK313.out 1).trans rfl; have hfz202_0 := blk_frozen BK313.out 0; have hfz202_1 := blk_frozen BK313.out 1) | (go_at_call 26; (with_reducible refine (amount_Covers.calls kj4 a0_0 a0_1 a0_2 a0_3 a1_0 a1_1 a2_0 a2_1 true _ A185.out).mono ?_); rintro e w203 ⟨rfl, hb⟩; have n0_ := blkB BK311 (by (with_reducible repeat first | refine bN ?_ _ | refine bD ?_ | refine bA ?_ _); exact BK311.out) hb; have n1_ := blkB BK312 (by (with_reducible repeat first | refine bN ?_ _ | refine bD ?_ | refine bA ?_ _); exact BK312.out) hb; have n2_ := blkB BK313 (by (with_reducible repeat first | refine bN ?_ _ | refine bD ?_ | refine bA ?_ _); exact BK313.out) hb; have n3_ := blkB BK314 (by (with_reducible repeat first | refine bN ?_ _ | refine bD ?_ | refine bA ?_ _); exact BK314.out) hb; have n4_ := Aside0.mk (below_step (by repeat (first | (with_reducible first | exact HB.out | apply below_alloc | apply pw_below_drewN | apply below_drew1) | exact HB.out)) hb); clear BK311 BK312 BK313 BK314 HB; have BK311 := n0_; have BK312 := n1_; have BK313 := n2_; have BK314 := n3_; have HB := n4_; clear n0_ n1_ n2_ n3_ n4_; (try clear hb); have hcz204_0 : w203.cell? ⟨gb311, 0, none⟩ = some (.string a0_0) := (blk_cell BK311.out 0).trans rfl; have hcz204_1 : w203.cell? ⟨gb311, 1, none⟩ = some (.int .i64 a0_1) := (blk_cell BK311.out 1).trans rfl; have hcz204_2 : w203.cell? ⟨gb311, 2, none⟩ = some (.int .i64 a0_2) := (blk_cell BK311.out 2).trans rfl; have hcz204_3 : w203.cell? ⟨gb311, 3, none⟩ = some (.int .i64 a0_3) := (blk_cell BK311.out 3).trans rfl; have hfz204_0 := blk_frozen BK311.out 0; have hfz204_1 := blk_frozen BK311.out 1; have hfz204_2 := blk_frozen BK311.out 2; have hfz204_3 := blk_frozen BK311.out 3; have hcz205_0 : w203.cell? ⟨gb313, 0, none⟩ = some (.int .i64 a2_0) := (blk_cell BK313.out 0).trans rfl; have hcz205_1 : w203.cell? ⟨gb313, 1, none⟩ = some (.int .i64 a2_1) := (blk_cell BK313.out 1).trans rfl; have hfz205_0 := blk_frozen BK313.out 0; have hfz205_1 := blk_frozen BK313.out 1; have hcz206_0 : w203.cell? ⟨gb314, 0, none⟩ = some (.int .i64 a3_0) := (blk_cell BK314.out 0).trans rfl; have hcz206_1 : w203.cell? ⟨gb314, 1, none⟩ = some (.int .i64 a3_1) := (blk_cell BK314.out 1).trans rfl; have hfz206_0 := blk_frozen BK314.out 0; have hfz206_1 := blk_frozen BK314.out 1) | (go_at_call 26; (with_reducible refine (amount_Covers.calls kj4 a0_0 a0_1 a0_2 a0_3 a2_0 a2_1 a3_0 a3_1 true _ A187.out).mono ?_); rintro e w207 ⟨rfl, hb⟩; have n0_ := blkB BK311 (by (with_reducible repeat first | refine bN ?_ _ | refine bD ?_ | refine bA ?_ _); exact BK311.out) hb; have n1_ := blkB BK312 (by (with_reducible repeat first | refine bN ?_ _ | refine bD ?_ | refine bA ?_ _); exact BK312.out) hb; have n2_ := blkB BK313 (by (with_reducible repeat first | refine bN ?_ _ | refine bD ?_ | refine bA ?_ _); exact BK313.out) hb; have n3_ := blkB BK314 (by (with_reducible repeat first | refine bN ?_ _ | refine bD ?_ | refine bA ?_ _); exact BK314.out) hb; have n4_ := Aside0.mk (below_step (by repeat (first | (with_reducible first | exact HB.out | apply below_alloc | apply pw_below_drewN | apply below_drew1) | exact HB.out)) hb); clear BK311 BK312 BK313 BK314 HB; have BK311 := n0_; have BK312 := n1_; have BK313 := n2_; have BK314 := n3_; have HB := n4_; clear n0_ n1_ n2_ n3_ n4_; (try clear hb); have hcz208_0 : w207.cell? ⟨gb311, 0, none⟩ = some (.string a0_0) := (blk_cell BK311.out 0).trans rfl; have hcz208_1 : w207.cell? ⟨gb311, 1, none⟩ = some (.int .i64 a0_1) := (blk_cell BK311.out 1).trans rfl; have hcz208_2 : w207.cell? ⟨gb311, 2, none⟩ = some (.int .i64 a0_2) := (blk_cell BK311.out 2).trans rfl; have hcz208_3 : w207.cell? ⟨gb311, 3, none⟩ = some (.int .i64 a0_3) := (blk_cell BK311.out 3).trans rfl; have hfz208_0 := blk_frozen BK311.out 0; have hfz208_1 := blk_frozen BK311.out 1; have hfz208_2 := blk_frozen BK311.out 2; have hfz208_3 := blk_frozen BK311.out 3; have hcz209_0 : w207.cell? ⟨gb312, 0, none⟩ = some (.int .i64 a1_0) := (blk_cell BK312.out 0).trans rfl; have hcz209_1 : w207.cell? ⟨gb312, 1, none⟩ = some (.int .i64 a1_1) := (blk_cell BK312.out 1).trans rfl; have hfz209_0 := blk_frozen BK312.out 0; have hfz209_1 := blk_frozen BK312.out 1; have hcz210_0 : w207.cell? ⟨gb314, 0, none⟩ = some (.int .i64 a3_0) := (blk_cell BK314.out 0).trans rfl; have hcz210_1 : w207.cell? ⟨gb314, 1, none⟩ = some (.int .i64 a3_1) := (blk_cell BK314.out 1).trans rfl; have hfz210_0 := blk_frozen BK314.out 0; have hfz210_1 := blk_frozen BK314.out 1) | (go_at_call 26; (with_reducible refine (amount_Covers.calls kj4 a0_0 a0_1 a0_2 a0_3 a1_0 a1_1 a3_0 a3_1 t328 _ A189.out).mono ?_); rintro e w211 ⟨rfl, hb⟩; have n0_ := blkB BK311 (by (with_reducible repeat first | refine bN ?_ _ | refine bD ?_ | refine bA ?_ _); exact BK311.out) hb; have n1_ := blkB BK312 (by (with_reducible repeat first | refine bN ?_ _ | refine bD ?_ | refine bA ?_ _); exact BK312.out) hb; have n2_ := blkB BK313 (by (with_reducible repeat first | refine bN ?_ _ | refine bD ?_ | refine bA ?_ _); exact BK313.out) hb; have n3_ := blkB BK314 (by (with_reducible repeat first | refine bN ?_ _ | refine bD ?_ | refine bA ?_ _); exact BK314.out) hb; have n4_ := Aside0.mk (below_step (by repeat (first | (with_reducible first | exact HB.out | apply below_alloc | apply pw_below_drewN | apply below_drew1) | exact HB.out)) hb); clear BK311 BK312 BK313 BK314 HB; have BK311 := n0_; have BK312 := n1_; have BK313 := n2_; have BK314 := n3_; have HB := n4_; clear n0_ n1_ n2_ n3_ n4_; (try clear hb)))
        go_meet
        case rel => exact ⟨_, (!t328), (by first | rfl | (simp; done) | (simp [*]; done)), H', ⟨by have := HJ4.out; first | omega | exact Nat.le_refl _⟩, ⟨by (with_reducible repeat first | refine bN ?_ _ | refine bD ?_ | refine bA ?_ _); exact BK311.out⟩, ⟨by (with_reducible repeat first | refine bN ?_ _ | refine bD ?_ | refine bA ?_ _); exact BK312.out⟩, ⟨by (with_reducible repeat first | refine bN ?_ _ | refine bD ?_ | refine bA ?_ _); exact BK313.out⟩, ⟨by (with_reducible repeat first | refine bN ?_ _ | refine bD ?_ | refine bA ?_ _); exact BK314.out⟩, ⟨by repeat (first | (with_reducible first | exact HB.out | apply below_alloc | apply pw_below_drewN | apply below_drew1) | exact HB.out)⟩⟩
       ·replace c188 := Bool.eq_false_iff.mpr c188
        subst c188
        have H1 : (clusterlockslaw04_AmountLattice.j1 kj4 false a0_0 a0_1 a0_2 a0_3 a1_0 a1_1 a2_0 a2_1 a3_0 a3_1) = some r := by rw [if_neg (show ¬ (false = true) by decide)] at H; exact H
        clear H
        have H := H1
        clear H1
        have H' := Aside0.mk H
        clear H
        have hnb212 := NB311_312.out
        have hnc212 := NB312_311.out
        have hnb213 := NB311_313.out
        have hnc213 := NB313_311.out
        have hnb214 := NB311_314.out
        have hnc214 := NB314_311.out
        have hcz215_0 : wc.cell? ⟨gb311, 0, none⟩ = some (.string a0_0) := (blk_cell BK311.out 0).trans rfl
        have hcz215_1 : wc.cell? ⟨gb311, 1, none⟩ = some (.int .i64 a0_1) := (blk_cell BK311.out 1).trans rfl
        have hcz215_2 : wc.cell? ⟨gb311, 2, none⟩ = some (.int .i64 a0_2) := (blk_cell BK311.out 2).trans rfl
        have hcz215_3 : wc.cell? ⟨gb311, 3, none⟩ = some (.int .i64 a0_3) := (blk_cell BK311.out 3).trans rfl
        have hfz215_0 := blk_frozen BK311.out 0
        have hfz215_1 := blk_frozen BK311.out 1
        have hfz215_2 := blk_frozen BK311.out 2
        have hfz215_3 := blk_frozen BK311.out 3
        have hnb216 := NB312_313.out
        have hnc216 := NB313_312.out
        have hnb217 := NB312_314.out
        have hnc217 := NB314_312.out
        have hcz218_0 : wc.cell? ⟨gb312, 0, none⟩ = some (.int .i64 a1_0) := (blk_cell BK312.out 0).trans rfl
        have hcz218_1 : wc.cell? ⟨gb312, 1, none⟩ = some (.int .i64 a1_1) := (blk_cell BK312.out 1).trans rfl
        have hfz218_0 := blk_frozen BK312.out 0
        have hfz218_1 := blk_frozen BK312.out 1
        have hnb219 := NB313_314.out
        have hnc219 := NB314_313.out
        have hcz220_0 : wc.cell? ⟨gb313, 0, none⟩ = some (.int .i64 a2_0) := (blk_cell BK313.out 0).trans rfl
        have hcz220_1 : wc.cell? ⟨gb313, 1, none⟩ = some (.int .i64 a2_1) := (blk_cell BK313.out 1).trans rfl
        have hfz220_0 := blk_frozen BK313.out 0
        have hfz220_1 := blk_frozen BK313.out 1
        go_wp2_with (first | ((with_reducible refine gate_callee (f := 26) rfl ?_); refine goesL_ (some 25) rfl rfl Tryd.func26 (by kernel_rfl) rfl #[.agg #[.string a0_0, .int .i64 a0_1, .int .i64 a0_2, .int .i64 a0_3], .agg #[.int .i64 a1_0, .int .i64 a1_1], .agg #[.int .i64 a2_0, .int .i64 a2_1]] rfl (by (try simp only [List.map_toArray, List.map_cons, List.map_nil]); first | done | rfl | (simp only [List.length_drop, List.length_take]; rfl)) ?_; (with_reducible refine (amount_Covers.calls kj4 a0_0 a0_1 a0_2 a0_3 a1_0 a1_1 a2_0 a2_1 false _ A22.out).mono ?_); rintro e w221 ⟨rfl, hb⟩; refine ⟨_, rfl, ?_⟩; have n0_ := blkB BK311 (by (with_reducible repeat first | refine bN ?_ _ | refine bD ?_ | refine bA ?_ _); exact BK311.out) hb; have n1_ := blkB BK312 (by (with_reducible repeat first | refine bN ?_ _ | refine bD ?_ | refine bA ?_ _); exact BK312.out) hb; have n2_ := blkB BK313 (by (with_reducible repeat first | refine bN ?_ _ | refine bD ?_ | refine bA ?_ _); exact BK313.out) hb; have n3_ := blkB BK314 (by (with_reducible repeat first | refine bN ?_ _ | refine bD ?_ | refine bA ?_ _); exact BK314.out) hb; have n4_ := Aside0.mk (below_step (by repeat (first | (with_reducible first | exact HB.out | apply below_alloc | apply pw_below_drewN | apply below_drew1) | exact HB.out)) hb); clear BK311 BK312 BK313 BK314 HB; have BK311 := n0_; have BK312 := n1_; have BK313 := n2_; have BK314 := n3_; have HB := n4_; clear n0_ n1_ n2_ n3_ n4_; (try clear hb); have hcz222_0 : w221.cell? ⟨gb311, 0, none⟩ = some (.string a0_0) := (blk_cell BK311.out 0).trans rfl; have hcz222_1 : w221.cell? ⟨gb311, 1, none⟩ = some (.int .i64 a0_1) := (blk_cell BK311.out 1).trans rfl; have hcz222_2 : w221.cell? ⟨gb311, 2, none⟩ = some (.int .i64 a0_2) := (blk_cell BK311.out 2).trans rfl; have hcz222_3 : w221.cell? ⟨gb311, 3, none⟩ = some (.int .i64 a0_3) := (blk_cell BK311.out 3).trans rfl; have hfz222_0 := blk_frozen BK311.out 0; have hfz222_1 := blk_frozen BK311.out 1; have hfz222_2 := blk_frozen BK311.out 2; have hfz222_3 := blk_frozen BK311.out 3; have hcz223_0 : w221.cell? ⟨gb312, 0, none⟩ = some (.int .i64 a1_0) := (blk_cell BK312.out 0).trans rfl; have hcz223_1 : w221.cell? ⟨gb312, 1, none⟩ = some (.int .i64 a1_1) := (blk_cell BK312.out 1).trans rfl; have hfz223_0 := blk_frozen BK312.out 0; have hfz223_1 := blk_frozen BK312.out 1; have hcz224_0 : w221.cell? ⟨gb313, 0, none⟩ = some (.int .i64 a2_0) := (blk_cell BK313.out 0).trans rfl; have hcz224_1 : w221.cell? ⟨gb313, 1, none⟩ = some (.int .i64 a2_1) := (blk_cell BK313.out 1).trans rfl; have hfz224_0 := blk_frozen BK313.out 0; have hfz224_1 := blk_frozen BK313.out 1) | (go_at_call 26; (with_reducible refine (amount_Covers.calls kj4 a0_0 a0_1 a0_2 a0_3 a1_0 a1_1 a2_0 a2_1 true _ A185.out).mono ?_); rintro e w225 ⟨rfl, hb⟩; have n0_ := blkB BK311 (by (with_reducible repeat first | refine bN ?_ _ | refine bD ?_ | refine bA ?_ _); exact BK311.out) hb; have n1_ := blkB BK312 (by (with_reducible repeat first | refine bN ?_ _ | refine bD ?_ | refine bA ?_ _); exact BK312.out) hb; have n2_ := blkB BK313 (by (with_reducible repeat first | refine bN ?_ _ | refine bD ?_ | refine bA ?_ _); exact BK313.out) hb; have n3_ := blkB BK314 (by (with_reducible repeat first | refine bN ?_ _ | refine bD ?_ | refine bA ?_ _); exact BK314.out) hb; have n4_ := Aside0.mk (below_step (by repeat (first | (with_reducible first | exact HB.out | apply below_alloc | apply pw_below_drewN | apply below_drew1) | exact HB.out)) hb); clear BK311 BK312 BK313 BK314 HB; have BK311 := n0_; have BK312 := n1_; have BK313 := n2_; have BK314 := n3_; have HB := n4_; clear n0_ n1_ n2_ n3_ n4_; (try clear hb); have hcz226_0 : w225.cell? ⟨gb311, 0, none⟩ = some (.string a0_0) := (blk_cell BK311.out 0).trans rfl; have hcz226_1 : w225.cell? ⟨gb311, 1, none⟩ = some (.int .i64 a0_1) := (blk_cell BK311.out 1).trans rfl; have hcz226_2 : w225.cell? ⟨gb311, 2, none⟩ = some (.int .i64 a0_2) := (blk_cell BK311.out 2).trans rfl; have hcz226_3 : w225.cell? ⟨gb311, 3, none⟩ = some (.int .i64 a0_3) := (blk_cell BK311.out 3).trans rfl; have hfz226_0 := blk_frozen BK311.out 0; have hfz226_1 := blk_frozen BK311.out 1; have hfz226_2 := blk_frozen BK311.out 2; have hfz226_3 := blk_frozen BK311.out 3; have hcz227_0 : w225.cell? ⟨gb313, 0, none⟩ = some (.int .i64 a2_0) := (blk_cell BK313.out 0).trans rfl; have hcz227_1 : w225.cell? ⟨gb313, 1, none⟩ = some (.int .i64 a2_1) := (blk_cell BK313.out 1).trans rfl; have hfz227_0 := blk_frozen BK313.out 0; have hfz227_1 := blk_frozen BK313.out 1; have hcz228_0 : w225.cell? ⟨gb314, 0, none⟩ = some (.int .i64 a3_0) := (blk_cell BK314.out 0).trans rfl; have hcz228_1 : w225.cell? ⟨gb314, 1, none⟩ = some (.int .i64 a3_1) := (blk_cell BK314.out 1).trans rfl; have hfz228_0 := blk_frozen BK314.out 0; have hfz228_1 := blk_frozen BK314.out 1) | (go_at_call 26; (with_reducible refine (amount_Covers.calls kj4 a0_0 a0_1 a0_2 a0_3 a2_0 a2_1 a3_0 a3_1 false _ A187.out).mono ?_); rintro e w229 ⟨rfl, hb⟩; have n0_ := blkB BK311 (by (with_reducible repeat first | refine bN ?_ _ | refine bD ?_ | refine bA ?_ _); exact BK311.out) hb; have n1_ := blkB BK312 (by (with_reducible repeat first | refine bN ?_ _ | refine bD ?_ | refine bA ?_ _); exact BK312.out) hb; have n2_ := blkB BK313 (by (with_reducible repeat first | refine bN ?_ _ | refine bD ?_ | refine bA ?_ _); exact BK313.out) hb; have n3_ := blkB BK314 (by (with_reducible repeat first | refine bN ?_ _ | refine bD ?_ | refine bA ?_ _); exact BK314.out) hb; have n4_ := Aside0.mk (below_step (by repeat (first | (with_reducible first | exact HB.out | apply below_alloc | apply pw_below_drewN | apply below_drew1) | exact HB.out)) hb); clear BK311 BK312 BK313 BK314 HB; have BK311 := n0_; have BK312 := n1_; have BK313 := n2_; have BK314 := n3_; have HB := n4_; clear n0_ n1_ n2_ n3_ n4_; (try clear hb)))
        go_meet
        case rel => exact ⟨_, (false), (by first | rfl | (simp; done) | (simp [*]; done)), H', ⟨by have := HJ4.out; first | omega | exact Nat.le_refl _⟩, ⟨by (with_reducible repeat first | refine bN ?_ _ | refine bD ?_ | refine bA ?_ _); exact BK311.out⟩, ⟨by (with_reducible repeat first | refine bN ?_ _ | refine bD ?_ | refine bA ?_ _); exact BK312.out⟩, ⟨by (with_reducible repeat first | refine bN ?_ _ | refine bD ?_ | refine bA ?_ _); exact BK313.out⟩, ⟨by (with_reducible repeat first | refine bN ?_ _ | refine bD ?_ | refine bA ?_ _); exact BK314.out⟩, ⟨by repeat (first | (with_reducible first | exact HB.out | apply below_alloc | apply pw_below_drewN | apply below_drew1) | exact HB.out)⟩⟩
      ·replace c186 := Bool.eq_false_iff.mpr c186
       subst c186
       have H1 : (clusterlockslaw04_AmountLattice.j1 kj4 false a0_0 a0_1 a0_2 a0_3 a1_0 a1_1 a2_0 a2_1 a3_0 a3_1) = some r := by rw [if_neg (show ¬ (false = true) by decide)] at H; exact H
       clear H
       have H := H1
       clear H1
       have H' := Aside0.mk H
       clear H
       have hnb230 := NB311_312.out
       have hnc230 := NB312_311.out
       have hnb231 := NB311_313.out
       have hnc231 := NB313_311.out
       have hnb232 := NB311_314.out
       have hnc232 := NB314_311.out
       have hcz233_0 : wc.cell? ⟨gb311, 0, none⟩ = some (.string a0_0) := (blk_cell BK311.out 0).trans rfl
       have hcz233_1 : wc.cell? ⟨gb311, 1, none⟩ = some (.int .i64 a0_1) := (blk_cell BK311.out 1).trans rfl
       have hcz233_2 : wc.cell? ⟨gb311, 2, none⟩ = some (.int .i64 a0_2) := (blk_cell BK311.out 2).trans rfl
       have hcz233_3 : wc.cell? ⟨gb311, 3, none⟩ = some (.int .i64 a0_3) := (blk_cell BK311.out 3).trans rfl
       have hfz233_0 := blk_frozen BK311.out 0
       have hfz233_1 := blk_frozen BK311.out 1
       have hfz233_2 := blk_frozen BK311.out 2
       have hfz233_3 := blk_frozen BK311.out 3
       have hnb234 := NB312_313.out
       have hnc234 := NB313_312.out
       have hnb235 := NB312_314.out
       have hnc235 := NB314_312.out
       have hcz236_0 : wc.cell? ⟨gb312, 0, none⟩ = some (.int .i64 a1_0) := (blk_cell BK312.out 0).trans rfl
       have hcz236_1 : wc.cell? ⟨gb312, 1, none⟩ = some (.int .i64 a1_1) := (blk_cell BK312.out 1).trans rfl
       have hfz236_0 := blk_frozen BK312.out 0
       have hfz236_1 := blk_frozen BK312.out 1
       have hnb237 := NB313_314.out
       have hnc237 := NB314_313.out
       have hcz238_0 : wc.cell? ⟨gb313, 0, none⟩ = some (.int .i64 a2_0) := (blk_cell BK313.out 0).trans rfl
       have hcz238_1 : wc.cell? ⟨gb313, 1, none⟩ = some (.int .i64 a2_1) := (blk_cell BK313.out 1).trans rfl
       have hfz238_0 := blk_frozen BK313.out 0
       have hfz238_1 := blk_frozen BK313.out 1
       go_wp2_with (first | ((with_reducible refine gate_callee (f := 26) rfl ?_); refine goesL_ (some 25) rfl rfl Tryd.func26 (by kernel_rfl) rfl #[.agg #[.string a0_0, .int .i64 a0_1, .int .i64 a0_2, .int .i64 a0_3], .agg #[.int .i64 a1_0, .int .i64 a1_1], .agg #[.int .i64 a2_0, .int .i64 a2_1]] rfl (by (try simp only [List.map_toArray, List.map_cons, List.map_nil]); first | done | rfl | (simp only [List.length_drop, List.length_take]; rfl)) ?_; (with_reducible refine (amount_Covers.calls kj4 a0_0 a0_1 a0_2 a0_3 a1_0 a1_1 a2_0 a2_1 false _ A22.out).mono ?_); rintro e w239 ⟨rfl, hb⟩; refine ⟨_, rfl, ?_⟩; have n0_ := blkB BK311 (by (with_reducible repeat first | refine bN ?_ _ | refine bD ?_ | refine bA ?_ _); exact BK311.out) hb; have n1_ := blkB BK312 (by (with_reducible repeat first | refine bN ?_ _ | refine bD ?_ | refine bA ?_ _); exact BK312.out) hb; have n2_ := blkB BK313 (by (with_reducible repeat first | refine bN ?_ _ | refine bD ?_ | refine bA ?_ _); exact BK313.out) hb; have n3_ := blkB BK314 (by (with_reducible repeat first | refine bN ?_ _ | refine bD ?_ | refine bA ?_ _); exact BK314.out) hb; have n4_ := Aside0.mk (below_step (by repeat (first | (with_reducible first | exact HB.out | apply below_alloc | apply pw_below_drewN | apply below_drew1) | exact HB.out)) hb); clear BK311 BK312 BK313 BK314 HB; have BK311 := n0_; have BK312 := n1_; have BK313 := n2_; have BK314 := n3_; have HB := n4_; clear n0_ n1_ n2_ n3_ n4_; (try clear hb); have hcz240_0 : w239.cell? ⟨gb311, 0, none⟩ = some (.string a0_0) := (blk_cell BK311.out 0).trans rfl; have hcz240_1 : w239.cell? ⟨gb311, 1, none⟩ = some (.int .i64 a0_1) := (blk_cell BK311.out 1).trans rfl; have hcz240_2 : w239.cell? ⟨gb311, 2, none⟩ = some (.int .i64 a0_2) := (blk_cell BK311.out 2).trans rfl; have hcz240_3 : w239.cell? ⟨gb311, 3, none⟩ = some (.int .i64 a0_3) := (blk_cell BK311.out 3).trans rfl; have hfz240_0 := blk_frozen BK311.out 0; have hfz240_1 := blk_frozen BK311.out 1; have hfz240_2 := blk_frozen BK311.out 2; have hfz240_3 := blk_frozen BK311.out 3; have hcz241_0 : w239.cell? ⟨gb312, 0, none⟩ = some (.int .i64 a1_0) := (blk_cell BK312.out 0).trans rfl; have hcz241_1 : w239.cell? ⟨gb312, 1, none⟩ = some (.int .i64 a1_1) := (blk_cell BK312.out 1).trans rfl; have hfz241_0 := blk_frozen BK312.out 0; have hfz241_1 := blk_frozen BK312.out 1; have hcz242_0 : w239.cell? ⟨gb313, 0, none⟩ = some (.int .i64 a2_0) := (blk_cell BK313.out 0).trans rfl; have hcz242_1 : w239.cell? ⟨gb313, 1, none⟩ = some (.int .i64 a2_1) := (blk_cell BK313.out 1).trans rfl; have hfz242_0 := blk_frozen BK313.out 0; have hfz242_1 := blk_frozen BK313.out 1) | (go_at_call 26; (with_reducible refine (amount_Covers.calls kj4 a0_0 a0_1 a0_2 a0_3 a1_0 a1_1 a2_0 a2_1 false _ A185.out).mono ?_); rintro e w243 ⟨rfl, hb⟩; have n0_ := blkB BK311 (by (with_reducible repeat first | refine bN ?_ _ | refine bD ?_ | refine bA ?_ _); exact BK311.out) hb; have n1_ := blkB BK312 (by (with_reducible repeat first | refine bN ?_ _ | refine bD ?_ | refine bA ?_ _); exact BK312.out) hb; have n2_ := blkB BK313 (by (with_reducible repeat first | refine bN ?_ _ | refine bD ?_ | refine bA ?_ _); exact BK313.out) hb; have n3_ := blkB BK314 (by (with_reducible repeat first | refine bN ?_ _ | refine bD ?_ | refine bA ?_ _); exact BK314.out) hb; have n4_ := Aside0.mk (below_step (by repeat (first | (with_reducible first | exact HB.out | apply below_alloc | apply pw_below_drewN | apply below_drew1) | exact HB.out)) hb); clear BK311 BK312 BK313 BK314 HB; have BK311 := n0_; have BK312 := n1_; have BK313 := n2_; have BK314 := n3_; have HB := n4_; clear n0_ n1_ n2_ n3_ n4_; (try clear hb)))
       go_meet
       case rel => exact ⟨_, (false), (by first | rfl | (simp; done) | (simp [*]; done)), H', ⟨by have := HJ4.out; first | omega | exact Nat.le_refl _⟩, ⟨by (with_reducible repeat first | refine bN ?_ _ | refine bD ?_ | refine bA ?_ _); exact BK311.out⟩, ⟨by (with_reducible repeat first | refine bN ?_ _ | refine bD ?_ | refine bA ?_ _); exact BK312.out⟩, ⟨by (with_reducible repeat first | refine bN ?_ _ | refine bD ?_ | refine bA ?_ _); exact BK313.out⟩, ⟨by (with_reducible repeat first | refine bN ?_ _ | refine bD ?_ | refine bA ?_ _); exact BK314.out⟩, ⟨by repeat (first | (with_reducible first | exact HB.out | apply below_alloc | apply pw_below_drewN | apply below_drew1) | exact HB.out)⟩⟩
    case rest =>
     clear HC21
     try clear c1
     try clear c2
     try clear p2
     try clear c3
     try clear c4
     try clear c5
     try clear c7
     try clear c8
     try clear c9
     try clear c10
     try clear c11
     try clear c12
     try clear c14
     try clear c15
     try clear c16
     try clear c17
     try clear c18
     try clear c19
     try clear c20
     try clear c21
     try clear c23
     try clear c25
     try clear c26
     try clear c26b0
     try clear c27
     try clear c28
     try clear c29
     try clear c31
     try clear c32
     try clear c34
     try clear c44
     try clear c46
     try clear c48
     try clear c49
     try clear c50
     try clear c52
     try clear c53
     try clear c55
     try clear c74
     try clear c75
     try clear c76
     try clear c78
     try clear c79
     try clear c81
     try clear c96
     try clear c97
     try clear c98
     try clear c100
     try clear c101
     try clear c103
     try clear c115
     try clear c117
     try clear c119
     try clear c120
     try clear c121
     try clear c123
     try clear c124
     try clear c126
     try clear c145
     try clear c146
     try clear c147
     try clear c149
     try clear c150
     try clear c152
     try clear c167
     try clear c168
     try clear c169
     try clear c171
     try clear c172
     try clear c174
     try clear c186
     try clear c188
     try clear c190
     try clear c191
     try clear c192
     try clear c194
     try clear c195
     try clear c197
     try clear c212
     try clear c213
     try clear c214
     try clear c216
     try clear c217
     try clear c219
     try clear c230
     try clear c231
     try clear c232
     try clear c234
     try clear c235
     try clear c237
     try clear hcz102_0
     try clear hcz102_1
     try clear hcz104_0
     try clear hcz104_1
     try clear hcz106_0
     try clear hcz106_1
     try clear hcz106_2
     try clear hcz106_3
     try clear hcz107_0
     try clear hcz107_1
     try clear hcz108_0
     try clear hcz108_1
     try clear hcz110_0
     try clear hcz110_1
     try clear hcz111_0
     try clear hcz111_1
     try clear hcz112_0
     try clear hcz112_1
     try clear hcz112_2
     try clear hcz112_3
     try clear hcz122_0
     try clear hcz122_1
     try clear hcz122_2
     try clear hcz122_3
     try clear hcz125_0
     try clear hcz125_1
     try clear hcz127_0
     try clear hcz127_1
     try clear hcz129_0
     try clear hcz129_1
     try clear hcz129_2
     try clear hcz129_3
     try clear hcz130_0
     try clear hcz130_1
     try clear hcz131_0
     try clear hcz131_1
     try clear hcz133_0
     try clear hcz133_1
     try clear hcz133_2
     try clear hcz133_3
     try clear hcz134_0
     try clear hcz134_1
     try clear hcz135_0
     try clear hcz135_1
     try clear hcz137_0
     try clear hcz137_1
     try clear hcz137_2
     try clear hcz137_3
     try clear hcz138_0
     try clear hcz138_1
     try clear hcz139_0
     try clear hcz139_1
     try clear hcz141_0
     try clear hcz141_1
     try clear hcz141_2
     try clear hcz141_3
     try clear hcz142_0
     try clear hcz142_1
     try clear hcz143_0
     try clear hcz143_1
     try clear hcz148_0
     try clear hcz148_1
     try clear hcz148_2
     try clear hcz148_3
     try clear hcz151_0
     try clear hcz151_1
     try clear hcz153_0
     try clear hcz153_1
     try clear hcz155_0
     try clear hcz155_1
     try clear hcz155_2
     try clear hcz155_3
     try clear hcz156_0
     try clear hcz156_1
     try clear hcz157_0
     try clear hcz157_1
     try clear hcz159_0
     try clear hcz159_1
     try clear hcz159_2
     try clear hcz159_3
     try clear hcz160_0
     try clear hcz160_1
     try clear hcz161_0
     try clear hcz161_1
     try clear hcz163_0
     try clear hcz163_1
     try clear hcz163_2
     try clear hcz163_3
     try clear hcz164_0
     try clear hcz164_1
     try clear hcz165_0
     try clear hcz165_1
     try clear hcz170_0
     try clear hcz170_1
     try clear hcz170_2
     try clear hcz170_3
     try clear hcz173_0
     try clear hcz173_1
     try clear hcz175_0
     try clear hcz175_1
     try clear hcz177_0
     try clear hcz177_1
     try clear hcz177_2
     try clear hcz177_3
     try clear hcz178_0
     try clear hcz178_1
     try clear hcz179_0
     try clear hcz179_1
     try clear hcz181_0
     try clear hcz181_1
     try clear hcz181_2
     try clear hcz181_3
     try clear hcz182_0
     try clear hcz182_1
     try clear hcz183_0
     try clear hcz183_1
     try clear hcz193_0
     try clear hcz193_1
     try clear hcz193_2
     try clear hcz193_3
     try clear hcz196_0
     try clear hcz196_1
     try clear hcz198_0
     try clear hcz198_1
     try clear hcz200_0
     try clear hcz200_1
     try clear hcz200_2
     try clear hcz200_3
     try clear hcz201_0
     try clear hcz201_1
     try clear hcz202_0
     try clear hcz202_1
     try clear hcz204_0
     try clear hcz204_1
     try clear hcz204_2
     try clear hcz204_3
     try clear hcz205_0
     try clear hcz205_1
     try clear hcz206_0
     try clear hcz206_1
     try clear hcz208_0
     try clear hcz208_1
     try clear hcz208_2
     try clear hcz208_3
     try clear hcz209_0
     try clear hcz209_1
     try clear hcz210_0
     try clear hcz210_1
     try clear hcz215_0
     try clear hcz215_1
     try clear hcz215_2
     try clear hcz215_3
     try clear hcz218_0
     try clear hcz218_1
     try clear hcz220_0
     try clear hcz220_1
     try clear hcz222_0
     try clear hcz222_1
     try clear hcz222_2
     try clear hcz222_3
     try clear hcz223_0
     try clear hcz223_1
     try clear hcz224_0
     try clear hcz224_1
     try clear hcz226_0
     try clear hcz226_1
     try clear hcz226_2
     try clear hcz226_3
     try clear hcz227_0
     try clear hcz227_1
     try clear hcz228_0
     try clear hcz228_1
     try clear hcz233_0
     try clear hcz233_1
     try clear hcz233_2
     try clear hcz233_3
     try clear hcz236_0
     try clear hcz236_1
     try clear hcz238_0
     try clear hcz238_1
     try clear hcz240_0
     try clear hcz240_1
     try clear hcz240_2
     try clear hcz240_3
     try clear hcz241_0
     try clear hcz241_1
     try clear hcz242_0
     try clear hcz242_1
     try clear hcz30_0
     try clear hcz30_1
     try clear hcz30_2
     try clear hcz30_3
     try clear hcz33_0
     try clear hcz33_1
     try clear hcz35_0
     try clear hcz35_1
     try clear hcz37_0
     try clear hcz37_1
     try clear hcz37_2
     try clear hcz37_3
     try clear hcz38_0
     try clear hcz38_1
     try clear hcz39_0
     try clear hcz39_1
     try clear hcz41_0
     try clear hcz41_1
     try clear hcz42_0
     try clear hcz42_1
     try clear hcz51_0
     try clear hcz51_1
     try clear hcz51_2
     try clear hcz51_3
     try clear hcz54_0
     try clear hcz54_1
     try clear hcz56_0
     try clear hcz56_1
     try clear hcz58_0
     try clear hcz58_1
     try clear hcz58_2
     try clear hcz58_3
     try clear hcz59_0
     try clear hcz59_1
     try clear hcz60_0
     try clear hcz60_1
     try clear hcz62_0
     try clear hcz62_1
     try clear hcz63_0
     try clear hcz63_1
     try clear hcz64_0
     try clear hcz64_1
     try clear hcz64_2
     try clear hcz64_3
     try clear hcz66_0
     try clear hcz66_1
     try clear hcz66_2
     try clear hcz66_3
     try clear hcz67_0
     try clear hcz67_1
     try clear hcz68_0
     try clear hcz68_1
     try clear hcz70_0
     try clear hcz70_1
     try clear hcz70_2
     try clear hcz70_3
     try clear hcz71_0
     try clear hcz71_1
     try clear hcz72_0
     try clear hcz72_1
     try clear hcz77_0
     try clear hcz77_1
     try clear hcz77_2
     try clear hcz77_3
     try clear hcz80_0
     try clear hcz80_1
     try clear hcz82_0
     try clear hcz82_1
     try clear hcz84_0
     try clear hcz84_1
     try clear hcz84_2
     try clear hcz84_3
     try clear hcz85_0
     try clear hcz85_1
     try clear hcz86_0
     try clear hcz86_1
     try clear hcz88_0
     try clear hcz88_1
     try clear hcz89_0
     try clear hcz89_1
     try clear hcz90_0
     try clear hcz90_1
     try clear hcz90_2
     try clear hcz90_3
     try clear hcz92_0
     try clear hcz92_1
     try clear hcz92_2
     try clear hcz92_3
     try clear hcz93_0
     try clear hcz93_1
     try clear hcz94_0
     try clear hcz94_1
     try clear hcz99_0
     try clear hcz99_1
     try clear hcz99_2
     try clear hcz99_3
     try clear hfz102_0
     try clear hfz102_1
     try clear hfz104_0
     try clear hfz104_1
     try clear hfz106_0
     try clear hfz106_1
     try clear hfz106_2
     try clear hfz106_3
     try clear hfz107_0
     try clear hfz107_1
     try clear hfz108_0
     try clear hfz108_1
     try clear hfz110_0
     try clear hfz110_1
     try clear hfz111_0
     try clear hfz111_1
     try clear hfz112_0
     try clear hfz112_1
     try clear hfz112_2
     try clear hfz112_3
     try clear hfz122_0
     try clear hfz122_1
     try clear hfz122_2
     try clear hfz122_3
     try clear hfz125_0
     try clear hfz125_1
     try clear hfz127_0
     try clear hfz127_1
     try clear hfz129_0
     try clear hfz129_1
     try clear hfz129_2
     try clear hfz129_3
     try clear hfz130_0
     try clear hfz130_1
     try clear hfz131_0
     try clear hfz131_1
     try clear hfz133_0
     try clear hfz133_1
     try clear hfz133_2
     try clear hfz133_3
     try clear hfz134_0
     try clear hfz134_1
     try clear hfz135_0
     try clear hfz135_1
     try clear hfz137_0
     try clear hfz137_1
     try clear hfz137_2
     try clear hfz137_3
     try clear hfz138_0
     try clear hfz138_1
     try clear hfz139_0
     try clear hfz139_1
     try clear hfz141_0
     try clear hfz141_1
     try clear hfz141_2
     try clear hfz141_3
     try clear hfz142_0
     try clear hfz142_1
     try clear hfz143_0
     try clear hfz143_1
     try clear hfz148_0
     try clear hfz148_1
     try clear hfz148_2
     try clear hfz148_3
     try clear hfz151_0
     try clear hfz151_1
     try clear hfz153_0
     try clear hfz153_1
     try clear hfz155_0
     try clear hfz155_1
     try clear hfz155_2
     try clear hfz155_3
     try clear hfz156_0
     try clear hfz156_1
     try clear hfz157_0
     try clear hfz157_1
     try clear hfz159_0
     try clear hfz159_1
     try clear hfz159_2
     try clear hfz159_3
     try clear hfz160_0
     try clear hfz160_1
     try clear hfz161_0
     try clear hfz161_1
     try clear hfz163_0
     try clear hfz163_1
     try clear hfz163_2
     try clear hfz163_3
     try clear hfz164_0
     try clear hfz164_1
     try clear hfz165_0
     try clear hfz165_1
     try clear hfz170_0
     try clear hfz170_1
     try clear hfz170_2
     try clear hfz170_3
     try clear hfz173_0
     try clear hfz173_1
     try clear hfz175_0
     try clear hfz175_1
     try clear hfz177_0
     try clear hfz177_1
     try clear hfz177_2
     try clear hfz177_3
     try clear hfz178_0
     try clear hfz178_1
     try clear hfz179_0
     try clear hfz179_1
     try clear hfz181_0
     try clear hfz181_1
     try clear hfz181_2
     try clear hfz181_3
     try clear hfz182_0
     try clear hfz182_1
     try clear hfz183_0
     try clear hfz183_1
     try clear hfz193_0
     try clear hfz193_1
     try clear hfz193_2
     try clear hfz193_3
     try clear hfz196_0
     try clear hfz196_1
     try clear hfz198_0
     try clear hfz198_1
     try clear hfz200_0
     try clear hfz200_1
     try clear hfz200_2
     try clear hfz200_3
     try clear hfz201_0
     try clear hfz201_1
     try clear hfz202_0
     try clear hfz202_1
     try clear hfz204_0
     try clear hfz204_1
     try clear hfz204_2
     try clear hfz204_3
     try clear hfz205_0
     try clear hfz205_1
     try clear hfz206_0
     try clear hfz206_1
     try clear hfz208_0
     try clear hfz208_1
     try clear hfz208_2
     try clear hfz208_3
     try clear hfz209_0
     try clear hfz209_1
     try clear hfz210_0
     try clear hfz210_1
     try clear hfz215_0
     try clear hfz215_1
     try clear hfz215_2
     try clear hfz215_3
     try clear hfz218_0
     try clear hfz218_1
     try clear hfz220_0
     try clear hfz220_1
     try clear hfz222_0
     try clear hfz222_1
     try clear hfz222_2
     try clear hfz222_3
     try clear hfz223_0
     try clear hfz223_1
     try clear hfz224_0
     try clear hfz224_1
     try clear hfz226_0
     try clear hfz226_1
     try clear hfz226_2
     try clear hfz226_3
     try clear hfz227_0
     try clear hfz227_1
     try clear hfz228_0
     try clear hfz228_1
     try clear hfz233_0
     try clear hfz233_1
     try clear hfz233_2
     try clear hfz233_3
     try clear hfz236_0
     try clear hfz236_1
     try clear hfz238_0
     try clear hfz238_1
     try clear hfz240_0
     try clear hfz240_1
     try clear hfz240_2
     try clear hfz240_3
     try clear hfz241_0
     try clear hfz241_1
     try clear hfz242_0
     try clear hfz242_1
     try clear hfz30_0
     try clear hfz30_1
     try clear hfz30_2
     try clear hfz30_3
     try clear hfz33_0
     try clear hfz33_1
     try clear hfz35_0
     try clear hfz35_1
     try clear hfz37_0
     try clear hfz37_1
     try clear hfz37_2
     try clear hfz37_3
     try clear hfz38_0
     try clear hfz38_1
     try clear hfz39_0
     try clear hfz39_1
     try clear hfz41_0
     try clear hfz41_1
     try clear hfz42_0
     try clear hfz42_1
     try clear hfz51_0
     try clear hfz51_1
     try clear hfz51_2
     try clear hfz51_3
     try clear hfz54_0
     try clear hfz54_1
     try clear hfz56_0
     try clear hfz56_1
     try clear hfz58_0
     try clear hfz58_1
     try clear hfz58_2
     try clear hfz58_3
     try clear hfz59_0
     try clear hfz59_1
     try clear hfz60_0
     try clear hfz60_1
     try clear hfz62_0
     try clear hfz62_1
     try clear hfz63_0
     try clear hfz63_1
     try clear hfz64_0
     try clear hfz64_1
     try clear hfz64_2
     try clear hfz64_3
     try clear hfz66_0
     try clear hfz66_1
     try clear hfz66_2
     try clear hfz66_3
     try clear hfz67_0
     try clear hfz67_1
     try clear hfz68_0
     try clear hfz68_1
     try clear hfz70_0
     try clear hfz70_1
     try clear hfz70_2
     try clear hfz70_3
     try clear hfz71_0
     try clear hfz71_1
     try clear hfz72_0
     try clear hfz72_1
     try clear hfz77_0
     try clear hfz77_1
     try clear hfz77_2
     try clear hfz77_3
     try clear hfz80_0
     try clear hfz80_1
     try clear hfz82_0
     try clear hfz82_1
     try clear hfz84_0
     try clear hfz84_1
     try clear hfz84_2
     try clear hfz84_3
     try clear hfz85_0
     try clear hfz85_1
     try clear hfz86_0
     try clear hfz86_1
     try clear hfz88_0
     try clear hfz88_1
     try clear hfz89_0
     try clear hfz89_1
     try clear hfz90_0
     try clear hfz90_1
     try clear hfz90_2
     try clear hfz90_3
     try clear hfz92_0
     try clear hfz92_1
     try clear hfz92_2
     try clear hfz92_3
     try clear hfz93_0
     try clear hfz93_1
     try clear hfz94_0
     try clear hfz94_1
     try clear hfz99_0
     try clear hfz99_1
     try clear hfz99_2
     try clear hfz99_3
     try clear p2
     obtain ⟨kq, x55_20, rfl, HA, HJ20, BK311, BK312, BK313, BK314, HB⟩ := hcut
     cases kq with
     | zero => exact absurd HA.out (by simp [clusterlockslaw04_AmountLattice.j1])
     | succ kj20 =>
      have H := HA.out
      clear HA
      simp only [clusterlockslaw04_AmountLattice.j1] at H
      by_cases c244 : x55_20 = true
      ·subst c244
       have H1 : (some false) = some r := by rw [if_pos rfl] at H; exact H
       clear H
       have H := H1
       clear H1
       obtain rfl := Option.some.inj H
       go_wp2
       go_ret
       exact ⟨by first | rfl | (simp [errW_none, errW_some] <;> rfl) | (simp [*, errW_none, errW_some] <;> rfl), by repeat (first | (with_reducible first | exact HB.out | apply below_alloc | apply pw_below_drewN | apply below_drew1) | exact HB.out)⟩
      ·replace c244 := Bool.eq_false_iff.mpr c244
       subst c244
       have H1 : ((clusterlocksref04_Permitted.f a0_0 a0_1 a0_2 a0_3 a1_0 a1_1).bind fun t329 => (if t329 = true then ((clusterlocksref04_Permitted.f a0_0 a0_1 a0_2 a0_3 a2_0 a2_1).bind fun t330 => (clusterlockslaw04_AmountLattice.j2 kj20 (!t330) a0_0 a0_1 a0_2 a0_3 a1_0 a1_1 a2_0 a2_1 a3_0 a3_1)) else (clusterlockslaw04_AmountLattice.j2 kj20 true a0_0 a0_1 a0_2 a0_3 a1_0 a1_1 a2_0 a2_1 a3_0 a3_1))) = some r := by rw [if_neg (show ¬ (false = true) by decide)] at H; exact H
       clear H
       have H := H1
       clear H1
       have HC245 := Aside0.mk H
       clear H
       go_upto_region 5 with (fail)
       go_cut [65] (fun v65 wc => ∃ (kq : Nat) (x65_244 : Bool), v65 = .bool x65_244 ∧ Aside0 (clusterlockslaw04_AmountLattice.j2 kq x65_244 a0_0 a0_1 a0_2 a0_3 a1_0 a1_1 a2_0 a2_1 a3_0 a3_1 = some r) ∧ Aside0 (kq ≤ kj20) ∧ Aside0 (wc.heap[gb311]? = some (.cells #[.string a0_0, .int .i64 a0_1, .int .i64 a0_2, .int .i64 a0_3] 23 (0, 0))) ∧ Aside0 (wc.heap[gb312]? = some (.cells #[.int .i64 a1_0, .int .i64 a1_1] 25 (0, 0))) ∧ Aside0 (wc.heap[gb313]? = some (.cells #[.int .i64 a2_0, .int .i64 a2_1] 25 (0, 0))) ∧ Aside0 (wc.heap[gb314]? = some (.cells #[.int .i64 a3_0, .int .i64 a3_1] 25 (0, 0))) ∧ Aside0 (Below w.heap.size w wc))
       case first =>
        have H := HC245.out
        clear HC245
        replace H := Option.bind_eq_some_iff.mp H
        obtain ⟨t329, A2460, H⟩ := H
        replace H : (if t329 = true then ((clusterlocksref04_Permitted.f a0_0 a0_1 a0_2 a0_3 a2_0 a2_1).bind fun t330 => (clusterlockslaw04_AmountLattice.j2 kj20 (!t330) a0_0 a0_1 a0_2 a0_3 a1_0 a1_1 a2_0 a2_1 a3_0 a3_1)) else (clusterlockslaw04_AmountLattice.j2 kj20 true a0_0 a0_1 a0_2 a0_3 a1_0 a1_1 a2_0 a2_1 a3_0 a3_1)) = some r := H
        have A246 := Aside0.mk A2460
        clear A2460
        by_cases c247 : t329 = true
        ·subst c247
         have H1 : ((clusterlocksref04_Permitted.f a0_0 a0_1 a0_2 a0_3 a2_0 a2_1).bind fun t330 => (clusterlockslaw04_AmountLattice.j2 kj20 (!t330) a0_0 a0_1 a0_2 a0_3 a1_0 a1_1 a2_0 a2_1 a3_0 a3_1)) = some r := by rw [if_pos rfl] at H; exact H
         clear H
         have H := H1
         clear H1
         replace H := Option.bind_eq_some_iff.mp H
         obtain ⟨t330, A2480, H⟩ := H
         replace H : (clusterlockslaw04_AmountLattice.j2 kj20 (!t330) a0_0 a0_1 a0_2 a0_3 a1_0 a1_1 a2_0 a2_1 a3_0 a3_1) = some r := H
         have A248 := Aside0.mk A2480
         clear A2480
         have H' := Aside0.mk H
         clear H
         have hnb249 := NB311_312.out
         have hnc249 := NB312_311.out
         have hnb250 := NB311_313.out
         have hnc250 := NB313_311.out
         have hnb251 := NB311_314.out
         have hnc251 := NB314_311.out
         have hcz252_0 : wc.cell? ⟨gb311, 0, none⟩ = some (.string a0_0) := (blk_cell BK311.out 0).trans rfl
         have hcz252_1 : wc.cell? ⟨gb311, 1, none⟩ = some (.int .i64 a0_1) := (blk_cell BK311.out 1).trans rfl
         have hcz252_2 : wc.cell? ⟨gb311, 2, none⟩ = some (.int .i64 a0_2) := (blk_cell BK311.out 2).trans rfl
         have hcz252_3 : wc.cell? ⟨gb311, 3, none⟩ = some (.int .i64 a0_3) := (blk_cell BK311.out 3).trans rfl
         have hfz252_0 := blk_frozen BK311.out 0
         have hfz252_1 := blk_frozen BK311.out 1
         have hfz252_2 := blk_frozen BK311.out 2
         have hfz252_3 := blk_frozen BK311.out 3
         have hnb253 := NB312_313.out
         have hnc253 := NB313_312.out
         have hnb254 := NB312_314.out
         have hnc254 := NB314_312.out
         have hcz255_0 : wc.cell? ⟨gb312, 0, none⟩ = some (.int .i64 a1_0) := (blk_cell BK312.out 0).trans rfl
         have hcz255_1 : wc.cell? ⟨gb312, 1, none⟩ = some (.int .i64 a1_1) := (blk_cell BK312.out 1).trans rfl
         have hfz255_0 := blk_frozen BK312.out 0
         have hfz255_1 := blk_frozen BK312.out 1
         go_wp2_with (first | ((with_reducible refine gate_callee (f := 21) rfl ?_); refine goesL_ (some 58) rfl rfl Tryd.func21 (by kernel_rfl) rfl #[.agg #[.string a0_0, .int .i64 a0_1, .int .i64 a0_2, .int .i64 a0_3], .agg #[.int .i64 a1_0, .int .i64 a1_1]] rfl (by (try simp only [List.map_toArray, List.map_cons, List.map_nil]); first | done | rfl | (simp only [List.length_drop, List.length_take]; rfl)) ?_; (with_reducible refine (clusterlocksref04_Permitted.calls a0_0 a0_1 a0_2 a0_3 a1_0 a1_1 true _ A246.out).mono ?_); rintro e w256 ⟨rfl, hb⟩; refine ⟨_, rfl, ?_⟩; have n0_ := blkB BK311 (by (with_reducible repeat first | refine bN ?_ _ | refine bD ?_ | refine bA ?_ _); exact BK311.out) hb; have n1_ := blkB BK312 (by (with_reducible repeat first | refine bN ?_ _ | refine bD ?_ | refine bA ?_ _); exact BK312.out) hb; have n2_ := blkB BK313 (by (with_reducible repeat first | refine bN ?_ _ | refine bD ?_ | refine bA ?_ _); exact BK313.out) hb; have n3_ := blkB BK314 (by (with_reducible repeat first | refine bN ?_ _ | refine bD ?_ | refine bA ?_ _); exact BK314.out) hb; have n4_ := Aside0.mk (below_step (by repeat (first | (with_reducible first | exact HB.out | apply below_alloc | apply pw_below_drewN | apply below_drew1) | exact HB.out)) hb); clear BK311 BK312 BK313 BK314 HB; have BK311 := n0_; have BK312 := n1_; have BK313 := n2_; have BK314 := n3_; have HB := n4_; clear n0_ n1_ n2_ n3_ n4_; (try clear hb); have hcz257_0 : w256.cell? ⟨gb311, 0, none⟩ = some (.string a0_0) := (blk_cell BK311.out 0).trans rfl; have hcz257_1 : w256.cell? ⟨gb311, 1, none⟩ = some (.int .i64 a0_1) := (blk_cell BK311.out 1).trans rfl; have hcz257_2 : w256.cell? ⟨gb311, 2, none⟩ = some (.int .i64 a0_2) := (blk_cell BK311.out 2).trans rfl; have hcz257_3 : w256.cell? ⟨gb311, 3, none⟩ = some (.int .i64 a0_3) := (blk_cell BK311.out 3).trans rfl; have hfz257_0 := blk_frozen BK311.out 0; have hfz257_1 := blk_frozen BK311.out 1; have hfz257_2 := blk_frozen BK311.out 2; have hfz257_3 := blk_frozen BK311.out 3; have hnb258 := NB313_314.out; have hnc258 := NB314_313.out; have hcz259_0 : w256.cell? ⟨gb313, 0, none⟩ = some (.int .i64 a2_0) := (blk_cell BK313.out 0).trans rfl; have hcz259_1 : w256.cell? ⟨gb313, 1, none⟩ = some (.int .i64 a2_1) := (blk_cell BK313.out 1).trans rfl; have hfz259_0 := blk_frozen BK313.out 0; have hfz259_1 := blk_frozen BK313.out 1) | (go_at_call 21; (with_reducible refine (clusterlocksref04_Permitted.calls a0_0 a0_1 a0_2 a0_3 a2_0 a2_1 t330 _ A248.out).mono ?_); rintro e w260 ⟨rfl, hb⟩; have n0_ := blkB BK311 (by (with_reducible repeat first | refine bN ?_ _ | refine bD ?_ | refine bA ?_ _); exact BK311.out) hb; have n1_ := blkB BK312 (by (with_reducible repeat first | refine bN ?_ _ | refine bD ?_ | refine bA ?_ _); exact BK312.out) hb; have n2_ := blkB BK313 (by (with_reducible repeat first | refine bN ?_ _ | refine bD ?_ | refine bA ?_ _); exact BK313.out) hb; have n3_ := blkB BK314 (by (with_reducible repeat first | refine bN ?_ _ | refine bD ?_ | refine bA ?_ _); exact BK314.out) hb; have n4_ := Aside0.mk (below_step (by repeat (first | (with_reducible first | exact HB.out | apply below_alloc | apply pw_below_drewN | apply below_drew1) | exact HB.out)) hb); clear BK311 BK312 BK313 BK314 HB; have BK311 := n0_; have BK312 := n1_; have BK313 := n2_; have BK314 := n3_; have HB := n4_; clear n0_ n1_ n2_ n3_ n4_; (try clear hb)))
         go_meet
         case rel => exact ⟨_, (!t330), (by first | rfl | (simp; done) | (simp [*]; done)), H', ⟨by have := HJ4.out; have := HJ20.out; first | omega | exact Nat.le_refl _⟩, ⟨by (with_reducible repeat first | refine bN ?_ _ | refine bD ?_ | refine bA ?_ _); exact BK311.out⟩, ⟨by (with_reducible repeat first | refine bN ?_ _ | refine bD ?_ | refine bA ?_ _); exact BK312.out⟩, ⟨by (with_reducible repeat first | refine bN ?_ _ | refine bD ?_ | refine bA ?_ _); exact BK313.out⟩, ⟨by (with_reducible repeat first | refine bN ?_ _ | refine bD ?_ | refine bA ?_ _); exact BK314.out⟩, ⟨by repeat (first | (with_reducible first | exact HB.out | apply below_alloc | apply pw_below_drewN | apply below_drew1) | exact HB.out)⟩⟩
        ·replace c247 := Bool.eq_false_iff.mpr c247
         subst c247
         have H1 : (clusterlockslaw04_AmountLattice.j2 kj20 true a0_0 a0_1 a0_2 a0_3 a1_0 a1_1 a2_0 a2_1 a3_0 a3_1) = some r := by rw [if_neg (show ¬ (false = true) by decide)] at H; exact H
         clear H
         have H := H1
         clear H1
         have H' := Aside0.mk H
         clear H
         have hnb261 := NB311_312.out
         have hnc261 := NB312_311.out
         have hnb262 := NB311_313.out
         have hnc262 := NB313_311.out
         have hnb263 := NB311_314.out
         have hnc263 := NB314_311.out
         have hcz264_0 : wc.cell? ⟨gb311, 0, none⟩ = some (.string a0_0) := (blk_cell BK311.out 0).trans rfl
         have hcz264_1 : wc.cell? ⟨gb311, 1, none⟩ = some (.int .i64 a0_1) := (blk_cell BK311.out 1).trans rfl
         have hcz264_2 : wc.cell? ⟨gb311, 2, none⟩ = some (.int .i64 a0_2) := (blk_cell BK311.out 2).trans rfl
         have hcz264_3 : wc.cell? ⟨gb311, 3, none⟩ = some (.int .i64 a0_3) := (blk_cell BK311.out 3).trans rfl
         have hfz264_0 := blk_frozen BK311.out 0
         have hfz264_1 := blk_frozen BK311.out 1
         have hfz264_2 := blk_frozen BK311.out 2
         have hfz264_3 := blk_frozen BK311.out 3
         have hnb265 := NB312_313.out
         have hnc265 := NB313_312.out
         have hnb266 := NB312_314.out
         have hnc266 := NB314_312.out
         have hcz267_0 : wc.cell? ⟨gb312, 0, none⟩ = some (.int .i64 a1_0) := (blk_cell BK312.out 0).trans rfl
         have hcz267_1 : wc.cell? ⟨gb312, 1, none⟩ = some (.int .i64 a1_1) := (blk_cell BK312.out 1).trans rfl
         have hfz267_0 := blk_frozen BK312.out 0
         have hfz267_1 := blk_frozen BK312.out 1
         go_wp2_with (first | ((with_reducible refine gate_callee (f := 21) rfl ?_); refine goesL_ (some 58) rfl rfl Tryd.func21 (by kernel_rfl) rfl #[.agg #[.string a0_0, .int .i64 a0_1, .int .i64 a0_2, .int .i64 a0_3], .agg #[.int .i64 a1_0, .int .i64 a1_1]] rfl (by (try simp only [List.map_toArray, List.map_cons, List.map_nil]); first | done | rfl | (simp only [List.length_drop, List.length_take]; rfl)) ?_; (with_reducible refine (clusterlocksref04_Permitted.calls a0_0 a0_1 a0_2 a0_3 a1_0 a1_1 false _ A246.out).mono ?_); rintro e w268 ⟨rfl, hb⟩; refine ⟨_, rfl, ?_⟩; have n0_ := blkB BK311 (by (with_reducible repeat first | refine bN ?_ _ | refine bD ?_ | refine bA ?_ _); exact BK311.out) hb; have n1_ := blkB BK312 (by (with_reducible repeat first | refine bN ?_ _ | refine bD ?_ | refine bA ?_ _); exact BK312.out) hb; have n2_ := blkB BK313 (by (with_reducible repeat first | refine bN ?_ _ | refine bD ?_ | refine bA ?_ _); exact BK313.out) hb; have n3_ := blkB BK314 (by (with_reducible repeat first | refine bN ?_ _ | refine bD ?_ | refine bA ?_ _); exact BK314.out) hb; have n4_ := Aside0.mk (below_step (by repeat (first | (with_reducible first | exact HB.out | apply below_alloc | apply pw_below_drewN | apply below_drew1) | exact HB.out)) hb); clear BK311 BK312 BK313 BK314 HB; have BK311 := n0_; have BK312 := n1_; have BK313 := n2_; have BK314 := n3_; have HB := n4_; clear n0_ n1_ n2_ n3_ n4_; (try clear hb)))
         go_meet
         case rel => exact ⟨_, (true), (by first | rfl | (simp; done) | (simp [*]; done)), H', ⟨by have := HJ4.out; have := HJ20.out; first | omega | exact Nat.le_refl _⟩, ⟨by (with_reducible repeat first | refine bN ?_ _ | refine bD ?_ | refine bA ?_ _); exact BK311.out⟩, ⟨by (with_reducible repeat first | refine bN ?_ _ | refine bD ?_ | refine bA ?_ _); exact BK312.out⟩, ⟨by (with_reducible repeat first | refine bN ?_ _ | refine bD ?_ | refine bA ?_ _); exact BK313.out⟩, ⟨by (with_reducible repeat first | refine bN ?_ _ | refine bD ?_ | refine bA ?_ _); exact BK314.out⟩, ⟨by repeat (first | (with_reducible first | exact HB.out | apply below_alloc | apply pw_below_drewN | apply below_drew1) | exact HB.out)⟩⟩
       case rest =>
        clear HC245
        try clear c2
        try clear p2
        try clear c21
        try clear c24
        try clear c25
        try clear c26
        try clear c244
        try clear c247
        try clear c249
        try clear c250
        try clear c251
        try clear c253
        try clear c254
        try clear c258
        try clear c261
        try clear c262
        try clear c263
        try clear c265
        try clear c266
        try clear hcz159_1
        try clear hcz159_2
        try clear hcz159_3
        try clear hcz160_0
        try clear hcz160_1
        try clear hcz161_0
        try clear hcz161_1
        try clear hcz163_0
        try clear hcz163_1
        try clear hcz163_2
        try clear hcz163_3
        try clear hcz164_0
        try clear hcz164_1
        try clear hcz165_0
        try clear hcz165_1
        try clear hcz170_0
        try clear hcz170_1
        try clear hcz170_2
        try clear hcz170_3
        try clear hcz173_0
        try clear hcz173_1
        try clear hcz175_0
        try clear hcz175_1
        try clear hcz177_0
        try clear hcz177_1
        try clear hcz177_2
        try clear hcz177_3
        try clear hcz178_0
        try clear hcz178_1
        try clear hcz179_0
        try clear hcz179_1
        try clear hcz181_0
        try clear hcz181_1
        try clear hcz181_2
        try clear hcz181_3
        try clear hcz182_0
        try clear hcz182_1
        try clear hcz183_0
        try clear hcz183_1
        try clear hcz193_0
        try clear hcz193_1
        try clear hcz193_2
        try clear hcz193_3
        try clear hcz196_0
        try clear hcz196_1
        try clear hcz198_0
        try clear hcz198_1
        try clear hcz200_0
        try clear hcz200_1
        try clear hcz200_2
        try clear hcz200_3
        try clear hcz201_0
        try clear hcz201_1
        try clear hcz202_0
        try clear hcz202_1
        try clear hcz204_0
        try clear hcz204_1
        try clear hcz204_2
        try clear hcz204_3
        try clear hcz205_0
        try clear hcz205_1
        try clear hcz206_0
        try clear hcz206_1
        try clear hcz208_0
        try clear hcz208_1
        try clear hcz208_2
        try clear hcz208_3
        try clear hcz209_0
        try clear hcz209_1
        try clear hcz210_0
        try clear hcz210_1
        try clear hcz215_0
        try clear hcz215_1
        try clear hcz215_2
        try clear hcz215_3
        try clear hcz218_0
        try clear hcz218_1
        try clear hcz220_0
        try clear hcz220_1
        try clear hcz222_0
        try clear hcz222_1
        try clear hcz222_2
        try clear hcz222_3
        try clear hcz223_0
        try clear hcz223_1
        try clear hcz224_0
        try clear hcz224_1
        try clear hcz226_0
        try clear hcz226_1
        try clear hcz226_2
        try clear hcz226_3
        try clear hcz227_0
        try clear hcz227_1
        try clear hcz228_0
        try clear hcz228_1
        try clear hcz233_0
        try clear hcz233_1
        try clear hcz233_2
        try clear hcz233_3
        try clear hcz236_0
        try clear hcz236_1
        try clear hcz238_0
        try clear hcz238_1
        try clear hcz240_0
        try clear hcz240_1
        try clear hcz240_2
        try clear hcz240_3
        try clear hcz241_0
        try clear hcz241_1
        try clear hcz242_0
        try clear hcz242_1
        try clear hcz252_0
        try clear hcz252_1
        try clear hcz252_2
        try clear hcz252_3
        try clear hcz255_0
        try clear hcz255_1
        try clear hcz257_0
        try clear hcz257_1
        try clear hcz257_2
        try clear hcz257_3
        try clear hcz259_0
        try clear hcz259_1
        try clear hcz264_0
        try clear hcz264_1
        try clear hcz264_2
        try clear hcz264_3
        try clear hcz267_0
        try clear hcz267_1
        try clear hcz30_0
        try clear hcz30_1
        try clear hcz30_2
        try clear hcz30_3
        try clear hcz33_0
        try clear hcz33_1
        try clear hcz35_0
        try clear hcz35_1
        try clear hcz37_0
        try clear hcz37_1
        try clear hcz37_2
        try clear hcz37_3
        try clear hcz38_0
        try clear hcz38_1
        try clear hcz39_0
        try clear hcz39_1
        try clear hcz41_0
        try clear hcz41_1
        try clear hcz42_0
        try clear hcz42_1
        try clear hcz51_0
        try clear hcz51_1
        try clear hcz51_2
        try clear hcz51_3
        try clear hcz54_0
        try clear hcz54_1
        try clear hcz56_0
        try clear hcz56_1
        try clear hcz58_0
        try clear hcz58_1
        try clear hcz58_2
        try clear hcz58_3
        try clear hcz59_0
        try clear hcz59_1
        try clear hcz60_0
        try clear hcz60_1
        try clear hcz62_0
        try clear hcz62_1
        try clear hcz63_0
        try clear hcz63_1
        try clear hcz64_0
        try clear hcz64_1
        try clear hcz64_2
        try clear hcz64_3
        try clear hcz66_0
        try clear hcz66_1
        try clear hcz66_2
        try clear hcz66_3
        try clear hcz67_0
        try clear hcz67_1
        try clear hcz68_0
        try clear hcz68_1
        try clear hcz70_0
        try clear hcz70_1
        try clear hcz70_2
        try clear hcz70_3
        try clear hcz71_0
        try clear hcz71_1
        try clear hcz72_0
        try clear hcz72_1
        try clear hcz77_0
        try clear hcz77_1
        try clear hcz77_2
        try clear hcz77_3
        try clear hcz80_0
        try clear hcz80_1
        try clear hcz82_0
        try clear hcz82_1
        try clear hcz84_0
        try clear hcz84_1
        try clear hcz84_2
        try clear hcz84_3
        try clear hcz85_0
        try clear hcz85_1
        try clear hcz86_0
        try clear hcz86_1
        try clear hcz88_0
        try clear hcz88_1
        try clear hcz89_0
        try clear hcz89_1
        try clear hcz90_0
        try clear hcz90_1
        try clear hcz90_2
        try clear hcz90_3
        try clear hcz92_0
        try clear hcz92_1
        try clear hcz92_2
        try clear hcz92_3
        try clear hcz93_0
        try clear hcz93_1
        try clear hcz94_0
        try clear hcz94_1
        try clear hcz99_0
        try clear hcz99_1
        try clear hcz99_2
        try clear hcz99_3
        try clear hfz102_0
        try clear hfz102_1
        try clear hfz104_0
        try clear hfz104_1
        try clear hfz106_0
        try clear hfz106_1
        try clear hfz106_2
        try clear hfz106_3
        try clear hfz107_0
        try clear hfz107_1
        try clear hfz108_0
        try clear hfz108_1
        try clear hfz110_0
        try clear hfz110_1
        try clear hfz111_0
        try clear hfz111_1
        try clear hfz112_0
        try clear hfz112_1
        try clear hfz112_2
        try clear hfz112_3
        try clear hfz122_0
        try clear hfz122_1
        try clear hfz122_2
        try clear hfz122_3
        try clear hfz125_0
        try clear hfz125_1
        try clear hfz127_0
        try clear hfz127_1
        try clear hfz129_0
        try clear hfz129_1
        try clear hfz129_2
        try clear hfz129_3
        try clear hfz130_0
        try clear hfz130_1
        try clear hfz131_0
        try clear hfz131_1
        try clear hfz133_0
        try clear hfz133_1
        try clear hfz133_2
        try clear hfz133_3
        try clear hfz134_0
        try clear hfz134_1
        try clear hfz135_0
        try clear hfz135_1
        try clear hfz137_0
        try clear hfz137_1
        try clear hfz137_2
        try clear hfz137_3
        try clear hfz138_0
        try clear hfz138_1
        try clear hfz139_0
        try clear hfz139_1
        try clear hfz141_0
        try clear hfz141_1
        try clear hfz141_2
        try clear hfz141_3
        try clear hfz142_0
        try clear hfz142_1
        try clear hfz143_0
        try clear hfz143_1
        try clear hfz148_0
        try clear hfz148_1
        try clear hfz148_2
        try clear hfz148_3
        try clear hfz151_0
        try clear hfz151_1
        try clear hfz153_0
        try clear hfz153_1
        try clear hfz155_0
        try clear hfz155_1
        try clear hfz155_2
        try clear hfz155_3
        try clear hfz156_0
        try clear hfz156_1
        try clear hfz157_0
        try clear hfz157_1
        try clear hfz159_0
        try clear hfz159_1
        try clear hfz159_2
        try clear hfz159_3
        try clear hfz160_0
        try clear hfz160_1
        try clear hfz161_0
        try clear hfz161_1
        try clear hfz163_0
        try clear hfz163_1
        try clear hfz163_2
        try clear hfz163_3
        try clear hfz164_0
        try clear hfz164_1
        try clear hfz165_0
        try clear hfz165_1
        try clear hfz170_0
        try clear hfz170_1
        try clear hfz170_2
        try clear hfz170_3
        try clear hfz173_0
        try clear hfz173_1
        try clear hfz175_0
        try clear hfz175_1
        try clear hfz177_0
        try clear hfz177_1
        try clear hfz177_2
        try clear hfz177_3
        try clear hfz178_0
        try clear hfz178_1
        try clear hfz179_0
        try clear hfz179_1
        try clear hfz181_0
        try clear hfz181_1
        try clear hfz181_2
        try clear hfz181_3
        try clear hfz182_0
        try clear hfz182_1
        try clear hfz183_0
        try clear hfz183_1
        try clear hfz193_0
        try clear hfz193_1
        try clear hfz193_2
        try clear hfz193_3
        try clear hfz196_0
        try clear hfz196_1
        try clear hfz198_0
        try clear hfz198_1
        try clear hfz200_0
        try clear hfz200_1
        try clear hfz200_2
        try clear hfz200_3
        try clear hfz201_0
        try clear hfz201_1
        try clear hfz202_0
        try clear hfz202_1
        try clear hfz204_0
        try clear hfz204_1
        try clear hfz204_2
        try clear hfz204_3
        try clear hfz205_0
        try clear hfz205_1
        try clear hfz206_0
        try clear hfz206_1
        try clear hfz208_0
        try clear hfz208_1
        try clear hfz208_2
        try clear hfz208_3
        try clear hfz209_0
        try clear hfz209_1
        try clear hfz210_0
        try clear hfz210_1
        try clear hfz215_0
        try clear hfz215_1
        try clear hfz215_2
        try clear hfz215_3
        try clear hfz218_0
        try clear hfz218_1
        try clear hfz220_0
        try clear hfz220_1
        try clear hfz222_0
        try clear hfz222_1
        try clear hfz222_2
        try clear hfz222_3
        try clear hfz223_0
        try clear hfz223_1
        try clear hfz224_0
        try clear hfz224_1
        try clear hfz226_0
        try clear hfz226_1
        try clear hfz226_2
        try clear hfz226_3
        try clear hfz227_0
        try clear hfz227_1
        try clear hfz228_0
        try clear hfz228_1
        try clear hfz233_0
        try clear hfz233_1
        try clear hfz233_2
        try clear hfz233_3
        try clear hfz236_0
        try clear hfz236_1
        try clear hfz238_0
        try clear hfz238_1
        try clear hfz240_0
        try clear hfz240_1
        try clear hfz240_2
        try clear hfz240_3
        try clear hfz241_0
        try clear hfz241_1
        try clear hfz242_0
        try clear hfz242_1
        try clear hfz252_0
        try clear hfz252_1
        try clear hfz252_2
        try clear hfz252_3
        try clear hfz255_0
        try clear hfz255_1
        try clear hfz257_0
        try clear hfz257_1
        try clear hfz257_2
        try clear hfz257_3
        try clear hfz259_0
        try clear hfz259_1
        try clear hfz264_0
        try clear hfz264_1
        try clear hfz264_2
        try clear hfz264_3
        try clear hfz267_0
        try clear hfz267_1
        try clear hfz30_0
        try clear hfz30_1
        try clear hfz30_2
        try clear hfz30_3
        try clear hfz33_0
        try clear hfz33_1
        try clear hfz35_0
        try clear hfz35_1
        try clear hfz37_0
        try clear hfz37_1
        try clear hfz37_2
        try clear hfz37_3
        try clear hfz38_0
        try clear hfz38_1
        try clear hfz39_0
        try clear hfz39_1
        try clear hfz41_0
        try clear hfz41_1
        try clear hfz42_0
        try clear hfz42_1
        try clear hfz51_0
        try clear hfz51_1
        try clear hfz51_2
        try clear hfz51_3
        try clear hfz54_0
        try clear hfz54_1
        try clear hfz56_0
        try clear hfz56_1
        try clear hfz58_0
        try clear hfz58_1
        try clear hfz58_2
        try clear hfz58_3
        try clear hfz59_0
        try clear hfz59_1
        try clear hfz60_0
        try clear hfz60_1
        try clear hfz62_0
        try clear hfz62_1
        try clear hfz63_0
        try clear hfz63_1
        try clear hfz64_0
        try clear hfz64_1
        try clear hfz64_2
        try clear hfz64_3
        try clear hfz66_0
        try clear hfz66_1
        try clear hfz66_2
        try clear hfz66_3
        try clear hfz67_0
        try clear hfz67_1
        try clear hfz68_0
        try clear hfz68_1
        try clear hfz70_0
        try clear hfz70_1
        try clear hfz70_2
        try clear hfz70_3
        try clear hfz71_0
        try clear hfz71_1
        try clear hfz72_0
        try clear hfz72_1
        try clear hfz77_0
        try clear hfz77_1
        try clear hfz77_2
        try clear hfz77_3
        try clear hfz80_0
        try clear hfz80_1
        try clear hfz82_0
        try clear hfz82_1
        try clear hfz84_0
        try clear hfz84_1
        try clear hfz84_2
        try clear hfz84_3
        try clear hfz85_0
        try clear hfz85_1
        try clear hfz86_0
        try clear hfz86_1
        try clear hfz88_0
        try clear hfz88_1
        try clear hfz89_0
        try clear hfz89_1
        try clear hfz90_0
        try clear hfz90_1
        try clear hfz90_2
        try clear hfz90_3
        try clear hfz92_0
        try clear hfz92_1
        try clear hfz92_2
        try clear hfz92_3
        try clear hfz93_0
        try clear hfz93_1
        try clear hfz94_0
        try clear hfz94_1
        try clear hfz99_0
        try clear hfz99_1
        try clear hfz99_2
        try clear hfz99_3
        try clear p2
        obtain ⟨kq, x65_244, rfl, HA, HJ244, BK311, BK312, BK313, BK314, HB⟩ := hcut
        cases kq with
        | zero => exact absurd HA.out (by simp [clusterlockslaw04_AmountLattice.j2])
        | succ kj244 =>
         have H := HA.out
         clear HA
         simp only [clusterlockslaw04_AmountLattice.j2] at H
         by_cases c269 : x65_244 = true
         ·subst c269
          have H1 : ((amount_Join.f kj244 a0_0 a0_1 a0_2 a0_3 a1_0 a1_1 a2_0 a2_1).bind fun bt331 => ((amount_Zero.f bt331.1 bt331.2).bind fun t333 => (some t333))) = some r := by rw [if_pos rfl] at H; exact H
          clear H
          have H := H1
          clear H1
          replace H := Option.bind_eq_some_iff.mp H
          obtain ⟨⟨t331, t332⟩, A2700, H⟩ := H
          replace H : ((amount_Zero.f t331 t332).bind fun t333 => (some t333)) = some r := H
          have A270 := Aside0.mk A2700
          clear A2700
          replace H := Option.bind_eq_some_iff.mp H
          obtain ⟨t333, A2710, H⟩ := H
          replace H : (some t333) = some r := H
          have A271 := Aside0.mk A2710
          clear A2710
          obtain rfl := Option.some.inj H
          have hnb272 := NB311_312.out
          have hnc272 := NB312_311.out
          have hnb273 := NB311_313.out
          have hnc273 := NB313_311.out
          have hnb274 := NB311_314.out
          have hnc274 := NB314_311.out
          have hcz275_0 : wc.cell? ⟨gb311, 0, none⟩ = some (.string a0_0) := (blk_cell BK311.out 0).trans rfl
          have hcz275_1 : wc.cell? ⟨gb311, 1, none⟩ = some (.int .i64 a0_1) := (blk_cell BK311.out 1).trans rfl
          have hcz275_2 : wc.cell? ⟨gb311, 2, none⟩ = some (.int .i64 a0_2) := (blk_cell BK311.out 2).trans rfl
          have hcz275_3 : wc.cell? ⟨gb311, 3, none⟩ = some (.int .i64 a0_3) := (blk_cell BK311.out 3).trans rfl
          have hfz275_0 := blk_frozen BK311.out 0
          have hfz275_1 := blk_frozen BK311.out 1
          have hfz275_2 := blk_frozen BK311.out 2
          have hfz275_3 := blk_frozen BK311.out 3
          have hnb276 := NB312_313.out
          have hnc276 := NB313_312.out
          have hnb277 := NB312_314.out
          have hnc277 := NB314_312.out
          have hcz278_0 : wc.cell? ⟨gb312, 0, none⟩ = some (.int .i64 a1_0) := (blk_cell BK312.out 0).trans rfl
          have hcz278_1 : wc.cell? ⟨gb312, 1, none⟩ = some (.int .i64 a1_1) := (blk_cell BK312.out 1).trans rfl
          have hfz278_0 := blk_frozen BK312.out 0
          have hfz278_1 := blk_frozen BK312.out 1
          have hnb279 := NB313_314.out
          have hnc279 := NB314_313.out
          have hcz280_0 : wc.cell? ⟨gb313, 0, none⟩ = some (.int .i64 a2_0) := (blk_cell BK313.out 0).trans rfl
          have hcz280_1 : wc.cell? ⟨gb313, 1, none⟩ = some (.int .i64 a2_1) := (blk_cell BK313.out 1).trans rfl
          have hfz280_0 := blk_frozen BK313.out 0
          have hfz280_1 := blk_frozen BK313.out 1
          go_wp2_with (first | ((with_reducible refine gate_callee (f := 22) rfl ?_); refine goesL_ (some 69) rfl rfl Tryd.func22 (by kernel_rfl) rfl #[.agg #[.string a0_0, .int .i64 a0_1, .int .i64 a0_2, .int .i64 a0_3], .agg #[.int .i64 a1_0, .int .i64 a1_1], .agg #[.int .i64 a2_0, .int .i64 a2_1]] rfl (by (try simp only [List.map_toArray, List.map_cons, List.map_nil]); first | done | rfl | (simp only [List.length_drop, List.length_take]; rfl)) ?_; (with_reducible refine (amount_Join.calls kj244 a0_0 a0_1 a0_2 a0_3 a1_0 a1_1 a2_0 a2_1 t331 t332 _ A270.out).mono ?_); rintro e w281 ⟨rfl, hb⟩; refine ⟨_, rfl, ?_⟩; have n0_ := blkB BK311 (by (with_reducible repeat first | refine bN ?_ _ | refine bD ?_ | refine bA ?_ _); exact BK311.out) hb; have n1_ := blkB BK312 (by (with_reducible repeat first | refine bN ?_ _ | refine bD ?_ | refine bA ?_ _); exact BK312.out) hb; have n2_ := blkB BK313 (by (with_reducible repeat first | refine bN ?_ _ | refine bD ?_ | refine bA ?_ _); exact BK313.out) hb; have n3_ := blkB BK314 (by (with_reducible repeat first | refine bN ?_ _ | refine bD ?_ | refine bA ?_ _); exact BK314.out) hb; have n4_ := Aside0.mk (below_step (by repeat (first | (with_reducible first | exact HB.out | apply below_alloc | apply pw_below_drewN | apply below_drew1) | exact HB.out)) hb); clear BK311 BK312 BK313 BK314 HB; have BK311 := n0_; have BK312 := n1_; have BK313 := n2_; have BK314 := n3_; have HB := n4_; clear n0_ n1_ n2_ n3_ n4_; (try clear hb)) | ((with_reducible refine gate_callee (f := 15) rfl ?_); refine goesL_ (some 70) rfl rfl Tryd.func15 (by kernel_rfl) rfl #[.agg #[.int .i64 t331, .int .i64 t332]] rfl (by (try simp only [List.map_toArray, List.map_cons, List.map_nil]); first | done | rfl | (simp only [List.length_drop, List.length_take]; rfl)) ?_; (with_reducible refine (amount_Zero.calls t331 t332 t333 _ A271.out).mono ?_); rintro e w282 ⟨rfl, hb⟩; refine ⟨_, rfl, ?_⟩; have n0_ := blkB BK311 (by (with_reducible repeat first | refine bN ?_ _ | refine bD ?_ | refine bA ?_ _); exact BK311.out) hb; have n1_ := blkB BK312 (by (with_reducible repeat first | refine bN ?_ _ | refine bD ?_ | refine bA ?_ _); exact BK312.out) hb; have n2_ := blkB BK313 (by (with_reducible repeat first | refine bN ?_ _ | refine bD ?_ | refine bA ?_ _); exact BK313.out) hb; have n3_ := blkB BK314 (by (with_reducible repeat first | refine bN ?_ _ | refine bD ?_ | refine bA ?_ _); exact BK314.out) hb; have n4_ := Aside0.mk (below_step (by repeat (first | (with_reducible first | exact HB.out | apply below_alloc | apply pw_below_drewN | apply below_drew1) | exact HB.out)) hb); clear BK311 BK312 BK313 BK314 HB; have BK311 := n0_; have BK312 := n1_; have BK313 := n2_; have BK314 := n3_; have HB := n4_; clear n0_ n1_ n2_ n3_ n4_; (try clear hb)))
          go_ret
          exact ⟨by first | rfl | (simp [errW_none, errW_some] <;> rfl) | (simp [*, errW_none, errW_some] <;> rfl), by repeat (first | (with_reducible first | exact HB.out | apply below_alloc | apply pw_below_drewN | apply below_drew1) | exact HB.out)⟩
         ·replace c269 := Bool.eq_false_iff.mpr c269
          subst c269
          have H1 : ((amount_Join.f kj244 a0_0 a0_1 a0_2 a0_3 a1_0 a1_1 a2_0 a2_1).bind fun bt334 => ((amount_Covers.f kj244 a0_0 a0_1 a0_2 a0_3 bt334.1 bt334.2 a1_0 a1_1).bind fun t337 => (if t337 = true then ((amount_Covers.f kj244 a0_0 a0_1 a0_2 a0_3 bt334.1 bt334.2 a2_0 a2_1).bind fun t338 => (if t338 = true then ((amount_Covers.f kj244 a0_0 a0_1 a0_2 a0_3 a3_0 a3_1 a1_0 a1_1).bind fun t339 => (if t339 = true then ((amount_Covers.f kj244 a0_0 a0_1 a0_2 a0_3 a3_0 a3_1 a2_0 a2_1).bind fun t340 => (if t340 = true then ((amount_Covers.f kj244 a0_0 a0_1 a0_2 a0_3 a3_0 a3_1 bt334.1 bt334.2).bind fun t341 => (some t341)) else (some true))) else (some true))) else (some false))) else (some false)))) = some r := by rw [if_neg (show ¬ (false = true) by decide)] at H; exact H
          clear H
          have H := H1
          clear H1
          replace H := Option.bind_eq_some_iff.mp H
          obtain ⟨⟨t334, t335⟩, A2830, H⟩ := H
          replace H : ((amount_Covers.f kj244 a0_0 a0_1 a0_2 a0_3 t334 t335 a1_0 a1_1).bind fun t337 => (if t337 = true then ((amount_Covers.f kj244 a0_0 a0_1 a0_2 a0_3 t334 t335 a2_0 a2_1).bind fun t338 => (if t338 = true then ((amount_Covers.f kj244 a0_0 a0_1 a0_2 a0_3 a3_0 a3_1 a1_0 a1_1).bind fun t339 => (if t339 = true then ((amount_Covers.f kj244 a0_0 a0_1 a0_2 a0_3 a3_0 a3_1 a2_0 a2_1).bind fun t340 => (if t340 = true then ((amount_Covers.f kj244 a0_0 a0_1 a0_2 a0_3 a3_0 a3_1 t334 t335).bind fun t341 => (some t341)) else (some true))) else (some true))) else (some false))) else (some false))) = some r := H
          have A283 := Aside0.mk A2830
          clear A2830
          replace H := Option.bind_eq_some_iff.mp H
          obtain ⟨t337, A2840, H⟩ := H
          replace H : (if t337 = true then ((amount_Covers.f kj244 a0_0 a0_1 a0_2 a0_3 t334 t335 a2_0 a2_1).bind fun t338 => (if t338 = true then ((amount_Covers.f kj244 a0_0 a0_1 a0_2 a0_3 a3_0 a3_1 a1_0 a1_1).bind fun t339 => (if t339 = true then ((amount_Covers.f kj244 a0_0 a0_1 a0_2 a0_3 a3_0 a3_1 a2_0 a2_1).bind fun t340 => (if t340 = true then ((amount_Covers.f kj244 a0_0 a0_1 a0_2 a0_3 a3_0 a3_1 t334 t335).bind fun t341 => (some t341)) else (some true))) else (some true))) else (some false))) else (some false)) = some r := H
          have A284 := Aside0.mk A2840
          clear A2840
          by_cases c285 : t337 = true
          ·subst c285
           have H1 : ((amount_Covers.f kj244 a0_0 a0_1 a0_2 a0_3 t334 t335 a2_0 a2_1).bind fun t338 => (if t338 = true then ((amount_Covers.f kj244 a0_0 a0_1 a0_2 a0_3 a3_0 a3_1 a1_0 a1_1).bind fun t339 => (if t339 = true then ((amount_Covers.f kj244 a0_0 a0_1 a0_2 a0_3 a3_0 a3_1 a2_0 a2_1).bind fun t340 => (if t340 = true then ((amount_Covers.f kj244 a0_0 a0_1 a0_2 a0_3 a3_0 a3_1 t334 t335).bind fun t341 => (some t341)) else (some true))) else (some true))) else (some false))) = some r := by rw [if_pos rfl] at H; exact H
           clear H
           have H := H1
           clear H1
           replace H := Option.bind_eq_some_iff.mp H
           obtain ⟨t338, A2860, H⟩ := H
           replace H : (if t338 = true then ((amount_Covers.f kj244 a0_0 a0_1 a0_2 a0_3 a3_0 a3_1 a1_0 a1_1).bind fun t339 => (if t339 = true then ((amount_Covers.f kj244 a0_0 a0_1 a0_2 a0_3 a3_0 a3_1 a2_0 a2_1).bind fun t340 => (if t340 = true then ((amount_Covers.f kj244 a0_0 a0_1 a0_2 a0_3 a3_0 a3_1 t334 t335).bind fun t341 => (some t341)) else (some true))) else (some true))) else (some false)) = some r := H
           have A286 := Aside0.mk A2860
           clear A2860
           by_cases c287 : t338 = true
           ·subst c287
            have H1 : ((amount_Covers.f kj244 a0_0 a0_1 a0_2 a0_3 a3_0 a3_1 a1_0 a1_1).bind fun t339 => (if t339 = true then ((amount_Covers.f kj244 a0_0 a0_1 a0_2 a0_3 a3_0 a3_1 a2_0 a2_1).bind fun t340 => (if t340 = true then ((amount_Covers.f kj244 a0_0 a0_1 a0_2 a0_3 a3_0 a3_1 t334 t335).bind fun t341 => (some t341)) else (some true))) else (some true))) = some r := by rw [if_pos rfl] at H; exact H
            clear H
            have H := H1
            clear H1
            replace H := Option.bind_eq_some_iff.mp H
            obtain ⟨t339, A2880, H⟩ := H
            replace H : (if t339 = true then ((amount_Covers.f kj244 a0_0 a0_1 a0_2 a0_3 a3_0 a3_1 a2_0 a2_1).bind fun t340 => (if t340 = true then ((amount_Covers.f kj244 a0_0 a0_1 a0_2 a0_3 a3_0 a3_1 t334 t335).bind fun t341 => (some t341)) else (some true))) else (some true)) = some r := H
            have A288 := Aside0.mk A2880
            clear A2880
            by_cases c289 : t339 = true
            ·subst c289
             have H1 : ((amount_Covers.f kj244 a0_0 a0_1 a0_2 a0_3 a3_0 a3_1 a2_0 a2_1).bind fun t340 => (if t340 = true then ((amount_Covers.f kj244 a0_0 a0_1 a0_2 a0_3 a3_0 a3_1 t334 t335).bind fun t341 => (some t341)) else (some true))) = some r := by rw [if_pos rfl] at H; exact H
             clear H
             have H := H1
             clear H1
             replace H := Option.bind_eq_some_iff.mp H
             obtain ⟨t340, A2900, H⟩ := H
             replace H : (if t340 = true then ((amount_Covers.f kj244 a0_0 a0_1 a0_2 a0_3 a3_0 a3_1 t334 t335).bind fun t341 => (some t341)) else (some true)) = some r := H
             have A290 := Aside0.mk A2900
             clear A2900
             by_cases c291 : t340 = true
             ·subst c291
              have H1 : ((amount_Covers.f kj244 a0_0 a0_1 a0_2 a0_3 a3_0 a3_1 t334 t335).bind fun t341 => (some t341)) = some r := by rw [if_pos rfl] at H; exact H
              clear H
              have H := H1
              clear H1
              replace H := Option.bind_eq_some_iff.mp H
              obtain ⟨t341, A2920, H⟩ := H
              replace H : (some t341) = some r := H
              have A292 := Aside0.mk A2920
              clear A2920
              obtain rfl := Option.some.inj H
              have hnb293 := NB311_312.out
              have hnc293 := NB312_311.out
              have hnb294 := NB311_313.out
              have hnc294 := NB313_311.out
              have hnb295 := NB311_314.out
              have hnc295 := NB314_311.out
              have hcz296_0 : wc.cell? ⟨gb311, 0, none⟩ = some (.string a0_0) := (blk_cell BK311.out 0).trans rfl
              have hcz296_1 : wc.cell? ⟨gb311, 1, none⟩ = some (.int .i64 a0_1) := (blk_cell BK311.out 1).trans rfl
              have hcz296_2 : wc.cell? ⟨gb311, 2, none⟩ = some (.int .i64 a0_2) := (blk_cell BK311.out 2).trans rfl
              have hcz296_3 : wc.cell? ⟨gb311, 3, none⟩ = some (.int .i64 a0_3) := (blk_cell BK311.out 3).trans rfl
              have hfz296_0 := blk_frozen BK311.out 0
              have hfz296_1 := blk_frozen BK311.out 1
              have hfz296_2 := blk_frozen BK311.out 2
              have hfz296_3 := blk_frozen BK311.out 3
              have hnb297 := NB312_313.out
              have hnc297 := NB313_312.out
              have hnb298 := NB312_314.out
              have hnc298 := NB314_312.out
              have hcz299_0 : wc.cell? ⟨gb312, 0, none⟩ = some (.int .i64 a1_0) := (blk_cell BK312.out 0).trans rfl
              have hcz299_1 : wc.cell? ⟨gb312, 1, none⟩ = some (.int .i64 a1_1) := (blk_cell BK312.out 1).trans rfl
              have hfz299_0 := blk_frozen BK312.out 0
              have hfz299_1 := blk_frozen BK312.out 1
              have hnb300 := NB313_314.out
              have hnc300 := NB314_313.out
              have hcz301_0 : wc.cell? ⟨gb313, 0, none⟩ = some (.int .i64 a2_0) := (blk_cell BK313.out 0).trans rfl
              have hcz301_1 : wc.cell? ⟨gb313, 1, none⟩ = some (.int .i64 a2_1) := (blk_cell BK313.out 1).trans rfl
              have hfz301_0 := blk_frozen BK313.out 0
              have hfz301_1 := blk_frozen BK313.out 1
              go_wp2_with (first | ((with_reducible refine gate_callee (f := 22) rfl ?_); refine goesL_ (some 74) rfl rfl Tryd.func22 (by kernel_rfl) rfl #[.agg #[.string a0_0, .int .i64 a0_1, .int .i64 a0_2, .int .i64 a0_3], .agg #[.int .i64 a1_0, .int .i64 a1_1], .agg #[.int .i64 a2_0, .int .i64 a2_1]] rfl (by (try simp only [List.map_toArray, List.map_cons, List.map_nil]); first | done | rfl | (simp only [List.length_drop, List.length_take]; rfl)) ?_; (with_reducible refine (amount_Join.calls kj244 a0_0 a0_1 a0_2 a0_3 a1_0 a1_1 a2_0 a2_1 t334 t335 _ A283.out).mono ?_); rintro e w302 ⟨rfl, hb⟩; refine ⟨_, rfl, ?_⟩; have n0_ := blkB BK311 (by (with_reducible repeat first | refine bN ?_ _ | refine bD ?_ | refine bA ?_ _); exact BK311.out) hb; have n1_ := blkB BK312 (by (with_reducible repeat first | refine bN ?_ _ | refine bD ?_ | refine bA ?_ _); exact BK312.out) hb; have n2_ := blkB BK313 (by (with_reducible repeat first | refine bN ?_ _ | refine bD ?_ | refine bA ?_ _); exact BK313.out) hb; have n3_ := blkB BK314 (by (with_reducible repeat first | refine bN ?_ _ | refine bD ?_ | refine bA ?_ _); exact BK314.out) hb; have n4_ := Aside0.mk (below_step (by repeat (first | (with_reducible first | exact HB.out | apply below_alloc | apply pw_below_drewN | apply below_drew1) | exact HB.out)) hb); clear BK311 BK312 BK313 BK314 HB; have BK311 := n0_; have BK312 := n1_; have BK313 := n2_; have BK314 := n3_; have HB := n4_; clear n0_ n1_ n2_ n3_ n4_; (try clear hb)) | ((with_reducible refine gate_dst (N := 9) rfl ?_); refine box_event ?hg (N := 9) ?hd (cs := #[.int .i64 0, .int .i64 0]) (t := 25) ?hr ?_; (case hd => rfl); (case hg => rfl); (case hr => first | (go_simp; done) | (go_simp; rfl)); intro gb336 hg w303 hbox hb; have n0_ := blkB BK311 (by (with_reducible repeat first | refine bN ?_ _ | refine bD ?_ | refine bA ?_ _); exact BK311.out) hb; have n1_ := blkB BK312 (by (with_reducible repeat first | refine bN ?_ _ | refine bD ?_ | refine bA ?_ _); exact BK312.out) hb; have n2_ := blkB BK313 (by (with_reducible repeat first | refine bN ?_ _ | refine bD ?_ | refine bA ?_ _); exact BK313.out) hb; have n3_ := blkB BK314 (by (with_reducible repeat first | refine bN ?_ _ | refine bD ?_ | refine bA ?_ _); exact BK314.out) hb; have n4_ := Aside0.mk (below_step (by repeat (first | (with_reducible first | exact HB.out | apply below_alloc | apply pw_below_drewN | apply below_drew1) | exact HB.out)) hb); have n5_ := Aside0.mk (hbox); have n6_ := Aside0.mk ((by rw [hg]; exact (below_size (by repeat (first | (with_reducible first | exact HB.out | apply below_alloc | apply pw_below_drewN | apply below_drew1) | exact HB.out))) : w.heap.size ≤ gb336)); have n7_ := n6_; have n8_ := Aside0.mk ((by rw [hg]; exact Nat.ne_of_lt (blkLt BK311 (by (with_reducible repeat first | refine bN ?_ _ | refine bD ?_ | refine bA ?_ _); exact BK311.out)) : gb311 ≠ gb336)); have n9_ := Aside0.mk n8_.out.symm; have n10_ := Aside0.mk ((by rw [hg]; exact Nat.ne_of_lt (blkLt BK312 (by (with_reducible repeat first | refine bN ?_ _ | refine bD ?_ | refine bA ?_ _); exact BK312.out)) : gb312 ≠ gb336)); have n11_ := Aside0.mk n10_.out.symm; have n12_ := Aside0.mk ((by rw [hg]; exact Nat.ne_of_lt (blkLt BK313 (by (with_reducible repeat first | refine bN ?_ _ | refine bD ?_ | refine bA ?_ _); exact BK313.out)) : gb313 ≠ gb336)); have n13_ := Aside0.mk n12_.out.symm; have n14_ := Aside0.mk ((by rw [hg]; exact Nat.ne_of_lt (blkLt BK314 (by (with_reducible repeat first | refine bN ?_ _ | refine bD ?_ | refine bA ?_ _); exact BK314.out)) : gb314 ≠ gb336)); have n15_ := Aside0.mk n14_.out.symm; clear BK311 BK312 BK313 BK314 HB; have BK311 := n0_; have BK312 := n1_; have BK313 := n2_; have BK314 := n3_; have HB := n4_; have BK336 := n5_; have GW336 := n6_; have GE336 := n7_; have NB311_336 := n8_; have NB336_311 := n9_; have NB312_336 := n10_; have NB336_312 := n11_; have NB313_336 := n12_; have NB336_313 := n13_; have NB314_336 := n14_; have NB336_314 := n15_; clear n0_ n1_ n2_ n3_ n4_ n5_ n6_ n7_ n8_ n9_ n10_ n11_ n12_ n13_ n14_ n15_; clear hb hbox hg; have hnb304 := NB336_311.out; have hnc304 := NB311_336.out; have hnb305 := NB336_312.out; have hnc305 := NB312_336.out; have hnb306 := NB336_313.out; have hnc306 := NB313_336.out; have hnb307 := NB336_314.out; have hnc307 := NB314_336.out; have hcz308_0 : w303.cell? ⟨gb336, 0, none⟩ = some (.int .i64 0) := (blk_cell BK336.out 0).trans rfl; have hcz308_1 : w303.cell? ⟨gb336, 1, none⟩ = some (.int .i64 0) := (blk_cell BK336.out 1).trans rfl; have hfz308_0 := blk_frozen BK336.out 0; have hfz308_1 := blk_frozen BK336.out 1; have hcz309_0 : w303.cell? ⟨gb311, 0, none⟩ = some (.string a0_0) := (blk_cell BK311.out 0).trans rfl; have hcz309_1 : w303.cell? ⟨gb311, 1, none⟩ = some (.int .i64 a0_1) := (blk_cell BK311.out 1).trans rfl; have hcz309_2 : w303.cell? ⟨gb311, 2, none⟩ = some (.int .i64 a0_2) := (blk_cell BK311.out 2).trans rfl; have hcz309_3 : w303.cell? ⟨gb311, 3, none⟩ = some (.int .i64 a0_3) := (blk_cell BK311.out 3).trans rfl; have hfz309_0 := blk_frozen BK311.out 0; have hfz309_1 := blk_frozen BK311.out 1; have hfz309_2 := blk_frozen BK311.out 2; have hfz309_3 := blk_frozen BK311.out 3; have hcz310_0 : w303.cell? ⟨gb312, 0, none⟩ = some (.int .i64 a1_0) := (blk_cell BK312.out 0).trans rfl; have hcz310_1 : w303.cell? ⟨gb312, 1, none⟩ = some (.int .i64 a1_1) := (blk_cell BK312.out 1).trans rfl; have hfz310_0 := blk_frozen BK312.out 0; have hfz310_1 := blk_frozen BK312.out 1) | ((with_reducible refine gate_callee (f := 26) rfl ?_); refine goesL_ (some 78) rfl rfl Tryd.func26 (by kernel_rfl) rfl #[.agg #[.string a0_0, .int .i64 a0_1, .int .i64 a0_2, .int .i64 a0_3], .agg #[.int .i64 t334, .int .i64 t335], .agg #[.int .i64 a1_0, .int .i64 a1_1]] rfl (by (try simp only [List.map_toArray, List.map_cons, List.map_nil]); first | done | rfl | (simp only [List.length_drop, List.length_take]; rfl)) ?_; (with_reducible refine (amount_Covers.calls kj244 a0_0 a0_1 a0_2 a0_3 t334 t335 a1_0 a1_1 true _ A284.out).mono ?_); rintro e w311 ⟨rfl, hb⟩; refine ⟨_, rfl, ?_⟩; have n0_ := Aside0.mk (blk_below (g := gb311) (o := .cells #[.string a0_0, .int .i64 a0_1, .int .i64 a0_2, .int .i64 a0_3] 23 (0, 0)) (by (with_reducible repeat first | refine bN ?_ _ | refine bD ?_ | refine bA ?_ _); refine blk_far ?_ NB311_336.out _; (with_reducible repeat first | refine bN ?_ _ | refine bD ?_ | refine bA ?_ _); refine blk_far ?_ NB311_336.out _; (with_reducible repeat first | refine bN ?_ _ | refine bD ?_ | refine bA ?_ _); exact BK311.out) hb); have n1_ := Aside0.mk (blk_below (g := gb312) (o := .cells #[.int .i64 a1_0, .int .i64 a1_1] 25 (0, 0)) (by (with_reducible repeat first | refine bN ?_ _ | refine bD ?_ | refine bA ?_ _); refine blk_far ?_ NB312_336.out _; (with_reducible repeat first | refine bN ?_ _ | refine bD ?_ | refine bA ?_ _); refine blk_far ?_ NB312_336.out _; (with_reducible repeat first | refine bN ?_ _ | refine bD ?_ | refine bA ?_ _); exact BK312.out) hb); have n2_ := Aside0.mk (blk_below (g := gb313) (o := .cells #[.int .i64 a2_0, .int .i64 a2_1] 25 (0, 0)) (by (with_reducible repeat first | refine bN ?_ _ | refine bD ?_ | refine bA ?_ _); refine blk_far ?_ NB313_336.out _; (with_reducible repeat first | refine bN ?_ _ | refine bD ?_ | refine bA ?_ _); refine blk_far ?_ NB313_336.out _; (with_reducible repeat first | refine bN ?_ _ | refine bD ?_ | refine bA ?_ _); exact BK313.out) hb); have n3_ := Aside0.mk (blk_below (g := gb314) (o := .cells #[.int .i64 a3_0, .int .i64 a3_1] 25 (0, 0)) (by (with_reducible repeat first | refine bN ?_ _ | refine bD ?_ | refine bA ?_ _); refine blk_far ?_ NB314_336.out _; (with_reducible repeat first | refine bN ?_ _ | refine bD ?_ | refine bA ?_ _); refine blk_far ?_ NB314_336.out _; (with_reducible repeat first | refine bN ?_ _ | refine bD ?_ | refine bA ?_ _); exact BK314.out) hb); have n4_ := Aside0.mk (blk_below (g := gb336) (o := .cells #[.int .i64 t334, .int .i64 t335] 25 (0, 0)) (by (with_reducible repeat first | refine bN ?_ _ | refine bD ?_ | refine bA ?_ _); refine blk_put (cs := #[.int .i64 t334, .int .i64 0]) ?_ 1 _ rfl; (with_reducible repeat first | refine bN ?_ _ | refine bD ?_ | refine bA ?_ _); refine blk_put (cs := #[.int .i64 0, .int .i64 0]) ?_ 0 _ rfl; (with_reducible repeat first | refine bN ?_ _ | refine bD ?_ | refine bA ?_ _); exact BK336.out) hb); have n5_ := Aside0.mk (below_step (by repeat (first | (with_reducible first | exact HB.out | apply below_alloc | apply pw_below_drewN | apply below_drew1 | refine below_set ?_ GE336.out) | exact HB.out)) hb); clear BK311 BK312 BK313 BK314 BK336 HB; have BK311 := n0_; have BK312 := n1_; have BK313 := n2_; have BK314 := n3_; have BK336 := n4_; have HB := n5_; clear n0_ n1_ n2_ n3_ n4_ n5_; (try clear hb); have hcz312_0 : w311.cell? ⟨gb311, 0, none⟩ = some (.string a0_0) := (blk_cell BK311.out 0).trans rfl; have hcz312_1 : w311.cell? ⟨gb311, 1, none⟩ = some (.int .i64 a0_1) := (blk_cell BK311.out 1).trans rfl; have hcz312_2 : w311.cell? ⟨gb311, 2, none⟩ = some (.int .i64 a0_2) := (blk_cell BK311.out 2).trans rfl; have hcz312_3 : w311.cell? ⟨gb311, 3, none⟩ = some (.int .i64 a0_3) := (blk_cell BK311.out 3).trans rfl; have hfz312_0 := blk_frozen BK311.out 0; have hfz312_1 := blk_frozen BK311.out 1; have hfz312_2 := blk_frozen BK311.out 2; have hfz312_3 := blk_frozen BK311.out 3; have hcz313_0 : w311.cell? ⟨gb336, 0, none⟩ = some (.int .i64 t334) := (blk_cell BK336.out 0).trans rfl; have hcz313_1 : w311.cell? ⟨gb336, 1, none⟩ = some (.int .i64 t335) := (blk_cell BK336.out 1).trans rfl; have hfz313_0 := blk_frozen BK336.out 0; have hfz313_1 := blk_frozen BK336.out 1; have hcz314_0 : w311.cell? ⟨gb313, 0, none⟩ = some (.int .i64 a2_0) := (blk_cell BK313.out 0).trans rfl; have hcz314_1 : w311.cell? ⟨gb313, 1, none⟩ = some (.int .i64 a2_1) := (blk_cell BK313.out 1).trans rfl; have hfz314_0 := blk_frozen BK313.out 0; have hfz314_1 := blk_frozen BK313.out 1) | (go_at_call 26; (with_reducible refine (amount_Covers.calls kj244 a0_0 a0_1 a0_2 a0_3 t334 t335 a2_0 a2_1 true _ A286.out).mono ?_); rintro e w315 ⟨rfl, hb⟩; have n0_ := blkB BK311 (by (with_reducible repeat first | refine bN ?_ _ | refine bD ?_ | refine bA ?_ _); exact BK311.out) hb; have n1_ := blkB BK312 (by (with_reducible repeat first | refine bN ?_ _ | refine bD ?_ | refine bA ?_ _); exact BK312.out) hb; have n2_ := blkB BK313 (by (with_reducible repeat first | refine bN ?_ _ | refine bD ?_ | refine bA ?_ _); exact BK313.out) hb; have n3_ := blkB BK314 (by (with_reducible repeat first | refine bN ?_ _ | refine bD ?_ | refine bA ?_ _); exact BK314.out) hb; have n4_ := blkB BK336 (by (with_reducible repeat first | refine bN ?_ _ | refine bD ?_ | refine bA ?_ _); exact BK336.out) hb; have n5_ := Aside0.mk (below_step (by repeat (first | (with_reducible first | exact HB.out | apply below_alloc | apply pw_below_drewN | apply below_drew1 | refine below_set ?_ GE336.out) | exact HB.out)) hb); clear BK311 BK312 BK313 BK314 BK336 HB; have BK311 := n0_; have BK312 := n1_; have BK313 := n2_; have BK314 := n3_; have BK336 := n4_; have HB := n5_; clear n0_ n1_ n2_ n3_ n4_ n5_; (try clear hb); have hcz316_0 : w315.cell? ⟨gb311, 0, none⟩ = some (.string a0_0) := (blk_cell BK311.out 0).trans rfl; have hcz316_1 : w315.cell? ⟨gb311, 1, none⟩ = some (.int .i64 a0_1) := (blk_cell BK311.out 1).trans rfl; have hcz316_2 : w315.cell? ⟨gb311, 2, none⟩ = some (.int .i64 a0_2) := (blk_cell BK311.out 2).trans rfl; have hcz316_3 : w315.cell? ⟨gb311, 3, none⟩ = some (.int .i64 a0_3) := (blk_cell BK311.out 3).trans rfl; have hfz316_0 := blk_frozen BK311.out 0; have hfz316_1 := blk_frozen BK311.out 1; have hfz316_2 := blk_frozen BK311.out 2; have hfz316_3 := blk_frozen BK311.out 3; have hcz317_0 : w315.cell? ⟨gb314, 0, none⟩ = some (.int .i64 a3_0) := (blk_cell BK314.out 0).trans rfl; have hcz317_1 : w315.cell? ⟨gb314, 1, none⟩ = some (.int .i64 a3_1) := (blk_cell BK314.out 1).trans rfl; have hfz317_0 := blk_frozen BK314.out 0; have hfz317_1 := blk_frozen BK314.out 1; have hcz318_0 : w315.cell? ⟨gb312, 0, none⟩ = some (.int .i64 a1_0) := (blk_cell BK312.out 0).trans rfl; have hcz318_1 : w315.cell? ⟨gb312, 1, none⟩ = some (.int .i64 a1_1) := (blk_cell BK312.out 1).trans rfl; have hfz318_0 := blk_frozen BK312.out 0; have hfz318_1 := blk_frozen BK312.out 1) | (go_at_call 26; (with_reducible refine (amount_Covers.calls kj244 a0_0 a0_1 a0_2 a0_3 a3_0 a3_1 a1_0 a1_1 true _ A288.out).mono ?_); rintro e w319 ⟨rfl, hb⟩; have n0_ := blkB BK311 (by (with_reducible repeat first | refine bN ?_ _ | refine bD ?_ | refine bA ?_ _); exact BK311.out) hb; have n1_ := blkB BK312 (by (with_reducible repeat first | refine bN ?_ _ | refine bD ?_ | refine bA ?_ _); exact BK312.out) hb; have n2_ := blkB BK313 (by (with_reducible repeat first | refine bN ?_ _ | refine bD ?_ | refine bA ?_ _); exact BK313.out) hb; have n3_ := blkB BK314 (by (with_reducible repeat first | refine bN ?_ _ | refine bD ?_ | refine bA ?_ _); exact BK314.out) hb; have n4_ := blkB BK336 (by (with_reducible repeat first | refine bN ?_ _ | refine bD ?_ | refine bA ?_ _); exact BK336.out) hb; have n5_ := Aside0.mk (below_step (by repeat (first | (with_reducible first | exact HB.out | apply below_alloc | apply pw_below_drewN | apply below_drew1 | refine below_set ?_ GE336.out) | exact HB.out)) hb); clear BK311 BK312 BK313 BK314 BK336 HB; have BK311 := n0_; have BK312 := n1_; have BK313 := n2_; have BK314 := n3_; have BK336 := n4_; have HB := n5_; clear n0_ n1_ n2_ n3_ n4_ n5_; (try clear hb); have hcz320_0 : w319.cell? ⟨gb311, 0, none⟩ = some (.string a0_0) := (blk_cell BK311.out 0).trans rfl; have hcz320_1 : w319.cell? ⟨gb311, 1, none⟩ = some (.int .i64 a0_1) := (blk_cell BK311.out 1).trans rfl; have hcz320_2 : w319.cell? ⟨gb311, 2, none⟩ = some (.int .i64 a0_2) := (blk_cell BK311.out 2).trans rfl; have hcz320_3 : w319.cell? ⟨gb311, 3, none⟩ = some (.int .i64 a0_3) := (blk_cell BK311.out 3).trans rfl; have hfz320_0 := blk_frozen BK311.out 0; have hfz320_1 := blk_frozen BK311.out 1; have hfz320_2 := blk_frozen BK311.out 2; have hfz320_3 := blk_frozen BK311.out 3; have hcz321_0 : w319.cell? ⟨gb314, 0, none⟩ = some (.int .i64 a3_0) := (blk_cell BK314.out 0).trans rfl; have hcz321_1 : w319.cell? ⟨gb314, 1, none⟩ = some (.int .i64 a3_1) := (blk_cell BK314.out 1).trans rfl; have hfz321_0 := blk_frozen BK314.out 0; have hfz321_1 := blk_frozen BK314.out 1; have hcz322_0 : w319.cell? ⟨gb313, 0, none⟩ = some (.int .i64 a2_0) := (blk_cell BK313.out 0).trans rfl; have hcz322_1 : w319.cell? ⟨gb313, 1, none⟩ = some (.int .i64 a2_1) := (blk_cell BK313.out 1).trans rfl; have hfz322_0 := blk_frozen BK313.out 0; have hfz322_1 := blk_frozen BK313.out 1) | (go_at_call 26; (with_reducible refine (amount_Covers.calls kj244 a0_0 a0_1 a0_2 a0_3 a3_0 a3_1 a2_0 a2_1 true _ A290.out).mono ?_); rintro e w323 ⟨rfl, hb⟩; have n0_ := blkB BK311 (by (with_reducible repeat first | refine bN ?_ _ | refine bD ?_ | refine bA ?_ _); exact BK311.out) hb; have n1_ := blkB BK312 (by (with_reducible repeat first | refine bN ?_ _ | refine bD ?_ | refine bA ?_ _); exact BK312.out) hb; have n2_ := blkB BK313 (by (with_reducible repeat first | refine bN ?_ _ | refine bD ?_ | refine bA ?_ _); exact BK313.out) hb; have n3_ := blkB BK314 (by (with_reducible repeat first | refine bN ?_ _ | refine bD ?_ | refine bA ?_ _); exact BK314.out) hb; have n4_ := blkB BK336 (by (with_reducible repeat first | refine bN ?_ _ | refine bD ?_ | refine bA ?_ _); exact BK336.out) hb; have n5_ := Aside0.mk (below_step (by repeat (first | (with_reducible first | exact HB.out | apply below_alloc | apply pw_below_drewN | apply below_drew1 | refine below_set ?_ GE336.out) | exact HB.out)) hb); clear BK311 BK312 BK313 BK314 BK336 HB; have BK311 := n0_; have BK312 := n1_; have BK313 := n2_; have BK314 := n3_; have BK336 := n4_; have HB := n5_; clear n0_ n1_ n2_ n3_ n4_ n5_; (try clear hb); have hcz324_0 : w323.cell? ⟨gb311, 0, none⟩ = some (.string a0_0) := (blk_cell BK311.out 0).trans rfl; have hcz324_1 : w323.cell? ⟨gb311, 1, none⟩ = some (.int .i64 a0_1) := (blk_cell BK311.out 1).trans rfl; have hcz324_2 : w323.cell? ⟨gb311, 2, none⟩ = some (.int .i64 a0_2) := (blk_cell BK311.out 2).trans rfl; have hcz324_3 : w323.cell? ⟨gb311, 3, none⟩ = some (.int .i64 a0_3) := (blk_cell BK311.out 3).trans rfl; have hfz324_0 := blk_frozen BK311.out 0; have hfz324_1 := blk_frozen BK311.out 1; have hfz324_2 := blk_frozen BK311.out 2; have hfz324_3 := blk_frozen BK311.out 3; have hcz325_0 : w323.cell? ⟨gb314, 0, none⟩ = some (.int .i64 a3_0) := (blk_cell BK314.out 0).trans rfl; have hcz325_1 : w323.cell? ⟨gb314, 1, none⟩ = some (.int .i64 a3_1) := (blk_cell BK314.out 1).trans rfl; have hfz325_0 := blk_frozen BK314.out 0; have hfz325_1 := blk_frozen BK314.out 1; have hcz326_0 : w323.cell? ⟨gb336, 0, none⟩ = some (.int .i64 t334) := (blk_cell BK336.out 0).trans rfl; have hcz326_1 : w323.cell? ⟨gb336, 1, none⟩ = some (.int .i64 t335) := (blk_cell BK336.out 1).trans rfl; have hfz326_0 := blk_frozen BK336.out 0; have hfz326_1 := blk_frozen BK336.out 1) | (go_at_call 26; (with_reducible refine (amount_Covers.calls kj244 a0_0 a0_1 a0_2 a0_3 a3_0 a3_1 t334 t335 t341 _ A292.out).mono ?_); rintro e w327 ⟨rfl, hb⟩; have n0_ := blkB BK311 (by (with_reducible repeat first | refine bN ?_ _ | refine bD ?_ | refine bA ?_ _); exact BK311.out) hb; have n1_ := blkB BK312 (by (with_reducible repeat first | refine bN ?_ _ | refine bD ?_ | refine bA ?_ _); exact BK312.out) hb; have n2_ := blkB BK313 (by (with_reducible repeat first | refine bN ?_ _ | refine bD ?_ | refine bA ?_ _); exact BK313.out) hb; have n3_ := blkB BK314 (by (with_reducible repeat first | refine bN ?_ _ | refine bD ?_ | refine bA ?_ _); exact BK314.out) hb; have n4_ := blkB BK336 (by (with_reducible repeat first | refine bN ?_ _ | refine bD ?_ | refine bA ?_ _); exact BK336.out) hb; have n5_ := Aside0.mk (below_step (by repeat (first | (with_reducible first | exact HB.out | apply below_alloc | apply pw_below_drewN | apply below_drew1 | refine below_set ?_ GE336.out) | exact HB.out)) hb); clear BK311 BK312 BK313 BK314 BK336 HB; have BK311 := n0_; have BK312 := n1_; have BK313 := n2_; have BK314 := n3_; have BK336 := n4_; have HB := n5_; clear n0_ n1_ n2_ n3_ n4_ n5_; (try clear hb)))
              go_ret
              exact ⟨by first | rfl | (simp [errW_none, errW_some] <;> rfl) | (simp [*, errW_none, errW_some] <;> rfl), by repeat (first | (with_reducible first | exact HB.out | apply below_alloc | apply pw_below_drewN | apply below_drew1 | refine below_set ?_ GE336.out) | exact HB.out)⟩
             ·replace c291 := Bool.eq_false_iff.mpr c291
              subst c291
              have H1 : (some true) = some r := by rw [if_neg (show ¬ (false = true) by decide)] at H; exact H
              clear H
              have H := H1
              clear H1
              obtain rfl := Option.some.inj H
              have hnb328 := NB311_312.out
              have hnc328 := NB312_311.out
              have hnb329 := NB311_313.out
              have hnc329 := NB313_311.out
              have hnb330 := NB311_314.out
              have hnc330 := NB314_311.out
              have hcz331_0 : wc.cell? ⟨gb311, 0, none⟩ = some (.string a0_0) := (blk_cell BK311.out 0).trans rfl
              have hcz331_1 : wc.cell? ⟨gb311, 1, none⟩ = some (.int .i64 a0_1) := (blk_cell BK311.out 1).trans rfl
              have hcz331_2 : wc.cell? ⟨gb311, 2, none⟩ = some (.int .i64 a0_2) := (blk_cell BK311.out 2).trans rfl
              have hcz331_3 : wc.cell? ⟨gb311, 3, none⟩ = some (.int .i64 a0_3) := (blk_cell BK311.out 3).trans rfl
              have hfz331_0 := blk_frozen BK311.out 0
              have hfz331_1 := blk_frozen BK311.out 1
              have hfz331_2 := blk_frozen BK311.out 2
              have hfz331_3 := blk_frozen BK311.out 3
              have hnb332 := NB312_313.out
              have hnc332 := NB313_312.out
              have hnb333 := NB312_314.out
              have hnc333 := NB314_312.out
              have hcz334_0 : wc.cell? ⟨gb312, 0, none⟩ = some (.int .i64 a1_0) := (blk_cell BK312.out 0).trans rfl
              have hcz334_1 : wc.cell? ⟨gb312, 1, none⟩ = some (.int .i64 a1_1) := (blk_cell BK312.out 1).trans rfl
              have hfz334_0 := blk_frozen BK312.out 0
              have hfz334_1 := blk_frozen BK312.out 1
              have hnb335 := NB313_314.out
              have hnc335 := NB314_313.out
              have hcz336_0 : wc.cell? ⟨gb313, 0, none⟩ = some (.int .i64 a2_0) := (blk_cell BK313.out 0).trans rfl
              have hcz336_1 : wc.cell? ⟨gb313, 1, none⟩ = some (.int .i64 a2_1) := (blk_cell BK313.out 1).trans rfl
              have hfz336_0 := blk_frozen BK313.out 0
              have hfz336_1 := blk_frozen BK313.out 1
              go_wp2_with (first | ((with_reducible refine gate_callee (f := 22) rfl ?_); refine goesL_ (some 74) rfl rfl Tryd.func22 (by kernel_rfl) rfl #[.agg #[.string a0_0, .int .i64 a0_1, .int .i64 a0_2, .int .i64 a0_3], .agg #[.int .i64 a1_0, .int .i64 a1_1], .agg #[.int .i64 a2_0, .int .i64 a2_1]] rfl (by (try simp only [List.map_toArray, List.map_cons, List.map_nil]); first | done | rfl | (simp only [List.length_drop, List.length_take]; rfl)) ?_; (with_reducible refine (amount_Join.calls kj244 a0_0 a0_1 a0_2 a0_3 a1_0 a1_1 a2_0 a2_1 t334 t335 _ A283.out).mono ?_); rintro e w337 ⟨rfl, hb⟩; refine ⟨_, rfl, ?_⟩; have n0_ := blkB BK311 (by (with_reducible repeat first | refine bN ?_ _ | refine bD ?_ | refine bA ?_ _); exact BK311.out) hb; have n1_ := blkB BK312 (by (with_reducible repeat first | refine bN ?_ _ | refine bD ?_ | refine bA ?_ _); exact BK312.out) hb; have n2_ := blkB BK313 (by (with_reducible repeat first | refine bN ?_ _ | refine bD ?_ | refine bA ?_ _); exact BK313.out) hb; have n3_ := blkB BK314 (by (with_reducible repeat first | refine bN ?_ _ | refine bD ?_ | refine bA ?_ _); exact BK314.out) hb; have n4_ := Aside0.mk (below_step (by repeat (first | (with_reducible first | exact HB.out | apply below_alloc | apply pw_below_drewN | apply below_drew1) | exact HB.out)) hb); clear BK311 BK312 BK313 BK314 HB; have BK311 := n0_; have BK312 := n1_; have BK313 := n2_; have BK314 := n3_; have HB := n4_; clear n0_ n1_ n2_ n3_ n4_; (try clear hb)) | ((with_reducible refine gate_dst (N := 9) rfl ?_); refine box_event ?hg (N := 9) ?hd (cs := #[.int .i64 0, .int .i64 0]) (t := 25) ?hr ?_; (case hd => rfl); (case hg => rfl); (case hr => first | (go_simp; done) | (go_simp; rfl)); intro gb336 hg w338 hbox hb; have n0_ := blkB BK311 (by (with_reducible repeat first | refine bN ?_ _ | refine bD ?_ | refine bA ?_ _); exact BK311.out) hb; have n1_ := blkB BK312 (by (with_reducible repeat first | refine bN ?_ _ | refine bD ?_ | refine bA ?_ _); exact BK312.out) hb; have n2_ := blkB BK313 (by (with_reducible repeat first | refine bN ?_ _ | refine bD ?_ | refine bA ?_ _); exact BK313.out) hb; have n3_ := blkB BK314 (by (with_reducible repeat first | refine bN ?_ _ | refine bD ?_ | refine bA ?_ _); exact BK314.out) hb; have n4_ := Aside0.mk (below_step (by repeat (first | (with_reducible first | exact HB.out | apply below_alloc | apply pw_below_drewN | apply below_drew1) | exact HB.out)) hb); have n5_ := Aside0.mk (hbox); have n6_ := Aside0.mk ((by rw [hg]; exact (below_size (by repeat (first | (with_reducible first | exact HB.out | apply below_alloc | apply pw_below_drewN | apply below_drew1) | exact HB.out))) : w.heap.size ≤ gb336)); have n7_ := n6_; have n8_ := Aside0.mk ((by rw [hg]; exact Nat.ne_of_lt (blkLt BK311 (by (with_reducible repeat first | refine bN ?_ _ | refine bD ?_ | refine bA ?_ _); exact BK311.out)) : gb311 ≠ gb336)); have n9_ := Aside0.mk n8_.out.symm; have n10_ := Aside0.mk ((by rw [hg]; exact Nat.ne_of_lt (blkLt BK312 (by (with_reducible repeat first | refine bN ?_ _ | refine bD ?_ | refine bA ?_ _); exact BK312.out)) : gb312 ≠ gb336)); have n11_ := Aside0.mk n10_.out.symm; have n12_ := Aside0.mk ((by rw [hg]; exact Nat.ne_of_lt (blkLt BK313 (by (with_reducible repeat first | refine bN ?_ _ | refine bD ?_ | refine bA ?_ _); exact BK313.out)) : gb313 ≠ gb336)); have n13_ := Aside0.mk n12_.out.symm; have n14_ := Aside0.mk ((by rw [hg]; exact Nat.ne_of_lt (blkLt BK314 (by (with_reducible repeat first | refine bN ?_ _ | refine bD ?_ | refine bA ?_ _); exact BK314.out)) : gb314 ≠ gb336)); have n15_ := Aside0.mk n14_.out.symm; clear BK311 BK312 BK313 BK314 HB; have BK311 := n0_; have BK312 := n1_; have BK313 := n2_; have BK314 := n3_; have HB := n4_; have BK336 := n5_; have GW336 := n6_; have GE336 := n7_; have NB311_336 := n8_; have NB336_311 := n9_; have NB312_336 := n10_; have NB336_312 := n11_; have NB313_336 := n12_; have NB336_313 := n13_; have NB314_336 := n14_; have NB336_314 := n15_; clear n0_ n1_ n2_ n3_ n4_ n5_ n6_ n7_ n8_ n9_ n10_ n11_ n12_ n13_ n14_ n15_; clear hb hbox hg; have hnb339 := NB336_311.out; have hnc339 := NB311_336.out; have hnb340 := NB336_312.out; have hnc340 := NB312_336.out; have hnb341 := NB336_313.out; have hnc341 := NB313_336.out; have hnb342 := NB336_314.out; have hnc342 := NB314_336.out; have hcz343_0 : w338.cell? ⟨gb336, 0, none⟩ = some (.int .i64 0) := (blk_cell BK336.out 0).trans rfl; have hcz343_1 : w338.cell? ⟨gb336, 1, none⟩ = some (.int .i64 0) := (blk_cell BK336.out 1).trans rfl; have hfz343_0 := blk_frozen BK336.out 0; have hfz343_1 := blk_frozen BK336.out 1; have hcz344_0 : w338.cell? ⟨gb311, 0, none⟩ = some (.string a0_0) := (blk_cell BK311.out 0).trans rfl; have hcz344_1 : w338.cell? ⟨gb311, 1, none⟩ = some (.int .i64 a0_1) := (blk_cell BK311.out 1).trans rfl; have hcz344_2 : w338.cell? ⟨gb311, 2, none⟩ = some (.int .i64 a0_2) := (blk_cell BK311.out 2).trans rfl; have hcz344_3 : w338.cell? ⟨gb311, 3, none⟩ = some (.int .i64 a0_3) := (blk_cell BK311.out 3).trans rfl; have hfz344_0 := blk_frozen BK311.out 0; have hfz344_1 := blk_frozen BK311.out 1; have hfz344_2 := blk_frozen BK311.out 2; have hfz344_3 := blk_frozen BK311.out 3; have hcz345_0 : w338.cell? ⟨gb312, 0, none⟩ = some (.int .i64 a1_0) := (blk_cell BK312.out 0).trans rfl; have hcz345_1 : w338.cell? ⟨gb312, 1, none⟩ = some (.int .i64 a1_1) := (blk_cell BK312.out 1).trans rfl; have hfz345_0 := blk_frozen BK312.out 0; have hfz345_1 := blk_frozen BK312.out 1) | ((with_reducible refine gate_callee (f := 26) rfl ?_); refine goesL_ (some 78) rfl rfl Tryd.func26 (by kernel_rfl) rfl #[.agg #[.string a0_0, .int .i64 a0_1, .int .i64 a0_2, .int .i64 a0_3], .agg #[.int .i64 t334, .int .i64 t335], .agg #[.int .i64 a1_0, .int .i64 a1_1]] rfl (by (try simp only [List.map_toArray, List.map_cons, List.map_nil]); first | done | rfl | (simp only [List.length_drop, List.length_take]; rfl)) ?_; (with_reducible refine (amount_Covers.calls kj244 a0_0 a0_1 a0_2 a0_3 t334 t335 a1_0 a1_1 true _ A284.out).mono ?_); rintro e w346 ⟨rfl, hb⟩; refine ⟨_, rfl, ?_⟩; have n0_ := Aside0.mk (blk_below (g := gb311) (o := .cells #[.string a0_0, .int .i64 a0_1, .int .i64 a0_2, .int .i64 a0_3] 23 (0, 0)) (by (with_reducible repeat first | refine bN ?_ _ | refine bD ?_ | refine bA ?_ _); refine blk_far ?_ NB311_336.out _; (with_reducible repeat first | refine bN ?_ _ | refine bD ?_ | refine bA ?_ _); refine blk_far ?_ NB311_336.out _; (with_reducible repeat first | refine bN ?_ _ | refine bD ?_ | refine bA ?_ _); exact BK311.out) hb); have n1_ := Aside0.mk (blk_below (g := gb312) (o := .cells #[.int .i64 a1_0, .int .i64 a1_1] 25 (0, 0)) (by (with_reducible repeat first | refine bN ?_ _ | refine bD ?_ | refine bA ?_ _); refine blk_far ?_ NB312_336.out _; (with_reducible repeat first | refine bN ?_ _ | refine bD ?_ | refine bA ?_ _); refine blk_far ?_ NB312_336.out _; (with_reducible repeat first | refine bN ?_ _ | refine bD ?_ | refine bA ?_ _); exact BK312.out) hb); have n2_ := Aside0.mk (blk_below (g := gb313) (o := .cells #[.int .i64 a2_0, .int .i64 a2_1] 25 (0, 0)) (by (with_reducible repeat first | refine bN ?_ _ | refine bD ?_ | refine bA ?_ _); refine blk_far ?_ NB313_336.out _; (with_reducible repeat first | refine bN ?_ _ | refine bD ?_ | refine bA ?_ _); refine blk_far ?_ NB313_336.out _; (with_reducible repeat first | refine bN ?_ _ | refine bD ?_ | refine bA ?_ _); exact BK313.out) hb); have n3_ := Aside0.mk (blk_below (g := gb314) (o := .cells #[.int .i64 a3_0, .int .i64 a3_1] 25 (0, 0)) (by (with_reducible repeat first | refine bN ?_ _ | refine bD ?_ | refine bA ?_ _); refine blk_far ?_ NB314_336.out _; (with_reducible repeat first | refine bN ?_ _ | refine bD ?_ | refine bA ?_ _); refine blk_far ?_ NB314_336.out _; (with_reducible repeat first | refine bN ?_ _ | refine bD ?_ | refine bA ?_ _); exact BK314.out) hb); have n4_ := Aside0.mk (blk_below (g := gb336) (o := .cells #[.int .i64 t334, .int .i64 t335] 25 (0, 0)) (by (with_reducible repeat first | refine bN ?_ _ | refine bD ?_ | refine bA ?_ _); refine blk_put (cs := #[.int .i64 t334, .int .i64 0]) ?_ 1 _ rfl; (with_reducible repeat first | refine bN ?_ _ | refine bD ?_ | refine bA ?_ _); refine blk_put (cs := #[.int .i64 0, .int .i64 0]) ?_ 0 _ rfl; (with_reducible repeat first | refine bN ?_ _ | refine bD ?_ | refine bA ?_ _); exact BK336.out) hb); have n5_ := Aside0.mk (below_step (by repeat (first | (with_reducible first | exact HB.out | apply below_alloc | apply pw_below_drewN | apply below_drew1 | refine below_set ?_ GE336.out) | exact HB.out)) hb); clear BK311 BK312 BK313 BK314 BK336 HB; have BK311 := n0_; have BK312 := n1_; have BK313 := n2_; have BK314 := n3_; have BK336 := n4_; have HB := n5_; clear n0_ n1_ n2_ n3_ n4_ n5_; (try clear hb); have hcz347_0 : w346.cell? ⟨gb311, 0, none⟩ = some (.string a0_0) := (blk_cell BK311.out 0).trans rfl; have hcz347_1 : w346.cell? ⟨gb311, 1, none⟩ = some (.int .i64 a0_1) := (blk_cell BK311.out 1).trans rfl; have hcz347_2 : w346.cell? ⟨gb311, 2, none⟩ = some (.int .i64 a0_2) := (blk_cell BK311.out 2).trans rfl; have hcz347_3 : w346.cell? ⟨gb311, 3, none⟩ = some (.int .i64 a0_3) := (blk_cell BK311.out 3).trans rfl; have hfz347_0 := blk_frozen BK311.out 0; have hfz347_1 := blk_frozen BK311.out 1; have hfz347_2 := blk_frozen BK311.out 2; have hfz347_3 := blk_frozen BK311.out 3; have hcz348_0 : w346.cell? ⟨gb336, 0, none⟩ = some (.int .i64 t334) := (blk_cell BK336.out 0).trans rfl; have hcz348_1 : w346.cell? ⟨gb336, 1, none⟩ = some (.int .i64 t335) := (blk_cell BK336.out 1).trans rfl; have hfz348_0 := blk_frozen BK336.out 0; have hfz348_1 := blk_frozen BK336.out 1; have hcz349_0 : w346.cell? ⟨gb313, 0, none⟩ = some (.int .i64 a2_0) := (blk_cell BK313.out 0).trans rfl; have hcz349_1 : w346.cell? ⟨gb313, 1, none⟩ = some (.int .i64 a2_1) := (blk_cell BK313.out 1).trans rfl; have hfz349_0 := blk_frozen BK313.out 0; have hfz349_1 := blk_frozen BK313.out 1) | (go_at_call 26; (with_reducible refine (amount_Covers.calls kj244 a0_0 a0_1 a0_2 a0_3 t334 t335 a2_0 a2_1 true _ A286.out).mono ?_); rintro e w350 ⟨rfl, hb⟩; have n0_ := blkB BK311 (by (with_reducible repeat first | refine bN ?_ _ | refine bD ?_ | refine bA ?_ _); exact BK311.out) hb; have n1_ := blkB BK312 (by (with_reducible repeat first | refine bN ?_ _ | refine bD ?_ | refine bA ?_ _); exact BK312.out) hb; have n2_ := blkB BK313 (by (with_reducible repeat first | refine bN ?_ _ | refine bD ?_ | refine bA ?_ _); exact BK313.out) hb; have n3_ := blkB BK314 (by (with_reducible repeat first | refine bN ?_ _ | refine bD ?_ | refine bA ?_ _); exact BK314.out) hb; have n4_ := blkB BK336 (by (with_reducible repeat first | refine bN ?_ _ | refine bD ?_ | refine bA ?_ _); exact BK336.out) hb; have n5_ := Aside0.mk (below_step (by repeat (first | (with_reducible first | exact HB.out | apply below_alloc | apply pw_below_drewN | apply below_drew1 | refine below_set ?_ GE336.out) | exact HB.out)) hb); clear BK311 BK312 BK313 BK314 BK336 HB; have BK311 := n0_; have BK312 := n1_; have BK313 := n2_; have BK314 := n3_; have BK336 := n4_; have HB := n5_; clear n0_ n1_ n2_ n3_ n4_ n5_; (try clear hb); have hcz351_0 : w350.cell? ⟨gb311, 0, none⟩ = some (.string a0_0) := (blk_cell BK311.out 0).trans rfl; have hcz351_1 : w350.cell? ⟨gb311, 1, none⟩ = some (.int .i64 a0_1) := (blk_cell BK311.out 1).trans rfl; have hcz351_2 : w350.cell? ⟨gb311, 2, none⟩ = some (.int .i64 a0_2) := (blk_cell BK311.out 2).trans rfl; have hcz351_3 : w350.cell? ⟨gb311, 3, none⟩ = some (.int .i64 a0_3) := (blk_cell BK311.out 3).trans rfl; have hfz351_0 := blk_frozen BK311.out 0; have hfz351_1 := blk_frozen BK311.out 1; have hfz351_2 := blk_frozen BK311.out 2; have hfz351_3 := blk_frozen BK311.out 3; have hcz352_0 : w350.cell? ⟨gb314, 0, none⟩ = some (.int .i64 a3_0) := (blk_cell BK314.out 0).trans rfl; have hcz352_1 : w350.cell? ⟨gb314, 1, none⟩ = some (.int .i64 a3_1) := (blk_cell BK314.out 1).trans rfl; have hfz352_0 := blk_frozen BK314.out 0; have hfz352_1 := blk_frozen BK314.out 1; have hcz353_0 : w350.cell? ⟨gb312, 0, none⟩ = some (.int .i64 a1_0) := (blk_cell BK312.out 0).trans rfl; have hcz353_1 : w350.cell? ⟨gb312, 1, none⟩ = some (.int .i64 a1_1) := (blk_cell BK312.out 1).trans rfl; have hfz353_0 := blk_frozen BK312.out 0; have hfz353_1 := blk_frozen BK312.out 1) | (go_at_call 26; (with_reducible refine (amount_Covers.calls kj244 a0_0 a0_1 a0_2 a0_3 a3_0 a3_1 a1_0 a1_1 true _ A288.out).mono ?_); rintro e w354 ⟨rfl, hb⟩; have n0_ := blkB BK311 (by (with_reducible repeat first | refine bN ?_ _ | refine bD ?_ | refine bA ?_ _); exact BK311.out) hb; have n1_ := blkB BK312 (by (with_reducible repeat first | refine bN ?_ _ | refine bD ?_ | refine bA ?_ _); exact BK312.out) hb; have n2_ := blkB BK313 (by (with_reducible repeat first | refine bN ?_ _ | refine bD ?_ | refine bA ?_ _); exact BK313.out) hb; have n3_ := blkB BK314 (by (with_reducible repeat first | refine bN ?_ _ | refine bD ?_ | refine bA ?_ _); exact BK314.out) hb; have n4_ := blkB BK336 (by (with_reducible repeat first | refine bN ?_ _ | refine bD ?_ | refine bA ?_ _); exact BK336.out) hb; have n5_ := Aside0.mk (below_step (by repeat (first | (with_reducible first | exact HB.out | apply below_alloc | apply pw_below_drewN | apply below_drew1 | refine below_set ?_ GE336.out) | exact HB.out)) hb); clear BK311 BK312 BK313 BK314 BK336 HB; have BK311 := n0_; have BK312 := n1_; have BK313 := n2_; have BK314 := n3_; have BK336 := n4_; have HB := n5_; clear n0_ n1_ n2_ n3_ n4_ n5_; (try clear hb); have hcz355_0 : w354.cell? ⟨gb311, 0, none⟩ = some (.string a0_0) := (blk_cell BK311.out 0).trans rfl; have hcz355_1 : w354.cell? ⟨gb311, 1, none⟩ = some (.int .i64 a0_1) := (blk_cell BK311.out 1).trans rfl; have hcz355_2 : w354.cell? ⟨gb311, 2, none⟩ = some (.int .i64 a0_2) := (blk_cell BK311.out 2).trans rfl; have hcz355_3 : w354.cell? ⟨gb311, 3, none⟩ = some (.int .i64 a0_3) := (blk_cell BK311.out 3).trans rfl; have hfz355_0 := blk_frozen BK311.out 0; have hfz355_1 := blk_frozen BK311.out 1; have hfz355_2 := blk_frozen BK311.out 2; have hfz355_3 := blk_frozen BK311.out 3; have hcz356_0 : w354.cell? ⟨gb314, 0, none⟩ = some (.int .i64 a3_0) := (blk_cell BK314.out 0).trans rfl; have hcz356_1 : w354.cell? ⟨gb314, 1, none⟩ = some (.int .i64 a3_1) := (blk_cell BK314.out 1).trans rfl; have hfz356_0 := blk_frozen BK314.out 0; have hfz356_1 := blk_frozen BK314.out 1; have hcz357_0 : w354.cell? ⟨gb313, 0, none⟩ = some (.int .i64 a2_0) := (blk_cell BK313.out 0).trans rfl; have hcz357_1 : w354.cell? ⟨gb313, 1, none⟩ = some (.int .i64 a2_1) := (blk_cell BK313.out 1).trans rfl; have hfz357_0 := blk_frozen BK313.out 0; have hfz357_1 := blk_frozen BK313.out 1) | (go_at_call 26; (with_reducible refine (amount_Covers.calls kj244 a0_0 a0_1 a0_2 a0_3 a3_0 a3_1 a2_0 a2_1 false _ A290.out).mono ?_); rintro e w358 ⟨rfl, hb⟩; have n0_ := blkB BK311 (by (with_reducible repeat first | refine bN ?_ _ | refine bD ?_ | refine bA ?_ _); exact BK311.out) hb; have n1_ := blkB BK312 (by (with_reducible repeat first | refine bN ?_ _ | refine bD ?_ | refine bA ?_ _); exact BK312.out) hb; have n2_ := blkB BK313 (by (with_reducible repeat first | refine bN ?_ _ | refine bD ?_ | refine bA ?_ _); exact BK313.out) hb; have n3_ := blkB BK314 (by (with_reducible repeat first | refine bN ?_ _ | refine bD ?_ | refine bA ?_ _); exact BK314.out) hb; have n4_ := blkB BK336 (by (with_reducible repeat first | refine bN ?_ _ | refine bD ?_ | refine bA ?_ _); exact BK336.out) hb; have n5_ := Aside0.mk (below_step (by repeat (first | (with_reducible first | exact HB.out | apply below_alloc | apply pw_below_drewN | apply below_drew1 | refine below_set ?_ GE336.out) | exact HB.out)) hb); clear BK311 BK312 BK313 BK314 BK336 HB; have BK311 := n0_; have BK312 := n1_; have BK313 := n2_; have BK314 := n3_; have BK336 := n4_; have HB := n5_; clear n0_ n1_ n2_ n3_ n4_ n5_; (try clear hb)))
              go_ret
              exact ⟨by first | rfl | (simp [errW_none, errW_some] <;> rfl) | (simp [*, errW_none, errW_some] <;> rfl), by repeat (first | (with_reducible first | exact HB.out | apply below_alloc | apply pw_below_drewN | apply below_drew1 | refine below_set ?_ GE336.out) | exact HB.out)⟩
            ·replace c289 := Bool.eq_false_iff.mpr c289
             subst c289
             have H1 : (some true) = some r := by rw [if_neg (show ¬ (false = true) by decide)] at H; exact H
             clear H
             have H := H1
             clear H1
             obtain rfl := Option.some.inj H
             have hnb359 := NB311_312.out
             have hnc359 := NB312_311.out
             have hnb360 := NB311_313.out
             have hnc360 := NB313_311.out
             have hnb361 := NB311_314.out
             have hnc361 := NB314_311.out
             have hcz362_0 : wc.cell? ⟨gb311, 0, none⟩ = some (.string a0_0) := (blk_cell BK311.out 0).trans rfl
             have hcz362_1 : wc.cell? ⟨gb311, 1, none⟩ = some (.int .i64 a0_1) := (blk_cell BK311.out 1).trans rfl
             have hcz362_2 : wc.cell? ⟨gb311, 2, none⟩ = some (.int .i64 a0_2) := (blk_cell BK311.out 2).trans rfl
             have hcz362_3 : wc.cell? ⟨gb311, 3, none⟩ = some (.int .i64 a0_3) := (blk_cell BK311.out 3).trans rfl
             have hfz362_0 := blk_frozen BK311.out 0
             have hfz362_1 := blk_frozen BK311.out 1
             have hfz362_2 := blk_frozen BK311.out 2
             have hfz362_3 := blk_frozen BK311.out 3
             have hnb363 := NB312_313.out
             have hnc363 := NB313_312.out
             have hnb364 := NB312_314.out
             have hnc364 := NB314_312.out
             have hcz365_0 : wc.cell? ⟨gb312, 0, none⟩ = some (.int .i64 a1_0) := (blk_cell BK312.out 0).trans rfl
             have hcz365_1 : wc.cell? ⟨gb312, 1, none⟩ = some (.int .i64 a1_1) := (blk_cell BK312.out 1).trans rfl
             have hfz365_0 := blk_frozen BK312.out 0
             have hfz365_1 := blk_frozen BK312.out 1
             have hnb366 := NB313_314.out
             have hnc366 := NB314_313.out
             have hcz367_0 : wc.cell? ⟨gb313, 0, none⟩ = some (.int .i64 a2_0) := (blk_cell BK313.out 0).trans rfl
             have hcz367_1 : wc.cell? ⟨gb313, 1, none⟩ = some (.int .i64 a2_1) := (blk_cell BK313.out 1).trans rfl
             have hfz367_0 := blk_frozen BK313.out 0
             have hfz367_1 := blk_frozen BK313.out 1
             go_wp2_with (first | ((with_reducible refine gate_callee (f := 22) rfl ?_); refine goesL_ (some 74) rfl rfl Tryd.func22 (by kernel_rfl) rfl #[.agg #[.string a0_0, .int .i64 a0_1, .int .i64 a0_2, .int .i64 a0_3], .agg #[.int .i64 a1_0, .int .i64 a1_1], .agg #[.int .i64 a2_0, .int .i64 a2_1]] rfl (by (try simp only [List.map_toArray, List.map_cons, List.map_nil]); first | done | rfl | (simp only [List.length_drop, List.length_take]; rfl)) ?_; (with_reducible refine (amount_Join.calls kj244 a0_0 a0_1 a0_2 a0_3 a1_0 a1_1 a2_0 a2_1 t334 t335 _ A283.out).mono ?_); rintro e w368 ⟨rfl, hb⟩; refine ⟨_, rfl, ?_⟩; have n0_ := blkB BK311 (by (with_reducible repeat first | refine bN ?_ _ | refine bD ?_ | refine bA ?_ _); exact BK311.out) hb; have n1_ := blkB BK312 (by (with_reducible repeat first | refine bN ?_ _ | refine bD ?_ | refine bA ?_ _); exact BK312.out) hb; have n2_ := blkB BK313 (by (with_reducible repeat first | refine bN ?_ _ | refine bD ?_ | refine bA ?_ _); exact BK313.out) hb; have n3_ := blkB BK314 (by (with_reducible repeat first | refine bN ?_ _ | refine bD ?_ | refine bA ?_ _); exact BK314.out) hb; have n4_ := Aside0.mk (below_step (by repeat (first | (with_reducible first | exact HB.out | apply below_alloc | apply pw_below_drewN | apply below_drew1) | exact HB.out)) hb); clear BK311 BK312 BK313 BK314 HB; have BK311 := n0_; have BK312 := n1_; have BK313 := n2_; have BK314 := n3_; have HB := n4_; clear n0_ n1_ n2_ n3_ n4_; (try clear hb)) | ((with_reducible refine gate_dst (N := 9) rfl ?_); refine box_event ?hg (N := 9) ?hd (cs := #[.int .i64 0, .int .i64 0]) (t := 25) ?hr ?_; (case hd => rfl); (case hg => rfl); (case hr => first | (go_simp; done) | (go_simp; rfl)); intro gb336 hg w369 hbox hb; have n0_ := blkB BK311 (by (with_reducible repeat first | refine bN ?_ _ | refine bD ?_ | refine bA ?_ _); exact BK311.out) hb; have n1_ := blkB BK312 (by (with_reducible repeat first | refine bN ?_ _ | refine bD ?_ | refine bA ?_ _); exact BK312.out) hb; have n2_ := blkB BK313 (by (with_reducible repeat first | refine bN ?_ _ | refine bD ?_ | refine bA ?_ _); exact BK313.out) hb; have n3_ := blkB BK314 (by (with_reducible repeat first | refine bN ?_ _ | refine bD ?_ | refine bA ?_ _); exact BK314.out) hb; have n4_ := Aside0.mk (below_step (by repeat (first | (with_reducible first | exact HB.out | apply below_alloc | apply pw_below_drewN | apply below_drew1) | exact HB.out)) hb); have n5_ := Aside0.mk (hbox); have n6_ := Aside0.mk ((by rw [hg]; exact (below_size (by repeat (first | (with_reducible first | exact HB.out | apply below_alloc | apply pw_below_drewN | apply below_drew1) | exact HB.out))) : w.heap.size ≤ gb336)); have n7_ := n6_; have n8_ := Aside0.mk ((by rw [hg]; exact Nat.ne_of_lt (blkLt BK311 (by (with_reducible repeat first | refine bN ?_ _ | refine bD ?_ | refine bA ?_ _); exact BK311.out)) : gb311 ≠ gb336)); have n9_ := Aside0.mk n8_.out.symm; have n10_ := Aside0.mk ((by rw [hg]; exact Nat.ne_of_lt (blkLt BK312 (by (with_reducible repeat first | refine bN ?_ _ | refine bD ?_ | refine bA ?_ _); exact BK312.out)) : gb312 ≠ gb336)); have n11_ := Aside0.mk n10_.out.symm; have n12_ := Aside0.mk ((by rw [hg]; exact Nat.ne_of_lt (blkLt BK313 (by (with_reducible repeat first | refine bN ?_ _ | refine bD ?_ | refine bA ?_ _); exact BK313.out)) : gb313 ≠ gb336)); have n13_ := Aside0.mk n12_.out.symm; have n14_ := Aside0.mk ((by rw [hg]; exact Nat.ne_of_lt (blkLt BK314 (by (with_reducible repeat first | refine bN ?_ _ | refine bD ?_ | refine bA ?_ _); exact BK314.out)) : gb314 ≠ gb336)); have n15_ := Aside0.mk n14_.out.symm; clear BK311 BK312 BK313 BK314 HB; have BK311 := n0_; have BK312 := n1_; have BK313 := n2_; have BK314 := n3_; have HB := n4_; have BK336 := n5_; have GW336 := n6_; have GE336 := n7_; have NB311_336 := n8_; have NB336_311 := n9_; have NB312_336 := n10_; have NB336_312 := n11_; have NB313_336 := n12_; have NB336_313 := n13_; have NB314_336 := n14_; have NB336_314 := n15_; clear n0_ n1_ n2_ n3_ n4_ n5_ n6_ n7_ n8_ n9_ n10_ n11_ n12_ n13_ n14_ n15_; clear hb hbox hg; have hnb370 := NB336_311.out; have hnc370 := NB311_336.out; have hnb371 := NB336_312.out; have hnc371 := NB312_336.out; have hnb372 := NB336_313.out; have hnc372 := NB313_336.out; have hnb373 := NB336_314.out; have hnc373 := NB314_336.out; have hcz374_0 : w369.cell? ⟨gb336, 0, none⟩ = some (.int .i64 0) := (blk_cell BK336.out 0).trans rfl; have hcz374_1 : w369.cell? ⟨gb336, 1, none⟩ = some (.int .i64 0) := (blk_cell BK336.out 1).trans rfl; have hfz374_0 := blk_frozen BK336.out 0; have hfz374_1 := blk_frozen BK336.out 1; have hcz375_0 : w369.cell? ⟨gb311, 0, none⟩ = some (.string a0_0) := (blk_cell BK311.out 0).trans rfl; have hcz375_1 : w369.cell? ⟨gb311, 1, none⟩ = some (.int .i64 a0_1) := (blk_cell BK311.out 1).trans rfl; have hcz375_2 : w369.cell? ⟨gb311, 2, none⟩ = some (.int .i64 a0_2) := (blk_cell BK311.out 2).trans rfl; have hcz375_3 : w369.cell? ⟨gb311, 3, none⟩ = some (.int .i64 a0_3) := (blk_cell BK311.out 3).trans rfl; have hfz375_0 := blk_frozen BK311.out 0; have hfz375_1 := blk_frozen BK311.out 1; have hfz375_2 := blk_frozen BK311.out 2; have hfz375_3 := blk_frozen BK311.out 3; have hcz376_0 : w369.cell? ⟨gb312, 0, none⟩ = some (.int .i64 a1_0) := (blk_cell BK312.out 0).trans rfl; have hcz376_1 : w369.cell? ⟨gb312, 1, none⟩ = some (.int .i64 a1_1) := (blk_cell BK312.out 1).trans rfl; have hfz376_0 := blk_frozen BK312.out 0; have hfz376_1 := blk_frozen BK312.out 1) | ((with_reducible refine gate_callee (f := 26) rfl ?_); refine goesL_ (some 78) rfl rfl Tryd.func26 (by kernel_rfl) rfl #[.agg #[.string a0_0, .int .i64 a0_1, .int .i64 a0_2, .int .i64 a0_3], .agg #[.int .i64 t334, .int .i64 t335], .agg #[.int .i64 a1_0, .int .i64 a1_1]] rfl (by (try simp only [List.map_toArray, List.map_cons, List.map_nil]); first | done | rfl | (simp only [List.length_drop, List.length_take]; rfl)) ?_; (with_reducible refine (amount_Covers.calls kj244 a0_0 a0_1 a0_2 a0_3 t334 t335 a1_0 a1_1 true _ A284.out).mono ?_); rintro e w377 ⟨rfl, hb⟩; refine ⟨_, rfl, ?_⟩; have n0_ := Aside0.mk (blk_below (g := gb311) (o := .cells #[.string a0_0, .int .i64 a0_1, .int .i64 a0_2, .int .i64 a0_3] 23 (0, 0)) (by (with_reducible repeat first | refine bN ?_ _ | refine bD ?_ | refine bA ?_ _); refine blk_far ?_ NB311_336.out _; (with_reducible repeat first | refine bN ?_ _ | refine bD ?_ | refine bA ?_ _); refine blk_far ?_ NB311_336.out _; (with_reducible repeat first | refine bN ?_ _ | refine bD ?_ | refine bA ?_ _); exact BK311.out) hb); have n1_ := Aside0.mk (blk_below (g := gb312) (o := .cells #[.int .i64 a1_0, .int .i64 a1_1] 25 (0, 0)) (by (with_reducible repeat first | refine bN ?_ _ | refine bD ?_ | refine bA ?_ _); refine blk_far ?_ NB312_336.out _; (with_reducible repeat first | refine bN ?_ _ | refine bD ?_ | refine bA ?_ _); refine blk_far ?_ NB312_336.out _; (with_reducible repeat first | refine bN ?_ _ | refine bD ?_ | refine bA ?_ _); exact BK312.out) hb); have n2_ := Aside0.mk (blk_below (g := gb313) (o := .cells #[.int .i64 a2_0, .int .i64 a2_1] 25 (0, 0)) (by (with_reducible repeat first | refine bN ?_ _ | refine bD ?_ | refine bA ?_ _); refine blk_far ?_ NB313_336.out _; (with_reducible repeat first | refine bN ?_ _ | refine bD ?_ | refine bA ?_ _); refine blk_far ?_ NB313_336.out _; (with_reducible repeat first | refine bN ?_ _ | refine bD ?_ | refine bA ?_ _); exact BK313.out) hb); have n3_ := Aside0.mk (blk_below (g := gb314) (o := .cells #[.int .i64 a3_0, .int .i64 a3_1] 25 (0, 0)) (by (with_reducible repeat first | refine bN ?_ _ | refine bD ?_ | refine bA ?_ _); refine blk_far ?_ NB314_336.out _; (with_reducible repeat first | refine bN ?_ _ | refine bD ?_ | refine bA ?_ _); refine blk_far ?_ NB314_336.out _; (with_reducible repeat first | refine bN ?_ _ | refine bD ?_ | refine bA ?_ _); exact BK314.out) hb); have n4_ := Aside0.mk (blk_below (g := gb336) (o := .cells #[.int .i64 t334, .int .i64 t335] 25 (0, 0)) (by (with_reducible repeat first | refine bN ?_ _ | refine bD ?_ | refine bA ?_ _); refine blk_put (cs := #[.int .i64 t334, .int .i64 0]) ?_ 1 _ rfl; (with_reducible repeat first | refine bN ?_ _ | refine bD ?_ | refine bA ?_ _); refine blk_put (cs := #[.int .i64 0, .int .i64 0]) ?_ 0 _ rfl; (with_reducible repeat first | refine bN ?_ _ | refine bD ?_ | refine bA ?_ _); exact BK336.out) hb); have n5_ := Aside0.mk (below_step (by repeat (first | (with_reducible first | exact HB.out | apply below_alloc | apply pw_below_drewN | apply below_drew1 | refine below_set ?_ GE336.out) | exact HB.out)) hb); clear BK311 BK312 BK313 BK314 BK336 HB; have BK311 := n0_; have BK312 := n1_; have BK313 := n2_; have BK314 := n3_; have BK336 := n4_; have HB := n5_; clear n0_ n1_ n2_ n3_ n4_ n5_; (try clear hb); have hcz378_0 : w377.cell? ⟨gb311, 0, none⟩ = some (.string a0_0) := (blk_cell BK311.out 0).trans rfl; have hcz378_1 : w377.cell? ⟨gb311, 1, none⟩ = some (.int .i64 a0_1) := (blk_cell BK311.out 1).trans rfl; have hcz378_2 : w377.cell? ⟨gb311, 2, none⟩ = some (.int .i64 a0_2) := (blk_cell BK311.out 2).trans rfl; have hcz378_3 : w377.cell? ⟨gb311, 3, none⟩ = some (.int .i64 a0_3) := (blk_cell BK311.out 3).trans rfl; have hfz378_0 := blk_frozen BK311.out 0; have hfz378_1 := blk_frozen BK311.out 1; have hfz378_2 := blk_frozen BK311.out 2; have hfz378_3 := blk_frozen BK311.out 3; have hcz379_0 : w377.cell? ⟨gb336, 0, none⟩ = some (.int .i64 t334) := (blk_cell BK336.out 0).trans rfl; have hcz379_1 : w377.cell? ⟨gb336, 1, none⟩ = some (.int .i64 t335) := (blk_cell BK336.out 1).trans rfl; have hfz379_0 := blk_frozen BK336.out 0; have hfz379_1 := blk_frozen BK336.out 1; have hcz380_0 : w377.cell? ⟨gb313, 0, none⟩ = some (.int .i64 a2_0) := (blk_cell BK313.out 0).trans rfl; have hcz380_1 : w377.cell? ⟨gb313, 1, none⟩ = some (.int .i64 a2_1) := (blk_cell BK313.out 1).trans rfl; have hfz380_0 := blk_frozen BK313.out 0; have hfz380_1 := blk_frozen BK313.out 1) | (go_at_call 26; (with_reducible refine (amount_Covers.calls kj244 a0_0 a0_1 a0_2 a0_3 t334 t335 a2_0 a2_1 true _ A286.out).mono ?_); rintro e w381 ⟨rfl, hb⟩; have n0_ := blkB BK311 (by (with_reducible repeat first | refine bN ?_ _ | refine bD ?_ | refine bA ?_ _); exact BK311.out) hb; have n1_ := blkB BK312 (by (with_reducible repeat first | refine bN ?_ _ | refine bD ?_ | refine bA ?_ _); exact BK312.out) hb; have n2_ := blkB BK313 (by (with_reducible repeat first | refine bN ?_ _ | refine bD ?_ | refine bA ?_ _); exact BK313.out) hb; have n3_ := blkB BK314 (by (with_reducible repeat first | refine bN ?_ _ | refine bD ?_ | refine bA ?_ _); exact BK314.out) hb; have n4_ := blkB BK336 (by (with_reducible repeat first | refine bN ?_ _ | refine bD ?_ | refine bA ?_ _); exact BK336.out) hb; have n5_ := Aside0.mk (below_step (by repeat (first | (with_reducible first | exact HB.out | apply below_alloc | apply pw_below_drewN | apply below_drew1 | refine below_set ?_ GE336.out) | exact HB.out)) hb); clear BK311 BK312 BK313 BK314 BK336 HB; have BK311 := n0_; have BK312 := n1_; have BK313 := n2_; have BK314 := n3_; have BK336 := n4_; have HB := n5_; clear n0_ n1_ n2_ n3_ n4_ n5_; (try clear hb); have hcz382_0 : w381.cell? ⟨gb311, 0, none⟩ = some (.string a0_0) := (blk_cell BK311.out 0).trans rfl; have hcz382_1 : w381.cell? ⟨gb311, 1, none⟩ = some (.int .i64 a0_1) := (blk_cell BK311.out 1).trans rfl; have hcz382_2 : w381.cell? ⟨gb311, 2, none⟩ = some (.int .i64 a0_2) := (blk_cell BK311.out 2).trans rfl; have hcz382_3 : w381.cell? ⟨gb311, 3, none⟩ = some (.int .i64 a0_3) := (blk_cell BK311.out 3).trans rfl; have hfz382_0 := blk_frozen BK311.out 0; have hfz382_1 := blk_frozen BK311.out 1; have hfz382_2 := blk_frozen BK311.out 2; have hfz382_3 := blk_frozen BK311.out 3; have hcz383_0 : w381.cell? ⟨gb314, 0, none⟩ = some (.int .i64 a3_0) := (blk_cell BK314.out 0).trans rfl; have hcz383_1 : w381.cell? ⟨gb314, 1, none⟩ = some (.int .i64 a3_1) := (blk_cell BK314.out 1).trans rfl; have hfz383_0 := blk_frozen BK314.out 0; have hfz383_1 := blk_frozen BK314.out 1; have hcz384_0 : w381.cell? ⟨gb312, 0, none⟩ = some (.int .i64 a1_0) := (blk_cell BK312.out 0).trans rfl; have hcz384_1 : w381.cell? ⟨gb312, 1, none⟩ = some (.int .i64 a1_1) := (blk_cell BK312.out 1).trans rfl; have hfz384_0 := blk_frozen BK312.out 0; have hfz384_1 := blk_frozen BK312.out 1) | (go_at_call 26; (with_reducible refine (amount_Covers.calls kj244 a0_0 a0_1 a0_2 a0_3 a3_0 a3_1 a1_0 a1_1 false _ A288.out).mono ?_); rintro e w385 ⟨rfl, hb⟩; have n0_ := blkB BK311 (by (with_reducible repeat first | refine bN ?_ _ | refine bD ?_ | refine bA ?_ _); exact BK311.out) hb; have n1_ := blkB BK312 (by (with_reducible repeat first | refine bN ?_ _ | refine bD ?_ | refine bA ?_ _); exact BK312.out) hb; have n2_ := blkB BK313 (by (with_reducible repeat first | refine bN ?_ _ | refine bD ?_ | refine bA ?_ _); exact BK313.out) hb; have n3_ := blkB BK314 (by (with_reducible repeat first | refine bN ?_ _ | refine bD ?_ | refine bA ?_ _); exact BK314.out) hb; have n4_ := blkB BK336 (by (with_reducible repeat first | refine bN ?_ _ | refine bD ?_ | refine bA ?_ _); exact BK336.out) hb; have n5_ := Aside0.mk (below_step (by repeat (first | (with_reducible first | exact HB.out | apply below_alloc | apply pw_below_drewN | apply below_drew1 | refine below_set ?_ GE336.out) | exact HB.out)) hb); clear BK311 BK312 BK313 BK314 BK336 HB; have BK311 := n0_; have BK312 := n1_; have BK313 := n2_; have BK314 := n3_; have BK336 := n4_; have HB := n5_; clear n0_ n1_ n2_ n3_ n4_ n5_; (try clear hb)))
             go_ret
             exact ⟨by first | rfl | (simp [errW_none, errW_some] <;> rfl) | (simp [*, errW_none, errW_some] <;> rfl), by repeat (first | (with_reducible first | exact HB.out | apply below_alloc | apply pw_below_drewN | apply below_drew1 | refine below_set ?_ GE336.out) | exact HB.out)⟩
           ·replace c287 := Bool.eq_false_iff.mpr c287
            subst c287
            have H1 : (some false) = some r := by rw [if_neg (show ¬ (false = true) by decide)] at H; exact H
            clear H
            have H := H1
            clear H1
            obtain rfl := Option.some.inj H
            have hnb386 := NB311_312.out
            have hnc386 := NB312_311.out
            have hnb387 := NB311_313.out
            have hnc387 := NB313_311.out
            have hnb388 := NB311_314.out
            have hnc388 := NB314_311.out
            have hcz389_0 : wc.cell? ⟨gb311, 0, none⟩ = some (.string a0_0) := (blk_cell BK311.out 0).trans rfl
            have hcz389_1 : wc.cell? ⟨gb311, 1, none⟩ = some (.int .i64 a0_1) := (blk_cell BK311.out 1).trans rfl
            have hcz389_2 : wc.cell? ⟨gb311, 2, none⟩ = some (.int .i64 a0_2) := (blk_cell BK311.out 2).trans rfl
            have hcz389_3 : wc.cell? ⟨gb311, 3, none⟩ = some (.int .i64 a0_3) := (blk_cell BK311.out 3).trans rfl
            have hfz389_0 := blk_frozen BK311.out 0
            have hfz389_1 := blk_frozen BK311.out 1
            have hfz389_2 := blk_frozen BK311.out 2
            have hfz389_3 := blk_frozen BK311.out 3
            have hnb390 := NB312_313.out
            have hnc390 := NB313_312.out
            have hnb391 := NB312_314.out
            have hnc391 := NB314_312.out
            have hcz392_0 : wc.cell? ⟨gb312, 0, none⟩ = some (.int .i64 a1_0) := (blk_cell BK312.out 0).trans rfl
            have hcz392_1 : wc.cell? ⟨gb312, 1, none⟩ = some (.int .i64 a1_1) := (blk_cell BK312.out 1).trans rfl
            have hfz392_0 := blk_frozen BK312.out 0
            have hfz392_1 := blk_frozen BK312.out 1
            have hnb393 := NB313_314.out
            have hnc393 := NB314_313.out
            have hcz394_0 : wc.cell? ⟨gb313, 0, none⟩ = some (.int .i64 a2_0) := (blk_cell BK313.out 0).trans rfl
            have hcz394_1 : wc.cell? ⟨gb313, 1, none⟩ = some (.int .i64 a2_1) := (blk_cell BK313.out 1).trans rfl
            have hfz394_0 := blk_frozen BK313.out 0
            have hfz394_1 := blk_frozen BK313.out 1
            go_wp2_with (first | ((with_reducible refine gate_callee (f := 22) rfl ?_); refine goesL_ (some 74) rfl rfl Tryd.func22 (by kernel_rfl) rfl #[.agg #[.string a0_0, .int .i64 a0_1, .int .i64 a0_2, .int .i64 a0_3], .agg #[.int .i64 a1_0, .int .i64 a1_1], .agg #[.int .i64 a2_0, .int .i64 a2_1]] rfl (by (try simp only [List.map_toArray, List.map_cons, List.map_nil]); first | done | rfl | (simp only [List.length_drop, List.length_take]; rfl)) ?_; (with_reducible refine (amount_Join.calls kj244 a0_0 a0_1 a0_2 a0_3 a1_0 a1_1 a2_0 a2_1 t334 t335 _ A283.out).mono ?_); rintro e w395 ⟨rfl, hb⟩; refine ⟨_, rfl, ?_⟩; have n0_ := blkB BK311 (by (with_reducible repeat first | refine bN ?_ _ | refine bD ?_ | refine bA ?_ _); exact BK311.out) hb; have n1_ := blkB BK312 (by (with_reducible repeat first | refine bN ?_ _ | refine bD ?_ | refine bA ?_ _); exact BK312.out) hb; have n2_ := blkB BK313 (by (with_reducible repeat first | refine bN ?_ _ | refine bD ?_ | refine bA ?_ _); exact BK313.out) hb; have n3_ := blkB BK314 (by (with_reducible repeat first | refine bN ?_ _ | refine bD ?_ | refine bA ?_ _); exact BK314.out) hb; have n4_ := Aside0.mk (below_step (by repeat (first | (with_reducible first | exact HB.out | apply below_alloc | apply pw_below_drewN | apply below_drew1) | exact HB.out)) hb); clear BK311 BK312 BK313 BK314 HB; have BK311 := n0_; have BK312 := n1_; have BK313 := n2_; have BK314 := n3_; have HB := n4_; clear n0_ n1_ n2_ n3_ n4_; (try clear hb)) | ((with_reducible refine gate_dst (N := 9) rfl ?_); refine box_event ?hg (N := 9) ?hd (cs := #[.int .i64 0, .int .i64 0]) (t := 25) ?hr ?_; (case hd => rfl); (case hg => rfl); (case hr => first | (go_simp; done) | (go_simp; rfl)); intro gb336 hg w396 hbox hb; have n0_ := blkB BK311 (by (with_reducible repeat first | refine bN ?_ _ | refine bD ?_ | refine bA ?_ _); exact BK311.out) hb; have n1_ := blkB BK312 (by (with_reducible repeat first | refine bN ?_ _ | refine bD ?_ | refine bA ?_ _); exact BK312.out) hb; have n2_ := blkB BK313 (by (with_reducible repeat first | refine bN ?_ _ | refine bD ?_ | refine bA ?_ _); exact BK313.out) hb; have n3_ := blkB BK314 (by (with_reducible repeat first | refine bN ?_ _ | refine bD ?_ | refine bA ?_ _); exact BK314.out) hb; have n4_ := Aside0.mk (below_step (by repeat (first | (with_reducible first | exact HB.out | apply below_alloc | apply pw_below_drewN | apply below_drew1) | exact HB.out)) hb); have n5_ := Aside0.mk (hbox); have n6_ := Aside0.mk ((by rw [hg]; exact (below_size (by repeat (first | (with_reducible first | exact HB.out | apply below_alloc | apply pw_below_drewN | apply below_drew1) | exact HB.out))) : w.heap.size ≤ gb336)); have n7_ := n6_; have n8_ := Aside0.mk ((by rw [hg]; exact Nat.ne_of_lt (blkLt BK311 (by (with_reducible repeat first | refine bN ?_ _ | refine bD ?_ | refine bA ?_ _); exact BK311.out)) : gb311 ≠ gb336)); have n9_ := Aside0.mk n8_.out.symm; have n10_ := Aside0.mk ((by rw [hg]; exact Nat.ne_of_lt (blkLt BK312 (by (with_reducible repeat first | refine bN ?_ _ | refine bD ?_ | refine bA ?_ _); exact BK312.out)) : gb312 ≠ gb336)); have n11_ := Aside0.mk n10_.out.symm; have n12_ := Aside0.mk ((by rw [hg]; exact Nat.ne_of_lt (blkLt BK313 (by (with_reducible repeat first | refine bN ?_ _ | refine bD ?_ | refine bA ?_ _); exact BK313.out)) : gb313 ≠ gb336)); have n13_ := Aside0.mk n12_.out.symm; have n14_ := Aside0.mk ((by rw [hg]; exact Nat.ne_of_lt (blkLt BK314 (by (with_reducible repeat first | refine bN ?_ _ | refine bD ?_ | refine bA ?_ _); exact BK314.out)) : gb314 ≠ gb336)); have n15_ := Aside0.mk n14_.out.symm; clear BK311 BK312 BK313 BK314 HB; have BK311 := n0_; have BK312 := n1_; have BK313 := n2_; have BK314 := n3_; have HB := n4_; have BK336 := n5_; have GW336 := n6_; have GE336 := n7_; have NB311_336 := n8_; have NB336_311 := n9_; have NB312_336 := n10_; have NB336_312 := n11_; have NB313_336 := n12_; have NB336_313 := n13_; have NB314_336 := n14_; have NB336_314 := n15_; clear n0_ n1_ n2_ n3_ n4_ n5_ n6_ n7_ n8_ n9_ n10_ n11_ n12_ n13_ n14_ n15_; clear hb hbox hg; have hnb397 := NB336_311.out; have hnc397 := NB311_336.out; have hnb398 := NB336_312.out; have hnc398 := NB312_336.out; have hnb399 := NB336_313.out; have hnc399 := NB313_336.out; have hnb400 := NB336_314.out; have hnc400 := NB314_336.out; have hcz401_0 : w396.cell? ⟨gb336, 0, none⟩ = some (.int .i64 0) := (blk_cell BK336.out 0).trans rfl; have hcz401_1 : w396.cell? ⟨gb336, 1, none⟩ = some (.int .i64 0) := (blk_cell BK336.out 1).trans rfl; have hfz401_0 := blk_frozen BK336.out 0; have hfz401_1 := blk_frozen BK336.out 1; have hcz402_0 : w396.cell? ⟨gb311, 0, none⟩ = some (.string a0_0) := (blk_cell BK311.out 0).trans rfl; have hcz402_1 : w396.cell? ⟨gb311, 1, none⟩ = some (.int .i64 a0_1) := (blk_cell BK311.out 1).trans rfl; have hcz402_2 : w396.cell? ⟨gb311, 2, none⟩ = some (.int .i64 a0_2) := (blk_cell BK311.out 2).trans rfl; have hcz402_3 : w396.cell? ⟨gb311, 3, none⟩ = some (.int .i64 a0_3) := (blk_cell BK311.out 3).trans rfl; have hfz402_0 := blk_frozen BK311.out 0; have hfz402_1 := blk_frozen BK311.out 1; have hfz402_2 := blk_frozen BK311.out 2; have hfz402_3 := blk_frozen BK311.out 3; have hcz403_0 : w396.cell? ⟨gb312, 0, none⟩ = some (.int .i64 a1_0) := (blk_cell BK312.out 0).trans rfl; have hcz403_1 : w396.cell? ⟨gb312, 1, none⟩ = some (.int .i64 a1_1) := (blk_cell BK312.out 1).trans rfl; have hfz403_0 := blk_frozen BK312.out 0; have hfz403_1 := blk_frozen BK312.out 1) | ((with_reducible refine gate_callee (f := 26) rfl ?_); refine goesL_ (some 78) rfl rfl Tryd.func26 (by kernel_rfl) rfl #[.agg #[.string a0_0, .int .i64 a0_1, .int .i64 a0_2, .int .i64 a0_3], .agg #[.int .i64 t334, .int .i64 t335], .agg #[.int .i64 a1_0, .int .i64 a1_1]] rfl (by (try simp only [List.map_toArray, List.map_cons, List.map_nil]); first | done | rfl | (simp only [List.length_drop, List.length_take]; rfl)) ?_; (with_reducible refine (amount_Covers.calls kj244 a0_0 a0_1 a0_2 a0_3 t334 t335 a1_0 a1_1 true _ A284.out).mono ?_); rintro e w404 ⟨rfl, hb⟩; refine ⟨_, rfl, ?_⟩; have n0_ := Aside0.mk (blk_below (g := gb311) (o := .cells #[.string a0_0, .int .i64 a0_1, .int .i64 a0_2, .int .i64 a0_3] 23 (0, 0)) (by (with_reducible repeat first | refine bN ?_ _ | refine bD ?_ | refine bA ?_ _); refine blk_far ?_ NB311_336.out _; (with_reducible repeat first | refine bN ?_ _ | refine bD ?_ | refine bA ?_ _); refine blk_far ?_ NB311_336.out _; (with_reducible repeat first | refine bN ?_ _ | refine bD ?_ | refine bA ?_ _); exact BK311.out) hb); have n1_ := Aside0.mk (blk_below (g := gb312) (o := .cells #[.int .i64 a1_0, .int .i64 a1_1] 25 (0, 0)) (by (with_reducible repeat first | refine bN ?_ _ | refine bD ?_ | refine bA ?_ _); refine blk_far ?_ NB312_336.out _; (with_reducible repeat first | refine bN ?_ _ | refine bD ?_ | refine bA ?_ _); refine blk_far ?_ NB312_336.out _; (with_reducible repeat first | refine bN ?_ _ | refine bD ?_ | refine bA ?_ _); exact BK312.out) hb); have n2_ := Aside0.mk (blk_below (g := gb313) (o := .cells #[.int .i64 a2_0, .int .i64 a2_1] 25 (0, 0)) (by (with_reducible repeat first | refine bN ?_ _ | refine bD ?_ | refine bA ?_ _); refine blk_far ?_ NB313_336.out _; (with_reducible repeat first | refine bN ?_ _ | refine bD ?_ | refine bA ?_ _); refine blk_far ?_ NB313_336.out _; (with_reducible repeat first | refine bN ?_ _ | refine bD ?_ | refine bA ?_ _); exact BK313.out) hb); have n3_ := Aside0.mk (blk_below (g := gb314) (o := .cells #[.int .i64 a3_0, .int .i64 a3_1] 25 (0, 0)) (by (with_reducible repeat first | refine bN ?_ _ | refine bD ?_ | refine bA ?_ _); refine blk_far ?_ NB314_336.out _; (with_reducible repeat first | refine bN ?_ _ | refine bD ?_ | refine bA ?_ _); refine blk_far ?_ NB314_336.out _; (with_reducible repeat first | refine bN ?_ _ | refine bD ?_ | refine bA ?_ _); exact BK314.out) hb); have n4_ := Aside0.mk (blk_below (g := gb336) (o := .cells #[.int .i64 t334, .int .i64 t335] 25 (0, 0)) (by (with_reducible repeat first | refine bN ?_ _ | refine bD ?_ | refine bA ?_ _); refine blk_put (cs := #[.int .i64 t334, .int .i64 0]) ?_ 1 _ rfl; (with_reducible repeat first | refine bN ?_ _ | refine bD ?_ | refine bA ?_ _); refine blk_put (cs := #[.int .i64 0, .int .i64 0]) ?_ 0 _ rfl; (with_reducible repeat first | refine bN ?_ _ | refine bD ?_ | refine bA ?_ _); exact BK336.out) hb); have n5_ := Aside0.mk (below_step (by repeat (first | (with_reducible first | exact HB.out | apply below_alloc | apply pw_below_drewN | apply below_drew1 | refine below_set ?_ GE336.out) | exact HB.out)) hb); clear BK311 BK312 BK313 BK314 BK336 HB; have BK311 := n0_; have BK312 := n1_; have BK313 := n2_; have BK314 := n3_; have BK336 := n4_; have HB := n5_; clear n0_ n1_ n2_ n3_ n4_ n5_; (try clear hb); have hcz405_0 : w404.cell? ⟨gb311, 0, none⟩ = some (.string a0_0) := (blk_cell BK311.out 0).trans rfl; have hcz405_1 : w404.cell? ⟨gb311, 1, none⟩ = some (.int .i64 a0_1) := (blk_cell BK311.out 1).trans rfl; have hcz405_2 : w404.cell? ⟨gb311, 2, none⟩ = some (.int .i64 a0_2) := (blk_cell BK311.out 2).trans rfl; have hcz405_3 : w404.cell? ⟨gb311, 3, none⟩ = some (.int .i64 a0_3) := (blk_cell BK311.out 3).trans rfl; have hfz405_0 := blk_frozen BK311.out 0; have hfz405_1 := blk_frozen BK311.out 1; have hfz405_2 := blk_frozen BK311.out 2; have hfz405_3 := blk_frozen BK311.out 3; have hcz406_0 : w404.cell? ⟨gb336, 0, none⟩ = some (.int .i64 t334) := (blk_cell BK336.out 0).trans rfl; have hcz406_1 : w404.cell? ⟨gb336, 1, none⟩ = some (.int .i64 t335) := (blk_cell BK336.out 1).trans rfl; have hfz406_0 := blk_frozen BK336.out 0; have hfz406_1 := blk_frozen BK336.out 1; have hcz407_0 : w404.cell? ⟨gb313, 0, none⟩ = some (.int .i64 a2_0) := (blk_cell BK313.out 0).trans rfl; have hcz407_1 : w404.cell? ⟨gb313, 1, none⟩ = some (.int .i64 a2_1) := (blk_cell BK313.out 1).trans rfl; have hfz407_0 := blk_frozen BK313.out 0; have hfz407_1 := blk_frozen BK313.out 1) | (go_at_call 26; (with_reducible refine (amount_Covers.calls kj244 a0_0 a0_1 a0_2 a0_3 t334 t335 a2_0 a2_1 false _ A286.out).mono ?_); rintro e w408 ⟨rfl, hb⟩; have n0_ := blkB BK311 (by (with_reducible repeat first | refine bN ?_ _ | refine bD ?_ | refine bA ?_ _); exact BK311.out) hb; have n1_ := blkB BK312 (by (with_reducible repeat first | refine bN ?_ _ | refine bD ?_ | refine bA ?_ _); exact BK312.out) hb; have n2_ := blkB BK313 (by (with_reducible repeat first | refine bN ?_ _ | refine bD ?_ | refine bA ?_ _); exact BK313.out) hb; have n3_ := blkB BK314 (by (with_reducible repeat first | refine bN ?_ _ | refine bD ?_ | refine bA ?_ _); exact BK314.out) hb; have n4_ := blkB BK336 (by (with_reducible repeat first | refine bN ?_ _ | refine bD ?_ | refine bA ?_ _); exact BK336.out) hb; have n5_ := Aside0.mk (below_step (by repeat (first | (with_reducible first | exact HB.out | apply below_alloc | apply pw_below_drewN | apply below_drew1 | refine below_set ?_ GE336.out) | exact HB.out)) hb); clear BK311 BK312 BK313 BK314 BK336 HB; have BK311 := n0_; have BK312 := n1_; have BK313 := n2_; have BK314 := n3_; have BK336 := n4_; have HB := n5_; clear n0_ n1_ n2_ n3_ n4_ n5_; (try clear hb)))
            go_ret
            exact ⟨by first | rfl | (simp [errW_none, errW_some] <;> rfl) | (simp [*, errW_none, errW_some] <;> rfl), by repeat (first | (with_reducible first | exact HB.out | apply below_alloc | apply pw_below_drewN | apply below_drew1 | refine below_set ?_ GE336.out) | exact HB.out)⟩
          ·replace c285 := Bool.eq_false_iff.mpr c285
           subst c285
           have H1 : (some false) = some r := by rw [if_neg (show ¬ (false = true) by decide)] at H; exact H
           clear H
           have H := H1
           clear H1
           obtain rfl := Option.some.inj H
           have hnb409 := NB311_312.out
           have hnc409 := NB312_311.out
           have hnb410 := NB311_313.out
           have hnc410 := NB313_311.out
           have hnb411 := NB311_314.out
           have hnc411 := NB314_311.out
           have hcz412_0 : wc.cell? ⟨gb311, 0, none⟩ = some (.string a0_0) := (blk_cell BK311.out 0).trans rfl
           have hcz412_1 : wc.cell? ⟨gb311, 1, none⟩ = some (.int .i64 a0_1) := (blk_cell BK311.out 1).trans rfl
           have hcz412_2 : wc.cell? ⟨gb311, 2, none⟩ = some (.int .i64 a0_2) := (blk_cell BK311.out 2).trans rfl
           have hcz412_3 : wc.cell? ⟨gb311, 3, none⟩ = some (.int .i64 a0_3) := (blk_cell BK311.out 3).trans rfl
           have hfz412_0 := blk_frozen BK311.out 0
           have hfz412_1 := blk_frozen BK311.out 1
           have hfz412_2 := blk_frozen BK311.out 2
           have hfz412_3 := blk_frozen BK311.out 3
           have hnb413 := NB312_313.out
           have hnc413 := NB313_312.out
           have hnb414 := NB312_314.out
           have hnc414 := NB314_312.out
           have hcz415_0 : wc.cell? ⟨gb312, 0, none⟩ = some (.int .i64 a1_0) := (blk_cell BK312.out 0).trans rfl
           have hcz415_1 : wc.cell? ⟨gb312, 1, none⟩ = some (.int .i64 a1_1) := (blk_cell BK312.out 1).trans rfl
           have hfz415_0 := blk_frozen BK312.out 0
           have hfz415_1 := blk_frozen BK312.out 1
           have hnb416 := NB313_314.out
           have hnc416 := NB314_313.out
           have hcz417_0 : wc.cell? ⟨gb313, 0, none⟩ = some (.int .i64 a2_0) := (blk_cell BK313.out 0).trans rfl
           have hcz417_1 : wc.cell? ⟨gb313, 1, none⟩ = some (.int .i64 a2_1) := (blk_cell BK313.out 1).trans rfl
           have hfz417_0 := blk_frozen BK313.out 0
           have hfz417_1 := blk_frozen BK313.out 1
           go_wp2_with (first | ((with_reducible refine gate_callee (f := 22) rfl ?_); refine goesL_ (some 74) rfl rfl Tryd.func22 (by kernel_rfl) rfl #[.agg #[.string a0_0, .int .i64 a0_1, .int .i64 a0_2, .int .i64 a0_3], .agg #[.int .i64 a1_0, .int .i64 a1_1], .agg #[.int .i64 a2_0, .int .i64 a2_1]] rfl (by (try simp only [List.map_toArray, List.map_cons, List.map_nil]); first | done | rfl | (simp only [List.length_drop, List.length_take]; rfl)) ?_; (with_reducible refine (amount_Join.calls kj244 a0_0 a0_1 a0_2 a0_3 a1_0 a1_1 a2_0 a2_1 t334 t335 _ A283.out).mono ?_); rintro e w418 ⟨rfl, hb⟩; refine ⟨_, rfl, ?_⟩; have n0_ := blkB BK311 (by (with_reducible repeat first | refine bN ?_ _ | refine bD ?_ | refine bA ?_ _); exact BK311.out) hb; have n1_ := blkB BK312 (by (with_reducible repeat first | refine bN ?_ _ | refine bD ?_ | refine bA ?_ _); exact BK312.out) hb; have n2_ := blkB BK313 (by (with_reducible repeat first | refine bN ?_ _ | refine bD ?_ | refine bA ?_ _); exact BK313.out) hb; have n3_ := blkB BK314 (by (with_reducible repeat first | refine bN ?_ _ | refine bD ?_ | refine bA ?_ _); exact BK314.out) hb; have n4_ := Aside0.mk (below_step (by repeat (first | (with_reducible first | exact HB.out | apply below_alloc | apply pw_below_drewN | apply below_drew1) | exact HB.out)) hb); clear BK311 BK312 BK313 BK314 HB; have BK311 := n0_; have BK312 := n1_; have BK313 := n2_; have BK314 := n3_; have HB := n4_; clear n0_ n1_ n2_ n3_ n4_; (try clear hb)) | ((with_reducible refine gate_dst (N := 9) rfl ?_); refine box_event ?hg (N := 9) ?hd (cs := #[.int .i64 0, .int .i64 0]) (t := 25) ?hr ?_; (case hd => rfl); (case hg => rfl); (case hr => first | (go_simp; done) | (go_simp; rfl)); intro gb336 hg w419 hbox hb; have n0_ := blkB BK311 (by (with_reducible repeat first | refine bN ?_ _ | refine bD ?_ | refine bA ?_ _); exact BK311.out) hb; have n1_ := blkB BK312 (by (with_reducible repeat first | refine bN ?_ _ | refine bD ?_ | refine bA ?_ _); exact BK312.out) hb; have n2_ := blkB BK313 (by (with_reducible repeat first | refine bN ?_ _ | refine bD ?_ | refine bA ?_ _); exact BK313.out) hb; have n3_ := blkB BK314 (by (with_reducible repeat first | refine bN ?_ _ | refine bD ?_ | refine bA ?_ _); exact BK314.out) hb; have n4_ := Aside0.mk (below_step (by repeat (first | (with_reducible first | exact HB.out | apply below_alloc | apply pw_below_drewN | apply below_drew1) | exact HB.out)) hb); have n5_ := Aside0.mk (hbox); have n6_ := Aside0.mk ((by rw [hg]; exact (below_size (by repeat (first | (with_reducible first | exact HB.out | apply below_alloc | apply pw_below_drewN | apply below_drew1) | exact HB.out))) : w.heap.size ≤ gb336)); have n7_ := n6_; have n8_ := Aside0.mk ((by rw [hg]; exact Nat.ne_of_lt (blkLt BK311 (by (with_reducible repeat first | refine bN ?_ _ | refine bD ?_ | refine bA ?_ _); exact BK311.out)) : gb311 ≠ gb336)); have n9_ := Aside0.mk n8_.out.symm; have n10_ := Aside0.mk ((by rw [hg]; exact Nat.ne_of_lt (blkLt BK312 (by (with_reducible repeat first | refine bN ?_ _ | refine bD ?_ | refine bA ?_ _); exact BK312.out)) : gb312 ≠ gb336)); have n11_ := Aside0.mk n10_.out.symm; have n12_ := Aside0.mk ((by rw [hg]; exact Nat.ne_of_lt (blkLt BK313 (by (with_reducible repeat first | refine bN ?_ _ | refine bD ?_ | refine bA ?_ _); exact BK313.out)) : gb313 ≠ gb336)); have n13_ := Aside0.mk n12_.out.symm; have n14_ := Aside0.mk ((by rw [hg]; exact Nat.ne_of_lt (blkLt BK314 (by (with_reducible repeat first | refine bN ?_ _ | refine bD ?_ | refine bA ?_ _); exact BK314.out)) : gb314 ≠ gb336)); have n15_ := Aside0.mk n14_.out.symm; clear BK311 BK312 BK313 BK314 HB; have BK311 := n0_; have BK312 := n1_; have BK313 := n2_; have BK314 := n3_; have HB := n4_; have BK336 := n5_; have GW336 := n6_; have GE336 := n7_; have NB311_336 := n8_; have NB336_311 := n9_; have NB312_336 := n10_; have NB336_312 := n11_; have NB313_336 := n12_; have NB336_313 := n13_; have NB314_336 := n14_; have NB336_314 := n15_; clear n0_ n1_ n2_ n3_ n4_ n5_ n6_ n7_ n8_ n9_ n10_ n11_ n12_ n13_ n14_ n15_; clear hb hbox hg; have hnb420 := NB336_311.out; have hnc420 := NB311_336.out; have hnb421 := NB336_312.out; have hnc421 := NB312_336.out; have hnb422 := NB336_313.out; have hnc422 := NB313_336.out; have hnb423 := NB336_314.out; have hnc423 := NB314_336.out; have hcz424_0 : w419.cell? ⟨gb336, 0, none⟩ = some (.int .i64 0) := (blk_cell BK336.out 0).trans rfl; have hcz424_1 : w419.cell? ⟨gb336, 1, none⟩ = some (.int .i64 0) := (blk_cell BK336.out 1).trans rfl; have hfz424_0 := blk_frozen BK336.out 0; have hfz424_1 := blk_frozen BK336.out 1; have hcz425_0 : w419.cell? ⟨gb311, 0, none⟩ = some (.string a0_0) := (blk_cell BK311.out 0).trans rfl; have hcz425_1 : w419.cell? ⟨gb311, 1, none⟩ = some (.int .i64 a0_1) := (blk_cell BK311.out 1).trans rfl; have hcz425_2 : w419.cell? ⟨gb311, 2, none⟩ = some (.int .i64 a0_2) := (blk_cell BK311.out 2).trans rfl; have hcz425_3 : w419.cell? ⟨gb311, 3, none⟩ = some (.int .i64 a0_3) := (blk_cell BK311.out 3).trans rfl; have hfz425_0 := blk_frozen BK311.out 0; have hfz425_1 := blk_frozen BK311.out 1; have hfz425_2 := blk_frozen BK311.out 2; have hfz425_3 := blk_frozen BK311.out 3; have hcz426_0 : w419.cell? ⟨gb312, 0, none⟩ = some (.int .i64 a1_0) := (blk_cell BK312.out 0).trans rfl; have hcz426_1 : w419.cell? ⟨gb312, 1, none⟩ = some (.int .i64 a1_1) := (blk_cell BK312.out 1).trans rfl; have hfz426_0 := blk_frozen BK312.out 0; have hfz426_1 := blk_frozen BK312.out 1) | ((with_reducible refine gate_callee (f := 26) rfl ?_); refine goesL_ (some 78) rfl rfl Tryd.func26 (by kernel_rfl) rfl #[.agg #[.string a0_0, .int .i64 a0_1, .int .i64 a0_2, .int .i64 a0_3], .agg #[.int .i64 t334, .int .i64 t335], .agg #[.int .i64 a1_0, .int .i64 a1_1]] rfl (by (try simp only [List.map_toArray, List.map_cons, List.map_nil]); first | done | rfl | (simp only [List.length_drop, List.length_take]; rfl)) ?_; (with_reducible refine (amount_Covers.calls kj244 a0_0 a0_1 a0_2 a0_3 t334 t335 a1_0 a1_1 false _ A284.out).mono ?_); rintro e w427 ⟨rfl, hb⟩; refine ⟨_, rfl, ?_⟩; have n0_ := Aside0.mk (blk_below (g := gb311) (o := .cells #[.string a0_0, .int .i64 a0_1, .int .i64 a0_2, .int .i64 a0_3] 23 (0, 0)) (by (with_reducible repeat first | refine bN ?_ _ | refine bD ?_ | refine bA ?_ _); refine blk_far ?_ NB311_336.out _; (with_reducible repeat first | refine bN ?_ _ | refine bD ?_ | refine bA ?_ _); refine blk_far ?_ NB311_336.out _; (with_reducible repeat first | refine bN ?_ _ | refine bD ?_ | refine bA ?_ _); exact BK311.out) hb); have n1_ := Aside0.mk (blk_below (g := gb312) (o := .cells #[.int .i64 a1_0, .int .i64 a1_1] 25 (0, 0)) (by (with_reducible repeat first | refine bN ?_ _ | refine bD ?_ | refine bA ?_ _); refine blk_far ?_ NB312_336.out _; (with_reducible repeat first | refine bN ?_ _ | refine bD ?_ | refine bA ?_ _); refine blk_far ?_ NB312_336.out _; (with_reducible repeat first | refine bN ?_ _ | refine bD ?_ | refine bA ?_ _); exact BK312.out) hb); have n2_ := Aside0.mk (blk_below (g := gb313) (o := .cells #[.int .i64 a2_0, .int .i64 a2_1] 25 (0, 0)) (by (with_reducible repeat first | refine bN ?_ _ | refine bD ?_ | refine bA ?_ _); refine blk_far ?_ NB313_336.out _; (with_reducible repeat first | refine bN ?_ _ | refine bD ?_ | refine bA ?_ _); refine blk_far ?_ NB313_336.out _; (with_reducible repeat first | refine bN ?_ _ | refine bD ?_ | refine bA ?_ _); exact BK313.out) hb); have n3_ := Aside0.mk (blk_below (g := gb314) (o := .cells #[.int .i64 a3_0, .int .i64 a3_1] 25 (0, 0)) (by (with_reducible repeat first | refine bN ?_ _ | refine bD ?_ | refine bA ?_ _); refine blk_far ?_ NB314_336.out _; (with_reducible repeat first | refine bN ?_ _ | refine bD ?_ | refine bA ?_ _); refine blk_far ?_ NB314_336.out _; (with_reducible repeat first | refine bN ?_ _ | refine bD ?_ | refine bA ?_ _); exact BK314.out) hb); have n4_ := Aside0.mk (blk_below (g := gb336) (o := .cells #[.int .i64 t334, .int .i64 t335] 25 (0, 0)) (by (with_reducible repeat first | refine bN ?_ _ | refine bD ?_ | refine bA ?_ _); refine blk_put (cs := #[.int .i64 t334, .int .i64 0]) ?_ 1 _ rfl; (with_reducible repeat first | refine bN ?_ _ | refine bD ?_ | refine bA ?_ _); refine blk_put (cs := #[.int .i64 0, .int .i64 0]) ?_ 0 _ rfl; (with_reducible repeat first | refine bN ?_ _ | refine bD ?_ | refine bA ?_ _); exact BK336.out) hb); have n5_ := Aside0.mk (below_step (by repeat (first | (with_reducible first | exact HB.out | apply below_alloc | apply pw_below_drewN | apply below_drew1 | refine below_set ?_ GE336.out) | exact HB.out)) hb); clear BK311 BK312 BK313 BK314 BK336 HB; have BK311 := n0_; have BK312 := n1_; have BK313 := n2_; have BK314 := n3_; have BK336 := n4_; have HB := n5_; clear n0_ n1_ n2_ n3_ n4_ n5_; (try clear hb)))
           go_ret
           exact ⟨by first | rfl | (simp [errW_none, errW_some] <;> rfl) | (simp [*, errW_none, errW_some] <;> rfl), by repeat (first | (with_reducible first | exact HB.out | apply below_alloc | apply pw_below_drewN | apply below_drew1 | refine below_set ?_ GE336.out) | exact HB.out)⟩

end Go.Proofs.YtlkhdhjdcgiciaaDoor.PA
