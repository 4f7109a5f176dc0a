-- Printed by wip/tool/myprint.py for this claim; Lean checks it.
import Derived.Test.YtnmemkphfgdplaaDoorPAx0
import Derived.Test.YtnmemkphfgdplaaDoorSlim
import Derived.Test.YtnmemkphfgdplaaDoorPAx6
import Derived.Test.YtnmemkphfgdplaaDoorPAx9
import Derived.Test.YtnmemkphfgdplaaDoorPAx14
import Derived.Test.YtnmemkphfgdplaaDoorPAx17
import Derived.Test.YtnmemkphfgdplaaDoorPAx19
import Derived.Test.YtnmemkphfgdplaaDoorGL
import Derived.IntWalk
import Derived.Test.YtnmemkphfgdplaaDoorT7
import Derived.Test.YtnmemkphfgdplaaDoorPAxT
import Derived.Test.YtnmemkphfgdplaaDoorPAx10
import Derived.Test.YtnmemkphfgdplaaDoorPAx12
import Derived.Test.YtnmemkphfgdplaaDoorPAx4
import Derived.Test.YtnmemkphfgdplaaDoorPAx5
namespace Go.Proofs.YtnmemkphfgdplaaDoor.PA
open Go.RowKit Go.Proofs.YtnmemkphfgdplaaDoorW.PrintWords Go.Proofs.YtnmemkphfgdplaaDoorW.PrintLast Go.Proofs.YtnmemkphfgdplaaDoorW.PrintMore
attribute [local go_sem] max2_int min2_int max_two min_two max_three min_three max_four min_four   -- for this text's walks alone
set_option linter.unusedVariables false
set_option linter.unusedSimpArgs false

attribute [local go_sem high] eqA26
/-! ### clusterlockslaw10_HoldersValid: function 10 -/
def clusterlockslaw10_HoldersValid.f (k : Nat) (a0_0 : ByteArray) (a0_1 : Int) (a0_2 : Int) (a0_3 : Int) (l1 : List (S53)) (a2_0 : Int) (a2_1 : Int) (a2_2 : Int) : Option (Bool) := if (l1.length : Int) > 100 then ((clusterlockslaw10_awake.f k).bind fun t374 => (some t374)) else ((clusterlockslaw10_awake.f k).bind fun t375 => (if t375 = true then ((holders_Valid.f k a0_0 a0_1 a0_2 a0_3 l1).bind fun t376 => ((clusterlocksref10_Valid.f k a0_0 a0_1 a0_2 a0_3 l1).bind fun t377 => (if (t376 == t377) = true then ((holders_Get.f k l1 a2_0 a2_1 a2_2).bind fun bt378 => ((clusterlocksref10_Get.f k l1 a2_0 a2_1 a2_2).bind fun bt380 => (if (bt378.1 == bt380.1 && (bt378.2 == bt380.2)) = true then ((holders_Procs.f k l1).bind fun t382 => ((clusterlocksref10_Procs.f k l1).bind fun t385 => ((clusterlocksref02_SameProcs.f k t382 t385).bind fun t388 => (some t388)))) else (some false)))) else (some false)))) else (some false)))
theorem clusterlockslaw10_HoldersValid.mono : ∀ a0 a1 a2 a3 a4 a5 a6 a7 k, LeO (clusterlockslaw10_HoldersValid.f k a0 a1 a2 a3 a4 a5 a6 a7) (clusterlockslaw10_HoldersValid.f (k + 1) a0 a1 a2 a3 a4 a5 a6 a7) := by
 intro a0 a1 a2 a3 a4 a5 a6 a7 k
 unfold clusterlockslaw10_HoldersValid.f
 repeat' first
   | (with_reducible exact clusterlockslaw10_awake.mono _)
   | (with_reducible exact clusterlocksref02_SameProcs.mono _ _ _)
   | (with_reducible exact clusterlocksref10_Get.mono _ _ _ _ _)
   | (with_reducible exact clusterlocksref10_Procs.mono _ _)
   | (with_reducible exact clusterlocksref10_Valid.mono _ _ _ _ _ _)
   | (with_reducible exact holders_Get.mono _ _ _ _ _)
   | (with_reducible exact holders_Procs.mono _ _)
   | (with_reducible exact holders_Valid.mono _ _ _ _ _ _)
   | (with_reducible exact LeO.refl _)
   | (with_reducible exact LeO.none _)
   | (with_reducible refine LeO.ite ?_ ?_)
   | (with_reducible refine LeO.bind ?_ (fun _ => ?_))
   | exact clusterlockslaw10_awake.mono _
   | exact clusterlocksref02_SameProcs.mono _ _ _
   | exact clusterlocksref10_Get.mono _ _ _ _ _
   | exact clusterlocksref10_Procs.mono _ _
   | exact clusterlocksref10_Valid.mono _ _ _ _ _ _
   | exact holders_Get.mono _ _ _ _ _
   | exact holders_Procs.mono _ _
   | exact holders_Valid.mono _ _ _ _ _ _
   | exact LeO.none _
   | refine LeO.ite ?_ ?_
   | refine LeO.bind ?_ (fun _ => ?_)
def clusterlockslaw10_HoldersValid.T3 : Bool × List (List Nat × List Nat) := (true, [([], []), ([0, 0], [0]), ([1], [1]), ([1], [1]), ([2, 3, 1, 1], [1, 2, 3]), ([1], [1]), ([1], [1]), ([5, 6, 4, 1], [1, 5, 6]), ([4, 7, 1], [1, 4, 7]), ([1, 8], [1, 8]), ([9, 7], [9]), ([10], [10]), ([10], [10]), ([11, 12, 10, 10], [10, 11, 12]), ([10], [10]), ([10], [10]), ([14, 15, 13, 10], [10, 14, 15]), ([13, 16, 10], [10, 13, 16]), ([10, 17], [10, 17]), ([18, 16], [18]), ([19], [19]), ([20, 19, 19], [19, 20]), ([19], [19]), ([22, 21, 19], [19, 22]), ([21, 23, 23, 19], [19, 21, 23]), ([19, 24], [19, 24]), ([25, 24, 0, 1, 2, 3, 4, 5, 6, 7, 8, 9, 10, 11, 12, 13, 14, 15, 16, 17, 18, 19, 20, 21, 22, 23, 24, 25], [25])])
def clusterlockslaw10_HoldersValid.B3 : List Nat := [0, 1, 3, 3, 15, 3, 3, 127, 255, 511, 1023, 2047, 2047, 8191, 2047, 2047, 65535, 131071, 262143, 524287, 1048575, 2097151, 1048575, 8388607, 16777215, 33554431, 67108863]
theorem clusterlockslaw10_HoldersValid.tab3 : rtab .any (opsOf Tryd.f10 3) = clusterlockslaw10_HoldersValid.T3 := by kernel_rfl
theorem clusterlockslaw10_HoldersValid.bits3 : waitsOk clusterlockslaw10_HoldersValid.T3.2 clusterlockslaw10_HoldersValid.B3 = true := by kernel_rfl
set_option maxHeartbeats 8000000 in
set_option maxRecDepth 100000 in
theorem clusterlockslaw10_HoldersValid.calls (k : Nat) (a0_0 : ByteArray) (a0_1 : Int) (a0_2 : Int) (a0_3 : Int) (A1 : Option Addr) (c1 : Nat) (l1 : List (S53)) (a2_0 : Int) (a2_1 : Int) (a2_2 : Int) (r : Bool) (w : World) (hr1 : Kd.C k53 w A1 l1.length l1) (hc1 : l1.length ≤ c1) (hG : GL w) (h : clusterlockslaw10_HoldersValid.f k a0_0 a0_1 a0_2 a0_3 l1 a2_0 a2_1 a2_2 = some r) :
  Calls Tryd.prog 10 #[.agg #[.string a0_0, .int .i64 a0_1, .int .i64 a0_2, .int .i64 a0_3], .slice A1 l1.length c1, .agg #[.int .i64 a2_0, .int .i64 a2_1, .int .i64 a2_2]] w fun e w' => e = .returned (.bool r) ∧ Below w.heap.size w w' := by
 have hu32 := Tryd.underlying32
 have hu24 := Tryd.underlying24
 have HG := Aside0.mk hG
 clear hG
 have HR1 := Aside0.mk hr1
 have HC1 := Aside0.mk hc1
 clear hr1 hc1
 have HB := Aside0.mk (Below.refl w.heap.size w)
 have H : (if (l1.length : Int) > 100 then ((clusterlockslaw10_awake.f k).bind fun t374 => (some t374)) else ((clusterlockslaw10_awake.f k).bind fun t375 => (if t375 = true then ((holders_Valid.f k a0_0 a0_1 a0_2 a0_3 l1).bind fun t376 => ((clusterlocksref10_Valid.f k a0_0 a0_1 a0_2 a0_3 l1).bind fun t377 => (if (t376 == t377) = true then ((holders_Get.f k l1 a2_0 a2_1 a2_2).bind fun bt378 => ((clusterlocksref10_Get.f k l1 a2_0 a2_1 a2_2).bind fun bt380 => (if (bt378.1 == bt380.1 && (bt378.2 == bt380.2)) = true then ((holders_Procs.f k l1).bind fun t382 => ((clusterlocksref10_Procs.f k l1).bind fun t385 => ((clusterlocksref02_SameProcs.f k t382 t385).bind fun t388 => (some t388)))) else (some false)))) else (some false)))) else (some false)))) = some r := h
 clear h
 by_cases c4 : (l1.length : Int) > 100
 ·rw [if_pos c4] at H
  have c4b0 : decide (100 < (l1.length : Int)) = true := decide_eq_true c4
  have c4b1 : decide (100 < l1.length) = true := decide_eq_true (by omega)
  clear c4
  obtain ⟨t374, A50, H⟩ := Option.bind_eq_some_iff.mp H
  have A5 := Aside0.mk A50; clear A50
  obtain rfl := Option.some.inj H
  go_enter Tryd.func10, Tryd.ntmps10
  go_wp2_with (first | ((with_reducible refine gate_dst (N := 3) rfl ?_); refine box_event ?hg (N := 3) ?hd (cs := #[.string a0_0, .int .i64 a0_1, .int .i64 a0_2, .int .i64 a0_3]) (t := 32) ?hr ?_; (case hd => rfl); (case hg => rfl); (case hr => first | (go_simp; done) | (go_simp; rfl)); intro gb372 hg w6 hbox hb; have n0_ := Aside0.mk (below_step (uB HB) hb); have n1_ := Aside0.mk (hbox); have n2_ := Aside0.mk ((by rw [hg]; exact (below_size (uB HB)) : w.heap.size ≤ gb372)); have n3_ := n2_; clear HB; have HB := n0_; have BK372 := n1_; have GW372 := n2_; have GE372 := n3_; clear n0_ n1_ n2_ n3_; clear hb hbox hg) | ((with_reducible refine gate_dst (N := 5) rfl ?_); refine box_event ?hg (N := 5) ?hd (cs := #[.int .i64 a2_0, .int .i64 a2_1, .int .i64 a2_2]) (t := 24) ?hr ?_; (case hd => rfl); (case hg => rfl); (case hr => first | (go_simp; done) | (go_simp; rfl)); intro gb373 hg w7 hbox hb; have n0_ := bK BK372 hb; have n1_ := Aside0.mk (below_step (uB HB) hb); have n2_ := Aside0.mk (hbox); have n3_ := Aside0.mk ((by rw [hg]; exact (below_size (uB HB)) : w.heap.size ≤ gb373)); have n4_ := n3_; have n5_ := Aside0.mk ((by rw [hg]; exact Nat.ne_of_lt (blkLt BK372 (uK BK372)) : gb372 ≠ gb373)); have n6_ := Aside0.mk n5_.out.symm; clear BK372 HB; have BK372 := n0_; have HB := n1_; have BK373 := n2_; have GW373 := n3_; have GE373 := n4_; have NB372_373 := n5_; have NB373_372 := n6_; clear n0_ n1_ n2_ n3_ n4_ n5_ n6_; clear hb hbox hg) | ((with_reducible refine gate_callee (f := 11) rfl ?_); refine goesL_ (some 10) rfl rfl Tryd.func11 (by kernel_rfl) rfl #[] rfl (by (try simp only [List.map_toArray, List.map_cons, List.map_nil]); first | done | rfl | (simp only [List.length_drop, List.length_take]; rfl)) ?_; (with_reducible refine (clusterlockslaw10_awake.calls k  t374 _ ?side1 A5.out).mono ?_); (case side1 => exact GL.below HG.out (uB HB)); rintro e w8 ⟨rfl, hb⟩; refine ⟨_, rfl, ?_⟩; have n0_ := bK BK372 hb; have n1_ := bK BK373 hb; have n2_ := Aside0.mk (below_step (uB HB) hb); clear BK372 BK373 HB; have BK372 := n0_; have BK373 := n1_; have HB := n2_; clear n0_ n1_ n2_; (try clear hb)))
  go_ret
  exact ⟨by first | rfl | (simp [errW_none, errW_some] <;> rfl) | (simp [*, errW_none, errW_some] <;> rfl), by repeat (first | (with_reducible first | exact HB.out | apply bL | apply bM | apply bR) | exact HB.out)⟩
 ·rw [if_neg c4] at H
  have c4b0 : decide (100 < (l1.length : Int)) = false := decide_eq_false c4
  have c4b1 : decide (100 < l1.length) = false := decide_eq_false (by omega)
  clear c4
  obtain ⟨t375, A90, H⟩ := Option.bind_eq_some_iff.mp H
  have A9 := Aside0.mk A90; clear A90
  by_cases c10 : t375 = true
  ·subst c10
   rw [if_pos rfl] at H
   obtain ⟨t376, A110, H⟩ := Option.bind_eq_some_iff.mp H
   have A11 := Aside0.mk A110; clear A110
   obtain ⟨t377, A120, H⟩ := Option.bind_eq_some_iff.mp H
   have A12 := Aside0.mk A120; clear A120
   by_cases c13 : (t376 == t377) = true
   ·rw [if_pos c13] at H
    have c13b0 : (t376 == t377) = true := c13
    (try (have c13b1 : decide (t376 = t377) = true := by simpa using c13))
    (try (have c13b2 : (t376 == t377) = true := by simpa using c13))
    clear c13
    replace H := Option.bind_eq_some_iff.mp H
    obtain ⟨⟨t378, t379⟩, A140, H⟩ := H
    replace H : ((clusterlocksref10_Get.f k l1 a2_0 a2_1 a2_2).bind fun bt380 => (if (t378 == bt380.1 && (t379 == bt380.2)) = true then ((holders_Procs.f k l1).bind fun t382 => ((clusterlocksref10_Procs.f k l1).bind fun t385 => ((clusterlocksref02_SameProcs.f k t382 t385).bind fun t388 => (some t388)))) else (some false))) = some r := H
    have A14 := Aside0.mk A140; clear A140
    replace H := Option.bind_eq_some_iff.mp H
    obtain ⟨⟨t380, t381⟩, A150, H⟩ := H
    replace H : (if (t378 == t380 && (t379 == t381)) = true then ((holders_Procs.f k l1).bind fun t382 => ((clusterlocksref10_Procs.f k l1).bind fun t385 => ((clusterlocksref02_SameProcs.f k t382 t385).bind fun t388 => (some t388)))) else (some false)) = some r := H
    have A15 := Aside0.mk A150; clear A150
    by_cases c16 : (t378 == t380 && (t379 == t381)) = true
    ·rw [if_pos c16] at H
     have c16b0 : (t378 == t380 && (t379 == t381)) = true := c16
     (try (have c16b1 : decide (t378 = t380 && (t379 == t381)) = true := by simpa using c16))
     (try (have c16b2 : (t378 == t380 && (t379 == t381)) = true := by simpa using c16))
     clear c16
     obtain ⟨t382, A170, H⟩ := Option.bind_eq_some_iff.mp H
     have A17 := Aside0.mk A170; clear A170
     obtain ⟨t385, A180, H⟩ := Option.bind_eq_some_iff.mp H
     have A18 := Aside0.mk A180; clear A180
     obtain ⟨t388, A190, H⟩ := Option.bind_eq_some_iff.mp H
     have A19 := Aside0.mk A190; clear A190
     obtain rfl := Option.some.inj H
     go_enter Tryd.func10, Tryd.ntmps10
     try go_wp2_with (first | ((with_reducible refine gate_dst (N := 3) rfl ?_); refine box_event ?hg (N := 3) ?hd (cs := #[.string a0_0, .int .i64 a0_1, .int .i64 a0_2, .int .i64 a0_3]) (t := 32) ?hr ?_; (case hd => rfl); (case hg => rfl); (case hr => first | (go_simp; done) | (go_simp; rfl)); intro gb372 hg w20 hbox hb; have n0_ := Aside0.mk (below_step (uB HB) hb); have n1_ := Aside0.mk (hbox); have n2_ := Aside0.mk ((by rw [hg]; exact (below_size (uB HB)) : w.heap.size ≤ gb372)); have n3_ := n2_; clear HB; have HB := n0_; have BK372 := n1_; have GW372 := n2_; have GE372 := n3_; clear n0_ n1_ n2_ n3_; clear hb hbox hg) | ((with_reducible refine gate_dst (N := 5) rfl ?_); refine box_event ?hg (N := 5) ?hd (cs := #[.int .i64 a2_0, .int .i64 a2_1, .int .i64 a2_2]) (t := 24) ?hr ?_; (case hd => rfl); (case hg => rfl); (case hr => first | (go_simp; done) | (go_simp; rfl)); intro gb373 hg w21 hbox hb; have n0_ := bK BK372 hb; have n1_ := Aside0.mk (below_step (uB HB) hb); have n2_ := Aside0.mk (hbox); have n3_ := Aside0.mk ((by rw [hg]; exact (below_size (uB HB)) : w.heap.size ≤ gb373)); have n4_ := n3_; have n5_ := Aside0.mk ((by rw [hg]; exact Nat.ne_of_lt (blkLt BK372 (uK BK372)) : gb372 ≠ gb373)); have n6_ := Aside0.mk n5_.out.symm; clear BK372 HB; have BK372 := n0_; have HB := n1_; have BK373 := n2_; have GW373 := n3_; have GE373 := n4_; have NB372_373 := n5_; have NB373_372 := n6_; clear n0_ n1_ n2_ n3_ n4_ n5_ n6_; clear hb hbox hg))
     replace BK372 := Aside0.mk (blk_drew BK372.out)
     replace BK373 := Aside0.mk (blk_drew BK373.out)
     replace HB := Aside0.mk (below_drew1 HB.out)
     refine start_ (n := 27) (S := fun w' => w'.cell? ⟨gb372, 0, none⟩ = some (.string a0_0) ∧ w'.cell? ⟨gb372, 1, none⟩ = some (.int .i64 a0_1) ∧ w'.cell? ⟨gb372, 2, none⟩ = some (.int .i64 a0_2) ∧ w'.cell? ⟨gb372, 3, none⟩ = some (.int .i64 a0_3) ∧ w'.cell? ⟨gb373, 0, none⟩ = some (.int .i64 a2_0) ∧ w'.cell? ⟨gb373, 1, none⟩ = some (.int .i64 a2_1) ∧ w'.cell? ⟨gb373, 2, none⟩ = some (.int .i64 a2_2)) (ds := []) #[F,F,F,F,F,F,F,F,F,F,F,F,F,F,F,F,F,F,F,F,F,F,F,F,F,F,F] (by kernel_rfl) rfl rfl ⟨bC BK372 0 rfl, bC BK372 1 rfl, bC BK372 2 rfl, bC BK372 3 rfl, bC BK373 0 rfl, bC BK373 1 rfl, bC BK373 2 rfl⟩ (fun hHeld => ?_); refine with_tabW clusterlockslaw10_HoldersValid.tab3 clusterlockslaw10_HoldersValid.bits3 (fun HT_ HW_ => ?_)
     generalize w21.drew = w22 at BK372 BK373 HB hHeld ⊢
     refine one_ (i := 0) (N := some 11) #[T,F,F,F,F,F,F,F,F,F,F,F,F,F,F,F,F,F,F,F,F,F,F,F,F,F,F] rfl rfl (one_of HT_.out (by kernel_rfl)) (by decide) (fun K hK => ?_)
     refine goes_ Tryd.func11 (by kernel_rfl) rfl #[] (by rfl) rfl rfl (by (try simp only [List.map_toArray, List.map_cons, List.map_nil]); first | done | rfl | (simp only [List.length_drop, List.length_take]; rfl)) ?_
     with_reducible refine (clusterlockslaw10_awake.calls k  true _ ?side1 A9.out).mono ?_
     (case side1 => exact GL.below HG.out (uB HB))
     rintro e w23 ⟨rfl, hb⟩
     refine ⟨_, rfl, ?_⟩
     replace BK372 := bK BK372 hb
     replace BK373 := bK BK373 hb
     replace HB := Aside0.mk (below_step (uB HB) hb)
     (try clear hb)
     refine hK.out _ _ ⟨bC BK372 0 rfl, bC BK372 1 rfl, bC BK372 2 rfl, bC BK372 3 rfl, bC BK373 0 rfl, bC BK373 1 rfl, bC BK373 2 rfl⟩ (fun hHeld => ?_)
     clear hK K
     refine norm_ (a' := ?_) ?_ ?_
     rotate_left
     ·show Act.put _ (some 11) _ = _
      simp only [sP]
      rfl
     refine pu HT_ 1 12 #[T,T,F,F,F,F,F,F,F,F,F,F,F,F,F,F,F,F,F,F,F,F,F,F,F,F,F] rfl rfl (by kernel_rfl) (fun _ _ _ => id) (.inl ⟨by rfl, by intro w'; go_simp; with_reducible rfl⟩) (by simp only [sP]; rfl) ?_
     refine pu HT_ 3 14 #[T,T,F,T,F,F,F,F,F,F,F,F,F,F,F,F,F,F,F,F,F,F,F,F,F,F,F] rfl rfl (by kernel_rfl) (fun _ _ _ => id) (.inl ⟨by rfl, by intro w'; go_simp; with_reducible rfl⟩) (by simp only [sP]; rfl) ?_
     refine pu HT_ 6 17 #[T,T,F,T,F,F,T,F,F,F,F,F,F,F,F,F,F,F,F,F,F,F,F,F,F,F,F] rfl rfl (by kernel_rfl) (fun _ _ _ => id) (.inl ⟨by rfl, by intro w'; go_simp; with_reducible rfl⟩) (by simp only [sP]; rfl) ?_
     refine tk HT_ HW_ 2 13 #[T,T,T,T,F,F,T,F,F,F,F,F,F,F,F,F,F,F,F,F,F,F,F,F,F,F,F] rfl rfl (by kernel_rfl) (fun _ _ _ => id) (.inl ⟨by rfl, by rintro w' ⟨s0, s1, s2, s3, s4, s5, s6⟩; go_simp; with_reducible rfl⟩) hHeld (by simp only [sP]; rfl) ?_
     refine tk HT_ HW_ 5 16 #[T,T,T,T,F,T,T,F,F,F,F,F,F,F,F,F,F,F,F,F,F,F,F,F,F,F,F] rfl rfl (by kernel_rfl) (fun _ _ _ => id) (.inl ⟨by rfl, by rintro w' ⟨s0, s1, s2, s3, s4, s5, s6⟩; go_simp; with_reducible rfl⟩) hHeld (by simp only [sP]; rfl) ?_
     refine one_ (i := 4) (N := some 15) #[T,T,T,T,T,T,T,F,F,F,F,F,F,F,F,F,F,F,F,F,F,F,F,F,F,F,F] rfl rfl (one_of HT_.out (by kernel_rfl)) (by decide) (fun K hK => ?_)
     refine goes_ Tryd.func25 (by kernel_rfl) rfl #[.agg #[.string a0_0, .int .i64 a0_1, .int .i64 a0_2, .int .i64 a0_3], .slice A1 l1.length c1] (by rfl) rfl rfl (by (try simp only [List.map_toArray, List.map_cons, List.map_nil]); first | done | rfl | (simp only [List.length_drop, List.length_take]; rfl)) ?_
     with_reducible refine (holders_Valid.calls k a0_0 a0_1 a0_2 a0_3 _ _ l1 t376 _ ?side1 ?side2 ?side3 A11.out).mono ?_
     (case side1 => repeat (first | exact (Kd.C_below HR1.out HB.out) | (with_reducible refine Kd.C_alloc ?_ _) | (with_reducible refine Kd.C_drewN ?_ _) | (with_reducible refine Kd.C_drew ?_)))
     (case side2 => exact HC1.out)
     (case side3 => exact GL.below HG.out (uB HB))
     rintro e w24 ⟨rfl, hb⟩
     refine ⟨_, rfl, ?_⟩
     replace BK372 := bK BK372 hb
     replace BK373 := bK BK373 hb
     replace HB := Aside0.mk (below_step (uB HB) hb)
     (try clear hb)
     refine hK.out _ _ ⟨bC BK372 0 rfl, bC BK372 1 rfl, bC BK372 2 rfl, bC BK372 3 rfl, bC BK373 0 rfl, bC BK373 1 rfl, bC BK373 2 rfl⟩ (fun hHeld => ?_)
     clear hK K
     refine norm_ (a' := ?_) ?_ ?_
     rotate_left
     ·show Act.put _ (some 15) _ = _
      simp only [sP]
      rfl
     refine one_ (i := 7) (N := some 18) #[T,T,T,T,T,T,T,T,F,F,F,F,F,F,F,F,F,F,F,F,F,F,F,F,F,F,F] rfl rfl (one_of HT_.out (by kernel_rfl)) (by decide) (fun K hK => ?_)
     refine goes_ Tryd.func26 (by kernel_rfl) rfl #[.agg #[.string a0_0, .int .i64 a0_1, .int .i64 a0_2, .int .i64 a0_3], .slice A1 l1.length c1] (by rfl) rfl rfl (by (try simp only [List.map_toArray, List.map_cons, List.map_nil]); first | done | rfl | (simp only [List.length_drop, List.length_take]; rfl)) ?_
     with_reducible refine (clusterlocksref10_Valid.calls k a0_0 a0_1 a0_2 a0_3 _ _ l1 t377 _ ?side1 ?side2 A12.out).mono ?_
     (case side1 => repeat (first | exact (Kd.C_below HR1.out HB.out) | (with_reducible refine Kd.C_alloc ?_ _) | (with_reducible refine Kd.C_drewN ?_ _) | (with_reducible refine Kd.C_drew ?_)))
     (case side2 => exact HC1.out)
     rintro e w25 ⟨rfl, hb⟩
     refine ⟨_, rfl, ?_⟩
     replace BK372 := bK BK372 hb
     replace BK373 := bK BK373 hb
     replace HB := Aside0.mk (below_step (uB HB) hb)
     (try clear hb)
     refine hK.out _ _ ⟨bC BK372 0 rfl, bC BK372 1 rfl, bC BK372 2 rfl, bC BK372 3 rfl, bC BK373 0 rfl, bC BK373 1 rfl, bC BK373 2 rfl⟩ (fun hHeld => ?_)
     clear hK K
     refine norm_ (a' := ?_) ?_ ?_
     rotate_left
     ·show Act.put _ (some 18) _ = _
      simp only [sP]
      rfl
     refine pu HT_ 8 19 #[T,T,T,T,T,T,T,T,T,F,F,F,F,F,F,F,F,F,F,F,F,F,F,F,F,F,F] rfl rfl (by kernel_rfl) (fun _ _ _ => id) (.inl ⟨by rfl, by intro w'; go_simp; with_reducible rfl⟩) (by simp only [sP]; rfl) ?_
     refine pu HT_ 9 20 #[T,T,T,T,T,T,T,T,T,T,F,F,F,F,F,F,F,F,F,F,F,F,F,F,F,F,F] rfl rfl (by kernel_rfl) (fun _ _ _ => id) (.inl ⟨by rfl, by intro w'; go_simp; with_reducible rfl⟩) (by simp only [sP]; rfl) ?_
     refine pu HT_ 10 21 #[T,T,T,T,T,T,T,T,T,T,T,F,F,F,F,F,F,F,F,F,F,F,F,F,F,F,F] rfl rfl (by kernel_rfl) (fun _ _ _ => id) (.inl ⟨by rfl, by intro w'; go_simp; with_reducible rfl⟩) (by simp only [sP]; rfl) ?_
     refine pu HT_ 11 22 #[T,T,T,T,T,T,T,T,T,T,T,T,F,F,F,F,F,F,F,F,F,F,F,F,F,F,F] rfl rfl (by kernel_rfl) (fun _ _ _ => id) (.inl ⟨by rfl, by intro w'; go_simp; with_reducible rfl⟩) (by simp only [sP]; rfl) ?_
     refine pu HT_ 14 25 #[T,T,T,T,T,T,T,T,T,T,T,T,F,F,T,F,F,F,F,F,F,F,F,F,F,F,F] rfl rfl (by kernel_rfl) (fun _ _ _ => id) (.inl ⟨by rfl, by intro w'; go_simp; with_reducible rfl⟩) (by simp only [sP]; rfl) ?_
     refine tk HT_ HW_ 12 23 #[T,T,T,T,T,T,T,T,T,T,T,T,T,F,T,F,F,F,F,F,F,F,F,F,F,F,F] rfl rfl (by kernel_rfl) (fun _ _ _ => id) (.inl ⟨by rfl, by rintro w' ⟨s0, s1, s2, s3, s4, s5, s6⟩; go_simp; with_reducible rfl⟩) hHeld (by simp only [sP]; rfl) ?_
     refine tk HT_ HW_ 15 26 #[T,T,T,T,T,T,T,T,T,T,T,T,T,F,T,T,F,F,F,F,F,F,F,F,F,F,F] rfl rfl (by kernel_rfl) (fun _ _ _ => id) (.inl ⟨by rfl, by rintro w' ⟨s0, s1, s2, s3, s4, s5, s6⟩; go_simp; with_reducible rfl⟩) hHeld (by simp only [sP]; rfl) ?_
     refine one_ (i := 13) (N := some 24) #[T,T,T,T,T,T,T,T,T,T,T,T,T,T,T,T,F,F,F,F,F,F,F,F,F,F,F] rfl rfl (one_of HT_.out (by kernel_rfl)) (by decide) (fun K hK => ?_)
     refine goes_ Tryd.func27 (by kernel_rfl) rfl #[.slice A1 l1.length c1, .agg #[.int .i64 a2_0, .int .i64 a2_1, .int .i64 a2_2]] (by rfl) rfl rfl (by (try simp only [List.map_toArray, List.map_cons, List.map_nil]); first | done | rfl | (simp only [List.length_drop, List.length_take]; rfl)) ?_
     with_reducible refine (holders_Get.calls k _ _ l1 a2_0 a2_1 a2_2 t378 t379 _ ?side1 ?side2 A14.out).mono ?_
     (case side1 => repeat (first | exact (Kd.C_below HR1.out HB.out) | (with_reducible refine Kd.C_alloc ?_ _) | (with_reducible refine Kd.C_drewN ?_ _) | (with_reducible refine Kd.C_drew ?_)))
     (case side2 => exact HC1.out)
     rintro e w26 ⟨rfl, hb⟩
     refine ⟨_, rfl, ?_⟩
     replace BK372 := bK BK372 hb
     replace BK373 := bK BK373 hb
     replace HB := Aside0.mk (below_step (uB HB) hb)
     (try clear hb)
     refine hK.out _ _ ⟨bC BK372 0 rfl, bC BK372 1 rfl, bC BK372 2 rfl, bC BK372 3 rfl, bC BK373 0 rfl, bC BK373 1 rfl, bC BK373 2 rfl⟩ (fun hHeld => ?_)
     clear hK K
     refine norm_ (a' := ?_) ?_ ?_
     rotate_left
     ·show Act.put _ (some 24) _ = _
      simp only [sP]
      rfl
     refine one_ (i := 16) (N := some 27) #[T,T,T,T,T,T,T,T,T,T,T,T,T,T,T,T,T,F,F,F,F,F,F,F,F,F,F] rfl rfl (one_of HT_.out (by kernel_rfl)) (by decide) (fun K hK => ?_)
     refine goes_ Tryd.func29 (by kernel_rfl) rfl #[.slice A1 l1.length c1, .agg #[.int .i64 a2_0, .int .i64 a2_1, .int .i64 a2_2]] (by rfl) rfl rfl (by (try simp only [List.map_toArray, List.map_cons, List.map_nil]); first | done | rfl | (simp only [List.length_drop, List.length_take]; rfl)) ?_
     with_reducible refine (clusterlocksref10_Get.calls k _ _ l1 a2_0 a2_1 a2_2 t380 t381 _ ?side1 ?side2 A15.out).mono ?_
     (case side1 => repeat (first | exact (Kd.C_below HR1.out HB.out) | (with_reducible refine Kd.C_alloc ?_ _) | (with_reducible refine Kd.C_drewN ?_ _) | (with_reducible refine Kd.C_drew ?_)))
     (case side2 => exact HC1.out)
     rintro e w27 ⟨rfl, hb⟩
     refine ⟨_, rfl, ?_⟩
     replace BK372 := bK BK372 hb
     replace BK373 := bK BK373 hb
     replace HB := Aside0.mk (below_step (uB HB) hb)
     (try clear hb)
     refine hK.out _ _ ⟨bC BK372 0 rfl, bC BK372 1 rfl, bC BK372 2 rfl, bC BK372 3 rfl, bC BK373 0 rfl, bC BK373 1 rfl, bC BK373 2 rfl⟩ (fun hHeld => ?_)
     clear hK K
     refine norm_ (a' := ?_) ?_ ?_
     rotate_left
     ·show Act.put _ (some 27) _ = _
      simp only [sP]
      rfl
     refine pu HT_ 17 28 #[T,T,T,T,T,T,T,T,T,T,T,T,T,T,T,T,T,T,F,F,F,F,F,F,F,F,F] rfl rfl (by kernel_rfl) (fun _ _ _ => id) (.inl ⟨by rfl, by intro w'; go_simp; with_reducible rfl⟩) (by simp only [sP]; rfl) ?_
     refine pu HT_ 18 29 #[T,T,T,T,T,T,T,T,T,T,T,T,T,T,T,T,T,T,T,F,F,F,F,F,F,F,F] rfl rfl (by kernel_rfl) (fun _ _ _ => id) (.inl ⟨by rfl, by intro w'; go_simp; with_reducible rfl⟩) (by simp only [sP]; rfl) ?_
     refine pu HT_ 19 30 #[T,T,T,T,T,T,T,T,T,T,T,T,T,T,T,T,T,T,T,T,F,F,F,F,F,F,F] rfl rfl (by kernel_rfl) (fun _ _ _ => id) (.inl ⟨by rfl, by intro w'; go_simp; with_reducible rfl⟩) (by simp only [sP]; rfl) ?_
     refine pu HT_ 20 31 #[T,T,T,T,T,T,T,T,T,T,T,T,T,T,T,T,T,T,T,T,T,F,F,F,F,F,F] rfl rfl (by kernel_rfl) (fun _ _ _ => id) (.inl ⟨by rfl, by intro w'; go_simp; with_reducible rfl⟩) (by simp only [sP]; rfl) ?_
     refine pu HT_ 22 33 #[T,T,T,T,T,T,T,T,T,T,T,T,T,T,T,T,T,T,T,T,T,F,T,F,F,F,F] rfl rfl (by kernel_rfl) (fun _ _ _ => id) (.inl ⟨by rfl, by intro w'; go_simp; with_reducible rfl⟩) (by simp only [sP]; rfl) ?_
     refine one_ (i := 21) (N := some 32) #[T,T,T,T,T,T,T,T,T,T,T,T,T,T,T,T,T,T,T,T,T,T,T,F,F,F,F] rfl rfl (one_of HT_.out (by kernel_rfl)) (by decide) (fun K hK => ?_)
     refine goes_ Tryd.func30 (by kernel_rfl) rfl #[.slice A1 l1.length c1] (by rfl) rfl rfl (by (try simp only [List.map_toArray, List.map_cons, List.map_nil]); first | done | rfl | (simp only [List.length_drop, List.length_take]; rfl)) ?_
     with_reducible refine (holders_Procs.calls k _ _ l1 t382 _ ?side1 ?side2 A17.out).mono ?_
     (case side1 => repeat (first | exact (Kd.C_below HR1.out HB.out) | (with_reducible refine Kd.C_alloc ?_ _) | (with_reducible refine Kd.C_drewN ?_ _) | (with_reducible refine Kd.C_drew ?_)))
     (case side2 => exact HC1.out)
     rintro e w28 ⟨v383, rfl, ho0, hb⟩
     refine ⟨_, rfl, ?_⟩
     have HO384 := Aside0.mk (Kd.R_lower (Kd.R_newB ho0 (g := gb373) (o := .cells #[.int .i64 a2_0, .int .i64 a2_1, .int .i64 a2_2] 24 (0, 0)) (uK BK373)) (below_size (uB HB)))
     replace BK372 := bK BK372 hb
     replace BK373 := bK BK373 hb
     replace HB := Aside0.mk (below_step (uB HB) hb)
     (try clear hb)
     (try clear ho0)
     refine hK.out _ _ ⟨bC BK372 0 rfl, bC BK372 1 rfl, bC BK372 2 rfl, bC BK372 3 rfl, bC BK373 0 rfl, bC BK373 1 rfl, bC BK373 2 rfl⟩ (fun hHeld => ?_)
     clear hK K
     refine norm_ (a' := ?_) ?_ ?_
     rotate_left
     ·show Act.put _ (some 32) _ = _
      simp only [sP]
      rfl
     refine one_ (i := 23) (N := some 34) #[T,T,T,T,T,T,T,T,T,T,T,T,T,T,T,T,T,T,T,T,T,T,T,T,F,F,F] rfl rfl (one_of HT_.out (by kernel_rfl)) (by decide) (fun K hK => ?_)
     refine goes_ Tryd.func31 (by kernel_rfl) rfl #[.slice A1 l1.length c1] (by rfl) rfl rfl (by (try simp only [List.map_toArray, List.map_cons, List.map_nil]); first | done | rfl | (simp only [List.length_drop, List.length_take]; rfl)) ?_
     with_reducible refine (clusterlocksref10_Procs.calls k _ _ l1 t385 _ ?side1 ?side2 A18.out).mono ?_
     (case side1 => repeat (first | exact (Kd.C_below HR1.out HB.out) | (with_reducible refine Kd.C_alloc ?_ _) | (with_reducible refine Kd.C_drewN ?_ _) | (with_reducible refine Kd.C_drew ?_)))
     (case side2 => exact HC1.out)
     rintro e w29 ⟨v386, rfl, ho0, hb⟩
     refine ⟨_, rfl, ?_⟩
     have n0_ := Aside0.mk (Kd.R_elder' (by (with_reducible repeat (first | apply Kd.R_alloc | apply Kd.R_drewN | apply Kd.R_drew)); exact HO384.out) (Kd.R_base ho0) hb)
     have n1_ := Aside0.mk (Kd.R_lower (Kd.R_newB (Kd.R_new' ho0 (Kd.R_lt (by (with_reducible repeat (first | apply Kd.R_alloc | apply Kd.R_drewN | apply Kd.R_drew)); exact HO384.out))) (g := gb373) (o := .cells #[.int .i64 a2_0, .int .i64 a2_1, .int .i64 a2_2] 24 (0, 0)) (uK BK373)) (below_size (uB HB)))
     have n2_ := bK BK372 hb
     have n3_ := bK BK373 hb
     have n4_ := Aside0.mk (below_step (uB HB) hb)
     clear HO384
     clear BK372
     clear BK373
     clear HB
     have HO384 := n0_
     have HO387 := n1_
     have BK372 := n2_
     have BK373 := n3_
     have HB := n4_
     clear n0_ n1_ n2_ n3_ n4_
     (try clear hb)
     (try clear ho0)
     obtain ⟨Ao30, co30, eo30⟩ := Kd.R_slice HO384.out
     (first | subst eo30 | (injection eo30 with f1_ f2_ f3_; have f4_ := f1_.symm; have f5_ := f3_.symm; clear f1_ f2_ f3_; subst f4_; subst f5_))
     obtain ⟨Ao31, co31, eo31⟩ := Kd.R_slice HO387.out
     (first | subst eo31 | (injection eo31 with f1_ f2_ f3_; have f4_ := f1_.symm; have f5_ := f3_.symm; clear f1_ f2_ f3_; subst f4_; subst f5_))
     refine hK.out _ _ ⟨bC BK372 0 rfl, bC BK372 1 rfl, bC BK372 2 rfl, bC BK372 3 rfl, bC BK373 0 rfl, bC BK373 1 rfl, bC BK373 2 rfl⟩ (fun hHeld => ?_)
     clear hK K
     refine norm_ (a' := ?_) ?_ ?_
     rotate_left
     ·show Act.put _ (some 34) _ = _
      simp only [sP]
      rfl
     refine one_ (i := 24) (N := some 35) #[T,T,T,T,T,T,T,T,T,T,T,T,T,T,T,T,T,T,T,T,T,T,T,T,T,F,F] rfl rfl (one_of HT_.out (by kernel_rfl)) (by decide) (fun K hK => ?_)
     refine goes_ Tryd.func17 (by kernel_rfl) rfl #[.slice Ao30 t382.length co30, .slice Ao31 t385.length co31] (by rfl) rfl rfl (by (try simp only [List.map_toArray, List.map_cons, List.map_nil]); first | done | rfl | (simp only [List.length_drop, List.length_take]; rfl)) ?_
     with_reducible refine (clusterlocksref02_SameProcs.calls k _ _ t382 _ _ t385 t388 _ ?side1 ?side2 ?side3 ?side4 A19.out).mono ?_
     (case side1 => repeat (first | exact (Kd.R_reads' HO384.out).2.2 | (with_reducible refine Kd.C_alloc ?_ _) | (with_reducible refine Kd.C_drewN ?_ _) | (with_reducible refine Kd.C_drew ?_)))
     (case side2 => exact (Kd.R_reads' HO384.out).2.1)
     (case side3 => repeat (first | exact (Kd.R_reads' HO387.out).2.2 | (with_reducible refine Kd.C_alloc ?_ _) | (with_reducible refine Kd.C_drewN ?_ _) | (with_reducible refine Kd.C_drew ?_)))
     (case side4 => exact (Kd.R_reads' HO387.out).2.1)
     rintro e w' ⟨rfl, ⟨nd, rfl⟩⟩
     refine ⟨_, rfl, ?_⟩
     refine hK.out _ _ ⟨bC BK372 0 rfl, bC BK372 1 rfl, bC BK372 2 rfl, bC BK372 3 rfl, bC BK373 0 rfl, bC BK373 1 rfl, bC BK373 2 rfl⟩ (fun hHeld => ?_)
     clear hK K
     refine norm_ (a' := ?_) ?_ ?_
     rotate_left
     ·show Act.put _ (some 35) _ = _
      simp only [sP]
      rfl
     refine pu HT_ 25 36 #[T,T,T,T,T,T,T,T,T,T,T,T,T,T,T,T,T,T,T,T,T,T,T,T,T,T,F] rfl rfl (by kernel_rfl) (fun _ _ _ => id) (.inl ⟨by rfl, by intro w'; go_simp; with_reducible rfl⟩) (by simp only [sP]; rfl) ?_
     refine pu HT_ 26 6 #[T,T,T,T,T,T,T,T,T,T,T,T,T,T,T,T,T,T,T,T,T,T,T,T,T,T,T] rfl rfl (by kernel_rfl) (fun _ _ _ => id) (.inl ⟨by rfl, by intro w'; go_simp; with_reducible rfl⟩) (by simp only [sP]; rfl) ?_
     refine done_ (done_of HT_.out (by kernel_rfl)) ?_
     try go_wp2
     go_ret
     exact ⟨by first | rfl | (simp [errW_none, errW_some] <;> rfl) | (simp [*, errW_none, errW_some] <;> rfl), by repeat (first | (with_reducible first | exact HB.out | apply bL | apply bM | apply bR) | exact HB.out)⟩
    ·rw [if_neg c16] at H
     have c16b0 : (t378 == t380 && (t379 == t381)) = false := by simpa using c16
     (try (have c16b1 : decide (t378 = t380 && (t379 == t381)) = false := by simpa using c16))
     (try (have c16b2 : (t378 == t380 && (t379 == t381)) = false := by simpa using c16))
     (try (have c16b3 : ¬ (t378 = t380 && (t379 == t381)) := by simpa using c16))
     clear c16
     obtain rfl := Option.some.inj H
     go_enter Tryd.func10, Tryd.ntmps10
     try go_wp2_with (first | ((with_reducible refine gate_dst (N := 3) rfl ?_); refine box_event ?hg (N := 3) ?hd (cs := #[.string a0_0, .int .i64 a0_1, .int .i64 a0_2, .int .i64 a0_3]) (t := 32) ?hr ?_; (case hd => rfl); (case hg => rfl); (case hr => first | (go_simp; done) | (go_simp; rfl)); intro gb372 hg w32 hbox hb; have n0_ := Aside0.mk (below_step (uB HB) hb); have n1_ := Aside0.mk (hbox); have n2_ := Aside0.mk ((by rw [hg]; exact (below_size (uB HB)) : w.heap.size ≤ gb372)); have n3_ := n2_; clear HB; have HB := n0_; have BK372 := n1_; have GW372 := n2_; have GE372 := n3_; clear n0_ n1_ n2_ n3_; clear hb hbox hg) | ((with_reducible refine gate_dst (N := 5) rfl ?_); refine box_event ?hg (N := 5) ?hd (cs := #[.int .i64 a2_0, .int .i64 a2_1, .int .i64 a2_2]) (t := 24) ?hr ?_; (case hd => rfl); (case hg => rfl); (case hr => first | (go_simp; done) | (go_simp; rfl)); intro gb373 hg w33 hbox hb; have n0_ := bK BK372 hb; have n1_ := Aside0.mk (below_step (uB HB) hb); have n2_ := Aside0.mk (hbox); have n3_ := Aside0.mk ((by rw [hg]; exact (below_size (uB HB)) : w.heap.size ≤ gb373)); have n4_ := n3_; have n5_ := Aside0.mk ((by rw [hg]; exact Nat.ne_of_lt (blkLt BK372 (uK BK372)) : gb372 ≠ gb373)); have n6_ := Aside0.mk n5_.out.symm; clear BK372 HB; have BK372 := n0_; have HB := n1_; have BK373 := n2_; have GW373 := n3_; have GE373 := n4_; have NB372_373 := n5_; have NB373_372 := n6_; clear n0_ n1_ n2_ n3_ n4_ n5_ n6_; clear hb hbox hg))
     replace BK372 := Aside0.mk (blk_drew BK372.out)
     replace BK373 := Aside0.mk (blk_drew BK373.out)
     replace HB := Aside0.mk (below_drew1 HB.out)
     refine start_ (n := 27) (S := fun w' => w'.cell? ⟨gb372, 0, none⟩ = some (.string a0_0) ∧ w'.cell? ⟨gb372, 1, none⟩ = some (.int .i64 a0_1) ∧ w'.cell? ⟨gb372, 2, none⟩ = some (.int .i64 a0_2) ∧ w'.cell? ⟨gb372, 3, none⟩ = some (.int .i64 a0_3) ∧ w'.cell? ⟨gb373, 0, none⟩ = some (.int .i64 a2_0) ∧ w'.cell? ⟨gb373, 1, none⟩ = some (.int .i64 a2_1) ∧ w'.cell? ⟨gb373, 2, none⟩ = some (.int .i64 a2_2)) (ds := []) #[F,F,F,F,F,F,F,F,F,F,F,F,F,F,F,F,F,F,F,F,F,F,F,F,F,F,F] (by kernel_rfl) rfl rfl ⟨bC BK372 0 rfl, bC BK372 1 rfl, bC BK372 2 rfl, bC BK372 3 rfl, bC BK373 0 rfl, bC BK373 1 rfl, bC BK373 2 rfl⟩ (fun hHeld => ?_); refine with_tabW clusterlockslaw10_HoldersValid.tab3 clusterlockslaw10_HoldersValid.bits3 (fun HT_ HW_ => ?_)
     generalize w33.drew = w34 at BK372 BK373 HB hHeld ⊢
     refine one_ (i := 0) (N := some 11) #[T,F,F,F,F,F,F,F,F,F,F,F,F,F,F,F,F,F,F,F,F,F,F,F,F,F,F] rfl rfl (one_of HT_.out (by kernel_rfl)) (by decide) (fun K hK => ?_)
     refine goes_ Tryd.func11 (by kernel_rfl) rfl #[] (by rfl) rfl rfl (by (try simp only [List.map_toArray, List.map_cons, List.map_nil]); first | done | rfl | (simp only [List.length_drop, List.length_take]; rfl)) ?_
     with_reducible refine (clusterlockslaw10_awake.calls k  true _ ?side1 A9.out).mono ?_
     (case side1 => exact GL.below HG.out (uB HB))
     rintro e w35 ⟨rfl, hb⟩
     refine ⟨_, rfl, ?_⟩
     replace BK372 := bK BK372 hb
     replace BK373 := bK BK373 hb
     replace HB := Aside0.mk (below_step (uB HB) hb)
     (try clear hb)
     refine hK.out _ _ ⟨bC BK372 0 rfl, bC BK372 1 rfl, bC BK372 2 rfl, bC BK372 3 rfl, bC BK373 0 rfl, bC BK373 1 rfl, bC BK373 2 rfl⟩ (fun hHeld => ?_)
     clear hK K
     refine norm_ (a' := ?_) ?_ ?_
     rotate_left
     ·show Act.put _ (some 11) _ = _
      simp only [sP]
      rfl
     refine pu HT_ 1 12 #[T,T,F,F,F,F,F,F,F,F,F,F,F,F,F,F,F,F,F,F,F,F,F,F,F,F,F] rfl rfl (by kernel_rfl) (fun _ _ _ => id) (.inl ⟨by rfl, by intro w'; go_simp; with_reducible rfl⟩) (by simp only [sP]; rfl) ?_
     refine pu HT_ 3 14 #[T,T,F,T,F,F,F,F,F,F,F,F,F,F,F,F,F,F,F,F,F,F,F,F,F,F,F] rfl rfl (by kernel_rfl) (fun _ _ _ => id) (.inl ⟨by rfl, by intro w'; go_simp; with_reducible rfl⟩) (by simp only [sP]; rfl) ?_
     refine pu HT_ 6 17 #[T,T,F,T,F,F,T,F,F,F,F,F,F,F,F,F,F,F,F,F,F,F,F,F,F,F,F] rfl rfl (by kernel_rfl) (fun _ _ _ => id) (.inl ⟨by rfl, by intro w'; go_simp; with_reducible rfl⟩) (by simp only [sP]; rfl) ?_
     refine tk HT_ HW_ 2 13 #[T,T,T,T,F,F,T,F,F,F,F,F,F,F,F,F,F,F,F,F,F,F,F,F,F,F,F] rfl rfl (by kernel_rfl) (fun _ _ _ => id) (.inl ⟨by rfl, by rintro w' ⟨s0, s1, s2, s3, s4, s5, s6⟩; go_simp; with_reducible rfl⟩) hHeld (by simp only [sP]; rfl) ?_
     refine tk HT_ HW_ 5 16 #[T,T,T,T,F,T,T,F,F,F,F,F,F,F,F,F,F,F,F,F,F,F,F,F,F,F,F] rfl rfl (by kernel_rfl) (fun _ _ _ => id) (.inl ⟨by rfl, by rintro w' ⟨s0, s1, s2, s3, s4, s5, s6⟩; go_simp; with_reducible rfl⟩) hHeld (by simp only [sP]; rfl) ?_
     refine one_ (i := 4) (N := some 15) #[T,T,T,T,T,T,T,F,F,F,F,F,F,F,F,F,F,F,F,F,F,F,F,F,F,F,F] rfl rfl (one_of HT_.out (by kernel_rfl)) (by decide) (fun K hK => ?_)
     refine goes_ Tryd.func25 (by kernel_rfl) rfl #[.agg #[.string a0_0, .int .i64 a0_1, .int .i64 a0_2, .int .i64 a0_3], .slice A1 l1.length c1] (by rfl) rfl rfl (by (try simp only [List.map_toArray, List.map_cons, List.map_nil]); first | done | rfl | (simp only [List.length_drop, List.length_take]; rfl)) ?_
     with_reducible refine (holders_Valid.calls k a0_0 a0_1 a0_2 a0_3 _ _ l1 t376 _ ?side1 ?side2 ?side3 A11.out).mono ?_
     (case side1 => repeat (first | exact (Kd.C_below HR1.out HB.out) | (with_reducible refine Kd.C_alloc ?_ _) | (with_reducible refine Kd.C_drewN ?_ _) | (with_reducible refine Kd.C_drew ?_)))
     (case side2 => exact HC1.out)
     (case side3 => exact GL.below HG.out (uB HB))
     rintro e w36 ⟨rfl, hb⟩
     refine ⟨_, rfl, ?_⟩
     replace BK372 := bK BK372 hb
     replace BK373 := bK BK373 hb
     replace HB := Aside0.mk (below_step (uB HB) hb)
     (try clear hb)
     refine hK.out _ _ ⟨bC BK372 0 rfl, bC BK372 1 rfl, bC BK372 2 rfl, bC BK372 3 rfl, bC BK373 0 rfl, bC BK373 1 rfl, bC BK373 2 rfl⟩ (fun hHeld => ?_)
     clear hK K
     refine norm_ (a' := ?_) ?_ ?_
     rotate_left
     ·show Act.put _ (some 15) _ = _
      simp only [sP]
      rfl
     refine one_ (i := 7) (N := some 18) #[T,T,T,T,T,T,T,T,F,F,F,F,F,F,F,F,F,F,F,F,F,F,F,F,F,F,F] rfl rfl (one_of HT_.out (by kernel_rfl)) (by decide) (fun K hK => ?_)
     refine goes_ Tryd.func26 (by kernel_rfl) rfl #[.agg #[.string a0_0, .int .i64 a0_1, .int .i64 a0_2, .int .i64 a0_3], .slice A1 l1.length c1] (by rfl) rfl rfl (by (try simp only [List.map_toArray, List.map_cons, List.map_nil]); first | done | rfl | (simp only [List.length_drop, List.length_take]; rfl)) ?_
     with_reducible refine (clusterlocksref10_Valid.calls k a0_0 a0_1 a0_2 a0_3 _ _ l1 t377 _ ?side1 ?side2 A12.out).mono ?_
     (case side1 => repeat (first | exact (Kd.C_below HR1.out HB.out) | (with_reducible refine Kd.C_alloc ?_ _) | (with_reducible refine Kd.C_drewN ?_ _) | (with_reducible refine Kd.C_drew ?_)))
     (case side2 => exact HC1.out)
     rintro e w37 ⟨rfl, hb⟩
     refine ⟨_, rfl, ?_⟩
     replace BK372 := bK BK372 hb
     replace BK373 := bK BK373 hb
     replace HB := Aside0.mk (below_step (uB HB) hb)
     (try clear hb)
     refine hK.out _ _ ⟨bC BK372 0 rfl, bC BK372 1 rfl, bC BK372 2 rfl, bC BK372 3 rfl, bC BK373 0 rfl, bC BK373 1 rfl, bC BK373 2 rfl⟩ (fun hHeld => ?_)
     clear hK K
     refine norm_ (a' := ?_) ?_ ?_
     rotate_left
     ·show Act.put _ (some 18) _ = _
      simp only [sP]
      rfl
     refine pu HT_ 8 19 #[T,T,T,T,T,T,T,T,T,F,F,F,F,F,F,F,F,F,F,F,F,F,F,F,F,F,F] rfl rfl (by kernel_rfl) (fun _ _ _ => id) (.inl ⟨by rfl, by intro w'; go_simp; with_reducible rfl⟩) (by simp only [sP]; rfl) ?_
     refine pu HT_ 9 20 #[T,T,T,T,T,T,T,T,T,T,F,F,F,F,F,F,F,F,F,F,F,F,F,F,F,F,F] rfl rfl (by kernel_rfl) (fun _ _ _ => id) (.inl ⟨by rfl, by intro w'; go_simp; with_reducible rfl⟩) (by simp only [sP]; rfl) ?_
     refine pu HT_ 10 21 #[T,T,T,T,T,T,T,T,T,T,T,F,F,F,F,F,F,F,F,F,F,F,F,F,F,F,F] rfl rfl (by kernel_rfl) (fun _ _ _ => id) (.inl ⟨by rfl, by intro w'; go_simp; with_reducible rfl⟩) (by simp only [sP]; rfl) ?_
     refine pu HT_ 11 22 #[T,T,T,T,T,T,T,T,T,T,T,T,F,F,F,F,F,F,F,F,F,F,F,F,F,F,F] rfl rfl (by kernel_rfl) (fun _ _ _ => id) (.inl ⟨by rfl, by intro w'; go_simp; with_reducible rfl⟩) (by simp only [sP]; rfl) ?_
     refine pu HT_ 14 25 #[T,T,T,T,T,T,T,T,T,T,T,T,F,F,T,F,F,F,F,F,F,F,F,F,F,F,F] rfl rfl (by kernel_rfl) (fun _ _ _ => id) (.inl ⟨by rfl, by intro w'; go_simp; with_reducible rfl⟩) (by simp only [sP]; rfl) ?_
     refine tk HT_ HW_ 12 23 #[T,T,T,T,T,T,T,T,T,T,T,T,T,F,T,F,F,F,F,F,F,F,F,F,F,F,F] rfl rfl (by kernel_rfl) (fun _ _ _ => id) (.inl ⟨by rfl, by rintro w' ⟨s0, s1, s2, s3, s4, s5, s6⟩; go_simp; with_reducible rfl⟩) hHeld (by simp only [sP]; rfl) ?_
     refine tk HT_ HW_ 15 26 #[T,T,T,T,T,T,T,T,T,T,T,T,T,F,T,T,F,F,F,F,F,F,F,F,F,F,F] rfl rfl (by kernel_rfl) (fun _ _ _ => id) (.inl ⟨by rfl, by rintro w' ⟨s0, s1, s2, s3, s4, s5, s6⟩; go_simp; with_reducible rfl⟩) hHeld (by simp only [sP]; rfl) ?_
     refine one_ (i := 13) (N := some 24) #[T,T,T,T,T,T,T,T,T,T,T,T,T,T,T,T,F,F,F,F,F,F,F,F,F,F,F] rfl rfl (one_of HT_.out (by kernel_rfl)) (by decide) (fun K hK => ?_)
     refine goes_ Tryd.func27 (by kernel_rfl) rfl #[.slice A1 l1.length c1, .agg #[.int .i64 a2_0, .int .i64 a2_1, .int .i64 a2_2]] (by rfl) rfl rfl (by (try simp only [List.map_toArray, List.map_cons, List.map_nil]); first | done | rfl | (simp only [List.length_drop, List.length_take]; rfl)) ?_
     with_reducible refine (holders_Get.calls k _ _ l1 a2_0 a2_1 a2_2 t378 t379 _ ?side1 ?side2 A14.out).mono ?_
     (case side1 => repeat (first | exact (Kd.C_below HR1.out HB.out) | (with_reducible refine Kd.C_alloc ?_ _) | (with_reducible refine Kd.C_drewN ?_ _) | (with_reducible refine Kd.C_drew ?_)))
     (case side2 => exact HC1.out)
     rintro e w38 ⟨rfl, hb⟩
     refine ⟨_, rfl, ?_⟩
     replace BK372 := bK BK372 hb
     replace BK373 := bK BK373 hb
     replace HB := Aside0.mk (below_step (uB HB) hb)
     (try clear hb)
     refine hK.out _ _ ⟨bC BK372 0 rfl, bC BK372 1 rfl, bC BK372 2 rfl, bC BK372 3 rfl, bC BK373 0 rfl, bC BK373 1 rfl, bC BK373 2 rfl⟩ (fun hHeld => ?_)
     clear hK K
     refine norm_ (a' := ?_) ?_ ?_
     rotate_left
     ·show Act.put _ (some 24) _ = _
      simp only [sP]
      rfl
     refine one_ (i := 16) (N := some 27) #[T,T,T,T,T,T,T,T,T,T,T,T,T,T,T,T,T,F,F,F,F,F,F,F,F,F,F] rfl rfl (one_of HT_.out (by kernel_rfl)) (by decide) (fun K hK => ?_)
     refine goes_ Tryd.func29 (by kernel_rfl) rfl #[.slice A1 l1.length c1, .agg #[.int .i64 a2_0, .int .i64 a2_1, .int .i64 a2_2]] (by rfl) rfl rfl (by (try simp only [List.map_toArray, List.map_cons, List.map_nil]); first | done | rfl | (simp only [List.length_drop, List.length_take]; rfl)) ?_
     with_reducible refine (clusterlocksref10_Get.calls k _ _ l1 a2_0 a2_1 a2_2 t380 t381 _ ?side1 ?side2 A15.out).mono ?_
     (case side1 => repeat (first | exact (Kd.C_below HR1.out HB.out) | (with_reducible refine Kd.C_alloc ?_ _) | (with_reducible refine Kd.C_drewN ?_ _) | (with_reducible refine Kd.C_drew ?_)))
     (case side2 => exact HC1.out)
     rintro e w39 ⟨rfl, hb⟩
     refine ⟨_, rfl, ?_⟩
     replace BK372 := bK BK372 hb
     replace BK373 := bK BK373 hb
     replace HB := Aside0.mk (below_step (uB HB) hb)
     (try clear hb)
     refine hK.out _ _ ⟨bC BK372 0 rfl, bC BK372 1 rfl, bC BK372 2 rfl, bC BK372 3 rfl, bC BK373 0 rfl, bC BK373 1 rfl, bC BK373 2 rfl⟩ (fun hHeld => ?_)
     clear hK K
     refine norm_ (a' := ?_) ?_ ?_
     rotate_left
     ·show Act.put _ (some 27) _ = _
      simp only [sP]
      rfl
     refine pu HT_ 17 28 #[T,T,T,T,T,T,T,T,T,T,T,T,T,T,T,T,T,T,F,F,F,F,F,F,F,F,F] rfl rfl (by kernel_rfl) (fun _ _ _ => id) (.inl ⟨by rfl, by intro w'; go_simp; with_reducible rfl⟩) (by simp only [sP]; rfl) ?_
     refine pu HT_ 18 29 #[T,T,T,T,T,T,T,T,T,T,T,T,T,T,T,T,T,T,T,F,F,F,F,F,F,F,F] rfl rfl (by kernel_rfl) (fun _ _ _ => id) (.inl ⟨by rfl, by intro w'; go_simp; with_reducible rfl⟩) (by simp only [sP]; rfl) ?_
     refine pu HT_ 19 30 #[T,T,T,T,T,T,T,T,T,T,T,T,T,T,T,T,T,T,T,T,F,F,F,F,F,F,F] rfl rfl (by kernel_rfl) (fun _ _ _ => id) (.inl ⟨by rfl, by intro w'; go_simp; with_reducible rfl⟩) (by simp only [sP]; rfl) ?_
     refine pu HT_ 20 31 #[T,T,T,T,T,T,T,T,T,T,T,T,T,T,T,T,T,T,T,T,T,F,F,F,F,F,F] rfl rfl (by kernel_rfl) (fun _ _ _ => id) (.inr ⟨by rfl, rfl⟩) (by simp only [sP]; rfl) ?_
     refine pu HT_ 21 32 #[T,T,T,T,T,T,T,T,T,T,T,T,T,T,T,T,T,T,T,T,T,T,F,F,F,F,F] rfl rfl (by kernel_rfl) (fun _ _ _ => id) (.inr ⟨by rfl, rfl⟩) (by simp only [sP]; rfl) ?_
     refine pu HT_ 22 33 #[T,T,T,T,T,T,T,T,T,T,T,T,T,T,T,T,T,T,T,T,T,T,T,F,F,F,F] rfl rfl (by kernel_rfl) (fun _ _ _ => id) (.inr ⟨by rfl, rfl⟩) (by simp only [sP]; rfl) ?_
     refine pu HT_ 23 34 #[T,T,T,T,T,T,T,T,T,T,T,T,T,T,T,T,T,T,T,T,T,T,T,T,F,F,F] rfl rfl (by kernel_rfl) (fun _ _ _ => id) (.inr ⟨by rfl, rfl⟩) (by simp only [sP]; rfl) ?_
     refine pu HT_ 24 35 #[T,T,T,T,T,T,T,T,T,T,T,T,T,T,T,T,T,T,T,T,T,T,T,T,T,F,F] rfl rfl (by kernel_rfl) (fun _ _ _ => id) (.inr ⟨by rfl, rfl⟩) (by simp only [sP]; rfl) ?_
     refine pu HT_ 25 36 #[T,T,T,T,T,T,T,T,T,T,T,T,T,T,T,T,T,T,T,T,T,T,T,T,T,T,F] rfl rfl (by kernel_rfl) (fun _ _ _ => id) (.inl ⟨by rfl, by intro w'; go_simp; with_reducible rfl⟩) (by simp only [sP]; rfl) ?_
     refine pu HT_ 26 6 #[T,T,T,T,T,T,T,T,T,T,T,T,T,T,T,T,T,T,T,T,T,T,T,T,T,T,T] rfl rfl (by kernel_rfl) (fun _ _ _ => id) (.inl ⟨by rfl, by intro w'; go_simp; with_reducible rfl⟩) (by simp only [sP]; rfl) ?_
     refine done_ (done_of HT_.out (by kernel_rfl)) ?_
     try go_wp2
     go_ret
     exact ⟨by first | rfl | (simp [errW_none, errW_some] <;> rfl) | (simp [*, errW_none, errW_some] <;> rfl), by repeat (first | (with_reducible first | exact HB.out | apply bL | apply bM | apply bR) | exact HB.out)⟩
   ·rw [if_neg c13] at H
    have c13b0 : (t376 == t377) = false := by simpa using c13
    (try (have c13b1 : decide (t376 = t377) = false := by simpa using c13))
    (try (have c13b2 : (t376 == t377) = false := by simpa using c13))
    (try (have c13b3 : ¬ (t376 = t377) := by simpa using c13))
    clear c13
    obtain rfl := Option.some.inj H
    go_enter Tryd.func10, Tryd.ntmps10
    try go_wp2_with (first | ((with_reducible refine gate_dst (N := 3) rfl ?_); refine box_event ?hg (N := 3) ?hd (cs := #[.string a0_0, .int .i64 a0_1, .int .i64 a0_2, .int .i64 a0_3]) (t := 32) ?hr ?_; (case hd => rfl); (case hg => rfl); (case hr => first | (go_simp; done) | (go_simp; rfl)); intro gb372 hg w40 hbox hb; have n0_ := Aside0.mk (below_step (uB HB) hb); have n1_ := Aside0.mk (hbox); have n2_ := Aside0.mk ((by rw [hg]; exact (below_size (uB HB)) : w.heap.size ≤ gb372)); have n3_ := n2_; clear HB; have HB := n0_; have BK372 := n1_; have GW372 := n2_; have GE372 := n3_; clear n0_ n1_ n2_ n3_; clear hb hbox hg) | ((with_reducible refine gate_dst (N := 5) rfl ?_); refine box_event ?hg (N := 5) ?hd (cs := #[.int .i64 a2_0, .int .i64 a2_1, .int .i64 a2_2]) (t := 24) ?hr ?_; (case hd => rfl); (case hg => rfl); (case hr => first | (go_simp; done) | (go_simp; rfl)); intro gb373 hg w41 hbox hb; have n0_ := bK BK372 hb; have n1_ := Aside0.mk (below_step (uB HB) hb); have n2_ := Aside0.mk (hbox); have n3_ := Aside0.mk ((by rw [hg]; exact (below_size (uB HB)) : w.heap.size ≤ gb373)); have n4_ := n3_; have n5_ := Aside0.mk ((by rw [hg]; exact Nat.ne_of_lt (blkLt BK372 (uK BK372)) : gb372 ≠ gb373)); have n6_ := Aside0.mk n5_.out.symm; clear BK372 HB; have BK372 := n0_; have HB := n1_; have BK373 := n2_; have GW373 := n3_; have GE373 := n4_; have NB372_373 := n5_; have NB373_372 := n6_; clear n0_ n1_ n2_ n3_ n4_ n5_ n6_; clear hb hbox hg))
    replace BK372 := Aside0.mk (blk_drew BK372.out)
    replace BK373 := Aside0.mk (blk_drew BK373.out)
    replace HB := Aside0.mk (below_drew1 HB.out)
    refine start_ (n := 27) (S := fun w' => w'.cell? ⟨gb372, 0, none⟩ = some (.string a0_0) ∧ w'.cell? ⟨gb372, 1, none⟩ = some (.int .i64 a0_1) ∧ w'.cell? ⟨gb372, 2, none⟩ = some (.int .i64 a0_2) ∧ w'.cell? ⟨gb372, 3, none⟩ = some (.int .i64 a0_3)) (ds := []) #[F,F,F,F,F,F,F,F,F,F,F,F,F,F,F,F,F,F,F,F,F,F,F,F,F,F,F] (by kernel_rfl) rfl rfl ⟨bC BK372 0 rfl, bC BK372 1 rfl, bC BK372 2 rfl, bC BK372 3 rfl⟩ (fun hHeld => ?_); refine with_tabW clusterlockslaw10_HoldersValid.tab3 clusterlockslaw10_HoldersValid.bits3 (fun HT_ HW_ => ?_)
    generalize w41.drew = w42 at BK372 BK373 HB hHeld ⊢
    refine one_ (i := 0) (N := some 11) #[T,F,F,F,F,F,F,F,F,F,F,F,F,F,F,F,F,F,F,F,F,F,F,F,F,F,F] rfl rfl (one_of HT_.out (by kernel_rfl)) (by decide) (fun K hK => ?_)
    refine goes_ Tryd.func11 (by kernel_rfl) rfl #[] (by rfl) rfl rfl (by (try simp only [List.map_toArray, List.map_cons, List.map_nil]); first | done | rfl | (simp only [List.length_drop, List.length_take]; rfl)) ?_
    with_reducible refine (clusterlockslaw10_awake.calls k  true _ ?side1 A9.out).mono ?_
    (case side1 => exact GL.below HG.out (uB HB))
    rintro e w43 ⟨rfl, hb⟩
    refine ⟨_, rfl, ?_⟩
    replace BK372 := bK BK372 hb
    replace BK373 := bK BK373 hb
    replace HB := Aside0.mk (below_step (uB HB) hb)
    (try clear hb)
    refine hK.out _ _ ⟨bC BK372 0 rfl, bC BK372 1 rfl, bC BK372 2 rfl, bC BK372 3 rfl⟩ (fun hHeld => ?_)
    clear hK K
    refine norm_ (a' := ?_) ?_ ?_
    rotate_left
    ·show Act.put _ (some 11) _ = _
     simp only [sP]
     rfl
    refine pu HT_ 1 12 #[T,T,F,F,F,F,F,F,F,F,F,F,F,F,F,F,F,F,F,F,F,F,F,F,F,F,F] rfl rfl (by kernel_rfl) (fun _ _ _ => id) (.inl ⟨by rfl, by intro w'; go_simp; with_reducible rfl⟩) (by simp only [sP]; rfl) ?_
    refine pu HT_ 3 14 #[T,T,F,T,F,F,F,F,F,F,F,F,F,F,F,F,F,F,F,F,F,F,F,F,F,F,F] rfl rfl (by kernel_rfl) (fun _ _ _ => id) (.inl ⟨by rfl, by intro w'; go_simp; with_reducible rfl⟩) (by simp only [sP]; rfl) ?_
    refine pu HT_ 6 17 #[T,T,F,T,F,F,T,F,F,F,F,F,F,F,F,F,F,F,F,F,F,F,F,F,F,F,F] rfl rfl (by kernel_rfl) (fun _ _ _ => id) (.inl ⟨by rfl, by intro w'; go_simp; with_reducible rfl⟩) (by simp only [sP]; rfl) ?_
    refine tk HT_ HW_ 2 13 #[T,T,T,T,F,F,T,F,F,F,F,F,F,F,F,F,F,F,F,F,F,F,F,F,F,F,F] rfl rfl (by kernel_rfl) (fun _ _ _ => id) (.inl ⟨by rfl, by rintro w' ⟨s0, s1, s2, s3⟩; go_simp; with_reducible rfl⟩) hHeld (by simp only [sP]; rfl) ?_
    refine tk HT_ HW_ 5 16 #[T,T,T,T,F,T,T,F,F,F,F,F,F,F,F,F,F,F,F,F,F,F,F,F,F,F,F] rfl rfl (by kernel_rfl) (fun _ _ _ => id) (.inl ⟨by rfl, by rintro w' ⟨s0, s1, s2, s3⟩; go_simp; with_reducible rfl⟩) hHeld (by simp only [sP]; rfl) ?_
    refine one_ (i := 4) (N := some 15) #[T,T,T,T,T,T,T,F,F,F,F,F,F,F,F,F,F,F,F,F,F,F,F,F,F,F,F] rfl rfl (one_of HT_.out (by kernel_rfl)) (by decide) (fun K hK => ?_)
    refine goes_ Tryd.func25 (by kernel_rfl) rfl #[.agg #[.string a0_0, .int .i64 a0_1, .int .i64 a0_2, .int .i64 a0_3], .slice A1 l1.length c1] (by rfl) rfl rfl (by (try simp only [List.map_toArray, List.map_cons, List.map_nil]); first | done | rfl | (simp only [List.length_drop, List.length_take]; rfl)) ?_
    with_reducible refine (holders_Valid.calls k a0_0 a0_1 a0_2 a0_3 _ _ l1 t376 _ ?side1 ?side2 ?side3 A11.out).mono ?_
    (case side1 => repeat (first | exact (Kd.C_below HR1.out HB.out) | (with_reducible refine Kd.C_alloc ?_ _) | (with_reducible refine Kd.C_drewN ?_ _) | (with_reducible refine Kd.C_drew ?_)))
    (case side2 => exact HC1.out)
    (case side3 => exact GL.below HG.out (uB HB))
    rintro e w44 ⟨rfl, hb⟩
    refine ⟨_, rfl, ?_⟩
    replace BK372 := bK BK372 hb
    replace BK373 := bK BK373 hb
    replace HB := Aside0.mk (below_step (uB HB) hb)
    (try clear hb)
    refine hK.out _ _ ⟨bC BK372 0 rfl, bC BK372 1 rfl, bC BK372 2 rfl, bC BK372 3 rfl⟩ (fun hHeld => ?_)
    clear hK K
    refine norm_ (a' := ?_) ?_ ?_
    rotate_left
    ·show Act.put _ (some 15) _ = _
     simp only [sP]
     rfl
    refine one_ (i := 7) (N := some 18) #[T,T,T,T,T,T,T,T,F,F,F,F,F,F,F,F,F,F,F,F,F,F,F,F,F,F,F] rfl rfl (one_of HT_.out (by kernel_rfl)) (by decide) (fun K hK => ?_)
    refine goes_ Tryd.func26 (by kernel_rfl) rfl #[.agg #[.string a0_0, .int .i64 a0_1, .int .i64 a0_2, .int .i64 a0_3], .slice A1 l1.length c1] (by rfl) rfl rfl (by (try simp only [List.map_toArray, List.map_cons, List.map_nil]); first | done | rfl | (simp only [List.length_drop, List.length_take]; rfl)) ?_
    with_reducible refine (clusterlocksref10_Valid.calls k a0_0 a0_1 a0_2 a0_3 _ _ l1 t377 _ ?side1 ?side2 A12.out).mono ?_
    (case side1 => repeat (first | exact (Kd.C_below HR1.out HB.out) | (with_reducible refine Kd.C_alloc ?_ _) | (with_reducible refine Kd.C_drewN ?_ _) | (with_reducible refine Kd.C_drew ?_)))
    (case side2 => exact HC1.out)
    rintro e w45 ⟨rfl, hb⟩
    refine ⟨_, rfl, ?_⟩
    replace BK372 := bK BK372 hb
    replace BK373 := bK BK373 hb
    replace HB := Aside0.mk (below_step (uB HB) hb)
    (try clear hb)
    refine hK.out _ _ ⟨bC BK372 0 rfl, bC BK372 1 rfl, bC BK372 2 rfl, bC BK372 3 rfl⟩ (fun hHeld => ?_)
    clear hK K
    refine norm_ (a' := ?_) ?_ ?_
    rotate_left
    ·show Act.put _ (some 18) _ = _
     simp only [sP]
     rfl
    refine pu HT_ 8 19 #[T,T,T,T,T,T,T,T,T,F,F,F,F,F,F,F,F,F,F,F,F,F,F,F,F,F,F] rfl rfl (by kernel_rfl) (fun _ _ _ => id) (.inl ⟨by rfl, by intro w'; go_simp; with_reducible rfl⟩) (by simp only [sP]; rfl) ?_
    refine pu HT_ 9 20 #[T,T,T,T,T,T,T,T,T,T,F,F,F,F,F,F,F,F,F,F,F,F,F,F,F,F,F] rfl rfl (by kernel_rfl) (fun _ _ _ => id) (.inl ⟨by rfl, by intro w'; go_simp; with_reducible rfl⟩) (by simp only [sP]; rfl) ?_
    refine pu HT_ 10 21 #[T,T,T,T,T,T,T,T,T,T,T,F,F,F,F,F,F,F,F,F,F,F,F,F,F,F,F] rfl rfl (by kernel_rfl) (fun _ _ _ => id) (.inl ⟨by rfl, by intro w'; go_simp; with_reducible rfl⟩) (by simp only [sP]; rfl) ?_
    refine pu HT_ 11 22 #[T,T,T,T,T,T,T,T,T,T,T,T,F,F,F,F,F,F,F,F,F,F,F,F,F,F,F] rfl rfl (by kernel_rfl) (fun _ _ _ => id) (.inr ⟨by rfl, rfl⟩) (by simp only [sP]; rfl) ?_
    refine pu HT_ 12 23 #[T,T,T,T,T,T,T,T,T,T,T,T,T,F,F,F,F,F,F,F,F,F,F,F,F,F,F] rfl rfl (by kernel_rfl) (fun _ _ _ => id) (.inr ⟨by rfl, rfl⟩) (by simp only [sP]; rfl) ?_
    refine pu HT_ 13 24 #[T,T,T,T,T,T,T,T,T,T,T,T,T,T,F,F,F,F,F,F,F,F,F,F,F,F,F] rfl rfl (by kernel_rfl) (fun _ _ _ => id) (.inr ⟨by rfl, rfl⟩) (by simp only [sP]; rfl) ?_
    refine pu HT_ 14 25 #[T,T,T,T,T,T,T,T,T,T,T,T,T,T,T,F,F,F,F,F,F,F,F,F,F,F,F] rfl rfl (by kernel_rfl) (fun _ _ _ => id) (.inr ⟨by rfl, rfl⟩) (by simp only [sP]; rfl) ?_
    refine pu HT_ 15 26 #[T,T,T,T,T,T,T,T,T,T,T,T,T,T,T,T,F,F,F,F,F,F,F,F,F,F,F] rfl rfl (by kernel_rfl) (fun _ _ _ => id) (.inr ⟨by rfl, rfl⟩) (by simp only [sP]; rfl) ?_
    refine pu HT_ 16 27 #[T,T,T,T,T,T,T,T,T,T,T,T,T,T,T,T,T,F,F,F,F,F,F,F,F,F,F] rfl rfl (by kernel_rfl) (fun _ _ _ => id) (.inr ⟨by rfl, rfl⟩) (by simp only [sP]; rfl) ?_
    refine pu HT_ 17 28 #[T,T,T,T,T,T,T,T,T,T,T,T,T,T,T,T,T,T,F,F,F,F,F,F,F,F,F] rfl rfl (by kernel_rfl) (fun _ _ _ => id) (.inr ⟨by rfl, rfl⟩) (by simp only [sP]; rfl) ?_
    refine pu HT_ 18 29 #[T,T,T,T,T,T,T,T,T,T,T,T,T,T,T,T,T,T,T,F,F,F,F,F,F,F,F] rfl rfl (by kernel_rfl) (fun _ _ _ => id) (.inl ⟨by rfl, by intro w'; go_simp; with_reducible rfl⟩) (by simp only [sP]; rfl) ?_
    refine pu HT_ 19 30 #[T,T,T,T,T,T,T,T,T,T,T,T,T,T,T,T,T,T,T,T,F,F,F,F,F,F,F] rfl rfl (by kernel_rfl) (fun _ _ _ => id) (.inl ⟨by rfl, by intro w'; go_simp; with_reducible rfl⟩) (by simp only [sP]; rfl) ?_
    refine pu HT_ 20 31 #[T,T,T,T,T,T,T,T,T,T,T,T,T,T,T,T,T,T,T,T,T,F,F,F,F,F,F] rfl rfl (by kernel_rfl) (fun _ _ _ => id) (.inr ⟨by rfl, rfl⟩) (by simp only [sP]; rfl) ?_
    refine pu HT_ 21 32 #[T,T,T,T,T,T,T,T,T,T,T,T,T,T,T,T,T,T,T,T,T,T,F,F,F,F,F] rfl rfl (by kernel_rfl) (fun _ _ _ => id) (.inr ⟨by rfl, rfl⟩) (by simp only [sP]; rfl) ?_
    refine pu HT_ 22 33 #[T,T,T,T,T,T,T,T,T,T,T,T,T,T,T,T,T,T,T,T,T,T,T,F,F,F,F] rfl rfl (by kernel_rfl) (fun _ _ _ => id) (.inr ⟨by rfl, rfl⟩) (by simp only [sP]; rfl) ?_
    refine pu HT_ 23 34 #[T,T,T,T,T,T,T,T,T,T,T,T,T,T,T,T,T,T,T,T,T,T,T,T,F,F,F] rfl rfl (by kernel_rfl) (fun _ _ _ => id) (.inr ⟨by rfl, rfl⟩) (by simp only [sP]; rfl) ?_
    refine pu HT_ 24 35 #[T,T,T,T,T,T,T,T,T,T,T,T,T,T,T,T,T,T,T,T,T,T,T,T,T,F,F] rfl rfl (by kernel_rfl) (fun _ _ _ => id) (.inr ⟨by rfl, rfl⟩) (by simp only [sP]; rfl) ?_
    refine pu HT_ 25 36 #[T,T,T,T,T,T,T,T,T,T,T,T,T,T,T,T,T,T,T,T,T,T,T,T,T,T,F] rfl rfl (by kernel_rfl) (fun _ _ _ => id) (.inl ⟨by rfl, by intro w'; go_simp; with_reducible rfl⟩) (by simp only [sP]; rfl) ?_
    refine pu HT_ 26 6 #[T,T,T,T,T,T,T,T,T,T,T,T,T,T,T,T,T,T,T,T,T,T,T,T,T,T,T] rfl rfl (by kernel_rfl) (fun _ _ _ => id) (.inl ⟨by rfl, by intro w'; go_simp; with_reducible rfl⟩) (by simp only [sP]; rfl) ?_
    refine done_ (done_of HT_.out (by kernel_rfl)) ?_
    try go_wp2
    go_ret
    exact ⟨by first | rfl | (simp [errW_none, errW_some] <;> rfl) | (simp [*, errW_none, errW_some] <;> rfl), by repeat (first | (with_reducible first | exact HB.out | apply bL | apply bM | apply bR) | exact HB.out)⟩
  ·replace c10 := Bool.eq_false_iff.mpr c10
   subst c10
   rw [if_neg (show ¬ (false = true) by decide)] at H
   obtain rfl := Option.some.inj H
   go_enter Tryd.func10, Tryd.ntmps10
   try go_wp2_with (first | ((with_reducible refine gate_dst (N := 3) rfl ?_); refine box_event ?hg (N := 3) ?hd (cs := #[.string a0_0, .int .i64 a0_1, .int .i64 a0_2, .int .i64 a0_3]) (t := 32) ?hr ?_; (case hd => rfl); (case hg => rfl); (case hr => first | (go_simp; done) | (go_simp; rfl)); intro gb372 hg w46 hbox hb; have n0_ := Aside0.mk (below_step (uB HB) hb); have n1_ := Aside0.mk (hbox); have n2_ := Aside0.mk ((by rw [hg]; exact (below_size (uB HB)) : w.heap.size ≤ gb372)); have n3_ := n2_; clear HB; have HB := n0_; have BK372 := n1_; have GW372 := n2_; have GE372 := n3_; clear n0_ n1_ n2_ n3_; clear hb hbox hg) | ((with_reducible refine gate_dst (N := 5) rfl ?_); refine box_event ?hg (N := 5) ?hd (cs := #[.int .i64 a2_0, .int .i64 a2_1, .int .i64 a2_2]) (t := 24) ?hr ?_; (case hd => rfl); (case hg => rfl); (case hr => first | (go_simp; done) | (go_simp; rfl)); intro gb373 hg w47 hbox hb; have n0_ := bK BK372 hb; have n1_ := Aside0.mk (below_step (uB HB) hb); have n2_ := Aside0.mk (hbox); have n3_ := Aside0.mk ((by rw [hg]; exact (below_size (uB HB)) : w.heap.size ≤ gb373)); have n4_ := n3_; have n5_ := Aside0.mk ((by rw [hg]; exact Nat.ne_of_lt (blkLt BK372 (uK BK372)) : gb372 ≠ gb373)); have n6_ := Aside0.mk n5_.out.symm; clear BK372 HB; have BK372 := n0_; have HB := n1_; have BK373 := n2_; have GW373 := n3_; have GE373 := n4_; have NB372_373 := n5_; have NB373_372 := n6_; clear n0_ n1_ n2_ n3_ n4_ n5_ n6_; clear hb hbox hg))
   replace BK372 := Aside0.mk (blk_drew BK372.out)
   replace BK373 := Aside0.mk (blk_drew BK373.out)
   replace HB := Aside0.mk (below_drew1 HB.out)
   refine start_ (n := 27) (S := fun w' => True) (ds := []) #[F,F,F,F,F,F,F,F,F,F,F,F,F,F,F,F,F,F,F,F,F,F,F,F,F,F,F] (by kernel_rfl) rfl rfl trivial (fun hHeld => ?_); refine with_tabW clusterlockslaw10_HoldersValid.tab3 clusterlockslaw10_HoldersValid.bits3 (fun HT_ HW_ => ?_)
   generalize w47.drew = w48 at BK372 BK373 HB hHeld ⊢
   refine one_ (i := 0) (N := some 11) #[T,F,F,F,F,F,F,F,F,F,F,F,F,F,F,F,F,F,F,F,F,F,F,F,F,F,F] rfl rfl (one_of HT_.out (by kernel_rfl)) (by decide) (fun K hK => ?_)
   refine goes_ Tryd.func11 (by kernel_rfl) rfl #[] (by rfl) rfl rfl (by (try simp only [List.map_toArray, List.map_cons, List.map_nil]); first | done | rfl | (simp only [List.length_drop, List.length_take]; rfl)) ?_
   with_reducible refine (clusterlockslaw10_awake.calls k  false _ ?side1 A9.out).mono ?_
   (case side1 => exact GL.below HG.out (uB HB))
   rintro e w49 ⟨rfl, hb⟩
   refine ⟨_, rfl, ?_⟩
   replace BK372 := bK BK372 hb
   replace BK373 := bK BK373 hb
   replace HB := Aside0.mk (below_step (uB HB) hb)
   (try clear hb)
   refine hK.out _ _ trivial (fun hHeld => ?_)
   clear hK K
   refine norm_ (a' := ?_) ?_ ?_
   rotate_left
   ·show Act.put _ (some 11) _ = _
    simp only [sP]
    rfl
   refine pu HT_ 1 12 #[T,T,F,F,F,F,F,F,F,F,F,F,F,F,F,F,F,F,F,F,F,F,F,F,F,F,F] rfl rfl (by kernel_rfl) (fun _ _ _ => id) (.inl ⟨by rfl, by intro w'; go_simp; with_reducible rfl⟩) (by simp only [sP]; rfl) ?_
   refine pu HT_ 2 13 #[T,T,T,F,F,F,F,F,F,F,F,F,F,F,F,F,F,F,F,F,F,F,F,F,F,F,F] rfl rfl (by kernel_rfl) (fun _ _ _ => id) (.inr ⟨by rfl, rfl⟩) (by simp only [sP]; rfl) ?_
   refine pu HT_ 3 14 #[T,T,T,T,F,F,F,F,F,F,F,F,F,F,F,F,F,F,F,F,F,F,F,F,F,F,F] rfl rfl (by kernel_rfl) (fun _ _ _ => id) (.inr ⟨by rfl, rfl⟩) (by simp only [sP]; rfl) ?_
   refine pu HT_ 4 15 #[T,T,T,T,T,F,F,F,F,F,F,F,F,F,F,F,F,F,F,F,F,F,F,F,F,F,F] rfl rfl (by kernel_rfl) (fun _ _ _ => id) (.inr ⟨by rfl, rfl⟩) (by simp only [sP]; rfl) ?_
   refine pu HT_ 5 16 #[T,T,T,T,T,T,F,F,F,F,F,F,F,F,F,F,F,F,F,F,F,F,F,F,F,F,F] rfl rfl (by kernel_rfl) (fun _ _ _ => id) (.inr ⟨by rfl, rfl⟩) (by simp only [sP]; rfl) ?_
   refine pu HT_ 6 17 #[T,T,T,T,T,T,T,F,F,F,F,F,F,F,F,F,F,F,F,F,F,F,F,F,F,F,F] rfl rfl (by kernel_rfl) (fun _ _ _ => id) (.inr ⟨by rfl, rfl⟩) (by simp only [sP]; rfl) ?_
   refine pu HT_ 7 18 #[T,T,T,T,T,T,T,T,F,F,F,F,F,F,F,F,F,F,F,F,F,F,F,F,F,F,F] rfl rfl (by kernel_rfl) (fun _ _ _ => id) (.inr ⟨by rfl, rfl⟩) (by simp only [sP]; rfl) ?_
   refine pu HT_ 8 19 #[T,T,T,T,T,T,T,T,T,F,F,F,F,F,F,F,F,F,F,F,F,F,F,F,F,F,F] rfl rfl (by kernel_rfl) (fun _ _ _ => id) (.inr ⟨by rfl, rfl⟩) (by simp only [sP]; rfl) ?_
   refine pu HT_ 9 20 #[T,T,T,T,T,T,T,T,T,T,F,F,F,F,F,F,F,F,F,F,F,F,F,F,F,F,F] rfl rfl (by kernel_rfl) (fun _ _ _ => id) (.inl ⟨by rfl, by intro w'; go_simp; with_reducible rfl⟩) (by simp only [sP]; rfl) ?_
   refine pu HT_ 10 21 #[T,T,T,T,T,T,T,T,T,T,T,F,F,F,F,F,F,F,F,F,F,F,F,F,F,F,F] rfl rfl (by kernel_rfl) (fun _ _ _ => id) (.inl ⟨by rfl, by intro w'; go_simp; with_reducible rfl⟩) (by simp only [sP]; rfl) ?_
   refine pu HT_ 11 22 #[T,T,T,T,T,T,T,T,T,T,T,T,F,F,F,F,F,F,F,F,F,F,F,F,F,F,F] rfl rfl (by kernel_rfl) (fun _ _ _ => id) (.inr ⟨by rfl, rfl⟩) (by simp only [sP]; rfl) ?_
   refine pu HT_ 12 23 #[T,T,T,T,T,T,T,T,T,T,T,T,T,F,F,F,F,F,F,F,F,F,F,F,F,F,F] rfl rfl (by kernel_rfl) (fun _ _ _ => id) (.inr ⟨by rfl, rfl⟩) (by simp only [sP]; rfl) ?_
   refine pu HT_ 13 24 #[T,T,T,T,T,T,T,T,T,T,T,T,T,T,F,F,F,F,F,F,F,F,F,F,F,F,F] rfl rfl (by kernel_rfl) (fun _ _ _ => id) (.inr ⟨by rfl, rfl⟩) (by simp only [sP]; rfl) ?_
   refine pu HT_ 14 25 #[T,T,T,T,T,T,T,T,T,T,T,T,T,T,T,F,F,F,F,F,F,F,F,F,F,F,F] rfl rfl (by kernel_rfl) (fun _ _ _ => id) (.inr ⟨by rfl, rfl⟩) (by simp only [sP]; rfl) ?_
   refine pu HT_ 15 26 #[T,T,T,T,T,T,T,T,T,T,T,T,T,T,T,T,F,F,F,F,F,F,F,F,F,F,F] rfl rfl (by kernel_rfl) (fun _ _ _ => id) (.inr ⟨by rfl, rfl⟩) (by simp only [sP]; rfl) ?_
   refine pu HT_ 16 27 #[T,T,T,T,T,T,T,T,T,T,T,T,T,T,T,T,T,F,F,F,F,F,F,F,F,F,F] rfl rfl (by kernel_rfl) (fun _ _ _ => id) (.inr ⟨by rfl, rfl⟩) (by simp only [sP]; rfl) ?_
   refine pu HT_ 17 28 #[T,T,T,T,T,T,T,T,T,T,T,T,T,T,T,T,T,T,F,F,F,F,F,F,F,F,F] rfl rfl (by kernel_rfl) (fun _ _ _ => id) (.inr ⟨by rfl, rfl⟩) (by simp only [sP]; rfl) ?_
   refine pu HT_ 18 29 #[T,T,T,T,T,T,T,T,T,T,T,T,T,T,T,T,T,T,T,F,F,F,F,F,F,F,F] rfl rfl (by kernel_rfl) (fun _ _ _ => id) (.inl ⟨by rfl, by intro w'; go_simp; with_reducible rfl⟩) (by simp only [sP]; rfl) ?_
   refine pu HT_ 19 30 #[T,T,T,T,T,T,T,T,T,T,T,T,T,T,T,T,T,T,T,T,F,F,F,F,F,F,F] rfl rfl (by kernel_rfl) (fun _ _ _ => id) (.inl ⟨by rfl, by intro w'; go_simp; with_reducible rfl⟩) (by simp only [sP]; rfl) ?_
   refine pu HT_ 20 31 #[T,T,T,T,T,T,T,T,T,T,T,T,T,T,T,T,T,T,T,T,T,F,F,F,F,F,F] rfl rfl (by kernel_rfl) (fun _ _ _ => id) (.inr ⟨by rfl, rfl⟩) (by simp only [sP]; rfl) ?_
   refine pu HT_ 21 32 #[T,T,T,T,T,T,T,T,T,T,T,T,T,T,T,T,T,T,T,T,T,T,F,F,F,F,F] rfl rfl (by kernel_rfl) (fun _ _ _ => id) (.inr ⟨by rfl, rfl⟩) (by simp only [sP]; rfl) ?_
   refine pu HT_ 22 33 #[T,T,T,T,T,T,T,T,T,T,T,T,T,T,T,T,T,T,T,T,T,T,T,F,F,F,F] rfl rfl (by kernel_rfl) (fun _ _ _ => id) (.inr ⟨by rfl, rfl⟩) (by simp only [sP]; rfl) ?_
   refine pu HT_ 23 34 #[T,T,T,T,T,T,T,T,T,T,T,T,T,T,T,T,T,T,T,T,T,T,T,T,F,F,F] rfl rfl (by kernel_rfl) (fun _ _ _ => id) (.inr ⟨by rfl, rfl⟩) (by simp only [sP]; rfl) ?_
   refine pu HT_ 24 35 #[T,T,T,T,T,T,T,T,T,T,T,T,T,T,T,T,T,T,T,T,T,T,T,T,T,F,F] rfl rfl (by kernel_rfl) (fun _ _ _ => id) (.inr ⟨by rfl, rfl⟩) (by simp only [sP]; rfl) ?_
   refine pu HT_ 25 36 #[T,T,T,T,T,T,T,T,T,T,T,T,T,T,T,T,T,T,T,T,T,T,T,T,T,T,F] rfl rfl (by kernel_rfl) (fun _ _ _ => id) (.inl ⟨by rfl, by intro w'; go_simp; with_reducible rfl⟩) (by simp only [sP]; rfl) ?_
   refine pu HT_ 26 6 #[T,T,T,T,T,T,T,T,T,T,T,T,T,T,T,T,T,T,T,T,T,T,T,T,T,T,T] rfl rfl (by kernel_rfl) (fun _ _ _ => id) (.inl ⟨by rfl, by intro w'; go_simp; with_reducible rfl⟩) (by simp only [sP]; rfl) ?_
   refine done_ (done_of HT_.out (by kernel_rfl)) ?_
   try go_wp2
   go_ret
   exact ⟨by first | rfl | (simp [errW_none, errW_some] <;> rfl) | (simp [*, errW_none, errW_some] <;> rfl), by repeat (first | (with_reducible first | exact HB.out | apply bL | apply bM | apply bR) | exact HB.out)⟩

end Go.Proofs.YtnmemkphfgdplaaDoor.PA
namespace Go.Proofs.YtnmemkphfgdplaaDoor.Amt
set_option linter.unusedVariables false
def valid (m : Int) : Bool := decide (1 ≤ m) && decide (m ≤ 5)
def shaped (k n : Int) : Bool := (k == 1 && n == 1) || (k == 2 && decide (1 ≤ n) && decide (n ≤ 8))
def zero (m u : Int) : Bool := m == 0 && u == 0
def fits (k n m u : Int) : Bool := shaped k n && (if k = 1 then valid m && u == 0 else m == 0 && decide (1 ≤ u) && decide (u ≤ n))
def permitted (k n m u : Int) : Bool := shaped k n && (zero m u || fits k n m u)
def comp (a b : Int) : Bool := valid a && valid b && a != 5 && b != 5 && (a == 1 || b == 1 || (a == b && a != 4))
/-- Two amounts of a lock that may be held together, or one of which is none. -/
def okp (a b : Int × Int) : Bool := zero a.1 a.2 || zero b.1 b.2 || comp a.1 b.1
/-- The sum of the units. -/
def units (l : List (Int × Int)) : Int := (l.map (·.2)).sum
/-- Each goes with all ahead of it. -/
def pw : List (Int × Int) → Bool
  | [] => true
  | a :: l => l.all (fun b => okp a b) && pw l
def compat (k n : Int) (l : List (Int × Int)) : Bool := shaped k n && l.all (fun a => permitted k n a.1 a.2) && (if k = 2 then decide (units l ≤ n) else pw l)

theorem five {a : Int} (h : 1 ≤ a ∧ a ≤ 5) : a = 1 ∨ a = 2 ∨ a = 3 ∨ a = 4 ∨ a = 5 := by omega
theorem valid_iff {a : Int} : valid a = true ↔ 1 ≤ a ∧ a ≤ 5 := by simp [valid]
theorem tab_comp {a b : Int} (ha : 1 ≤ a ∧ a ≤ 5) (hb : 1 ≤ b ∧ b ≤ 5) : modeTab.getD (a.toNat * 6 + b.toNat) false = comp a b := by
  rcases five ha with rfl | rfl | rfl | rfl | rfl <;> rcases five hb with rfl | rfl | rfl | rfl | rfl <;> rfl
theorem comp_comm (a b : Int) : comp a b = comp b a := by
  rw [Bool.eq_iff_iff]
  simp only [comp, valid, Bool.and_eq_true, Bool.or_eq_true, decide_eq_true_eq, bne_iff_ne, beq_iff_eq]
  omega
theorem okp_comm (a b : Int × Int) : okp a b = okp b a := by
  unfold okp
  rw [comp_comm, Bool.or_comm (zero a.1 a.2)]
theorem permitted_nonneg {k n m u : Int} (h : permitted k n m u = true) : 0 ≤ u ∧ u ≤ 8 := by
  simp only [permitted, fits, shaped, zero, Bool.and_eq_true, Bool.or_eq_true, decide_eq_true_eq, beq_iff_eq] at h
  rcases h with ⟨h1, h2 | ⟨_, h3⟩⟩
  · omega
  · split at h3
    · simp only [Bool.and_eq_true, beq_iff_eq] at h3
      omega
    · simp only [Bool.and_eq_true, beq_iff_eq, decide_eq_true_eq] at h3
      omega
theorem units_cons (a : Int × Int) (l : List (Int × Int)) : units (a :: l) = a.2 + units l := by simp [units]
theorem units_nonneg {k n : Int} : ∀ {l : List (Int × Int)}, l.all (fun a => permitted k n a.1 a.2) = true → 0 ≤ units l ∧ units l ≤ 8 * l.length
  | [], _ => by simp [units]
  | a :: l, h => by
    simp only [List.all_cons, Bool.and_eq_true] at h
    have h1 := permitted_nonneg h.1
    have h2 := units_nonneg h.2
    rw [units_cons, List.length_cons]
    omega
end Go.Proofs.YtnmemkphfgdplaaDoor.Amt


/- What the printed functions of the packages mode and amount, and of their references, compute. Conditions: none of our own. -/
namespace Go.Proofs.YtnmemkphfgdplaaDoor
open Go.RowKit Go.Proofs.YtnmemkphfgdplaaDoorW.PrintWords Go.Proofs.YtnmemkphfgdplaaDoorW.PrintLast Go.Proofs.YtnmemkphfgdplaaDoorW.PrintMore Amt
namespace PA
set_option linter.unusedVariables false
set_option linter.unusedSimpArgs false
theorem shaped_eq (s : ByteArray) (k n h : Int) : amount_Shaped.f s k n h = some (shaped k n) := by
  unfold amount_Shaped.f shaped
  by_cases h1 : k = 1
  · subst h1; simp
  · rw [if_neg h1]
    by_cases h2 : k = 2
    · subst h2
      by_cases h3 : n ≥ 1
      · rw [if_pos rfl, if_pos h3]; simp [h3]
      · rw [if_pos rfl, if_neg h3]; simp [h3]
    · rw [if_neg h2]; simp [h1, h2]
theorem rshaped_eq (s : ByteArray) (k n h : Int) : clusterlocksref04_Shaped.f s k n h = some (shaped k n) := by
  unfold clusterlocksref04_Shaped.f shaped
  by_cases h1 : k = 1
  · subst h1
    by_cases h3 : n = 1
    · subst h3; simp
    · rw [if_pos rfl, if_neg h3, if_neg (by omega)]; simp [h3]
  · rw [if_neg h1]
    by_cases h2 : k = 2
    · subst h2
      by_cases h3 : n ≥ 1
      · rw [if_pos rfl, if_pos h3]; simp [h3]
      · rw [if_pos rfl, if_neg h3]; simp [h3]
    · rw [if_neg h2]; simp [h1, h2]
theorem valid_eq (m : Int) : mode_Valid.f m = some (valid m) := by
  unfold mode_Valid.f valid
  by_cases h : m ≥ 1
  · rw [if_pos h]; simp [h]
  · rw [if_neg h]; simp [h]
theorem rvalid_eq (m : Int) : clusterlocksref03_Valid.f m = some (valid m) := by
  unfold clusterlocksref03_Valid.f valid
  by_cases h : m ≥ 1
  · rw [if_pos h]; simp [h]
  · rw [if_neg h]; simp [h]
theorem zero_eq (m u : Int) : amount_Zero.f m u = some (zero m u) := rfl
theorem rzero_eq (m u : Int) : clusterlocksref04_Zero.f m u = some (zero m u) := rfl
theorem fits_eq (s : ByteArray) (k n h m u : Int) : amount_Fits.f s k n h m u = some (fits k n m u) := by
  unfold amount_Fits.f fits
  simp only [shaped_eq, valid_eq, Option.bind_some]
  cases h0 : shaped k n
  · simp
  · by_cases h1 : k = 1
    · subst h1
      cases hv : valid m <;> simp [hv]
    · by_cases h2 : m = 0
      · by_cases h3 : u ≥ 1 <;> simp [h1, h2, h3]
      · simp [h1, h2]
theorem rfits_eq (s : ByteArray) (k n h m u : Int) : clusterlocksref04_Fits.f s k n h m u = some (fits k n m u) := by
  unfold clusterlocksref04_Fits.f fits
  simp only [rshaped_eq, rvalid_eq, Option.bind_some]
  cases h0 : shaped k n
  · simp
  · by_cases h1 : k = 1
    · subst h1
      cases hv : valid m <;> simp [hv]
    · by_cases h2 : m = 0
      · by_cases h3 : u ≥ 1 <;> simp [h1, h2, h3]
      · simp [h1, h2]
theorem fits_shaped {k n m u : Int} (h : fits k n m u = true) : shaped k n = true := by
  unfold fits at h
  cases h0 : shaped k n
  · simp [h0] at h
  · rfl
theorem permitted_eq (s : ByteArray) (k n h m u : Int) : amount_permitted.f s k n h m u = some (permitted k n m u) := by
  unfold amount_permitted.f permitted
  simp only [fits_eq, zero_eq, shaped_eq, Option.bind_some]
  cases hf : fits k n m u
  · cases hz : zero m u <;> simp
  · simp [fits_shaped hf]
theorem rpermitted_eq (s : ByteArray) (k n h m u : Int) : clusterlocksref04_Permitted.f s k n h m u = some (permitted k n m u) := by
  unfold clusterlocksref04_Permitted.f permitted
  simp only [rfits_eq, rzero_eq, rshaped_eq, Option.bind_some]
  cases hs : shaped k n <;> cases hz : zero m u <;> simp
theorem mcomp_eq (a b : Int) : mode_Compatible.f a b = some (comp a b) := by
  unfold mode_Compatible.f
  by_cases ha : 1 ≤ a ∧ a ≤ 5
  · by_cases hb : 1 ≤ b ∧ b ≤ 5
    · rw [if_pos ha, if_pos hb, tab_comp ha hb]
    · rw [if_pos ha, if_neg hb]
      have : valid b = false := by rw [Bool.eq_false_iff]; intro h; exact hb (valid_iff.1 h)
      simp [comp, this]
  · rw [if_neg ha]
    have : valid a = false := by rw [Bool.eq_false_iff]; intro h; exact ha (valid_iff.1 h)
    simp [comp, this]
theorem rcomp_eq (a b : Int) : clusterlocksref03_Compatible.f a b = some (comp a b) := by
  unfold clusterlocksref03_Compatible.f comp
  simp only [rvalid_eq, Option.bind_some]
  cases valid a
  · simp
  · cases valid b
    · simp
    · by_cases h1 : a = 5
      · simp [h1]
      · by_cases h2 : b = 5
        · simp [h1, h2]
        · by_cases h3 : a = 1
          · simp [h3, h2]
          · by_cases h4 : b = 1
            · simp [h1, h3, h4]
            · by_cases h5 : a = b
              · subst h5
                have e1 : (a != 5) = true := bne_iff_ne.2 h1
                have e2 : (a == 1) = false := beq_eq_false_iff_ne.2 h3
                simp [h1, h3, e1, e2]
              · simp [h1, h2, h3, h4, h5]
/-- A printed list of amounts as pairs. -/
def prs (l : List S26) : List (Int × Int) := l.map fun x => (x.f0, x.f1)
theorem prs_length (l : List S26) : (prs l).length = l.length := List.length_map _
theorem rd_get (l : List S26) (i : Nat) (h : i < l.length) : rd_T26 l (i : Int) = l[i] := by
  unfold rd_T26
  rw [Int.toNat_natCast, List.getD_eq_getElem?_getD, List.getElem?_eq_getElem h]
  rfl
theorem wrap_small {x : Int} (h0 : -9223372036854775808 ≤ x) (h : x ≤ 9223372036854775807) : wrap64 x = x := by unfold wrap64; omega
end PA
end Go.Proofs.YtnmemkphfgdplaaDoor


/- What the two functions Compatible compute of a list of amounts, and Room. Conditions: none of our own. -/
namespace Go.Proofs.YtnmemkphfgdplaaDoor
open Go.RowKit Go.Proofs.YtnmemkphfgdplaaDoorW.PrintWords Go.Proofs.YtnmemkphfgdplaaDoorW.PrintLast Go.Proofs.YtnmemkphfgdplaaDoorW.PrintMore Amt
namespace PA
set_option linter.unusedVariables false
set_option linter.unusedSimpArgs false
theorem prs_get (l : List S26) (i : Nat) (h : i < l.length) : (prs l)[i]'(by rw [prs_length]; exact h) = ((l[i]).f0, (l[i]).f1) := by simp [prs]
theorem drop_cons {α : Type} (l : List α) (i : Nat) (h : i < l.length) : l.drop i = l[i] :: l.drop (i + 1) := List.drop_eq_getElem_cons h
/-- The inner loop: the rest of what stands ahead goes with the amount (m, u), or the answer is false. -/
theorem compat_l1 (s : ByteArray) (kd n hm : Int) (x1 x13 : List S26) (sm len i m u : Int) (fine : Bool) (y : List S26) (R : Bool) (hy : y.length < 1000000)
    (hR : Ev (fun k => amount_Compatible.l0 k x1 sm fine x13 len (wrap64 (i + 1)) s kd n hm) R) :
    ∀ (d j : Nat), j + d = y.length → Ev (fun k => amount_Compatible.l1 k x1 sm fine x13 len i y (y.length : Int) (j : Int) s kd n hm m u) (if kd = 1 then (if ((prs y).drop j).all (fun b => okp (m, u) b) then R else false) else R) := by
  intro d
  induction d with
  | zero =>
    intro j hj
    have hd : (prs y).drop j = [] := by rw [List.drop_eq_nil_iff, prs_length]; omega
    rw [hd]
    have e : (if kd = 1 then (if ([] : List (Int × Int)).all (fun b => okp (m, u) b) then R else false) else R) = R := by simp
    rw [e]
    refine Ev.step (fun k => ?_) hR
    simp only [amount_Compatible.l1]
    rw [if_neg (by omega)]
  | succ d ih =>
    intro j hj
    have hlt : j < y.length := by omega
    have ih' := ih (j + 1) (by omega)
    have hw : wrap64 ((j : Int) + 1) = ((j + 1 : Nat) : Int) := by rw [wrap_small (by omega) (by omega)]; omega
    have hdc : (prs y).drop j = ((y[j]).f0, (y[j]).f1) :: (prs y).drop (j + 1) := by
      rw [drop_cons (prs y) j (by rw [prs_length]; exact hlt), prs_get y j hlt]
    by_cases hk : kd = 1
    · rw [if_pos hk] at ih' ⊢
      rw [hdc, List.all_cons]
      cases hz : zero m u
      · cases hz2 : zero (y[j]).f0 (y[j]).f1
        · cases hc : comp m (y[j]).f0
          · have : okp (m, u) ((y[j]).f0, (y[j]).f1) = false := by simp [okp, hz, hz2, hc]
            rw [this]
            simp only [Bool.false_and, Bool.false_eq_true, if_false]
            refine Ev.step (f := fun _ => some false) (fun k => ?_) (Ev.now false)
            simp only [amount_Compatible.l1, zero_eq, mcomp_eq, Option.bind_some, rd_get y j hlt]
            rw [if_pos (by omega), if_pos (by omega), if_pos (by omega), if_pos hk]
            simp [hz, hz2, hc]
          · have : okp (m, u) ((y[j]).f0, (y[j]).f1) = true := by simp [okp, hc]
            rw [this, Bool.true_and]
            refine Ev.step (fun k => ?_) ih'
            simp only [amount_Compatible.l1, zero_eq, mcomp_eq, Option.bind_some, rd_get y j hlt]
            rw [if_pos (by omega), if_pos (by omega), if_pos (by omega), if_pos hk, hw]
            simp [hz, hz2, hc]
        · have : okp (m, u) ((y[j]).f0, (y[j]).f1) = true := by simp [okp, hz2]
          rw [this, Bool.true_and]
          refine Ev.step (fun k => ?_) ih'
          simp only [amount_Compatible.l1, zero_eq, mcomp_eq, Option.bind_some, rd_get y j hlt]
          rw [if_pos (by omega), if_pos (by omega), if_pos (by omega), if_pos hk, hw]
          simp [hz, hz2]
      · have : okp (m, u) ((y[j]).f0, (y[j]).f1) = true := by simp [okp, hz]
        rw [this, Bool.true_and]
        refine Ev.step (fun k => ?_) ih'
        simp only [amount_Compatible.l1, zero_eq, mcomp_eq, Option.bind_some, rd_get y j hlt]
        rw [if_pos (by omega), if_pos (by omega), if_pos (by omega), if_pos hk, hw]
        simp [hz]
    · rw [if_neg hk] at ih' ⊢
      refine Ev.step (fun k => ?_) ih'
      simp only [amount_Compatible.l1, zero_eq, mcomp_eq, Option.bind_some, rd_get y j hlt]
      rw [if_pos (by omega), if_pos (by omega), if_pos (by omega), if_neg hk, hw]
/-- What is still to be asked from place i on: the sum so far, and whether the resource is shaped. -/
def rest (kd n : Int) (fine : Bool) : List (Int × Int) → Int → List (Int × Int) → Bool
  | front, sm, [] => fine && (if kd = 2 then decide (sm ≤ n) else true)
  | front, sm, a :: l => permitted kd n a.1 a.2 && (if kd = 1 then front.all (fun b => okp a b) else true) && rest kd n fine (front ++ [a]) (sm + a.2) l
theorem compat_l0 (s : ByteArray) (kd n hm : Int) (x1 : List S26) (fine : Bool) (hy : x1.length < 1000) :
    ∀ (d i : Nat), i + d = x1.length → ∀ (sm : Int), 0 ≤ sm → sm ≤ 8 * i → Ev (fun k => amount_Compatible.l0 k x1 sm fine x1 (x1.length : Int) (i : Int) s kd n hm) (rest kd n fine ((prs x1).take i) sm ((prs x1).drop i)) := by
  intro d
  induction d with
  | zero =>
    intro i hi sm h0 h1
    have hd : (prs x1).drop i = [] := by rw [List.drop_eq_nil_iff, prs_length]; omega
    rw [hd]
    refine Ev.step (f := fun _ => some (rest kd n fine ((prs x1).take i) sm [])) (fun k => ?_) (Ev.now _)
    simp only [amount_Compatible.l0, rest]
    rw [if_neg (by omega)]
    cases fine <;> by_cases h2 : kd = 2 <;> simp [h2]
  | succ d ih =>
    intro i hi sm h0 h1
    have hlt : i < x1.length := by omega
    have hdc : (prs x1).drop i = ((x1[i]).f0, (x1[i]).f1) :: (prs x1).drop (i + 1) := by
      rw [drop_cons (prs x1) i (by rw [prs_length]; exact hlt), prs_get x1 i hlt]
    rw [hdc, rest]
    cases hp : permitted kd n (x1[i]).f0 (x1[i]).f1
    · simp only [Bool.false_and]
      refine Ev.step (f := fun _ => some false) (fun k => ?_) (Ev.now _)
      simp only [amount_Compatible.l0, permitted_eq, Option.bind_some, rd_get x1 i hlt, hp]
      rw [if_pos (by omega), if_pos (by omega), if_pos (by omega)]
      simp
    · have hu := permitted_nonneg hp
      have ih' := ih (i + 1) (by omega) (sm + (x1[i]).f1) (by omega) (by omega)
      have hw : wrap64 ((i : Int) + 1) = ((i + 1 : Nat) : Int) := by rw [wrap_small (by omega) (by omega)]; omega
      have hs : wrap64 (sm + (x1[i]).f1) = sm + (x1[i]).f1 := wrap_small (by omega) (by omega)
      have htk : (prs x1).take (i + 1) = (prs x1).take i ++ [((x1[i]).f0, (x1[i]).f1)] := by
        rw [List.take_succ_eq_append_getElem (by rw [prs_length]; exact hlt), prs_get x1 i hlt]
      rw [htk] at ih'
      rw [← hw] at ih'
      have hyl : (x1.take i).length < 1000000 := by rw [List.length_take]; omega
      have l1 := compat_l1 s kd n hm x1 x1 (sm + (x1[i]).f1) (x1.length : Int) (i : Int) (x1[i]).f0 (x1[i]).f1 fine (x1.take i) _ hyl ih' (x1.take i).length 0 (by omega)
      refine Ev.step (fun k => ?_) (?_ : Ev (fun k => amount_Compatible.l1 k x1 (sm + (x1[i]).f1) fine x1 (x1.length : Int) (i : Int) (x1.take i) ((x1.take i).length : Int) ((0 : Nat) : Int) s kd n hm (x1[i]).f0 (x1[i]).f1) _)
      · simp only [amount_Compatible.l0, permitted_eq, Option.bind_some, rd_get x1 i hlt, hp, hs, Int.toNat_natCast]
        rw [if_pos (by omega), if_pos (by omega), if_pos (by omega)]
        simp only [if_true]
        rw [if_pos (by omega)]
        rfl
      · have e : prs (x1.take i) = (prs x1).take i := List.map_take
        rw [e, List.drop_zero] at l1
        rw [Bool.true_and]
        by_cases hk : kd = 1
        · rw [if_pos hk] at l1 ⊢
          cases ha : ((prs x1).take i).all (fun b => okp ((x1[i]).f0, (x1[i]).f1) b)
          · rw [ha] at l1
            simpa using l1
          · rw [ha] at l1
            simpa using l1
        · rw [if_neg hk] at l1 ⊢
          rw [Bool.true_and]
          exact l1
theorem rest_eq (kd n : Int) (fine : Bool) : ∀ (l front : List (Int × Int)) (sm : Int), rest kd n fine front sm l = (fine && l.all (fun a => permitted kd n a.1 a.2) && (if kd = 2 then decide (sm + units l ≤ n) else true) && (if kd = 1 then pw l && l.all (fun a => front.all (fun b => okp a b)) else true))
  | [], front, sm => by
    simp only [rest, units, List.map_nil, List.sum_nil, List.all_nil, pw, Int.add_zero]
    cases fine <;> simp
  | a :: l, front, sm => by
    rw [rest, rest_eq kd n fine l, units_cons, Int.add_assoc]
    simp only [List.all_cons, pw]
    by_cases h1 : kd = 1
    · simp only [if_pos h1, if_neg (show ¬ kd = 2 by omega), List.all_append, List.all_cons, List.all_nil, Bool.and_true]
      have e : (l.all fun c => front.all (fun b => okp c b) && okp c a) = ((l.all fun c => front.all (fun b => okp c b)) && l.all (fun b => okp a b)) := by
        rw [Bool.eq_iff_iff]
        simp only [List.all_eq_true, Bool.and_eq_true]
        constructor
        · intro h
          exact ⟨fun c hc => (h c hc).1, fun c hc => by rw [okp_comm]; exact (h c hc).2⟩
        · intro h c hc
          exact ⟨h.1 c hc, by rw [okp_comm]; exact h.2 c hc⟩
      rw [e]
      generalize permitted kd n a.1 a.2 = b1
      generalize front.all (fun b => okp a b) = b2
      generalize l.all (fun a => permitted kd n a.1 a.2) = b3
      generalize pw l = b4
      generalize (l.all fun c => front.all (fun b => okp c b)) = b5
      generalize l.all (fun b => okp a b) = b6
      cases b1 <;> cases b2 <;> cases b3 <;> cases b4 <;> cases b5 <;> cases b6 <;> cases fine <;> rfl
    · simp only [if_neg h1, Bool.and_true]
      generalize permitted kd n a.1 a.2 = b1
      generalize l.all (fun a => permitted kd n a.1 a.2) = b3
      cases b1 <;> cases b3 <;> cases fine <;> rfl
theorem compat_eq (s : ByteArray) (kd n hm : Int) (l : List S26) (hl : l.length < 1000) : Ev (fun k => amount_Compatible.f k s kd n hm l) (compat kd n (prs l)) := by
  have h := compat_l0 s kd n hm l (shaped kd n) hl l.length 0 (by omega) 0 (by omega) (by omega)
  rw [List.take_zero, List.drop_zero, rest_eq] at h
  have e : compat kd n (prs l) = (shaped kd n && (prs l).all (fun a => permitted kd n a.1 a.2) && (if kd = 2 then decide (0 + units (prs l) ≤ n) else true) && (if kd = 1 then pw (prs l) && (prs l).all (fun a => ([] : List (Int × Int)).all (fun b => okp a b)) else true)) := by
    unfold compat
    rw [Int.zero_add]
    have e2 : ((prs l).all fun a => ([] : List (Int × Int)).all (fun b => okp a b)) = true := by simp
    rw [e2, Bool.and_true]
    cases hs : shaped kd n
    · simp
    · have : kd = 1 ∨ kd = 2 := by
        simp only [shaped, Bool.or_eq_true, Bool.and_eq_true, beq_iff_eq] at hs
        omega
      rcases this with rfl | rfl <;> simp
  rw [e]
  refine Ev.congr (fun k => ?_) h
  unfold amount_Compatible.f
  simp only [shaped_eq, Option.bind_some]
  rfl
end PA
end Go.Proofs.YtnmemkphfgdplaaDoor


/- What the reference's function Compatible computes of a list of amounts, and its Room. Conditions: none of our own. -/
namespace Go.Proofs.YtnmemkphfgdplaaDoor
open Go.RowKit Go.Proofs.YtnmemkphfgdplaaDoorW.PrintWords Go.Proofs.YtnmemkphfgdplaaDoorW.PrintLast Go.Proofs.YtnmemkphfgdplaaDoorW.PrintMore Amt
namespace PA
set_option linter.unusedVariables false
set_option linter.unusedSimpArgs false
theorem rcompat_l1 (s : ByteArray) (kd n hm : Int) (x1 : List S26) (sm : Int) (i : Nat) (hi : i < x1.length) (hy : x1.length < 1000000) (R : Bool)
    (hR : Ev (fun k => clusterlocksref04_Compatible.l0 k x1 sm (wrap64 ((i : Int) + 1)) s kd n hm) R) :
    ∀ (d j : Nat), j + d = i → Ev (fun k => clusterlocksref04_Compatible.l1 k x1 sm (i : Int) (j : Int) s kd n hm) (if (((prs x1).take i).drop j).all (fun b => okp ((x1[i]).f0, (x1[i]).f1) b) then R else false) := by
  intro d
  induction d with
  | zero =>
    intro j hj
    have hd : ((prs x1).take i).drop j = [] := by rw [List.drop_eq_nil_iff, List.length_take, prs_length]; omega
    rw [hd]
    simp only [List.all_nil, if_true]
    refine Ev.step (fun k => ?_) hR
    simp only [clusterlocksref04_Compatible.l1]
    rw [if_neg (by omega)]
  | succ d ih =>
    intro j hj
    have hlt : j < i := by omega
    have ih' := ih (j + 1) (by omega)
    have hw : wrap64 ((j : Int) + 1) = ((j + 1 : Nat) : Int) := by rw [wrap_small (by omega) (by omega)]; omega
    have hdc : ((prs x1).take i).drop j = ((x1[j]).f0, (x1[j]).f1) :: ((prs x1).take i).drop (j + 1) := by
      rw [drop_cons ((prs x1).take i) j (by rw [List.length_take, prs_length]; omega), List.getElem_take, prs_get x1 j (by omega)]
    rw [hdc, List.all_cons]
    cases hz : zero (x1[i]).f0 (x1[i]).f1
    · cases hz2 : zero (x1[j]).f0 (x1[j]).f1
      · cases hc : comp (x1[i]).f0 (x1[j]).f0
        · have : okp ((x1[i]).f0, (x1[i]).f1) ((x1[j]).f0, (x1[j]).f1) = false := by simp [okp, hz, hz2, hc]
          rw [this]
          simp only [Bool.false_and, Bool.false_eq_true, if_false]
          refine Ev.step (f := fun _ => some false) (fun k => ?_) (Ev.now false)
          simp only [clusterlocksref04_Compatible.l1, rzero_eq, rcomp_eq, Option.bind_some, rd_get x1 i hi, rd_get x1 j (show j < x1.length by omega), hz, hz2, hc]
          rw [if_pos (by omega), if_pos (by omega), if_pos (by omega), if_neg (by decide), if_pos (by omega), if_pos (by omega), if_neg (by decide), if_neg (by decide)]
        · have : okp ((x1[i]).f0, (x1[i]).f1) ((x1[j]).f0, (x1[j]).f1) = true := by simp [okp, hc]
          rw [this, Bool.true_and]
          refine Ev.step (fun k => ?_) ih'
          simp only [clusterlocksref04_Compatible.l1, rzero_eq, rcomp_eq, Option.bind_some, rd_get x1 i hi, rd_get x1 j (show j < x1.length by omega), hz, hz2, hc]
          rw [if_pos (by omega), if_pos (by omega), if_pos (by omega), if_neg (by decide), if_pos (by omega), if_pos (by omega), if_neg (by decide), if_pos trivial, hw]
      · have : okp ((x1[i]).f0, (x1[i]).f1) ((x1[j]).f0, (x1[j]).f1) = true := by simp [okp, hz2]
        rw [this, Bool.true_and]
        refine Ev.step (fun k => ?_) ih'
        simp only [clusterlocksref04_Compatible.l1, rzero_eq, rcomp_eq, Option.bind_some, rd_get x1 i hi, rd_get x1 j (show j < x1.length by omega), hz, hz2]
        rw [if_pos (by omega), if_pos (by omega), if_pos (by omega), if_neg (by decide), if_pos (by omega), if_pos (by omega), if_pos trivial, hw]
    · have : okp ((x1[i]).f0, (x1[i]).f1) ((x1[j]).f0, (x1[j]).f1) = true := by simp [okp, hz]
      rw [this, Bool.true_and]
      refine Ev.step (fun k => ?_) ih'
      simp only [clusterlocksref04_Compatible.l1, rzero_eq, rcomp_eq, Option.bind_some, rd_get x1 i hi, hz]
      rw [if_pos (by omega), if_pos (by omega), if_pos (by omega), if_pos trivial, hw]
def rrest (kd n : Int) : List (Int × Int) → Int → List (Int × Int) → Bool
  | front, sm, [] => true
  | front, sm, a :: l => permitted kd n a.1 a.2 && (if kd = 2 then decide (sm + a.2 ≤ n) && rrest kd n (front ++ [a]) (sm + a.2) l else front.all (fun b => okp a b) && rrest kd n (front ++ [a]) sm l)
theorem rcompat_l0 (s : ByteArray) (kd n hm : Int) (x1 : List S26) (hy : x1.length < 1000) :
    ∀ (d i : Nat), i + d = x1.length → ∀ (sm : Int), 0 ≤ sm → sm ≤ 8 * i → Ev (fun k => clusterlocksref04_Compatible.l0 k x1 sm (i : Int) s kd n hm) (rrest kd n ((prs x1).take i) sm ((prs x1).drop i)) := by
  intro d
  induction d with
  | zero =>
    intro i hi sm h0 h1
    have hd : (prs x1).drop i = [] := by rw [List.drop_eq_nil_iff, prs_length]; omega
    rw [hd]
    refine Ev.step (f := fun _ => some true) (fun k => ?_) (Ev.now _)
    simp only [clusterlocksref04_Compatible.l0]
    rw [if_neg (by omega)]
  | succ d ih =>
    intro i hi sm h0 h1
    have hlt : i < x1.length := by omega
    have hdc : (prs x1).drop i = ((x1[i]).f0, (x1[i]).f1) :: (prs x1).drop (i + 1) := by
      rw [drop_cons (prs x1) i (by rw [prs_length]; exact hlt), prs_get x1 i hlt]
    rw [hdc, rrest]
    cases hp : permitted kd n (x1[i]).f0 (x1[i]).f1
    · simp only [Bool.false_and]
      refine Ev.step (f := fun _ => some false) (fun k => ?_) (Ev.now _)
      simp only [clusterlocksref04_Compatible.l0, rpermitted_eq, Option.bind_some, rd_get x1 i hlt, hp]
      rw [if_pos (by omega), if_pos (by omega), if_neg (by decide)]
    · have hu := permitted_nonneg hp
      have hw : wrap64 ((i : Int) + 1) = ((i + 1 : Nat) : Int) := by rw [wrap_small (by omega) (by omega)]; omega
      have hs : wrap64 (sm + (x1[i]).f1) = sm + (x1[i]).f1 := wrap_small (by omega) (by omega)
      have htk : (prs x1).take (i + 1) = (prs x1).take i ++ [((x1[i]).f0, (x1[i]).f1)] := by
        rw [List.take_succ_eq_append_getElem (by rw [prs_length]; exact hlt), prs_get x1 i hlt]
      rw [Bool.true_and]
      by_cases hk : kd = 2
      · rw [if_pos hk]
        by_cases hgt : sm + (x1[i]).f1 ≤ n
        · have ih' := ih (i + 1) (by omega) (sm + (x1[i]).f1) (by omega) (by omega)
          rw [htk, ← hw] at ih'
          rw [decide_eq_true hgt, Bool.true_and]
          refine Ev.step (fun k => ?_) ih'
          simp only [clusterlocksref04_Compatible.l0, rpermitted_eq, Option.bind_some, rd_get x1 i hlt, hp, hs]
          rw [if_pos (by omega), if_pos (by omega), if_pos trivial, if_pos hk, if_neg (by omega)]
        · rw [decide_eq_false hgt, Bool.false_and]
          refine Ev.step (f := fun _ => some false) (fun k => ?_) (Ev.now _)
          simp only [clusterlocksref04_Compatible.l0, rpermitted_eq, Option.bind_some, rd_get x1 i hlt, hp, hs]
          rw [if_pos (by omega), if_pos (by omega), if_pos trivial, if_pos hk, if_pos (by omega)]
      · rw [if_neg hk]
        have ih' := ih (i + 1) (by omega) sm (by omega) (by omega)
        rw [htk, ← hw] at ih'
        have l1 := rcompat_l1 s kd n hm x1 sm i hlt (by omega) _ ih' i 0 (by omega)
        rw [List.drop_zero] at l1
        refine Ev.step (fun k => ?_) (?_ : Ev (fun k => clusterlocksref04_Compatible.l1 k x1 sm (i : Int) ((0 : Nat) : Int) s kd n hm) _)
        · simp only [clusterlocksref04_Compatible.l0, rpermitted_eq, Option.bind_some, rd_get x1 i hlt, hp]
          rw [if_pos (by omega), if_pos (by omega), if_pos trivial, if_neg hk]
          rfl
        · cases ha : ((prs x1).take i).all (fun b => okp ((x1[i]).f0, (x1[i]).f1) b)
          · rw [ha] at l1
            simpa using l1
          · rw [ha] at l1
            simpa using l1
theorem rrest_eq2 (n : Int) : ∀ (l front : List (Int × Int)) (sm : Int), sm ≤ n → rrest 2 n front sm l = (l.all (fun a => permitted 2 n a.1 a.2) && decide (sm + units l ≤ n))
  | [], front, sm, h => by simp [rrest, units, h]
  | a :: l, front, sm, h => by
    rw [rrest, if_pos rfl, units_cons, ← Int.add_assoc, List.all_cons]
    by_cases hs : sm + a.2 ≤ n
    · rw [rrest_eq2 n l _ _ hs, decide_eq_true hs, Bool.true_and, Bool.and_assoc]
    · rw [decide_eq_false hs, Bool.false_and, Bool.and_false]
      cases hp : l.all (fun a => permitted 2 n a.1 a.2)
      · simp
      · have := units_nonneg hp
        rw [decide_eq_false (by omega), Bool.and_false]
theorem rrest_eq1 (kd n : Int) (hk : ¬ kd = 2) : ∀ (l front : List (Int × Int)) (sm : Int), rrest kd n front sm l = (l.all (fun a => permitted kd n a.1 a.2) && (pw l && l.all (fun a => front.all (fun b => okp a b))))
  | [], front, sm => by simp [rrest, pw]
  | a :: l, front, sm => by
    rw [rrest, if_neg hk, rrest_eq1 kd n hk l]
    simp only [List.all_cons, pw, List.all_append, List.all_nil, Bool.and_true]
    have e : (l.all fun c => front.all (fun b => okp c b) && okp c a) = ((l.all fun c => front.all (fun b => okp c b)) && l.all (fun b => okp a b)) := by
      rw [Bool.eq_iff_iff]
      simp only [List.all_eq_true, Bool.and_eq_true]
      constructor
      · intro h
        exact ⟨fun c hc => (h c hc).1, fun c hc => by rw [okp_comm]; exact (h c hc).2⟩
      · intro h c hc
        exact ⟨h.1 c hc, by rw [okp_comm]; exact h.2 c hc⟩
    rw [e]
    generalize permitted kd n a.1 a.2 = b1
    generalize front.all (fun b => okp a b) = b2
    generalize l.all (fun a => permitted kd n a.1 a.2) = b3
    generalize pw l = b4
    generalize (l.all fun c => front.all (fun b => okp c b)) = b5
    generalize l.all (fun b => okp a b) = b6
    cases b1 <;> cases b2 <;> cases b3 <;> cases b4 <;> cases b5 <;> cases b6 <;> rfl
theorem rcompat_eq (s : ByteArray) (kd n hm : Int) (l : List S26) (hl : l.length < 1000) : Ev (fun k => clusterlocksref04_Compatible.f k s kd n hm l) (compat kd n (prs l)) := by
  cases hs : shaped kd n
  · have e : compat kd n (prs l) = false := by simp [compat, hs]
    rw [e]
    refine Ev.congr (f := fun _ => some false) (fun k => ?_) (Ev.now _)
    unfold clusterlocksref04_Compatible.f
    simp only [rshaped_eq, Option.bind_some, hs]
    rfl
  · have h := rcompat_l0 s kd n hm l hl l.length 0 (by omega) 0 (by omega) (by omega)
    rw [List.take_zero, List.drop_zero] at h
    have e : compat kd n (prs l) = rrest kd n [] 0 (prs l) := by
      unfold compat
      rw [hs, Bool.true_and]
      by_cases hk : kd = 2
      · subst hk
        have hn : (0 : Int) ≤ n := by
          simp only [shaped, Bool.or_eq_true, Bool.and_eq_true, beq_iff_eq, decide_eq_true_eq] at hs
          omega
        rw [rrest_eq2 n _ _ _ hn, Int.zero_add, if_pos rfl]
      · rw [rrest_eq1 kd n hk, if_neg hk]
        have e2 : ((prs l).all fun a => ([] : List (Int × Int)).all (fun b => okp a b)) = true := by simp
        rw [e2, Bool.and_true]
    rw [e]
    refine Ev.congr (fun k => ?_) h
    unfold clusterlocksref04_Compatible.f
    simp only [rshaped_eq, Option.bind_some, hs]
    rfl
end PA
end Go.Proofs.YtnmemkphfgdplaaDoor


/- Grants in plain Lean: what Set, place and their reference compute. Conditions: none of our own. -/
namespace Go.Proofs.YtnmemkphfgdplaaDoor
open Go.RowKit Go.Proofs.YtnmemkphfgdplaaDoorW.PrintWords Go.Proofs.YtnmemkphfgdplaaDoorW.PrintLast Go.Proofs.YtnmemkphfgdplaaDoorW.PrintMore Amt
namespace PA
set_option linter.unusedVariables false
set_option linter.unusedSimpArgs false
theorem rd_hold (l : List S53) (i : Nat) (h : i < l.length) : rd_T53 l (i : Int) = l[i] := by
  unfold rd_T53
  rw [Int.toNat_natCast, List.getD_eq_getElem?_getD, List.getElem?_eq_getElem h]
  rfl
theorem rcmp_eq (a0 a1 a2 b0 b1 b2 : Int) : clusterlocksref02_CompareProc.f a0 a1 a2 b0 b1 b2 = some (cmp3 a0 a1 a2 b0 b1 b2) := by
  unfold clusterlocksref02_CompareProc.f clusterlocksref02_Order.f cmp3
  by_cases h0 : a0 < b0
  · simp [h0]
  · by_cases h1 : a0 > b0
    · simp [h0, h1]
    · by_cases h2 : a1 < b1
      · simp [h0, h1, h2]
      · by_cases h3 : a1 > b1
        · simp [h0, h1, h2, h3]
        · by_cases h4 : a2 < b2
          · simp [h0, h1, h2, h3, h4]
          · by_cases h5 : a2 > b2
            · simp [h0, h1, h2, h3, h4, h5]
            · simp [h0, h1, h2, h3, h4, h5]
def isP (p0 p1 p2 : Int) (h : S53) : Bool := h.f0.f0 == p0 && (h.f0.f1 == p1 && (h.f0.f2 == p2))
end PA
end Go.Proofs.YtnmemkphfgdplaaDoor


/- Grants in plain Lean: what Valid, Room, Against, Get, Procs and their references compute. Conditions: none of our own. -/
namespace Go.Proofs.YtnmemkphfgdplaaDoor
open Go.RowKit Go.Proofs.YtnmemkphfgdplaaDoorW.PrintWords Go.Proofs.YtnmemkphfgdplaaDoorW.PrintLast Go.Proofs.YtnmemkphfgdplaaDoorW.PrintMore Amt
namespace PA
set_option linter.unusedVariables false
set_option linter.unusedSimpArgs false
def vp (p0 p1 p2 : Int) : Bool := decide (p0 ≥ 0) && decide (p0 < 4) && decide (p1 ≥ 1) && decide (p1 ≤ 99) && decide (p2 ≥ 1) && decide (p2 ≤ 999)
theorem vp_eq (p0 p1 p2 : Int) : ident_ValidProc.f p0 p1 p2 = some (vp p0 p1 p2) := by
  unfold ident_ValidProc.f vp
  repeat' split
  all_goals simp [*]
theorem rvp_eq (p0 p1 p2 : Int) : clusterlocksref02_ValidProc.f p0 p1 p2 = some (vp p0 p1 p2) := by
  unfold clusterlocksref02_ValidProc.f vp
  repeat' split
  all_goals simp [*]
def amts (l : List S53) : List S26 := l.map (fun h => h.f1)
def vok (kd n : Int) (l : List S53) (i : Nat) : Bool := vp (rd_T53 l i).f0.f0 (rd_T53 l i).f0.f1 (rd_T53 l i).f0.f2 && fits kd n (rd_T53 l i).f1.f0 (rd_T53 l i).f1.f1 && (decide (i = 0) || decide (cmp3 (rd_T53 l ((i : Int) - 1)).f0.f0 (rd_T53 l ((i : Int) - 1)).f0.f1 (rd_T53 l ((i : Int) - 1)).f0.f2 (rd_T53 l i).f0.f0 (rd_T53 l i).f0.f1 (rd_T53 l i).f0.f2 < 0))
def vall (kd n : Int) (l : List S53) : Nat → Nat → Bool
  | 0, _ => true
  | d + 1, i => vok kd n l i && vall kd n l d (i + 1)
def validS (kd n : Int) (l : List S53) : Bool := shaped kd n && (decide (l.length ≤ 8) && (vall kd n l l.length 0 && compat kd n (prs (amts l))))
theorem amounts_l0 (l : List S53) (hl : l.length < 900000) : ∀ (d i : Nat), i + d = l.length → ∀ acc : List S26, acc.length ≤ i → Ev (fun k => holders_amounts.l0 k acc l (l.length : Int) (i : Int)) (acc ++ amts (l.drop i)) := by
  intro d
  induction d with
  | zero =>
    intro i hi acc ha
    have hd : l.drop i = [] := by rw [List.drop_eq_nil_iff]; omega
    have e : acc ++ amts (l.drop i) = acc := by rw [hd]; exact List.append_nil _
    rw [e]
    refine Ev.step (f := fun _ => some acc) (fun k => ?_) (Ev.now _)
    simp only [holders_amounts.l0]
    rw [if_neg (by omega)]
  | succ d ih =>
    intro i hi acc ha
    have hlt : i < l.length := by omega
    have hw : wrap64 ((i : Int) + 1) = ((i + 1 : Nat) : Int) := by rw [wrap_small (by omega) (by omega)]; omega
    have e : acc ++ amts (l.drop i) = acc ++ [l[i].f1] ++ amts (l.drop (i + 1)) := by
      rw [drop_cons l i hlt]
      exact List.append_cons _ _ _
    rw [e]
    refine Ev.step (fun k => ?_) (ih (i + 1) (by omega) (acc ++ [l[i].f1]) (by rw [List.length_append, List.length_singleton]; omega))
    simp only [holders_amounts.l0, rd_hold l i hlt]
    rw [if_pos (by omega), if_pos (by omega), if_pos (by omega), if_pos (by omega), hw]
theorem amounts_eq (l : List S53) (hl : l.length < 900000) : Ev (fun k => holders_amounts.f k l) (amts l) := amounts_l0 l hl l.length 0 (by omega) [] (by simp)
theorem ramounts_l0 (l : List S53) (hl : l.length < 900000) : ∀ (d i : Nat), i + d = l.length → ∀ acc : List S26, acc.length ≤ i → Ev (fun k => clusterlocksref10_Amounts.l0 k l acc (i : Int)) (acc ++ amts (l.drop i)) := by
  intro d
  induction d with
  | zero =>
    intro i hi acc ha
    have hd : l.drop i = [] := by rw [List.drop_eq_nil_iff]; omega
    have e : acc ++ amts (l.drop i) = acc := by rw [hd]; exact List.append_nil _
    rw [e]
    refine Ev.step (f := fun _ => some acc) (fun k => ?_) (Ev.now _)
    simp only [clusterlocksref10_Amounts.l0]
    rw [if_neg (by omega)]
  | succ d ih =>
    intro i hi acc ha
    have hlt : i < l.length := by omega
    have hw : wrap64 ((i : Int) + 1) = ((i + 1 : Nat) : Int) := by rw [wrap_small (by omega) (by omega)]; omega
    have e : acc ++ amts (l.drop i) = acc ++ [l[i].f1] ++ amts (l.drop (i + 1)) := by
      rw [drop_cons l i hlt]
      exact List.append_cons _ _ _
    rw [e]
    refine Ev.step (fun k => ?_) (ih (i + 1) (by omega) (acc ++ [l[i].f1]) (by rw [List.length_append, List.length_singleton]; omega))
    simp only [clusterlocksref10_Amounts.l0, rd_hold l i hlt]
    rw [if_pos (by omega), if_pos (by omega), if_pos (by omega), hw]
theorem ramounts_eq (l : List S53) (hl : l.length < 900000) : Ev (fun k => clusterlocksref10_Amounts.f k l) (amts l) := ramounts_l0 l hl l.length 0 (by omega) [] (by simp)
theorem amts_length (l : List S53) : (amts l).length = l.length := List.length_map _
theorem valid_l0 (s : ByteArray) (kd n hm : Int) (l : List S53) (hl : l.length ≤ 8) : ∀ (d i : Nat), i + d = l.length → Ev (fun k => holders_Valid.l0 k l l (l.length : Int) (i : Int) s kd n hm) (vall kd n l d i && compat kd n (prs (amts l))) := by
  intro d
  induction d with
  | zero =>
    intro i hi
    refine Ev.step (f := fun k => (holders_amounts.f k l).bind fun t161 => ((amount_Compatible.f k s kd n hm t161).bind fun t164 => (some t164))) (fun k => ?_) (Ev.bind (amounts_eq l (by omega)) (Ev.bind (compat_eq s kd n hm (amts l) (by rw [amts_length]; omega)) (Ev.now _)))
    simp only [holders_Valid.l0]
    rw [if_neg (by omega)]
  | succ d ih =>
    intro i hi
    have hlt : i < l.length := by omega
    have hw : wrap64 ((i : Int) + 1) = ((i + 1 : Nat) : Int) := by rw [wrap_small (by omega) (by omega)]; omega
    have hw2 : wrap64 ((i : Int) - 1) = (i : Int) - 1 := wrap_small (by omega) (by omega)
    have ih' := ih (i + 1) (by omega)
    rw [vall]
    cases h1 : vok kd n l i
    · refine Ev.step (f := fun _ => some false) (fun k => ?_) (Ev.now _)
      simp only [holders_Valid.l0, vp_eq, fits_eq, Option.bind_some, hw2, ident_CompareProc.f]
      rw [if_pos (by omega), if_pos (by omega), if_pos (by omega)]
      unfold vok at h1
      by_cases a1 : vp (rd_T53 l i).f0.f0 (rd_T53 l i).f0.f1 (rd_T53 l i).f0.f2 = true
      · rw [if_pos a1]
        by_cases a2 : fits kd n (rd_T53 l i).f1.f0 (rd_T53 l i).f1.f1 = true
        · rw [if_pos a2]
          rw [a1, a2, Bool.true_and, Bool.true_and, Bool.or_eq_false_iff, decide_eq_false_iff_not, decide_eq_false_iff_not] at h1
          rw [if_pos (by omega), if_pos (by omega), if_pos (by omega), if_pos (by omega)]
        · rw [if_neg a2]
      · rw [if_neg a1]
    · rw [Bool.true_and]
      refine Ev.step (fun k => ?_) ih'
      simp only [holders_Valid.l0, vp_eq, fits_eq, Option.bind_some, hw2, ident_CompareProc.f, hw]
      rw [if_pos (by omega), if_pos (by omega), if_pos (by omega)]
      unfold vok at h1
      rw [Bool.and_eq_true, Bool.and_eq_true, Bool.or_eq_true, decide_eq_true_eq, decide_eq_true_eq] at h1
      rw [if_pos h1.1.1, if_pos h1.1.2]
      by_cases h0 : i = 0
      · rw [if_neg (by omega)]
      · rw [if_pos (by omega), if_pos (by omega), if_pos (by omega), if_neg (by have := h1.2; omega)]
theorem hvalid_eq (s : ByteArray) (kd n hm : Int) (l : List S53) : Ev (fun k => holders_Valid.f k s kd n hm l) (validS kd n l) := by
  unfold holders_Valid.f validS
  simp only [shaped_eq, Option.bind_some]
  cases hs : shaped kd n
  · refine Ev.step (f := fun _ => some false) (fun k => ?_) (Ev.now _)
    rw [if_neg (by simp), holders_Valid.j0, if_pos rfl]
  · by_cases hl : l.length ≤ 8
    · rw [decide_eq_true hl, Bool.true_and, Bool.true_and]
      refine Ev.step (fun k => ?_) (valid_l0 s kd n hm l hl l.length 0 (by omega))
      rw [if_pos rfl, holders_Valid.j0, if_neg (by simp; omega)]
      rfl
    · rw [decide_eq_false hl]
      refine Ev.step (f := fun _ => some false) (fun k => ?_) (Ev.now _)
      rw [if_pos rfl, holders_Valid.j0, if_pos (by simp; omega)]
theorem rvalid_l0 (s : ByteArray) (kd n hm : Int) (l : List S53) (hl : l.length ≤ 8) : ∀ (d i : Nat), i + d = l.length → Ev (fun k => clusterlocksref10_Valid.l0 k l (i : Int) s kd n hm) (vall kd n l d i && compat kd n (prs (amts l))) := by
  intro d
  induction d with
  | zero =>
    intro i hi
    refine Ev.step (f := fun k => (clusterlocksref10_Amounts.f k l).bind fun t161 => ((clusterlocksref04_Compatible.f k s kd n hm t161).bind fun t164 => (some t164))) (fun k => ?_) (Ev.bind (ramounts_eq l (by omega)) (Ev.bind (rcompat_eq s kd n hm (amts l) (by rw [amts_length]; omega)) (Ev.now _)))
    simp only [clusterlocksref10_Valid.l0]
    rw [if_neg (by omega)]
  | succ d ih =>
    intro i hi
    have hlt : i < l.length := by omega
    have hw : wrap64 ((i : Int) + 1) = ((i + 1 : Nat) : Int) := by rw [wrap_small (by omega) (by omega)]; omega
    have hw2 : wrap64 ((i : Int) - 1) = (i : Int) - 1 := wrap_small (by omega) (by omega)
    have ih' := ih (i + 1) (by omega)
    rw [vall]
    cases h1 : vok kd n l i
    · refine Ev.step (f := fun _ => some false) (fun k => ?_) (Ev.now _)
      simp only [clusterlocksref10_Valid.l0, rvp_eq, rfits_eq, Option.bind_some, hw2, rcmp_eq]
      rw [if_pos (by omega), if_pos (by omega)]
      unfold vok at h1
      by_cases a1 : vp (rd_T53 l i).f0.f0 (rd_T53 l i).f0.f1 (rd_T53 l i).f0.f2 = true
      · rw [if_pos a1]
        by_cases a2 : fits kd n (rd_T53 l i).f1.f0 (rd_T53 l i).f1.f1 = true
        · rw [if_pos a2]
          rw [a1, a2, Bool.true_and, Bool.true_and, Bool.or_eq_false_iff, decide_eq_false_iff_not, decide_eq_false_iff_not] at h1
          rw [if_pos (by omega), if_pos (by omega), if_pos (by omega), if_pos (by omega)]
        · rw [if_neg a2]
      · rw [if_neg a1]
    · rw [Bool.true_and]
      refine Ev.step (fun k => ?_) ih'
      simp only [clusterlocksref10_Valid.l0, rvp_eq, rfits_eq, Option.bind_some, hw2, rcmp_eq, hw]
      rw [if_pos (by omega), if_pos (by omega)]
      unfold vok at h1
      rw [Bool.and_eq_true, Bool.and_eq_true, Bool.or_eq_true, decide_eq_true_eq, decide_eq_true_eq] at h1
      rw [if_pos h1.1.1, if_pos h1.1.2]
      by_cases h0 : i = 0
      · rw [if_neg (by omega)]
      · rw [if_pos (by omega), if_pos (by omega), if_pos (by omega), if_neg (by have := h1.2; omega)]
theorem rhvalid_eq (s : ByteArray) (kd n hm : Int) (l : List S53) : Ev (fun k => clusterlocksref10_Valid.f k s kd n hm l) (validS kd n l) := by
  unfold clusterlocksref10_Valid.f validS
  simp only [rshaped_eq, Option.bind_some]
  cases hs : shaped kd n
  · refine Ev.step (f := fun _ => some false) (fun k => ?_) (Ev.now _)
    rw [if_neg (by simp), clusterlocksref10_Valid.j0, if_pos rfl]
  · by_cases hl : l.length ≤ 8
    · rw [decide_eq_true hl, Bool.true_and, Bool.true_and]
      refine Ev.step (fun k => ?_) (rvalid_l0 s kd n hm l hl l.length 0 (by omega))
      rw [if_pos rfl, clusterlocksref10_Valid.j0, if_neg (by simp; omega)]
      rfl
    · rw [decide_eq_false hl]
      refine Ev.step (f := fun _ => some false) (fun k => ?_) (Ev.now _)
      rw [if_pos rfl, clusterlocksref10_Valid.j0, if_pos (by simp; omega)]
theorem sameP_l0 (l : List S24) (hl : l.length < 1000000) : ∀ (d i : Nat), i + d = l.length → Ev (fun k => clusterlocksref02_SameProcs.l0 k l l (i : Int)) true := by
  intro d
  induction d with
  | zero =>
    intro i hi
    refine Ev.step (f := fun _ => some true) (fun k => ?_) (Ev.now _)
    simp only [clusterlocksref02_SameProcs.l0]
    rw [if_neg (by omega)]
  | succ d ih =>
    intro i hi
    have hlt : i < l.length := by omega
    have hw : wrap64 ((i : Int) + 1) = ((i + 1 : Nat) : Int) := by rw [wrap_small (by omega) (by omega)]; omega
    refine Ev.step (fun k => ?_) (ih (i + 1) (by omega))
    simp only [clusterlocksref02_SameProcs.l0]
    rw [if_pos (by omega), if_pos (by omega), if_pos (by omega), if_neg (by simp), hw]
theorem sameP_eq (l : List S24) (hl : l.length < 1000000) : Ev (fun k => clusterlocksref02_SameProcs.f k l l) true := by
  refine Ev.congr (fun k => ?_) (sameP_l0 l hl l.length 0 (by omega))
  unfold clusterlocksref02_SameProcs.f
  rw [if_pos rfl]
  rfl
def getS (p0 p1 p2 : Int) : List S53 → Int × Int
  | [] => (0, 0)
  | h :: t => if isP p0 p1 p2 h = true then (h.f1.f0, h.f1.f1) else getS p0 p1 p2 t
theorem get_l0 (p0 p1 p2 : Int) (l : List S53) (hl : l.length < 900000) : ∀ (d i : Nat), i + d = l.length → Ev (fun k => holders_Get.l0 k l (l.length : Int) (i : Int) p0 p1 p2) (getS p0 p1 p2 (l.drop i)) := by
  intro d
  induction d with
  | zero =>
    intro i hi
    have hd : l.drop i = [] := by rw [List.drop_eq_nil_iff]; omega
    rw [hd, getS]
    refine Ev.step (f := fun _ => some (0, 0)) (fun k => ?_) (Ev.now _)
    simp only [holders_Get.l0]
    rw [if_neg (by omega)]
  | succ d ih =>
    intro i hi
    have hlt : i < l.length := by omega
    have hw : wrap64 ((i : Int) + 1) = ((i + 1 : Nat) : Int) := by rw [wrap_small (by omega) (by omega)]; omega
    rw [drop_cons l i hlt, getS]
    cases hp : isP p0 p1 p2 l[i]
    · rw [if_neg (by simp)]
      refine Ev.step (fun k => ?_) (ih (i + 1) (by omega))
      simp only [holders_Get.l0, rd_hold l i hlt]
      unfold isP at hp
      rw [if_pos (by omega), if_pos (by omega), if_pos (by omega), if_neg (by rw [hp]; simp), hw]
    · rw [if_pos rfl]
      refine Ev.step (f := fun _ => some (l[i].f1.f0, l[i].f1.f1)) (fun k => ?_) (Ev.now _)
      simp only [holders_Get.l0, rd_hold l i hlt]
      unfold isP at hp
      rw [if_pos (by omega), if_pos (by omega), if_pos (by omega), if_pos hp]
theorem get_eq (p0 p1 p2 : Int) (l : List S53) (hl : l.length < 900000) : Ev (fun k => holders_Get.f k l p0 p1 p2) (getS p0 p1 p2 l) := get_l0 p0 p1 p2 l hl l.length 0 (by omega)
theorem rget_l0 (p0 p1 p2 : Int) (l : List S53) (hl : l.length < 900000) : ∀ (d i : Nat), i + d = l.length → Ev (fun k => clusterlocksref10_Get.l0 k l (i : Int) p0 p1 p2) (getS p0 p1 p2 (l.drop i)) := by
  intro d
  induction d with
  | zero =>
    intro i hi
    have hd : l.drop i = [] := by rw [List.drop_eq_nil_iff]; omega
    rw [hd, getS]
    refine Ev.step (f := fun _ => some (0, 0)) (fun k => ?_) (Ev.now _)
    simp only [clusterlocksref10_Get.l0]
    rw [if_neg (by omega)]
  | succ d ih =>
    intro i hi
    have hlt : i < l.length := by omega
    have hw : wrap64 ((i : Int) + 1) = ((i + 1 : Nat) : Int) := by rw [wrap_small (by omega) (by omega)]; omega
    rw [drop_cons l i hlt, getS]
    cases hp : isP p0 p1 p2 l[i]
    · rw [if_neg (by simp)]
      refine Ev.step (fun k => ?_) (ih (i + 1) (by omega))
      simp only [clusterlocksref10_Get.l0, rd_hold l i hlt]
      unfold isP at hp
      rw [if_pos (by omega), if_pos (by omega), if_neg (by rw [hp]; simp), hw]
    · rw [if_pos rfl]
      refine Ev.step (f := fun _ => some (l[i].f1.f0, l[i].f1.f1)) (fun k => ?_) (Ev.now _)
      simp only [clusterlocksref10_Get.l0, rd_hold l i hlt]
      unfold isP at hp
      rw [if_pos (by omega), if_pos (by omega), if_pos hp]
theorem rget_eq (p0 p1 p2 : Int) (l : List S53) (hl : l.length < 900000) : Ev (fun k => clusterlocksref10_Get.f k l p0 p1 p2) (getS p0 p1 p2 l) := rget_l0 p0 p1 p2 l hl l.length 0 (by omega)
def prcs (l : List S53) : List S24 := l.map (fun h => h.f0)
theorem procs_l0 (l : List S53) (hl : l.length < 900000) : ∀ (d i : Nat), i + d = l.length → ∀ acc : List S24, acc.length ≤ i → Ev (fun k => holders_Procs.l0 k acc l (l.length : Int) (i : Int)) (acc ++ prcs (l.drop i)) := by
  intro d
  induction d with
  | zero =>
    intro i hi acc ha
    have hd : l.drop i = [] := by rw [List.drop_eq_nil_iff]; omega
    have e : acc ++ prcs (l.drop i) = acc := by rw [hd]; exact List.append_nil _
    rw [e]
    refine Ev.step (f := fun _ => some acc) (fun k => ?_) (Ev.now _)
    simp only [holders_Procs.l0]
    rw [if_neg (by omega)]
  | succ d ih =>
    intro i hi acc ha
    have hlt : i < l.length := by omega
    have hw : wrap64 ((i : Int) + 1) = ((i + 1 : Nat) : Int) := by rw [wrap_small (by omega) (by omega)]; omega
    have e : acc ++ prcs (l.drop i) = acc ++ [l[i].f0] ++ prcs (l.drop (i + 1)) := by
      rw [drop_cons l i hlt]
      exact List.append_cons _ _ _
    rw [e]
    refine Ev.step (fun k => ?_) (ih (i + 1) (by omega) (acc ++ [l[i].f0]) (by rw [List.length_append, List.length_singleton]; omega))
    simp only [holders_Procs.l0, rd_hold l i hlt]
    rw [if_pos (by omega), if_pos (by omega), if_pos (by omega), if_pos (by omega), hw]
theorem procs_eq (l : List S53) (hl : l.length < 900000) : Ev (fun k => holders_Procs.f k l) (prcs l) := procs_l0 l hl l.length 0 (by omega) [] (by simp)
theorem rprocs_l0 (l : List S53) (hl : l.length < 900000) : ∀ (d i : Nat), i + d = l.length → ∀ acc : List S24, acc.length ≤ i → Ev (fun k => clusterlocksref10_Procs.l0 k l acc (i : Int)) (acc ++ prcs (l.drop i)) := by
  intro d
  induction d with
  | zero =>
    intro i hi acc ha
    have hd : l.drop i = [] := by rw [List.drop_eq_nil_iff]; omega
    have e : acc ++ prcs (l.drop i) = acc := by rw [hd]; exact List.append_nil _
    rw [e]
    refine Ev.step (f := fun _ => some acc) (fun k => ?_) (Ev.now _)
    simp only [clusterlocksref10_Procs.l0]
    rw [if_neg (by omega)]
  | succ d ih =>
    intro i hi acc ha
    have hlt : i < l.length := by omega
    have hw : wrap64 ((i : Int) + 1) = ((i + 1 : Nat) : Int) := by rw [wrap_small (by omega) (by omega)]; omega
    have e : acc ++ prcs (l.drop i) = acc ++ [l[i].f0] ++ prcs (l.drop (i + 1)) := by
      rw [drop_cons l i hlt]
      exact List.append_cons _ _ _
    rw [e]
    refine Ev.step (fun k => ?_) (ih (i + 1) (by omega) (acc ++ [l[i].f0]) (by rw [List.length_append, List.length_singleton]; omega))
    simp only [clusterlocksref10_Procs.l0, rd_hold l i hlt]
    rw [if_pos (by omega), if_pos (by omega), if_pos (by omega), hw]
theorem rprocs_eq (l : List S53) (hl : l.length < 900000) : Ev (fun k => clusterlocksref10_Procs.f k l) (prcs l) := rprocs_l0 l hl l.length 0 (by omega) [] (by simp)
end PA
end Go.Proofs.YtnmemkphfgdplaaDoor


/- HoldersValid: the law in plain Lean. Conditions: none of our own. -/
namespace Go.Proofs.YtnmemkphfgdplaaDoor.PA
open Amt Go.RowKit Go.Proofs.YtnmemkphfgdplaaDoorW.PrintWords Go.Proofs.YtnmemkphfgdplaaDoorW.PrintLast Go.Proofs.YtnmemkphfgdplaaDoorW.PrintMore
set_option linter.unusedVariables false
/-- The law as a statement on plain data. -/
def HoldersValid_Pure : Prop := ∀ (x0 : S32) (x1 : List S53) (x2 : S24), ok32 x0 → (x1.length * 40 ≤ 140737488351232 ∧ x1.length ≤ maxLen ∧ ∀ x ∈ x1, ok53 x) → ok24 x2 → ∃ k, clusterlockslaw10_HoldersValid.f k x0.f0 x0.f1 x0.f2 x0.f3 x1 x2.f0 x2.f1 x2.f2 = some true
theorem awake_ev : Ev (fun k => clusterlockslaw10_awake.f k) true := Ev.of (fun k => clusterlockslaw10_awake.mono k) clusterlockslaw10_awake.at
theorem HoldersValid_pure : HoldersValid_Pure := by
  intro x0 x1 x2 _ _ _
  by_cases hl : (x1.length : Int) > 100
  · obtain ⟨K, hK⟩ := awake_ev
    have h := hK K (Nat.le_refl _)
    exact ⟨K, by unfold clusterlockslaw10_HoldersValid.f; rw [if_pos hl]; simp only at h; rw [h]; rfl⟩
  · have hp : (prcs x1).length = x1.length := List.length_map _
    have key : Ev (fun k => clusterlockslaw10_HoldersValid.f k x0.f0 x0.f1 x0.f2 x0.f3 x1 x2.f0 x2.f1 x2.f2) true := by
      unfold clusterlockslaw10_HoldersValid.f
      simp only [if_neg hl]
      refine Ev.bind awake_ev (Ev.congr (fun k => if_pos rfl) (Ev.bind (hvalid_eq _ _ _ _ x1) (Ev.bind (rhvalid_eq _ _ _ _ x1) ?_)))
      refine Ev.congr (fun k => if_pos (beq_self_eq_true _)) (Ev.bind (get_eq _ _ _ x1 (by omega)) (Ev.bind (rget_eq _ _ _ x1 (by omega)) ?_))
      refine Ev.congr (fun k => if_pos (by simp)) (Ev.bind (procs_eq x1 (by omega)) (Ev.bind (rprocs_eq x1 (by omega)) (Ev.bind (sameP_eq _ (by omega)) (Ev.now _))))
    obtain ⟨K, hK⟩ := key
    exact ⟨K, hK K (Nat.le_refl _)⟩
end Go.Proofs.YtnmemkphfgdplaaDoor.PA

