-- Printed by wip/tool/myprint.py for this claim; Lean checks it.
import Derived.Test.YtnmemkphfgdplaaDoorPAx0
import Derived.Test.YtnmemkphfgdplaaDoorSlim
import Derived.Test.YtnmemkphfgdplaaDoorPAx4
import Derived.Test.YtnmemkphfgdplaaDoorPAx9
import Derived.Test.YtnmemkphfgdplaaDoorPAx10
import Derived.Test.YtnmemkphfgdplaaDoorPAx11
namespace Go.Proofs.YtnmemkphfgdplaaDoor.PA
open Go.RowKit Go.Proofs.YtnmemkphfgdplaaDoorW.PrintWords Go.Proofs.YtnmemkphfgdplaaDoorW.PrintLast Go.Proofs.YtnmemkphfgdplaaDoorW.PrintMore
attribute [local go_sem] max2_int min2_int max_two min_two max_three min_three max_four min_four   -- for this text's walks alone
set_option linter.unusedVariables false
set_option linter.unusedSimpArgs false

/-! ### clusterlockslaw10_HoldersSets: function 3 -/
def clusterlockslaw10_HoldersSets.f (k : Nat) (l0 : List (S53)) (a1_0 : Int) (a1_1 : Int) (a1_2 : Int) (a2_0 : Int) (a2_1 : Int) : Option (Bool) := if (l0.length : Int) > 100 then ((clusterlockslaw10_awake.f k).bind fun t252 => (some t252)) else ((clusterlockslaw10_awake.f k).bind fun t253 => (if t253 = true then ((holders_Set.f k l0 a1_0 a1_1 a1_2 a2_0 a2_1).bind fun t254 => ((clusterlocksref10_Set.f k l0 a1_0 a1_1 a1_2 a2_0 a2_1).bind fun t257 => ((clusterlocksref10_SameHolds.f k t254 t257).bind fun t260 => (some t260)))) else (some false)))
theorem clusterlockslaw10_HoldersSets.mono : ∀ a0 a1 a2 a3 a4 a5 k, LeO (clusterlockslaw10_HoldersSets.f k a0 a1 a2 a3 a4 a5) (clusterlockslaw10_HoldersSets.f (k + 1) a0 a1 a2 a3 a4 a5) := by
 intro a0 a1 a2 a3 a4 a5 k
 unfold clusterlockslaw10_HoldersSets.f
 repeat' first
   | (with_reducible exact clusterlockslaw10_awake.mono _)
   | (with_reducible exact clusterlocksref10_SameHolds.mono _ _ _)
   | (with_reducible exact clusterlocksref10_Set.mono _ _ _ _ _ _ _)
   | (with_reducible exact holders_Set.mono _ _ _ _ _ _ _)
   | (with_reducible exact LeO.refl _)
   | (with_reducible exact LeO.none _)
   | (with_reducible refine LeO.ite ?_ ?_)
   | (with_reducible refine LeO.bind ?_ (fun _ => ?_))
   | exact clusterlockslaw10_awake.mono _
   | exact clusterlocksref10_SameHolds.mono _ _ _
   | exact clusterlocksref10_Set.mono _ _ _ _ _ _ _
   | exact holders_Set.mono _ _ _ _ _ _ _
   | exact LeO.none _
   | refine LeO.ite ?_ ?_
   | refine LeO.bind ?_ (fun _ => ?_)
def clusterlockslaw10_HoldersSets.T3 : Bool × List (List Nat × List Nat) := (true, [([], []), ([0, 0], [0]), ([1], [1]), ([1], [1]), ([1], [1]), ([2, 3, 4, 1, 1], [1, 2, 3, 4]), ([1], [1]), ([1], [1]), ([1], [1]), ([6, 7, 8, 5, 1], [1, 6, 7, 8]), ([5, 9, 9, 1], [1, 5, 9]), ([1, 10], [1, 10]), ([11, 10, 0, 1, 2, 3, 4, 5, 6, 7, 8, 9, 10, 11], [11])])
def clusterlockslaw10_HoldersSets.B3 : List Nat := [0, 1, 3, 3, 3, 31, 3, 3, 3, 511, 1023, 2047, 4095]
theorem clusterlockslaw10_HoldersSets.tab3 : rtab .any (opsOf Tryd.f3 3) = clusterlockslaw10_HoldersSets.T3 := by kernel_rfl
theorem clusterlockslaw10_HoldersSets.bits3 : waitsOk clusterlockslaw10_HoldersSets.T3.2 clusterlockslaw10_HoldersSets.B3 = true := by kernel_rfl
set_option maxHeartbeats 8000000 in
set_option maxRecDepth 100000 in
theorem clusterlockslaw10_HoldersSets.calls (k : Nat) (A0 : Option Addr) (c0 : Nat) (l0 : List (S53)) (a1_0 : Int) (a1_1 : Int) (a1_2 : Int) (a2_0 : Int) (a2_1 : Int) (r : Bool) (w : World) (hr0 : Kd.C k53 w A0 l0.length l0) (hc0 : l0.length ≤ c0) (hG : GL w) (h : clusterlockslaw10_HoldersSets.f k l0 a1_0 a1_1 a1_2 a2_0 a2_1 = some r) :
  Calls Tryd.prog 3 #[.slice A0 l0.length c0, .agg #[.int .i64 a1_0, .int .i64 a1_1, .int .i64 a1_2], .agg #[.int .i64 a2_0, .int .i64 a2_1]] w fun e w' => e = .returned (.bool r) ∧ Below w.heap.size w w' := by
 have hu24 := Tryd.underlying24
 have hu26 := Tryd.underlying26
 have HG := Aside0.mk hG
 clear hG
 have HR0 := Aside0.mk hr0
 have HC0 := Aside0.mk hc0
 clear hr0 hc0
 have HB := Aside0.mk (Below.refl w.heap.size w)
 have H : (if (l0.length : Int) > 100 then ((clusterlockslaw10_awake.f k).bind fun t252 => (some t252)) else ((clusterlockslaw10_awake.f k).bind fun t253 => (if t253 = true then ((holders_Set.f k l0 a1_0 a1_1 a1_2 a2_0 a2_1).bind fun t254 => ((clusterlocksref10_Set.f k l0 a1_0 a1_1 a1_2 a2_0 a2_1).bind fun t257 => ((clusterlocksref10_SameHolds.f k t254 t257).bind fun t260 => (some t260)))) else (some false)))) = some r := h
 clear h
 by_cases c4 : (l0.length : Int) > 100
 ·rw [if_pos c4] at H
  have c4b0 : decide (100 < (l0.length : Int)) = true := decide_eq_true c4
  have c4b1 : decide (100 < l0.length) = true := decide_eq_true (by omega)
  clear c4
  obtain ⟨t252, A50, H⟩ := Option.bind_eq_some_iff.mp H
  have A5 := Aside0.mk A50; clear A50
  obtain rfl := Option.some.inj H
  go_enter Tryd.func3, Tryd.ntmps3
  go_wp2_with (first | ((with_reducible refine gate_dst (N := 4) rfl ?_); refine box_event ?hg (N := 4) ?hd (cs := #[.int .i64 a1_0, .int .i64 a1_1, .int .i64 a1_2]) (t := 24) ?hr ?_; (case hd => rfl); (case hg => rfl); (case hr => first | (go_simp; done) | (go_simp; rfl)); intro gb250 hg w6 hbox hb; have n0_ := Aside0.mk (below_step (uB HB) hb); have n1_ := Aside0.mk (hbox); have n2_ := Aside0.mk ((by rw [hg]; exact (below_size (uB HB)) : w.heap.size ≤ gb250)); have n3_ := n2_; clear HB; have HB := n0_; have BK250 := n1_; have GW250 := n2_; have GE250 := n3_; clear n0_ n1_ n2_ n3_; clear hb hbox hg) | ((with_reducible refine gate_dst (N := 5) rfl ?_); refine box_event ?hg (N := 5) ?hd (cs := #[.int .i64 a2_0, .int .i64 a2_1]) (t := 26) ?hr ?_; (case hd => rfl); (case hg => rfl); (case hr => first | (go_simp; done) | (go_simp; rfl)); intro gb251 hg w7 hbox hb; have n0_ := bK BK250 hb; have n1_ := Aside0.mk (below_step (uB HB) hb); have n2_ := Aside0.mk (hbox); have n3_ := Aside0.mk ((by rw [hg]; exact (below_size (uB HB)) : w.heap.size ≤ gb251)); have n4_ := n3_; have n5_ := Aside0.mk ((by rw [hg]; exact Nat.ne_of_lt (blkLt BK250 (uK BK250)) : gb250 ≠ gb251)); have n6_ := Aside0.mk n5_.out.symm; clear BK250 HB; have BK250 := n0_; have HB := n1_; have BK251 := n2_; have GW251 := n3_; have GE251 := n4_; have NB250_251 := n5_; have NB251_250 := n6_; clear n0_ n1_ n2_ n3_ n4_ n5_ n6_; clear hb hbox hg) | ((with_reducible refine gate_callee (f := 11) rfl ?_); refine goesL_ (some 10) rfl rfl Tryd.func11 (by kernel_rfl) rfl #[] rfl (by (try simp only [List.map_toArray, List.map_cons, List.map_nil]); first | done | rfl | (simp only [List.length_drop, List.length_take]; rfl)) ?_; (with_reducible refine (clusterlockslaw10_awake.calls k  t252 _ ?side1 A5.out).mono ?_); (case side1 => exact GL.below HG.out (uB HB)); rintro e w8 ⟨rfl, hb⟩; refine ⟨_, rfl, ?_⟩; have n0_ := bK BK250 hb; have n1_ := bK BK251 hb; have n2_ := Aside0.mk (below_step (uB HB) hb); clear BK250 BK251 HB; have BK250 := n0_; have BK251 := n1_; have HB := n2_; clear n0_ n1_ n2_; (try clear hb)))
  go_ret
  exact ⟨by first | rfl | (simp [errW_none, errW_some] <;> rfl) | (simp [*, errW_none, errW_some] <;> rfl), by repeat (first | (with_reducible first | exact HB.out | apply bL | apply bM | apply bR) | exact HB.out)⟩
 ·rw [if_neg c4] at H
  have c4b0 : decide (100 < (l0.length : Int)) = false := decide_eq_false c4
  have c4b1 : decide (100 < l0.length) = false := decide_eq_false (by omega)
  clear c4
  obtain ⟨t253, A90, H⟩ := Option.bind_eq_some_iff.mp H
  have A9 := Aside0.mk A90; clear A90
  by_cases c10 : t253 = true
  ·subst c10
   rw [if_pos rfl] at H
   obtain ⟨t254, A110, H⟩ := Option.bind_eq_some_iff.mp H
   have A11 := Aside0.mk A110; clear A110
   obtain ⟨t257, A120, H⟩ := Option.bind_eq_some_iff.mp H
   have A12 := Aside0.mk A120; clear A120
   obtain ⟨t260, A130, H⟩ := Option.bind_eq_some_iff.mp H
   have A13 := Aside0.mk A130; clear A130
   obtain rfl := Option.some.inj H
   go_enter Tryd.func3, Tryd.ntmps3
   try go_wp2_with (first | ((with_reducible refine gate_dst (N := 4) rfl ?_); refine box_event ?hg (N := 4) ?hd (cs := #[.int .i64 a1_0, .int .i64 a1_1, .int .i64 a1_2]) (t := 24) ?hr ?_; (case hd => rfl); (case hg => rfl); (case hr => first | (go_simp; done) | (go_simp; rfl)); intro gb250 hg w14 hbox hb; have n0_ := Aside0.mk (below_step (uB HB) hb); have n1_ := Aside0.mk (hbox); have n2_ := Aside0.mk ((by rw [hg]; exact (below_size (uB HB)) : w.heap.size ≤ gb250)); have n3_ := n2_; clear HB; have HB := n0_; have BK250 := n1_; have GW250 := n2_; have GE250 := n3_; clear n0_ n1_ n2_ n3_; clear hb hbox hg) | ((with_reducible refine gate_dst (N := 5) rfl ?_); refine box_event ?hg (N := 5) ?hd (cs := #[.int .i64 a2_0, .int .i64 a2_1]) (t := 26) ?hr ?_; (case hd => rfl); (case hg => rfl); (case hr => first | (go_simp; done) | (go_simp; rfl)); intro gb251 hg w15 hbox hb; have n0_ := bK BK250 hb; have n1_ := Aside0.mk (below_step (uB HB) hb); have n2_ := Aside0.mk (hbox); have n3_ := Aside0.mk ((by rw [hg]; exact (below_size (uB HB)) : w.heap.size ≤ gb251)); have n4_ := n3_; have n5_ := Aside0.mk ((by rw [hg]; exact Nat.ne_of_lt (blkLt BK250 (uK BK250)) : gb250 ≠ gb251)); have n6_ := Aside0.mk n5_.out.symm; clear BK250 HB; have BK250 := n0_; have HB := n1_; have BK251 := n2_; have GW251 := n3_; have GE251 := n4_; have NB250_251 := n5_; have NB251_250 := n6_; clear n0_ n1_ n2_ n3_ n4_ n5_ n6_; clear hb hbox hg))
   replace BK250 := Aside0.mk (blk_drew BK250.out)
   replace BK251 := Aside0.mk (blk_drew BK251.out)
   replace HB := Aside0.mk (below_drew1 HB.out)
   refine start_ (n := 13) (S := fun w' => w'.cell? ⟨gb250, 0, none⟩ = some (.int .i64 a1_0) ∧ w'.cell? ⟨gb250, 1, none⟩ = some (.int .i64 a1_1) ∧ w'.cell? ⟨gb250, 2, none⟩ = some (.int .i64 a1_2) ∧ w'.cell? ⟨gb251, 0, none⟩ = some (.int .i64 a2_0) ∧ w'.cell? ⟨gb251, 1, none⟩ = some (.int .i64 a2_1)) (ds := []) #[F,F,F,F,F,F,F,F,F,F,F,F,F] (by kernel_rfl) rfl rfl ⟨bC BK250 0 rfl, bC BK250 1 rfl, bC BK250 2 rfl, bC BK251 0 rfl, bC BK251 1 rfl⟩ (fun hHeld => ?_); refine with_tabW clusterlockslaw10_HoldersSets.tab3 clusterlockslaw10_HoldersSets.bits3 (fun HT_ HW_ => ?_)
   generalize w15.drew = w16 at BK250 BK251 HB hHeld ⊢
   refine one_ (i := 0) (N := some 11) #[T,F,F,F,F,F,F,F,F,F,F,F,F] rfl rfl (one_of HT_.out (by kernel_rfl)) (by decide) (fun K hK => ?_)
   refine goes_ Tryd.func11 (by kernel_rfl) rfl #[] (by rfl) rfl rfl (by (try simp only [List.map_toArray, List.map_cons, List.map_nil]); first | done | rfl | (simp only [List.length_drop, List.length_take]; rfl)) ?_
   with_reducible refine (clusterlockslaw10_awake.calls k  true _ ?side1 A9.out).mono ?_
   (case side1 => exact GL.below HG.out (uB HB))
   rintro e w17 ⟨rfl, hb⟩
   refine ⟨_, rfl, ?_⟩
   replace BK250 := bK BK250 hb
   replace BK251 := bK BK251 hb
   replace HB := Aside0.mk (below_step (uB HB) hb)
   (try clear hb)
   refine hK.out _ _ ⟨bC BK250 0 rfl, bC BK250 1 rfl, bC BK250 2 rfl, bC BK251 0 rfl, bC BK251 1 rfl⟩ (fun hHeld => ?_)
   clear hK K
   refine norm_ (a' := ?_) ?_ ?_
   rotate_left
   ·show Act.put _ (some 11) _ = _
    simp only [sP]
    rfl
   refine pu HT_ 1 12 #[T,T,F,F,F,F,F,F,F,F,F,F,F] rfl rfl (by kernel_rfl) (fun _ _ _ => id) (.inl ⟨by rfl, by intro w'; go_simp; with_reducible rfl⟩) (by simp only [sP]; rfl) ?_
   refine pu HT_ 2 13 #[T,T,T,F,F,F,F,F,F,F,F,F,F] rfl rfl (by kernel_rfl) (fun _ _ _ => id) (.inl ⟨by rfl, by intro w'; go_simp; with_reducible rfl⟩) (by simp only [sP]; rfl) ?_
   refine pu HT_ 6 17 #[T,T,T,F,F,F,T,F,F,F,F,F,F] rfl rfl (by kernel_rfl) (fun _ _ _ => id) (.inl ⟨by rfl, by intro w'; go_simp; with_reducible rfl⟩) (by simp only [sP]; rfl) ?_
   refine tk HT_ HW_ 3 14 #[T,T,T,T,F,F,T,F,F,F,F,F,F] rfl rfl (by kernel_rfl) (fun _ _ _ => id) (.inl ⟨by rfl, by rintro w' ⟨s0, s1, s2, s3, s4⟩; go_simp; with_reducible rfl⟩) hHeld (by simp only [sP]; rfl) ?_
   refine tk HT_ HW_ 4 15 #[T,T,T,T,T,F,T,F,F,F,F,F,F] rfl rfl (by kernel_rfl) (fun _ _ _ => id) (.inl ⟨by rfl, by rintro w' ⟨s0, s1, s2, s3, s4⟩; go_simp; with_reducible rfl⟩) hHeld (by simp only [sP]; rfl) ?_
   refine tk HT_ HW_ 7 18 #[T,T,T,T,T,F,T,T,F,F,F,F,F] rfl rfl (by kernel_rfl) (fun _ _ _ => id) (.inl ⟨by rfl, by rintro w' ⟨s0, s1, s2, s3, s4⟩; go_simp; with_reducible rfl⟩) hHeld (by simp only [sP]; rfl) ?_
   refine tk HT_ HW_ 8 19 #[T,T,T,T,T,F,T,T,T,F,F,F,F] rfl rfl (by kernel_rfl) (fun _ _ _ => id) (.inl ⟨by rfl, by rintro w' ⟨s0, s1, s2, s3, s4⟩; go_simp; with_reducible rfl⟩) hHeld (by simp only [sP]; rfl) ?_
   refine one_ (i := 5) (N := some 16) #[T,T,T,T,T,T,T,T,T,F,F,F,F] rfl rfl (one_of HT_.out (by kernel_rfl)) (by decide) (fun K hK => ?_)
   refine goes_ Tryd.func13 (by kernel_rfl) rfl #[.slice A0 l0.length c0, .agg #[.int .i64 a1_0, .int .i64 a1_1, .int .i64 a1_2], .agg #[.int .i64 a2_0, .int .i64 a2_1]] (by rfl) rfl rfl (by (try simp only [List.map_toArray, List.map_cons, List.map_nil]); first | done | rfl | (simp only [List.length_drop, List.length_take]; rfl)) ?_
   with_reducible refine (holders_Set.calls k _ _ l0 a1_0 a1_1 a1_2 a2_0 a2_1 t254 _ ?side1 ?side2 A11.out).mono ?_
   (case side1 => repeat (first | exact (Kd.C_below HR0.out HB.out) | (with_reducible refine Kd.C_alloc ?_ _) | (with_reducible refine Kd.C_drewN ?_ _) | (with_reducible refine Kd.C_drew ?_)))
   (case side2 => exact HC0.out)
   rintro e w18 ⟨v255, rfl, ho0, hb⟩
   refine ⟨_, rfl, ?_⟩
   have HO256 := Aside0.mk (Kd.R_lower ho0 (below_size (uB HB)))
   replace BK250 := bK BK250 hb
   replace BK251 := bK BK251 hb
   replace HB := Aside0.mk (below_step (uB HB) hb)
   (try clear hb)
   (try clear ho0)
   refine hK.out _ _ ⟨bC BK250 0 rfl, bC BK250 1 rfl, bC BK250 2 rfl, bC BK251 0 rfl, bC BK251 1 rfl⟩ (fun hHeld => ?_)
   clear hK K
   refine norm_ (a' := ?_) ?_ ?_
   rotate_left
   ·show Act.put _ (some 16) _ = _
    simp only [sP]
    rfl
   refine one_ (i := 9) (N := some 20) #[T,T,T,T,T,T,T,T,T,T,F,F,F] rfl rfl (one_of HT_.out (by kernel_rfl)) (by decide) (fun K hK => ?_)
   refine goes_ Tryd.func14 (by kernel_rfl) rfl #[.slice A0 l0.length c0, .agg #[.int .i64 a1_0, .int .i64 a1_1, .int .i64 a1_2], .agg #[.int .i64 a2_0, .int .i64 a2_1]] (by rfl) rfl rfl (by (try simp only [List.map_toArray, List.map_cons, List.map_nil]); first | done | rfl | (simp only [List.length_drop, List.length_take]; rfl)) ?_
   with_reducible refine (clusterlocksref10_Set.calls k _ _ l0 a1_0 a1_1 a1_2 a2_0 a2_1 t257 _ ?side1 ?side2 A12.out).mono ?_
   (case side1 => repeat (first | exact (Kd.C_below HR0.out HB.out) | (with_reducible refine Kd.C_alloc ?_ _) | (with_reducible refine Kd.C_drewN ?_ _) | (with_reducible refine Kd.C_drew ?_)))
   (case side2 => exact HC0.out)
   rintro e w19 ⟨v258, rfl, ho0, hb⟩
   refine ⟨_, rfl, ?_⟩
   have n0_ := Aside0.mk (Kd.R_elder' (by (with_reducible repeat (first | apply Kd.R_alloc | apply Kd.R_drewN | apply Kd.R_drew)); exact HO256.out) (Kd.R_base ho0) hb)
   have n1_ := Aside0.mk (Kd.R_lower (Kd.R_new' ho0 (Kd.R_lt (by (with_reducible repeat (first | apply Kd.R_alloc | apply Kd.R_drewN | apply Kd.R_drew)); exact HO256.out))) (below_size (uB HB)))
   have n2_ := bK BK250 hb
   have n3_ := bK BK251 hb
   have n4_ := Aside0.mk (below_step (uB HB) hb)
   clear HO256
   clear BK250
   clear BK251
   clear HB
   have HO256 := n0_
   have HO259 := n1_
   have BK250 := n2_
   have BK251 := n3_
   have HB := n4_
   clear n0_ n1_ n2_ n3_ n4_
   (try clear hb)
   (try clear ho0)
   obtain ⟨Ao20, co20, eo20⟩ := Kd.R_slice HO256.out
   (first | subst eo20 | (injection eo20 with f1_ f2_ f3_; have f4_ := f1_.symm; have f5_ := f3_.symm; clear f1_ f2_ f3_; subst f4_; subst f5_))
   obtain ⟨Ao21, co21, eo21⟩ := Kd.R_slice HO259.out
   (first | subst eo21 | (injection eo21 with f1_ f2_ f3_; have f4_ := f1_.symm; have f5_ := f3_.symm; clear f1_ f2_ f3_; subst f4_; subst f5_))
   refine hK.out _ _ ⟨bC BK250 0 rfl, bC BK250 1 rfl, bC BK250 2 rfl, bC BK251 0 rfl, bC BK251 1 rfl⟩ (fun hHeld => ?_)
   clear hK K
   refine norm_ (a' := ?_) ?_ ?_
   rotate_left
   ·show Act.put _ (some 20) _ = _
    simp only [sP]
    rfl
   refine one_ (i := 10) (N := some 21) #[T,T,T,T,T,T,T,T,T,T,T,F,F] rfl rfl (one_of HT_.out (by kernel_rfl)) (by decide) (fun K hK => ?_)
   refine goes_ Tryd.func12 (by kernel_rfl) rfl #[.slice Ao20 t254.length co20, .slice Ao21 t257.length co21] (by rfl) rfl rfl (by (try simp only [List.map_toArray, List.map_cons, List.map_nil]); first | done | rfl | (simp only [List.length_drop, List.length_take]; rfl)) ?_
   with_reducible refine (clusterlocksref10_SameHolds.calls k _ _ t254 _ _ t257 t260 _ ?side1 ?side2 ?side3 ?side4 A13.out).mono ?_
   (case side1 => repeat (first | exact (Kd.R_reads' HO256.out).2.2 | (with_reducible refine Kd.C_alloc ?_ _) | (with_reducible refine Kd.C_drewN ?_ _) | (with_reducible refine Kd.C_drew ?_)))
   (case side2 => exact (Kd.R_reads' HO256.out).2.1)
   (case side3 => repeat (first | exact (Kd.R_reads' HO259.out).2.2 | (with_reducible refine Kd.C_alloc ?_ _) | (with_reducible refine Kd.C_drewN ?_ _) | (with_reducible refine Kd.C_drew ?_)))
   (case side4 => exact (Kd.R_reads' HO259.out).2.1)
   rintro e w' ⟨rfl, ⟨nd, rfl⟩⟩
   refine ⟨_, rfl, ?_⟩
   refine hK.out _ _ ⟨bC BK250 0 rfl, bC BK250 1 rfl, bC BK250 2 rfl, bC BK251 0 rfl, bC BK251 1 rfl⟩ (fun hHeld => ?_)
   clear hK K
   refine norm_ (a' := ?_) ?_ ?_
   rotate_left
   ·show Act.put _ (some 21) _ = _
    simp only [sP]
    rfl
   refine pu HT_ 11 22 #[T,T,T,T,T,T,T,T,T,T,T,T,F] rfl rfl (by kernel_rfl) (fun _ _ _ => id) (.inl ⟨by rfl, by intro w'; go_simp; with_reducible rfl⟩) (by simp only [sP]; rfl) ?_
   refine pu HT_ 12 6 #[T,T,T,T,T,T,T,T,T,T,T,T,T] rfl rfl (by kernel_rfl) (fun _ _ _ => id) (.inl ⟨by rfl, by intro w'; go_simp; with_reducible rfl⟩) (by simp only [sP]; rfl) ?_
   refine done_ (done_of HT_.out (by kernel_rfl)) ?_
   try go_wp2
   go_ret
   exact ⟨by first | rfl | (simp [errW_none, errW_some] <;> rfl) | (simp [*, errW_none, errW_some] <;> rfl), by repeat (first | (with_reducible first | exact HB.out | apply bL | apply bM | apply bR) | exact HB.out)⟩
  ·replace c10 := Bool.eq_false_iff.mpr c10
   subst c10
   rw [if_neg (show ¬ (false = true) by decide)] at H
   obtain rfl := Option.some.inj H
   go_enter Tryd.func3, Tryd.ntmps3
   try go_wp2_with (first | ((with_reducible refine gate_dst (N := 4) rfl ?_); refine box_event ?hg (N := 4) ?hd (cs := #[.int .i64 a1_0, .int .i64 a1_1, .int .i64 a1_2]) (t := 24) ?hr ?_; (case hd => rfl); (case hg => rfl); (case hr => first | (go_simp; done) | (go_simp; rfl)); intro gb250 hg w22 hbox hb; have n0_ := Aside0.mk (below_step (uB HB) hb); have n1_ := Aside0.mk (hbox); have n2_ := Aside0.mk ((by rw [hg]; exact (below_size (uB HB)) : w.heap.size ≤ gb250)); have n3_ := n2_; clear HB; have HB := n0_; have BK250 := n1_; have GW250 := n2_; have GE250 := n3_; clear n0_ n1_ n2_ n3_; clear hb hbox hg) | ((with_reducible refine gate_dst (N := 5) rfl ?_); refine box_event ?hg (N := 5) ?hd (cs := #[.int .i64 a2_0, .int .i64 a2_1]) (t := 26) ?hr ?_; (case hd => rfl); (case hg => rfl); (case hr => first | (go_simp; done) | (go_simp; rfl)); intro gb251 hg w23 hbox hb; have n0_ := bK BK250 hb; have n1_ := Aside0.mk (below_step (uB HB) hb); have n2_ := Aside0.mk (hbox); have n3_ := Aside0.mk ((by rw [hg]; exact (below_size (uB HB)) : w.heap.size ≤ gb251)); have n4_ := n3_; have n5_ := Aside0.mk ((by rw [hg]; exact Nat.ne_of_lt (blkLt BK250 (uK BK250)) : gb250 ≠ gb251)); have n6_ := Aside0.mk n5_.out.symm; clear BK250 HB; have BK250 := n0_; have HB := n1_; have BK251 := n2_; have GW251 := n3_; have GE251 := n4_; have NB250_251 := n5_; have NB251_250 := n6_; clear n0_ n1_ n2_ n3_ n4_ n5_ n6_; clear hb hbox hg))
   replace BK250 := Aside0.mk (blk_drew BK250.out)
   replace BK251 := Aside0.mk (blk_drew BK251.out)
   replace HB := Aside0.mk (below_drew1 HB.out)
   refine start_ (n := 13) (S := fun w' => True) (ds := []) #[F,F,F,F,F,F,F,F,F,F,F,F,F] (by kernel_rfl) rfl rfl trivial (fun hHeld => ?_); refine with_tabW clusterlockslaw10_HoldersSets.tab3 clusterlockslaw10_HoldersSets.bits3 (fun HT_ HW_ => ?_)
   generalize w23.drew = w24 at BK250 BK251 HB hHeld ⊢
   refine one_ (i := 0) (N := some 11) #[T,F,F,F,F,F,F,F,F,F,F,F,F] rfl rfl (one_of HT_.out (by kernel_rfl)) (by decide) (fun K hK => ?_)
   refine goes_ Tryd.func11 (by kernel_rfl) rfl #[] (by rfl) rfl rfl (by (try simp only [List.map_toArray, List.map_cons, List.map_nil]); first | done | rfl | (simp only [List.length_drop, List.length_take]; rfl)) ?_
   with_reducible refine (clusterlockslaw10_awake.calls k  false _ ?side1 A9.out).mono ?_
   (case side1 => exact GL.below HG.out (uB HB))
   rintro e w25 ⟨rfl, hb⟩
   refine ⟨_, rfl, ?_⟩
   replace BK250 := bK BK250 hb
   replace BK251 := bK BK251 hb
   replace HB := Aside0.mk (below_step (uB HB) hb)
   (try clear hb)
   refine hK.out _ _ trivial (fun hHeld => ?_)
   clear hK K
   refine norm_ (a' := ?_) ?_ ?_
   rotate_left
   ·show Act.put _ (some 11) _ = _
    simp only [sP]
    rfl
   refine pu HT_ 1 12 #[T,T,F,F,F,F,F,F,F,F,F,F,F] rfl rfl (by kernel_rfl) (fun _ _ _ => id) (.inl ⟨by rfl, by intro w'; go_simp; with_reducible rfl⟩) (by simp only [sP]; rfl) ?_
   refine pu HT_ 2 13 #[T,T,T,F,F,F,F,F,F,F,F,F,F] rfl rfl (by kernel_rfl) (fun _ _ _ => id) (.inr ⟨by rfl, rfl⟩) (by simp only [sP]; rfl) ?_
   refine pu HT_ 3 14 #[T,T,T,T,F,F,F,F,F,F,F,F,F] rfl rfl (by kernel_rfl) (fun _ _ _ => id) (.inr ⟨by rfl, rfl⟩) (by simp only [sP]; rfl) ?_
   refine pu HT_ 4 15 #[T,T,T,T,T,F,F,F,F,F,F,F,F] rfl rfl (by kernel_rfl) (fun _ _ _ => id) (.inr ⟨by rfl, rfl⟩) (by simp only [sP]; rfl) ?_
   refine pu HT_ 5 16 #[T,T,T,T,T,T,F,F,F,F,F,F,F] rfl rfl (by kernel_rfl) (fun _ _ _ => id) (.inr ⟨by rfl, rfl⟩) (by simp only [sP]; rfl) ?_
   refine pu HT_ 6 17 #[T,T,T,T,T,T,T,F,F,F,F,F,F] rfl rfl (by kernel_rfl) (fun _ _ _ => id) (.inr ⟨by rfl, rfl⟩) (by simp only [sP]; rfl) ?_
   refine pu HT_ 7 18 #[T,T,T,T,T,T,T,T,F,F,F,F,F] rfl rfl (by kernel_rfl) (fun _ _ _ => id) (.inr ⟨by rfl, rfl⟩) (by simp only [sP]; rfl) ?_
   refine pu HT_ 8 19 #[T,T,T,T,T,T,T,T,T,F,F,F,F] rfl rfl (by kernel_rfl) (fun _ _ _ => id) (.inr ⟨by rfl, rfl⟩) (by simp only [sP]; rfl) ?_
   refine pu HT_ 9 20 #[T,T,T,T,T,T,T,T,T,T,F,F,F] rfl rfl (by kernel_rfl) (fun _ _ _ => id) (.inr ⟨by rfl, rfl⟩) (by simp only [sP]; rfl) ?_
   refine pu HT_ 10 21 #[T,T,T,T,T,T,T,T,T,T,T,F,F] rfl rfl (by kernel_rfl) (fun _ _ _ => id) (.inr ⟨by rfl, rfl⟩) (by simp only [sP]; rfl) ?_
   refine pu HT_ 11 22 #[T,T,T,T,T,T,T,T,T,T,T,T,F] rfl rfl (by kernel_rfl) (fun _ _ _ => id) (.inl ⟨by rfl, by intro w'; go_simp; with_reducible rfl⟩) (by simp only [sP]; rfl) ?_
   refine pu HT_ 12 6 #[T,T,T,T,T,T,T,T,T,T,T,T,T] rfl rfl (by kernel_rfl) (fun _ _ _ => id) (.inl ⟨by rfl, by intro w'; go_simp; with_reducible rfl⟩) (by simp only [sP]; rfl) ?_
   refine done_ (done_of HT_.out (by kernel_rfl)) ?_
   try go_wp2
   go_ret
   exact ⟨by first | rfl | (simp [errW_none, errW_some] <;> rfl) | (simp [*, errW_none, errW_some] <;> rfl), by repeat (first | (with_reducible first | exact HB.out | apply bL | apply bM | apply bR) | exact HB.out)⟩

end Go.Proofs.YtnmemkphfgdplaaDoor.PA
