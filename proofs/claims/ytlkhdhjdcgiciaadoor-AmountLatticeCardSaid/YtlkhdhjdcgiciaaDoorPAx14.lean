-- Printed by wip/tool/myprint.py for this claim; Lean checks it.
import Derived.Test.YtlkhdhjdcgiciaaDoorPAx0
import Derived.Test.YtlkhdhjdcgiciaaDoorSlim
import Derived.Test.YtlkhdhjdcgiciaaDoorPAx2
import Derived.Test.YtlkhdhjdcgiciaaDoorPAx3
import Derived.Test.YtlkhdhjdcgiciaaDoorPAx4
import Derived.Test.YtlkhdhjdcgiciaaDoorPAx7
import Derived.Test.YtlkhdhjdcgiciaaDoorPAx8
namespace Go.Proofs.YtlkhdhjdcgiciaaDoor.PA
open Go.RowKit Go.Proofs.YtlkhdhjdcgiciaaDoorW.PrintWords Go.Proofs.YtlkhdhjdcgiciaaDoorW.PrintLast Go.Proofs.YtlkhdhjdcgiciaaDoorW.PrintMore
attribute [local go_sem] max2_int min2_int max_two min_two max_three min_three max_four min_four   -- for this text's walks alone
set_option linter.unusedVariables false
set_option linter.unusedSimpArgs false

/-! ### amount_Covers: function 26 -/
def amount_Covers.j0 : Nat → Bool → ByteArray → Int → Int → Int → Int → Int → Int → Int → Option (Bool)
 | 0, _, _, _, _, _, _, _, _, _ => none
 | k + 1, x16, x273000, x273001, x273002, x273003, x274000, x274001, x275000, x275001 => if x16 = true then (some false) else ((amount_Zero.f x275000 x275001).bind fun t277 => (if t277 = true then (some true) else ((amount_Zero.f x274000 x274001).bind fun t278 => (if t278 = true then (some false) else (if x273001 = 1 then ((mode_Covers.f x274000 x275000).bind fun t279 => (some t279)) else (some (decide (x274001 ≥ x275001))))))))
def amount_Covers.f (k : Nat) (a0_0 : ByteArray) (a0_1 : Int) (a0_2 : Int) (a0_3 : Int) (a1_0 : Int) (a1_1 : Int) (a2_0 : Int) (a2_1 : Int) : Option (Bool) := (amount_permitted.f a0_0 a0_1 a0_2 a0_3 a1_0 a1_1).bind fun t275 => (if t275 = true then ((amount_permitted.f a0_0 a0_1 a0_2 a0_3 a2_0 a2_1).bind fun t276 => (amount_Covers.j0 k (!t276) a0_0 a0_1 a0_2 a0_3 a1_0 a1_1 a2_0 a2_1)) else (amount_Covers.j0 k true a0_0 a0_1 a0_2 a0_3 a1_0 a1_1 a2_0 a2_1))
theorem amount_Covers.mono_l : ∀ k, (∀ y0 y1 y2 y3 y4 y5 y6 y7 y8, LeO (amount_Covers.j0 k y0 y1 y2 y3 y4 y5 y6 y7 y8) (amount_Covers.j0 (k + 1) y0 y1 y2 y3 y4 y5 y6 y7 y8))
 | 0 => fun _ _ _ _ _ _ _ _ _ r h => by simp [amount_Covers.j0] at h
 | k + 1 => by
  have ih0 := amount_Covers.mono_l k
  ·intro y0 y1 y2 y3 y4 y5 y6 y7 y8
   unfold amount_Covers.j0
   repeat' first
   | (with_reducible exact ih0 _ _ _ _ _ _ _ _ _)
   | (with_reducible exact LeO.refl _)
   | (with_reducible exact LeO.none _)
   | (with_reducible refine LeO.ite ?_ ?_)
   | (with_reducible refine LeO.bind ?_ (fun _ => ?_))
   | exact ih0 _ _ _ _ _ _ _ _ _
   | exact LeO.none _
   | refine LeO.ite ?_ ?_
   | refine LeO.bind ?_ (fun _ => ?_)
theorem amount_Covers.mono : ∀ a0 a1 a2 a3 a4 a5 a6 a7 k, LeO (amount_Covers.f k a0 a1 a2 a3 a4 a5 a6 a7) (amount_Covers.f (k + 1) a0 a1 a2 a3 a4 a5 a6 a7) := by
 intro a0 a1 a2 a3 a4 a5 a6 a7 k
 have ih0 := amount_Covers.mono_l k
 unfold amount_Covers.f
 repeat' first
   | (with_reducible exact ih0 _ _ _ _ _ _ _ _ _)
   | (with_reducible exact LeO.refl _)
   | (with_reducible exact LeO.none _)
   | (with_reducible refine LeO.ite ?_ ?_)
   | (with_reducible refine LeO.bind ?_ (fun _ => ?_))
   | exact ih0 _ _ _ _ _ _ _ _ _
   | exact LeO.none _
   | refine LeO.ite ?_ ?_
   | refine LeO.bind ?_ (fun _ => ?_)
set_option maxHeartbeats 8000000 in
set_option maxRecDepth 100000 in
theorem amount_Covers.calls (k : Nat) (a0_0 : ByteArray) (a0_1 : Int) (a0_2 : Int) (a0_3 : Int) (a1_0 : Int) (a1_1 : Int) (a2_0 : Int) (a2_1 : Int) (r : Bool) (w : World) (h : amount_Covers.f k a0_0 a0_1 a0_2 a0_3 a1_0 a1_1 a2_0 a2_1 = some r) :
  Calls Tryd.prog 26 #[.agg #[.string a0_0, .int .i64 a0_1, .int .i64 a0_2, .int .i64 a0_3], .agg #[.int .i64 a1_0, .int .i64 a1_1], .agg #[.int .i64 a2_0, .int .i64 a2_1]] w fun e w' => e = .returned (.bool r) ∧ Below w.heap.size w w' := by
 have hu23 := Tryd.underlying23
 have hu25 := Tryd.underlying25
 have HB := Aside0.mk (Below.refl w.heap.size w)
 have H : ((amount_permitted.f a0_0 a0_1 a0_2 a0_3 a1_0 a1_1).bind fun t275 => (if t275 = true then ((amount_permitted.f a0_0 a0_1 a0_2 a0_3 a2_0 a2_1).bind fun t276 => (amount_Covers.j0 k (!t276) a0_0 a0_1 a0_2 a0_3 a1_0 a1_1 a2_0 a2_1)) else (amount_Covers.j0 k true a0_0 a0_1 a0_2 a0_3 a1_0 a1_1 a2_0 a2_1))) = some r := h
 clear h
 have HC4 := Aside0.mk H
 clear H
 go_enter Tryd.func26, Tryd.ntmps26
 go_upto_region 1 with (first | ((with_reducible refine gate_dst (N := 3) rfl ?_); refine box_event ?hg (N := 3) ?hd (cs := #[.string a0_0, .int .i64 a0_1, .int .i64 a0_2, .int .i64 a0_3]) (t := 23) ?hr ?_; (case hd => rfl); (case hg => rfl); (case hr => first | (go_simp; done) | (go_simp; rfl)); intro gb272 hg w5 hbox hb; have n0_ := Aside0.mk (below_step (by repeat (first | (with_reducible first | exact HB.out | apply below_alloc | apply pw_below_drewN | apply below_drew1) | exact HB.out)) hb); have n1_ := Aside0.mk (hbox); have n2_ := Aside0.mk ((by rw [hg]; exact (below_size (by repeat (first | (with_reducible first | exact HB.out | apply below_alloc | apply pw_below_drewN | apply below_drew1) | exact HB.out))) : w.heap.size ≤ gb272)); have n3_ := n2_; clear HB; have HB := n0_; have BK272 := n1_; have GW272 := n2_; have GE272 := n3_; clear n0_ n1_ n2_ n3_; clear hb hbox hg) | ((with_reducible refine gate_dst (N := 4) rfl ?_); refine box_event ?hg (N := 4) ?hd (cs := #[.int .i64 a1_0, .int .i64 a1_1]) (t := 25) ?hr ?_; (case hd => rfl); (case hg => rfl); (case hr => first | (go_simp; done) | (go_simp; rfl)); intro gb273 hg w6 hbox hb; have n0_ := blkB BK272 (by (with_reducible repeat first | refine bN ?_ _ | refine bD ?_ | refine bA ?_ _); exact BK272.out) hb; have n1_ := Aside0.mk (below_step (by repeat (first | (with_reducible first | exact HB.out | apply below_alloc | apply pw_below_drewN | apply below_drew1) | exact HB.out)) hb); have n2_ := Aside0.mk (hbox); have n3_ := Aside0.mk ((by rw [hg]; exact (below_size (by repeat (first | (with_reducible first | exact HB.out | apply below_alloc | apply pw_below_drewN | apply below_drew1) | exact HB.out))) : w.heap.size ≤ gb273)); have n4_ := n3_; have n5_ := Aside0.mk ((by rw [hg]; exact Nat.ne_of_lt (blkLt BK272 (by (with_reducible repeat first | refine bN ?_ _ | refine bD ?_ | refine bA ?_ _); exact BK272.out)) : gb272 ≠ gb273)); have n6_ := Aside0.mk n5_.out.symm; clear BK272 HB; have BK272 := n0_; have HB := n1_; have BK273 := n2_; have GW273 := n3_; have GE273 := n4_; have NB272_273 := n5_; have NB273_272 := n6_; clear n0_ n1_ n2_ n3_ n4_ n5_ n6_; clear hb hbox hg) | ((with_reducible refine gate_dst (N := 5) rfl ?_); refine box_event ?hg (N := 5) ?hd (cs := #[.int .i64 a2_0, .int .i64 a2_1]) (t := 25) ?hr ?_; (case hd => rfl); (case hg => rfl); (case hr => first | (go_simp; done) | (go_simp; rfl)); intro gb274 hg w7 hbox hb; have n0_ := blkB BK272 (by (with_reducible repeat first | refine bN ?_ _ | refine bD ?_ | refine bA ?_ _); exact BK272.out) hb; have n1_ := blkB BK273 (by (with_reducible repeat first | refine bN ?_ _ | refine bD ?_ | refine bA ?_ _); exact BK273.out) hb; have n2_ := Aside0.mk (below_step (by repeat (first | (with_reducible first | exact HB.out | apply below_alloc | apply pw_below_drewN | apply below_drew1) | exact HB.out)) hb); have n3_ := Aside0.mk (hbox); have n4_ := Aside0.mk ((by rw [hg]; exact (below_size (by repeat (first | (with_reducible first | exact HB.out | apply below_alloc | apply pw_below_drewN | apply below_drew1) | exact HB.out))) : w.heap.size ≤ gb274)); have n5_ := n4_; have n6_ := Aside0.mk ((by rw [hg]; exact Nat.ne_of_lt (blkLt BK272 (by (with_reducible repeat first | refine bN ?_ _ | refine bD ?_ | refine bA ?_ _); exact BK272.out)) : gb272 ≠ gb274)); have n7_ := Aside0.mk n6_.out.symm; have n8_ := Aside0.mk ((by rw [hg]; exact Nat.ne_of_lt (blkLt BK273 (by (with_reducible repeat first | refine bN ?_ _ | refine bD ?_ | refine bA ?_ _); exact BK273.out)) : gb273 ≠ gb274)); have n9_ := Aside0.mk n8_.out.symm; clear BK272 BK273 HB; have BK272 := n0_; have BK273 := n1_; have HB := n2_; have BK274 := n3_; have GW274 := n4_; have GE274 := n5_; have NB272_274 := n6_; have NB274_272 := n7_; have NB273_274 := n8_; have NB274_273 := n9_; clear n0_ n1_ n2_ n3_ n4_ n5_ n6_ n7_ n8_ n9_; clear hb hbox hg))
 (try simp only [Act.put, List.setIfInBounds_toArray, List.set_cons_zero, List.set_cons_succ])
 go_cut [16] (fun v16 wc => ∃ (kq : Nat) (x16_3 : Bool), v16 = .bool x16_3 ∧ Aside0 (amount_Covers.j0 kq x16_3 a0_0 a0_1 a0_2 a0_3 a1_0 a1_1 a2_0 a2_1 = some r) ∧ Aside0 (kq ≤ k) ∧ Aside0 (wc.heap[gb272]? = some (.cells #[.string a0_0, .int .i64 a0_1, .int .i64 a0_2, .int .i64 a0_3] 23 (0, 0))) ∧ Aside0 (wc.heap[gb273]? = some (.cells #[.int .i64 a1_0, .int .i64 a1_1] 25 (0, 0))) ∧ Aside0 (wc.heap[gb274]? = some (.cells #[.int .i64 a2_0, .int .i64 a2_1] 25 (0, 0))) ∧ Aside0 (Below w.heap.size w wc))
 case first =>
  have H := HC4.out
  clear HC4
  replace H := Option.bind_eq_some_iff.mp H
  obtain ⟨t275, A80, H⟩ := H
  replace H : (if t275 = true then ((amount_permitted.f a0_0 a0_1 a0_2 a0_3 a2_0 a2_1).bind fun t276 => (amount_Covers.j0 k (!t276) a0_0 a0_1 a0_2 a0_3 a1_0 a1_1 a2_0 a2_1)) else (amount_Covers.j0 k true a0_0 a0_1 a0_2 a0_3 a1_0 a1_1 a2_0 a2_1)) = some r := H
  have A8 := Aside0.mk A80
  clear A80
  by_cases c9 : t275 = true
  ·subst c9
   have H1 : ((amount_permitted.f a0_0 a0_1 a0_2 a0_3 a2_0 a2_1).bind fun t276 => (amount_Covers.j0 k (!t276) a0_0 a0_1 a0_2 a0_3 a1_0 a1_1 a2_0 a2_1)) = some r := by rw [if_pos rfl] at H; exact H
   clear H
   have H := H1
   clear H1
   replace H := Option.bind_eq_some_iff.mp H
   obtain ⟨t276, A100, H⟩ := H
   replace H : (amount_Covers.j0 k (!t276) a0_0 a0_1 a0_2 a0_3 a1_0 a1_1 a2_0 a2_1) = some r := H
   have A10 := Aside0.mk A100
   clear A100
   have H' := Aside0.mk H
   clear H
   have hnb11 := NB272_273.out
   have hnc11 := NB273_272.out
   have hnb12 := NB272_274.out
   have hnc12 := NB274_272.out
   have hcz13_0 : w7.cell? ⟨gb272, 0, none⟩ = some (.string a0_0) := (blk_cell BK272.out 0).trans rfl
   have hcz13_1 : w7.cell? ⟨gb272, 1, none⟩ = some (.int .i64 a0_1) := (blk_cell BK272.out 1).trans rfl
   have hcz13_2 : w7.cell? ⟨gb272, 2, none⟩ = some (.int .i64 a0_2) := (blk_cell BK272.out 2).trans rfl
   have hcz13_3 : w7.cell? ⟨gb272, 3, none⟩ = some (.int .i64 a0_3) := (blk_cell BK272.out 3).trans rfl
   have hfz13_0 := blk_frozen BK272.out 0
   have hfz13_1 := blk_frozen BK272.out 1
   have hfz13_2 := blk_frozen BK272.out 2
   have hfz13_3 := blk_frozen BK272.out 3
   have hnb14 := NB273_274.out
   have hnc14 := NB274_273.out
   have hcz15_0 : w7.cell? ⟨gb273, 0, none⟩ = some (.int .i64 a1_0) := (blk_cell BK273.out 0).trans rfl
   have hcz15_1 : w7.cell? ⟨gb273, 1, none⟩ = some (.int .i64 a1_1) := (blk_cell BK273.out 1).trans rfl
   have hfz15_0 := blk_frozen BK273.out 0
   have hfz15_1 := blk_frozen BK273.out 1
   go_wp2_with (first | ((with_reducible refine gate_callee (f := 31) rfl ?_); refine goesL_ (some 9) rfl rfl Tryd.func31 (by kernel_rfl) rfl #[.agg #[.string a0_0, .int .i64 a0_1, .int .i64 a0_2, .int .i64 a0_3], .agg #[.int .i64 a1_0, .int .i64 a1_1]] rfl (by (try simp only [List.map_toArray, List.map_cons, List.map_nil]); first | done | rfl | (simp only [List.length_drop, List.length_take]; rfl)) ?_; (with_reducible refine (amount_permitted.calls a0_0 a0_1 a0_2 a0_3 a1_0 a1_1 true _ A8.out).mono ?_); rintro e w16 ⟨rfl, hb⟩; refine ⟨_, rfl, ?_⟩; have n0_ := blkB BK272 (by (with_reducible repeat first | refine bN ?_ _ | refine bD ?_ | refine bA ?_ _); exact BK272.out) hb; have n1_ := blkB BK273 (by (with_reducible repeat first | refine bN ?_ _ | refine bD ?_ | refine bA ?_ _); exact BK273.out) hb; have n2_ := blkB BK274 (by (with_reducible repeat first | refine bN ?_ _ | refine bD ?_ | refine bA ?_ _); exact BK274.out) hb; have n3_ := Aside0.mk (below_step (by repeat (first | (with_reducible first | exact HB.out | apply below_alloc | apply pw_below_drewN | apply below_drew1) | exact HB.out)) hb); clear BK272 BK273 BK274 HB; have BK272 := n0_; have BK273 := n1_; have BK274 := n2_; have HB := n3_; clear n0_ n1_ n2_ n3_; (try clear hb); have hcz17_0 : w16.cell? ⟨gb272, 0, none⟩ = some (.string a0_0) := (blk_cell BK272.out 0).trans rfl; have hcz17_1 : w16.cell? ⟨gb272, 1, none⟩ = some (.int .i64 a0_1) := (blk_cell BK272.out 1).trans rfl; have hcz17_2 : w16.cell? ⟨gb272, 2, none⟩ = some (.int .i64 a0_2) := (blk_cell BK272.out 2).trans rfl; have hcz17_3 : w16.cell? ⟨gb272, 3, none⟩ = some (.int .i64 a0_3) := (blk_cell BK272.out 3).trans rfl; have hfz17_0 := blk_frozen BK272.out 0; have hfz17_1 := blk_frozen BK272.out 1; have hfz17_2 := blk_frozen BK272.out 2; have hfz17_3 := blk_frozen BK272.out 3; have hcz18_0 : w16.cell? ⟨gb274, 0, none⟩ = some (.int .i64 a2_0) := (blk_cell BK274.out 0).trans rfl; have hcz18_1 : w16.cell? ⟨gb274, 1, none⟩ = some (.int .i64 a2_1) := (blk_cell BK274.out 1).trans rfl; have hfz18_0 := blk_frozen BK274.out 0; have hfz18_1 := blk_frozen BK274.out 1) | (go_at_call 31; (with_reducible refine (amount_permitted.calls a0_0 a0_1 a0_2 a0_3 a2_0 a2_1 t276 _ A10.out).mono ?_); rintro e w19 ⟨rfl, hb⟩; have n0_ := blkB BK272 (by (with_reducible repeat first | refine bN ?_ _ | refine bD ?_ | refine bA ?_ _); exact BK272.out) hb; have n1_ := blkB BK273 (by (with_reducible repeat first | refine bN ?_ _ | refine bD ?_ | refine bA ?_ _); exact BK273.out) hb; have n2_ := blkB BK274 (by (with_reducible repeat first | refine bN ?_ _ | refine bD ?_ | refine bA ?_ _); exact BK274.out) hb; have n3_ := Aside0.mk (below_step (by repeat (first | (with_reducible first | exact HB.out | apply below_alloc | apply pw_below_drewN | apply below_drew1) | exact HB.out)) hb); clear BK272 BK273 BK274 HB; have BK272 := n0_; have BK273 := n1_; have BK274 := n2_; have HB := n3_; clear n0_ n1_ n2_ n3_; (try clear hb)))
   go_meet
   case rel => exact ⟨_, (!t276), (by first | rfl | (simp; done) | (simp [*]; done)), H', ⟨by first | omega | exact Nat.le_refl _⟩, ⟨by (with_reducible repeat first | refine bN ?_ _ | refine bD ?_ | refine bA ?_ _); exact BK272.out⟩, ⟨by (with_reducible repeat first | refine bN ?_ _ | refine bD ?_ | refine bA ?_ _); exact BK273.out⟩, ⟨by (with_reducible repeat first | refine bN ?_ _ | refine bD ?_ | refine bA ?_ _); exact BK274.out⟩, ⟨by repeat (first | (with_reducible first | exact HB.out | apply below_alloc | apply pw_below_drewN | apply below_drew1) | exact HB.out)⟩⟩
  ·replace c9 := Bool.eq_false_iff.mpr c9
   subst c9
   have H1 : (amount_Covers.j0 k true a0_0 a0_1 a0_2 a0_3 a1_0 a1_1 a2_0 a2_1) = some r := by rw [if_neg (show ¬ (false = true) by decide)] at H; exact H
   clear H
   have H := H1
   clear H1
   have H' := Aside0.mk H
   clear H
   have hnb20 := NB272_273.out
   have hnc20 := NB273_272.out
   have hnb21 := NB272_274.out
   have hnc21 := NB274_272.out
   have hcz22_0 : w7.cell? ⟨gb272, 0, none⟩ = some (.string a0_0) := (blk_cell BK272.out 0).trans rfl
   have hcz22_1 : w7.cell? ⟨gb272, 1, none⟩ = some (.int .i64 a0_1) := (blk_cell BK272.out 1).trans rfl
   have hcz22_2 : w7.cell? ⟨gb272, 2, none⟩ = some (.int .i64 a0_2) := (blk_cell BK272.out 2).trans rfl
   have hcz22_3 : w7.cell? ⟨gb272, 3, none⟩ = some (.int .i64 a0_3) := (blk_cell BK272.out 3).trans rfl
   have hfz22_0 := blk_frozen BK272.out 0
   have hfz22_1 := blk_frozen BK272.out 1
   have hfz22_2 := blk_frozen BK272.out 2
   have hfz22_3 := blk_frozen BK272.out 3
   have hnb23 := NB273_274.out
   have hnc23 := NB274_273.out
   have hcz24_0 : w7.cell? ⟨gb273, 0, none⟩ = some (.int .i64 a1_0) := (blk_cell BK273.out 0).trans rfl
   have hcz24_1 : w7.cell? ⟨gb273, 1, none⟩ = some (.int .i64 a1_1) := (blk_cell BK273.out 1).trans rfl
   have hfz24_0 := blk_frozen BK273.out 0
   have hfz24_1 := blk_frozen BK273.out 1
   go_wp2_with (first | ((with_reducible refine gate_callee (f := 31) rfl ?_); refine goesL_ (some 9) rfl rfl Tryd.func31 (by kernel_rfl) rfl #[.agg #[.string a0_0, .int .i64 a0_1, .int .i64 a0_2, .int .i64 a0_3], .agg #[.int .i64 a1_0, .int .i64 a1_1]] rfl (by (try simp only [List.map_toArray, List.map_cons, List.map_nil]); first | done | rfl | (simp only [List.length_drop, List.length_take]; rfl)) ?_; (with_reducible refine (amount_permitted.calls a0_0 a0_1 a0_2 a0_3 a1_0 a1_1 false _ A8.out).mono ?_); rintro e w25 ⟨rfl, hb⟩; refine ⟨_, rfl, ?_⟩; have n0_ := blkB BK272 (by (with_reducible repeat first | refine bN ?_ _ | refine bD ?_ | refine bA ?_ _); exact BK272.out) hb; have n1_ := blkB BK273 (by (with_reducible repeat first | refine bN ?_ _ | refine bD ?_ | refine bA ?_ _); exact BK273.out) hb; have n2_ := blkB BK274 (by (with_reducible repeat first | refine bN ?_ _ | refine bD ?_ | refine bA ?_ _); exact BK274.out) hb; have n3_ := Aside0.mk (below_step (by repeat (first | (with_reducible first | exact HB.out | apply below_alloc | apply pw_below_drewN | apply below_drew1) | exact HB.out)) hb); clear BK272 BK273 BK274 HB; have BK272 := n0_; have BK273 := n1_; have BK274 := n2_; have HB := n3_; clear n0_ n1_ n2_ n3_; (try clear hb)))
   go_meet
   case rel => exact ⟨_, (true), (by first | rfl | (simp; done) | (simp [*]; done)), H', ⟨by first | omega | exact Nat.le_refl _⟩, ⟨by (with_reducible repeat first | refine bN ?_ _ | refine bD ?_ | refine bA ?_ _); exact BK272.out⟩, ⟨by (with_reducible repeat first | refine bN ?_ _ | refine bD ?_ | refine bA ?_ _); exact BK273.out⟩, ⟨by (with_reducible repeat first | refine bN ?_ _ | refine bD ?_ | refine bA ?_ _); exact BK274.out⟩, ⟨by repeat (first | (with_reducible first | exact HB.out | apply below_alloc | apply pw_below_drewN | apply below_drew1) | exact HB.out)⟩⟩
 case rest =>
  clear HC4
  try clear c1
  try clear c2
  try clear p2
  try clear c3
  try clear c9
  try clear c11
  try clear c12
  try clear c14
  try clear c20
  try clear c21
  try clear c23
  try clear hcz13_0
  try clear hcz13_1
  try clear hcz13_2
  try clear hcz13_3
  try clear hcz15_0
  try clear hcz15_1
  try clear hcz17_0
  try clear hcz17_1
  try clear hcz17_2
  try clear hcz17_3
  try clear hcz18_0
  try clear hcz18_1
  try clear hcz22_0
  try clear hcz22_1
  try clear hcz22_2
  try clear hcz22_3
  try clear hcz24_0
  try clear hcz24_1
  try clear hfz13_0
  try clear hfz13_1
  try clear hfz13_2
  try clear hfz13_3
  try clear hfz15_0
  try clear hfz15_1
  try clear hfz17_0
  try clear hfz17_1
  try clear hfz17_2
  try clear hfz17_3
  try clear hfz18_0
  try clear hfz18_1
  try clear hfz22_0
  try clear hfz22_1
  try clear hfz22_2
  try clear hfz22_3
  try clear hfz24_0
  try clear hfz24_1
  obtain ⟨kq, x16_3, rfl, HA, HJ3, BK272, BK273, BK274, HB⟩ := hcut
  cases kq with
  | zero => exact absurd HA.out (by simp [amount_Covers.j0])
  | succ kj3 =>
   have H := HA.out
   clear HA
   simp only [amount_Covers.j0] at H
   by_cases c26 : x16_3 = true
   ·subst c26
    have H1 : (some false) = some r := by rw [if_pos rfl] at H; exact H
    clear H
    have H := H1
    clear H1
    obtain rfl := Option.some.inj H
    go_wp2
    go_ret
    exact ⟨by first | rfl | (simp [errW_none, errW_some] <;> rfl) | (simp [*, errW_none, errW_some] <;> rfl), by repeat (first | (with_reducible first | exact HB.out | apply below_alloc | apply pw_below_drewN | apply below_drew1) | exact HB.out)⟩
   ·replace c26 := Bool.eq_false_iff.mpr c26
    subst c26
    have H1 : ((amount_Zero.f a2_0 a2_1).bind fun t277 => (if t277 = true then (some true) else ((amount_Zero.f a1_0 a1_1).bind fun t278 => (if t278 = true then (some false) else (if a0_1 = 1 then ((mode_Covers.f a1_0 a2_0).bind fun t279 => (some t279)) else (some (decide (a1_1 ≥ a2_1)))))))) = some r := by rw [if_neg (show ¬ (false = true) by decide)] at H; exact H
    clear H
    have H := H1
    clear H1
    replace H := Option.bind_eq_some_iff.mp H
    obtain ⟨t277, A270, H⟩ := H
    replace H : (if t277 = true then (some true) else ((amount_Zero.f a1_0 a1_1).bind fun t278 => (if t278 = true then (some false) else (if a0_1 = 1 then ((mode_Covers.f a1_0 a2_0).bind fun t279 => (some t279)) else (some (decide (a1_1 ≥ a2_1))))))) = some r := H
    have A27 := Aside0.mk A270
    clear A270
    by_cases c28 : t277 = true
    ·subst c28
     have H1 : (some true) = some r := by rw [if_pos rfl] at H; exact H
     clear H
     have H := H1
     clear H1
     obtain rfl := Option.some.inj H
     have hnb29 := NB274_272.out
     have hnc29 := NB272_274.out
     have hnb30 := NB274_273.out
     have hnc30 := NB273_274.out
     have hcz31_0 : wc.cell? ⟨gb274, 0, none⟩ = some (.int .i64 a2_0) := (blk_cell BK274.out 0).trans rfl
     have hcz31_1 : wc.cell? ⟨gb274, 1, none⟩ = some (.int .i64 a2_1) := (blk_cell BK274.out 1).trans rfl
     have hfz31_0 := blk_frozen BK274.out 0
     have hfz31_1 := blk_frozen BK274.out 1
     go_wp2_with (first | ((with_reducible refine gate_callee (f := 15) rfl ?_); refine goesL_ (some 18) rfl rfl Tryd.func15 (by kernel_rfl) rfl #[.agg #[.int .i64 a2_0, .int .i64 a2_1]] rfl (by (try simp only [List.map_toArray, List.map_cons, List.map_nil]); first | done | rfl | (simp only [List.length_drop, List.length_take]; rfl)) ?_; (with_reducible refine (amount_Zero.calls a2_0 a2_1 true _ A27.out).mono ?_); rintro e w32 ⟨rfl, hb⟩; refine ⟨_, rfl, ?_⟩; have n0_ := blkB BK272 (by (with_reducible repeat first | refine bN ?_ _ | refine bD ?_ | refine bA ?_ _); exact BK272.out) hb; have n1_ := blkB BK273 (by (with_reducible repeat first | refine bN ?_ _ | refine bD ?_ | refine bA ?_ _); exact BK273.out) hb; have n2_ := blkB BK274 (by (with_reducible repeat first | refine bN ?_ _ | refine bD ?_ | refine bA ?_ _); exact BK274.out) hb; have n3_ := Aside0.mk (below_step (by repeat (first | (with_reducible first | exact HB.out | apply below_alloc | apply pw_below_drewN | apply below_drew1) | exact HB.out)) hb); clear BK272 BK273 BK274 HB; have BK272 := n0_; have BK273 := n1_; have BK274 := n2_; have HB := n3_; clear n0_ n1_ n2_ n3_; (try clear hb)))
     go_ret
     exact ⟨by first | rfl | (simp [errW_none, errW_some] <;> rfl) | (simp [*, errW_none, errW_some] <;> rfl), by repeat (first | (with_reducible first | exact HB.out | apply below_alloc | apply pw_below_drewN | apply below_drew1) | exact HB.out)⟩
    ·replace c28 := Bool.eq_false_iff.mpr c28
     subst c28
     have H1 : ((amount_Zero.f a1_0 a1_1).bind fun t278 => (if t278 = true then (some false) else (if a0_1 = 1 then ((mode_Covers.f a1_0 a2_0).bind fun t279 => (some t279)) else (some (decide (a1_1 ≥ a2_1)))))) = some r := by rw [if_neg (show ¬ (false = true) by decide)] at H; exact H
     clear H
     have H := H1
     clear H1
     replace H := Option.bind_eq_some_iff.mp H
     obtain ⟨t278, A330, H⟩ := H
     replace H : (if t278 = true then (some false) else (if a0_1 = 1 then ((mode_Covers.f a1_0 a2_0).bind fun t279 => (some t279)) else (some (decide (a1_1 ≥ a2_1))))) = some r := H
     have A33 := Aside0.mk A330
     clear A330
     by_cases c34 : t278 = true
     ·subst c34
      have H1 : (some false) = some r := by rw [if_pos rfl] at H; exact H
      clear H
      have H := H1
      clear H1
      obtain rfl := Option.some.inj H
      have hnb35 := NB274_272.out
      have hnc35 := NB272_274.out
      have hnb36 := NB274_273.out
      have hnc36 := NB273_274.out
      have hcz37_0 : wc.cell? ⟨gb274, 0, none⟩ = some (.int .i64 a2_0) := (blk_cell BK274.out 0).trans rfl
      have hcz37_1 : wc.cell? ⟨gb274, 1, none⟩ = some (.int .i64 a2_1) := (blk_cell BK274.out 1).trans rfl
      have hfz37_0 := blk_frozen BK274.out 0
      have hfz37_1 := blk_frozen BK274.out 1
      go_wp2_with (first | ((with_reducible refine gate_callee (f := 15) rfl ?_); refine goesL_ (some 18) rfl rfl Tryd.func15 (by kernel_rfl) rfl #[.agg #[.int .i64 a2_0, .int .i64 a2_1]] rfl (by (try simp only [List.map_toArray, List.map_cons, List.map_nil]); first | done | rfl | (simp only [List.length_drop, List.length_take]; rfl)) ?_; (with_reducible refine (amount_Zero.calls a2_0 a2_1 false _ A27.out).mono ?_); rintro e w38 ⟨rfl, hb⟩; refine ⟨_, rfl, ?_⟩; have n0_ := blkB BK272 (by (with_reducible repeat first | refine bN ?_ _ | refine bD ?_ | refine bA ?_ _); exact BK272.out) hb; have n1_ := blkB BK273 (by (with_reducible repeat first | refine bN ?_ _ | refine bD ?_ | refine bA ?_ _); exact BK273.out) hb; have n2_ := blkB BK274 (by (with_reducible repeat first | refine bN ?_ _ | refine bD ?_ | refine bA ?_ _); exact BK274.out) hb; have n3_ := Aside0.mk (below_step (by repeat (first | (with_reducible first | exact HB.out | apply below_alloc | apply pw_below_drewN | apply below_drew1) | exact HB.out)) hb); clear BK272 BK273 BK274 HB; have BK272 := n0_; have BK273 := n1_; have BK274 := n2_; have HB := n3_; clear n0_ n1_ n2_ n3_; (try clear hb); have hnb39 := NB273_272.out; have hnc39 := NB272_273.out; have hcz40_0 : w38.cell? ⟨gb273, 0, none⟩ = some (.int .i64 a1_0) := (blk_cell BK273.out 0).trans rfl; have hcz40_1 : w38.cell? ⟨gb273, 1, none⟩ = some (.int .i64 a1_1) := (blk_cell BK273.out 1).trans rfl; have hfz40_0 := blk_frozen BK273.out 0; have hfz40_1 := blk_frozen BK273.out 1) | ((with_reducible refine gate_callee (f := 15) rfl ?_); refine goesL_ (some 20) rfl rfl Tryd.func15 (by kernel_rfl) rfl #[.agg #[.int .i64 a1_0, .int .i64 a1_1]] rfl (by (try simp only [List.map_toArray, List.map_cons, List.map_nil]); first | done | rfl | (simp only [List.length_drop, List.length_take]; rfl)) ?_; (with_reducible refine (amount_Zero.calls a1_0 a1_1 true _ A33.out).mono ?_); rintro e w41 ⟨rfl, hb⟩; refine ⟨_, rfl, ?_⟩; have n0_ := blkB BK272 (by (with_reducible repeat first | refine bN ?_ _ | refine bD ?_ | refine bA ?_ _); exact BK272.out) hb; have n1_ := blkB BK273 (by (with_reducible repeat first | refine bN ?_ _ | refine bD ?_ | refine bA ?_ _); exact BK273.out) hb; have n2_ := blkB BK274 (by (with_reducible repeat first | refine bN ?_ _ | refine bD ?_ | refine bA ?_ _); exact BK274.out) hb; have n3_ := Aside0.mk (below_step (by repeat (first | (with_reducible first | exact HB.out | apply below_alloc | apply pw_below_drewN | apply below_drew1) | exact HB.out)) hb); clear BK272 BK273 BK274 HB; have BK272 := n0_; have BK273 := n1_; have BK274 := n2_; have HB := n3_; clear n0_ n1_ n2_ n3_; (try clear hb)))
      go_ret
      exact ⟨by first | rfl | (simp [errW_none, errW_some] <;> rfl) | (simp [*, errW_none, errW_some] <;> rfl), by repeat (first | (with_reducible first | exact HB.out | apply below_alloc | apply pw_below_drewN | apply below_drew1) | exact HB.out)⟩
     ·replace c34 := Bool.eq_false_iff.mpr c34
      subst c34
      have H1 : (if a0_1 = 1 then ((mode_Covers.f a1_0 a2_0).bind fun t279 => (some t279)) else (some (decide (a1_1 ≥ a2_1)))) = some r := by rw [if_neg (show ¬ (false = true) by decide)] at H; exact H
      clear H
      have H := H1
      clear H1
      by_cases c42 : a0_1 = 1
      ·rw [if_pos c42] at H
       have c42b0 : (a0_1 == 1) = true := beq_iff_eq.mpr c42
       have c42b1 : (a0_1 != 1) = false := bne_eq_false_iff_eq.mpr c42
       clear c42
       replace H := Option.bind_eq_some_iff.mp H
       obtain ⟨t279, A430, H⟩ := H
       replace H : (some t279) = some r := H
       have A43 := Aside0.mk A430
       clear A430
       obtain rfl := Option.some.inj H
       have hnb44 := NB274_272.out
       have hnc44 := NB272_274.out
       have hnb45 := NB274_273.out
       have hnc45 := NB273_274.out
       have hcz46_0 : wc.cell? ⟨gb274, 0, none⟩ = some (.int .i64 a2_0) := (blk_cell BK274.out 0).trans rfl
       have hcz46_1 : wc.cell? ⟨gb274, 1, none⟩ = some (.int .i64 a2_1) := (blk_cell BK274.out 1).trans rfl
       have hfz46_0 := blk_frozen BK274.out 0
       have hfz46_1 := blk_frozen BK274.out 1
       go_wp2_with (first | ((with_reducible refine gate_callee (f := 15) rfl ?_); refine goesL_ (some 18) rfl rfl Tryd.func15 (by kernel_rfl) rfl #[.agg #[.int .i64 a2_0, .int .i64 a2_1]] rfl (by (try simp only [List.map_toArray, List.map_cons, List.map_nil]); first | done | rfl | (simp only [List.length_drop, List.length_take]; rfl)) ?_; (with_reducible refine (amount_Zero.calls a2_0 a2_1 false _ A27.out).mono ?_); rintro e w47 ⟨rfl, hb⟩; refine ⟨_, rfl, ?_⟩; have n0_ := blkB BK272 (by (with_reducible repeat first | refine bN ?_ _ | refine bD ?_ | refine bA ?_ _); exact BK272.out) hb; have n1_ := blkB BK273 (by (with_reducible repeat first | refine bN ?_ _ | refine bD ?_ | refine bA ?_ _); exact BK273.out) hb; have n2_ := blkB BK274 (by (with_reducible repeat first | refine bN ?_ _ | refine bD ?_ | refine bA ?_ _); exact BK274.out) hb; have n3_ := Aside0.mk (below_step (by repeat (first | (with_reducible first | exact HB.out | apply below_alloc | apply pw_below_drewN | apply below_drew1) | exact HB.out)) hb); clear BK272 BK273 BK274 HB; have BK272 := n0_; have BK273 := n1_; have BK274 := n2_; have HB := n3_; clear n0_ n1_ n2_ n3_; (try clear hb); have hnb48 := NB273_272.out; have hnc48 := NB272_273.out; have hcz49_0 : w47.cell? ⟨gb273, 0, none⟩ = some (.int .i64 a1_0) := (blk_cell BK273.out 0).trans rfl; have hcz49_1 : w47.cell? ⟨gb273, 1, none⟩ = some (.int .i64 a1_1) := (blk_cell BK273.out 1).trans rfl; have hfz49_0 := blk_frozen BK273.out 0; have hfz49_1 := blk_frozen BK273.out 1) | ((with_reducible refine gate_callee (f := 15) rfl ?_); refine goesL_ (some 20) rfl rfl Tryd.func15 (by kernel_rfl) rfl #[.agg #[.int .i64 a1_0, .int .i64 a1_1]] rfl (by (try simp only [List.map_toArray, List.map_cons, List.map_nil]); first | done | rfl | (simp only [List.length_drop, List.length_take]; rfl)) ?_; (with_reducible refine (amount_Zero.calls a1_0 a1_1 false _ A33.out).mono ?_); rintro e w50 ⟨rfl, hb⟩; refine ⟨_, rfl, ?_⟩; have n0_ := blkB BK272 (by (with_reducible repeat first | refine bN ?_ _ | refine bD ?_ | refine bA ?_ _); exact BK272.out) hb; have n1_ := blkB BK273 (by (with_reducible repeat first | refine bN ?_ _ | refine bD ?_ | refine bA ?_ _); exact BK273.out) hb; have n2_ := blkB BK274 (by (with_reducible repeat first | refine bN ?_ _ | refine bD ?_ | refine bA ?_ _); exact BK274.out) hb; have n3_ := Aside0.mk (below_step (by repeat (first | (with_reducible first | exact HB.out | apply below_alloc | apply pw_below_drewN | apply below_drew1) | exact HB.out)) hb); clear BK272 BK273 BK274 HB; have BK272 := n0_; have BK273 := n1_; have BK274 := n2_; have HB := n3_; clear n0_ n1_ n2_ n3_; (try clear hb); have hcz51_0 : w50.cell? ⟨gb272, 0, none⟩ = some (.string a0_0) := (blk_cell BK272.out 0).trans rfl; have hcz51_1 : w50.cell? ⟨gb272, 1, none⟩ = some (.int .i64 a0_1) := (blk_cell BK272.out 1).trans rfl; have hcz51_2 : w50.cell? ⟨gb272, 2, none⟩ = some (.int .i64 a0_2) := (blk_cell BK272.out 2).trans rfl; have hcz51_3 : w50.cell? ⟨gb272, 3, none⟩ = some (.int .i64 a0_3) := (blk_cell BK272.out 3).trans rfl; have hfz51_0 := blk_frozen BK272.out 0; have hfz51_1 := blk_frozen BK272.out 1; have hfz51_2 := blk_frozen BK272.out 2; have hfz51_3 := blk_frozen BK272.out 3; have hcz52_0 : w50.cell? ⟨gb273, 0, none⟩ = some (.int .i64 a1_0) := (blk_cell BK273.out 0).trans rfl; have hcz52_1 : w50.cell? ⟨gb273, 1, none⟩ = some (.int .i64 a1_1) := (blk_cell BK273.out 1).trans rfl; have hfz52_0 := blk_frozen BK273.out 0; have hfz52_1 := blk_frozen BK273.out 1; have hcz53_0 : w50.cell? ⟨gb274, 0, none⟩ = some (.int .i64 a2_0) := (blk_cell BK274.out 0).trans rfl; have hcz53_1 : w50.cell? ⟨gb274, 1, none⟩ = some (.int .i64 a2_1) := (blk_cell BK274.out 1).trans rfl; have hfz53_0 := blk_frozen BK274.out 0; have hfz53_1 := blk_frozen BK274.out 1) | ((with_reducible refine gate_callee (f := 40) rfl ?_); refine goesL_ (some 28) rfl rfl Tryd.func40 (by kernel_rfl) rfl #[.int .i64 a1_0, .int .i64 a2_0] rfl (by (try simp only [List.map_toArray, List.map_cons, List.map_nil]); first | done | rfl | (simp only [List.length_drop, List.length_take]; rfl)) ?_; (with_reducible refine (mode_Covers.calls a1_0 a2_0 t279 _ A43.out).mono ?_); rintro e w' ⟨rfl, ⟨nd, rfl⟩⟩; refine ⟨_, rfl, ?_⟩))
       go_ret
       exact ⟨by first | rfl | (simp [errW_none, errW_some] <;> rfl) | (simp [*, errW_none, errW_some] <;> rfl), by repeat (first | (with_reducible first | exact HB.out | apply below_alloc | apply pw_below_drewN | apply below_drew1) | exact HB.out)⟩
      ·rw [if_neg c42] at H
       have c42b0 : (a0_1 == 1) = false := beq_eq_false_iff_ne.mpr c42
       have c42b1 : (a0_1 != 1) = true := bne_iff_ne.mpr c42
       obtain rfl := Option.some.inj H
       have hnb54 := NB274_272.out
       have hnc54 := NB272_274.out
       have hnb55 := NB274_273.out
       have hnc55 := NB273_274.out
       have hcz56_0 : wc.cell? ⟨gb274, 0, none⟩ = some (.int .i64 a2_0) := (blk_cell BK274.out 0).trans rfl
       have hcz56_1 : wc.cell? ⟨gb274, 1, none⟩ = some (.int .i64 a2_1) := (blk_cell BK274.out 1).trans rfl
       have hfz56_0 := blk_frozen BK274.out 0
       have hfz56_1 := blk_frozen BK274.out 1
       go_wp2_with (first | ((with_reducible refine gate_callee (f := 15) rfl ?_); refine goesL_ (some 18) rfl rfl Tryd.func15 (by kernel_rfl) rfl #[.agg #[.int .i64 a2_0, .int .i64 a2_1]] rfl (by (try simp only [List.map_toArray, List.map_cons, List.map_nil]); first | done | rfl | (simp only [List.length_drop, List.length_take]; rfl)) ?_; (with_reducible refine (amount_Zero.calls a2_0 a2_1 false _ A27.out).mono ?_); rintro e w57 ⟨rfl, hb⟩; refine ⟨_, rfl, ?_⟩; have n0_ := blkB BK272 (by (with_reducible repeat first | refine bN ?_ _ | refine bD ?_ | refine bA ?_ _); exact BK272.out) hb; have n1_ := blkB BK273 (by (with_reducible repeat first | refine bN ?_ _ | refine bD ?_ | refine bA ?_ _); exact BK273.out) hb; have n2_ := blkB BK274 (by (with_reducible repeat first | refine bN ?_ _ | refine bD ?_ | refine bA ?_ _); exact BK274.out) hb; have n3_ := Aside0.mk (below_step (by repeat (first | (with_reducible first | exact HB.out | apply below_alloc | apply pw_below_drewN | apply below_drew1) | exact HB.out)) hb); clear BK272 BK273 BK274 HB; have BK272 := n0_; have BK273 := n1_; have BK274 := n2_; have HB := n3_; clear n0_ n1_ n2_ n3_; (try clear hb); have hnb58 := NB273_272.out; have hnc58 := NB272_273.out; have hcz59_0 : w57.cell? ⟨gb273, 0, none⟩ = some (.int .i64 a1_0) := (blk_cell BK273.out 0).trans rfl; have hcz59_1 : w57.cell? ⟨gb273, 1, none⟩ = some (.int .i64 a1_1) := (blk_cell BK273.out 1).trans rfl; have hfz59_0 := blk_frozen BK273.out 0; have hfz59_1 := blk_frozen BK273.out 1) | ((with_reducible refine gate_callee (f := 15) rfl ?_); refine goesL_ (some 20) rfl rfl Tryd.func15 (by kernel_rfl) rfl #[.agg #[.int .i64 a1_0, .int .i64 a1_1]] rfl (by (try simp only [List.map_toArray, List.map_cons, List.map_nil]); first | done | rfl | (simp only [List.length_drop, List.length_take]; rfl)) ?_; (with_reducible refine (amount_Zero.calls a1_0 a1_1 false _ A33.out).mono ?_); rintro e w60 ⟨rfl, hb⟩; refine ⟨_, rfl, ?_⟩; have n0_ := blkB BK272 (by (with_reducible repeat first | refine bN ?_ _ | refine bD ?_ | refine bA ?_ _); exact BK272.out) hb; have n1_ := blkB BK273 (by (with_reducible repeat first | refine bN ?_ _ | refine bD ?_ | refine bA ?_ _); exact BK273.out) hb; have n2_ := blkB BK274 (by (with_reducible repeat first | refine bN ?_ _ | refine bD ?_ | refine bA ?_ _); exact BK274.out) hb; have n3_ := Aside0.mk (below_step (by repeat (first | (with_reducible first | exact HB.out | apply below_alloc | apply pw_below_drewN | apply below_drew1) | exact HB.out)) hb); clear BK272 BK273 BK274 HB; have BK272 := n0_; have BK273 := n1_; have BK274 := n2_; have HB := n3_; clear n0_ n1_ n2_ n3_; (try clear hb); have hcz61_0 : w60.cell? ⟨gb272, 0, none⟩ = some (.string a0_0) := (blk_cell BK272.out 0).trans rfl; have hcz61_1 : w60.cell? ⟨gb272, 1, none⟩ = some (.int .i64 a0_1) := (blk_cell BK272.out 1).trans rfl; have hcz61_2 : w60.cell? ⟨gb272, 2, none⟩ = some (.int .i64 a0_2) := (blk_cell BK272.out 2).trans rfl; have hcz61_3 : w60.cell? ⟨gb272, 3, none⟩ = some (.int .i64 a0_3) := (blk_cell BK272.out 3).trans rfl; have hfz61_0 := blk_frozen BK272.out 0; have hfz61_1 := blk_frozen BK272.out 1; have hfz61_2 := blk_frozen BK272.out 2; have hfz61_3 := blk_frozen BK272.out 3; have hcz62_0 : w60.cell? ⟨gb273, 0, none⟩ = some (.int .i64 a1_0) := (blk_cell BK273.out 0).trans rfl; have hcz62_1 : w60.cell? ⟨gb273, 1, none⟩ = some (.int .i64 a1_1) := (blk_cell BK273.out 1).trans rfl; have hfz62_0 := blk_frozen BK273.out 0; have hfz62_1 := blk_frozen BK273.out 1; have hcz63_0 : w60.cell? ⟨gb274, 0, none⟩ = some (.int .i64 a2_0) := (blk_cell BK274.out 0).trans rfl; have hcz63_1 : w60.cell? ⟨gb274, 1, none⟩ = some (.int .i64 a2_1) := (blk_cell BK274.out 1).trans rfl; have hfz63_0 := blk_frozen BK274.out 0; have hfz63_1 := blk_frozen BK274.out 1))
       go_ret
       exact ⟨by first | rfl | (simp [errW_none, errW_some] <;> rfl) | (simp [*, errW_none, errW_some] <;> rfl), by repeat (first | (with_reducible first | exact HB.out | apply below_alloc | apply pw_below_drewN | apply below_drew1) | exact HB.out)⟩

/-! ### clusterlocksref03_Covers: function 41 -/
def clusterlocksref03_Covers.f (a0 : Int) (a1 : Int) : Option (Bool) := (clusterlocksref03_Valid.f a0).bind fun t280 => (if t280 = true then ((clusterlocksref03_Valid.f a1).bind fun t281 => (if t281 = true then (if a0 = a1 then (some true) else (if a0 = 5 then (some true) else (if a1 = 1 then (some true) else (if a0 = 4 then (some (a1 != 5)) else (some false))))) else (some false))) else (some false))
set_option maxHeartbeats 8000000 in
set_option maxRecDepth 100000 in
theorem clusterlocksref03_Covers.calls (a0 : Int) (a1 : Int) (r : Bool) (w : World) (h : clusterlocksref03_Covers.f a0 a1 = some r) :
  Calls Tryd.prog 41 #[.int .i64 a0, .int .i64 a1] w fun e w' => e = .returned (.bool r) ∧ Drawn0 w w' := by
 have H : ((clusterlocksref03_Valid.f a0).bind fun t280 => (if t280 = true then ((clusterlocksref03_Valid.f a1).bind fun t281 => (if t281 = true then (if a0 = a1 then (some true) else (if a0 = 5 then (some true) else (if a1 = 1 then (some true) else (if a0 = 4 then (some (a1 != 5)) else (some false))))) else (some false))) else (some false))) = some r := h
 clear h
 replace H := Option.bind_eq_some_iff.mp H
 obtain ⟨t280, A30, H⟩ := H
 replace H : (if t280 = true then ((clusterlocksref03_Valid.f a1).bind fun t281 => (if t281 = true then (if a0 = a1 then (some true) else (if a0 = 5 then (some true) else (if a1 = 1 then (some true) else (if a0 = 4 then (some (a1 != 5)) else (some false))))) else (some false))) else (some false)) = some r := H
 have A3 := Aside0.mk A30
 clear A30
 by_cases c4 : t280 = true
 ·subst c4
  have H1 : ((clusterlocksref03_Valid.f a1).bind fun t281 => (if t281 = true then (if a0 = a1 then (some true) else (if a0 = 5 then (some true) else (if a1 = 1 then (some true) else (if a0 = 4 then (some (a1 != 5)) else (some false))))) else (some false))) = some r := by rw [if_pos rfl] at H; exact H
  clear H
  have H := H1
  clear H1
  replace H := Option.bind_eq_some_iff.mp H
  obtain ⟨t281, A50, H⟩ := H
  replace H : (if t281 = true then (if a0 = a1 then (some true) else (if a0 = 5 then (some true) else (if a1 = 1 then (some true) else (if a0 = 4 then (some (a1 != 5)) else (some false))))) else (some false)) = some r := H
  have A5 := Aside0.mk A50
  clear A50
  by_cases c6 : t281 = true
  ·subst c6
   have H1 : (if a0 = a1 then (some true) else (if a0 = 5 then (some true) else (if a1 = 1 then (some true) else (if a0 = 4 then (some (a1 != 5)) else (some false))))) = some r := by rw [if_pos rfl] at H; exact H
   clear H
   have H := H1
   clear H1
   by_cases c7 : a0 = a1
   ·rw [if_pos c7] at H
    have c7b0 : (a0 == a1) = true := beq_iff_eq.mpr c7
    have c7b1 : (a0 != a1) = false := bne_eq_false_iff_eq.mpr c7
    clear c7
    obtain rfl := Option.some.inj H
    go_enter Tryd.func41, Tryd.ntmps41
    go_wp2_with (first | ((with_reducible refine gate_callee (f := 30) rfl ?_); refine goesL_ (some 6) rfl rfl Tryd.func30 (by kernel_rfl) rfl #[.int .i64 a0] rfl (by (try simp only [List.map_toArray, List.map_cons, List.map_nil]); first | done | rfl | (simp only [List.length_drop, List.length_take]; rfl)) ?_; (with_reducible refine (clusterlocksref03_Valid.calls a0 true _ A3.out).mono ?_); rintro e w' ⟨rfl, ⟨nd, rfl⟩⟩; refine ⟨_, rfl, ?_⟩) | (go_at_call 30; (with_reducible refine (clusterlocksref03_Valid.calls a1 true _ A5.out).mono ?_); rintro e w' ⟨rfl, ⟨nd, rfl⟩⟩))
    go_ret
    exact ⟨by first | rfl | (simp; done) | (simp [*]; done), by repeat (first | exact Drawn0.refl _ | apply Drawn0.step)⟩
   ·rw [if_neg c7] at H
    have c7b0 : (a0 == a1) = false := beq_eq_false_iff_ne.mpr c7
    have c7b1 : (a0 != a1) = true := bne_iff_ne.mpr c7
    by_cases c8 : a0 = 5
    ·rw [if_pos c8] at H
     have c8b0 : (a0 == 5) = true := beq_iff_eq.mpr c8
     have c8b1 : (a0 != 5) = false := bne_eq_false_iff_eq.mpr c8
     clear c8
     obtain rfl := Option.some.inj H
     go_enter Tryd.func41, Tryd.ntmps41
     go_wp2_with (first | ((with_reducible refine gate_callee (f := 30) rfl ?_); refine goesL_ (some 6) rfl rfl Tryd.func30 (by kernel_rfl) rfl #[.int .i64 a0] rfl (by (try simp only [List.map_toArray, List.map_cons, List.map_nil]); first | done | rfl | (simp only [List.length_drop, List.length_take]; rfl)) ?_; (with_reducible refine (clusterlocksref03_Valid.calls a0 true _ A3.out).mono ?_); rintro e w' ⟨rfl, ⟨nd, rfl⟩⟩; refine ⟨_, rfl, ?_⟩) | (go_at_call 30; (with_reducible refine (clusterlocksref03_Valid.calls a1 true _ A5.out).mono ?_); rintro e w' ⟨rfl, ⟨nd, rfl⟩⟩))
     go_ret
     exact ⟨by first | rfl | (simp; done) | (simp [*]; done), by repeat (first | exact Drawn0.refl _ | apply Drawn0.step)⟩
    ·rw [if_neg c8] at H
     have c8b0 : (a0 == 5) = false := beq_eq_false_iff_ne.mpr c8
     have c8b1 : (a0 != 5) = true := bne_iff_ne.mpr c8
     by_cases c9 : a1 = 1
     ·rw [if_pos c9] at H
      have c9b0 : (a1 == 1) = true := beq_iff_eq.mpr c9
      have c9b1 : (a1 != 1) = false := bne_eq_false_iff_eq.mpr c9
      clear c9
      obtain rfl := Option.some.inj H
      go_enter Tryd.func41, Tryd.ntmps41
      go_wp2_with (first | ((with_reducible refine gate_callee (f := 30) rfl ?_); refine goesL_ (some 6) rfl rfl Tryd.func30 (by kernel_rfl) rfl #[.int .i64 a0] rfl (by (try simp only [List.map_toArray, List.map_cons, List.map_nil]); first | done | rfl | (simp only [List.length_drop, List.length_take]; rfl)) ?_; (with_reducible refine (clusterlocksref03_Valid.calls a0 true _ A3.out).mono ?_); rintro e w' ⟨rfl, ⟨nd, rfl⟩⟩; refine ⟨_, rfl, ?_⟩) | (go_at_call 30; (with_reducible refine (clusterlocksref03_Valid.calls a1 true _ A5.out).mono ?_); rintro e w' ⟨rfl, ⟨nd, rfl⟩⟩))
      go_ret
      exact ⟨by first | rfl | (simp; done) | (simp [*]; done), by repeat (first | exact Drawn0.refl _ | apply Drawn0.step)⟩
     ·rw [if_neg c9] at H
      have c9b0 : (a1 == 1) = false := beq_eq_false_iff_ne.mpr c9
      have c9b1 : (a1 != 1) = true := bne_iff_ne.mpr c9
      by_cases c10 : a0 = 4
      ·rw [if_pos c10] at H
       have c10b0 : (a0 == 4) = true := beq_iff_eq.mpr c10
       have c10b1 : (a0 != 4) = false := bne_eq_false_iff_eq.mpr c10
       clear c10
       obtain rfl := Option.some.inj H
       go_enter Tryd.func41, Tryd.ntmps41
       go_wp2_with (first | ((with_reducible refine gate_callee (f := 30) rfl ?_); refine goesL_ (some 6) rfl rfl Tryd.func30 (by kernel_rfl) rfl #[.int .i64 a0] rfl (by (try simp only [List.map_toArray, List.map_cons, List.map_nil]); first | done | rfl | (simp only [List.length_drop, List.length_take]; rfl)) ?_; (with_reducible refine (clusterlocksref03_Valid.calls a0 true _ A3.out).mono ?_); rintro e w' ⟨rfl, ⟨nd, rfl⟩⟩; refine ⟨_, rfl, ?_⟩) | (go_at_call 30; (with_reducible refine (clusterlocksref03_Valid.calls a1 true _ A5.out).mono ?_); rintro e w' ⟨rfl, ⟨nd, rfl⟩⟩))
       go_ret
       exact ⟨by first | rfl | (simp; done) | (simp [*]; done), by repeat (first | exact Drawn0.refl _ | apply Drawn0.step)⟩
      ·rw [if_neg c10] at H
       have c10b0 : (a0 == 4) = false := beq_eq_false_iff_ne.mpr c10
       have c10b1 : (a0 != 4) = true := bne_iff_ne.mpr c10
       obtain rfl := Option.some.inj H
       go_enter Tryd.func41, Tryd.ntmps41
       go_wp2_with (first | ((with_reducible refine gate_callee (f := 30) rfl ?_); refine goesL_ (some 6) rfl rfl Tryd.func30 (by kernel_rfl) rfl #[.int .i64 a0] rfl (by (try simp only [List.map_toArray, List.map_cons, List.map_nil]); first | done | rfl | (simp only [List.length_drop, List.length_take]; rfl)) ?_; (with_reducible refine (clusterlocksref03_Valid.calls a0 true _ A3.out).mono ?_); rintro e w' ⟨rfl, ⟨nd, rfl⟩⟩; refine ⟨_, rfl, ?_⟩) | (go_at_call 30; (with_reducible refine (clusterlocksref03_Valid.calls a1 true _ A5.out).mono ?_); rintro e w' ⟨rfl, ⟨nd, rfl⟩⟩))
       go_ret
       exact ⟨by first | rfl | (simp; done) | (simp [*]; done), by repeat (first | exact Drawn0.refl _ | apply Drawn0.step)⟩
  ·replace c6 := Bool.eq_false_iff.mpr c6
   subst c6
   have H1 : (some false) = some r := by rw [if_neg (show ¬ (false = true) by decide)] at H; exact H
   clear H
   have H := H1
   clear H1
   obtain rfl := Option.some.inj H
   go_enter Tryd.func41, Tryd.ntmps41
   go_wp2_with (first | ((with_reducible refine gate_callee (f := 30) rfl ?_); refine goesL_ (some 6) rfl rfl Tryd.func30 (by kernel_rfl) rfl #[.int .i64 a0] rfl (by (try simp only [List.map_toArray, List.map_cons, List.map_nil]); first | done | rfl | (simp only [List.length_drop, List.length_take]; rfl)) ?_; (with_reducible refine (clusterlocksref03_Valid.calls a0 true _ A3.out).mono ?_); rintro e w' ⟨rfl, ⟨nd, rfl⟩⟩; refine ⟨_, rfl, ?_⟩) | (go_at_call 30; (with_reducible refine (clusterlocksref03_Valid.calls a1 false _ A5.out).mono ?_); rintro e w' ⟨rfl, ⟨nd, rfl⟩⟩))
   go_ret
   exact ⟨by first | rfl | (simp; done) | (simp [*]; done), by repeat (first | exact Drawn0.refl _ | apply Drawn0.step)⟩
 ·replace c4 := Bool.eq_false_iff.mpr c4
  subst c4
  have H1 : (some false) = some r := by rw [if_neg (show ¬ (false = true) by decide)] at H; exact H
  clear H
  have H := H1
  clear H1
  obtain rfl := Option.some.inj H
  go_enter Tryd.func41, Tryd.ntmps41
  go_wp2_with (first | ((with_reducible refine gate_callee (f := 30) rfl ?_); refine goesL_ (some 6) rfl rfl Tryd.func30 (by kernel_rfl) rfl #[.int .i64 a0] rfl (by (try simp only [List.map_toArray, List.map_cons, List.map_nil]); first | done | rfl | (simp only [List.length_drop, List.length_take]; rfl)) ?_; (with_reducible refine (clusterlocksref03_Valid.calls a0 false _ A3.out).mono ?_); rintro e w' ⟨rfl, ⟨nd, rfl⟩⟩; refine ⟨_, rfl, ?_⟩))
  go_ret
  exact ⟨by first | rfl | (simp; done) | (simp [*]; done), by repeat (first | exact Drawn0.refl _ | apply Drawn0.step)⟩

/-! ### clusterlocksref04_Covers: function 27 -/
def clusterlocksref04_Covers.j0 : Nat → Bool → ByteArray → Int → Int → Int → Int → Int → Int → Int → Option (Bool)
 | 0, _, _, _, _, _, _, _, _, _ => none
 | k + 1, x16, x283000, x283001, x283002, x283003, x284000, x284001, x285000, x285001 => if x16 = true then (some false) else ((clusterlocksref04_Zero.f x285000 x285001).bind fun t287 => (if t287 = true then (some true) else ((clusterlocksref04_Zero.f x284000 x284001).bind fun t288 => (if t288 = true then (some false) else (if x283001 = 1 then ((clusterlocksref03_Covers.f x284000 x285000).bind fun t289 => (some t289)) else (some (decide (x284001 ≥ x285001))))))))
def clusterlocksref04_Covers.f (k : Nat) (a0_0 : ByteArray) (a0_1 : Int) (a0_2 : Int) (a0_3 : Int) (a1_0 : Int) (a1_1 : Int) (a2_0 : Int) (a2_1 : Int) : Option (Bool) := (clusterlocksref04_Permitted.f a0_0 a0_1 a0_2 a0_3 a1_0 a1_1).bind fun t285 => (if t285 = true then ((clusterlocksref04_Permitted.f a0_0 a0_1 a0_2 a0_3 a2_0 a2_1).bind fun t286 => (clusterlocksref04_Covers.j0 k (!t286) a0_0 a0_1 a0_2 a0_3 a1_0 a1_1 a2_0 a2_1)) else (clusterlocksref04_Covers.j0 k true a0_0 a0_1 a0_2 a0_3 a1_0 a1_1 a2_0 a2_1))
theorem clusterlocksref04_Covers.mono_l : ∀ k, (∀ y0 y1 y2 y3 y4 y5 y6 y7 y8, LeO (clusterlocksref04_Covers.j0 k y0 y1 y2 y3 y4 y5 y6 y7 y8) (clusterlocksref04_Covers.j0 (k + 1) y0 y1 y2 y3 y4 y5 y6 y7 y8))
 | 0 => fun _ _ _ _ _ _ _ _ _ r h => by simp [clusterlocksref04_Covers.j0] at h
 | k + 1 => by
  have ih0 := clusterlocksref04_Covers.mono_l k
  ·intro y0 y1 y2 y3 y4 y5 y6 y7 y8
   unfold clusterlocksref04_Covers.j0
   repeat' first
   | (with_reducible exact ih0 _ _ _ _ _ _ _ _ _)
   | (with_reducible exact LeO.refl _)
   | (with_reducible exact LeO.none _)
   | (with_reducible refine LeO.ite ?_ ?_)
   | (with_reducible refine LeO.bind ?_ (fun _ => ?_))
   | exact ih0 _ _ _ _ _ _ _ _ _
   | exact LeO.none _
   | refine LeO.ite ?_ ?_
   | refine LeO.bind ?_ (fun _ => ?_)
theorem clusterlocksref04_Covers.mono : ∀ a0 a1 a2 a3 a4 a5 a6 a7 k, LeO (clusterlocksref04_Covers.f k a0 a1 a2 a3 a4 a5 a6 a7) (clusterlocksref04_Covers.f (k + 1) a0 a1 a2 a3 a4 a5 a6 a7) := by
 intro a0 a1 a2 a3 a4 a5 a6 a7 k
 have ih0 := clusterlocksref04_Covers.mono_l k
 unfold clusterlocksref04_Covers.f
 repeat' first
   | (with_reducible exact ih0 _ _ _ _ _ _ _ _ _)
   | (with_reducible exact LeO.refl _)
   | (with_reducible exact LeO.none _)
   | (with_reducible refine LeO.ite ?_ ?_)
   | (with_reducible refine LeO.bind ?_ (fun _ => ?_))
   | exact ih0 _ _ _ _ _ _ _ _ _
   | exact LeO.none _
   | refine LeO.ite ?_ ?_
   | refine LeO.bind ?_ (fun _ => ?_)
set_option maxHeartbeats 8000000 in
set_option maxRecDepth 100000 in
theorem clusterlocksref04_Covers.calls (k : Nat) (a0_0 : ByteArray) (a0_1 : Int) (a0_2 : Int) (a0_3 : Int) (a1_0 : Int) (a1_1 : Int) (a2_0 : Int) (a2_1 : Int) (r : Bool) (w : World) (h : clusterlocksref04_Covers.f k a0_0 a0_1 a0_2 a0_3 a1_0 a1_1 a2_0 a2_1 = some r) :
  Calls Tryd.prog 27 #[.agg #[.string a0_0, .int .i64 a0_1, .int .i64 a0_2, .int .i64 a0_3], .agg #[.int .i64 a1_0, .int .i64 a1_1], .agg #[.int .i64 a2_0, .int .i64 a2_1]] w fun e w' => e = .returned (.bool r) ∧ Below w.heap.size w w' := by
 have hu23 := Tryd.underlying23
 have hu25 := Tryd.underlying25
 have HB := Aside0.mk (Below.refl w.heap.size w)
 have H : ((clusterlocksref04_Permitted.f a0_0 a0_1 a0_2 a0_3 a1_0 a1_1).bind fun t285 => (if t285 = true then ((clusterlocksref04_Permitted.f a0_0 a0_1 a0_2 a0_3 a2_0 a2_1).bind fun t286 => (clusterlocksref04_Covers.j0 k (!t286) a0_0 a0_1 a0_2 a0_3 a1_0 a1_1 a2_0 a2_1)) else (clusterlocksref04_Covers.j0 k true a0_0 a0_1 a0_2 a0_3 a1_0 a1_1 a2_0 a2_1))) = some r := h
 clear h
 have HC4 := Aside0.mk H
 clear H
 go_enter Tryd.func27, Tryd.ntmps27
 go_upto_region 1 with (first | ((with_reducible refine gate_dst (N := 3) rfl ?_); refine box_event ?hg (N := 3) ?hd (cs := #[.string a0_0, .int .i64 a0_1, .int .i64 a0_2, .int .i64 a0_3]) (t := 23) ?hr ?_; (case hd => rfl); (case hg => rfl); (case hr => first | (go_simp; done) | (go_simp; rfl)); intro gb282 hg w5 hbox hb; have n0_ := Aside0.mk (below_step (by repeat (first | (with_reducible first | exact HB.out | apply below_alloc | apply pw_below_drewN | apply below_drew1) | exact HB.out)) hb); have n1_ := Aside0.mk (hbox); have n2_ := Aside0.mk ((by rw [hg]; exact (below_size (by repeat (first | (with_reducible first | exact HB.out | apply below_alloc | apply pw_below_drewN | apply below_drew1) | exact HB.out))) : w.heap.size ≤ gb282)); have n3_ := n2_; clear HB; have HB := n0_; have BK282 := n1_; have GW282 := n2_; have GE282 := n3_; clear n0_ n1_ n2_ n3_; clear hb hbox hg) | ((with_reducible refine gate_dst (N := 4) rfl ?_); refine box_event ?hg (N := 4) ?hd (cs := #[.int .i64 a1_0, .int .i64 a1_1]) (t := 25) ?hr ?_; (case hd => rfl); (case hg => rfl); (case hr => first | (go_simp; done) | (go_simp; rfl)); intro gb283 hg w6 hbox hb; have n0_ := blkB BK282 (by (with_reducible repeat first | refine bN ?_ _ | refine bD ?_ | refine bA ?_ _); exact BK282.out) hb; have n1_ := Aside0.mk (below_step (by repeat (first | (with_reducible first | exact HB.out | apply below_alloc | apply pw_below_drewN | apply below_drew1) | exact HB.out)) hb); have n2_ := Aside0.mk (hbox); have n3_ := Aside0.mk ((by rw [hg]; exact (below_size (by repeat (first | (with_reducible first | exact HB.out | apply below_alloc | apply pw_below_drewN | apply below_drew1) | exact HB.out))) : w.heap.size ≤ gb283)); have n4_ := n3_; have n5_ := Aside0.mk ((by rw [hg]; exact Nat.ne_of_lt (blkLt BK282 (by (with_reducible repeat first | refine bN ?_ _ | refine bD ?_ | refine bA ?_ _); exact BK282.out)) : gb282 ≠ gb283)); have n6_ := Aside0.mk n5_.out.symm; clear BK282 HB; have BK282 := n0_; have HB := n1_; have BK283 := n2_; have GW283 := n3_; have GE283 := n4_; have NB282_283 := n5_; have NB283_282 := n6_; clear n0_ n1_ n2_ n3_ n4_ n5_ n6_; clear hb hbox hg) | ((with_reducible refine gate_dst (N := 5) rfl ?_); refine box_event ?hg (N := 5) ?hd (cs := #[.int .i64 a2_0, .int .i64 a2_1]) (t := 25) ?hr ?_; (case hd => rfl); (case hg => rfl); (case hr => first | (go_simp; done) | (go_simp; rfl)); intro gb284 hg w7 hbox hb; have n0_ := blkB BK282 (by (with_reducible repeat first | refine bN ?_ _ | refine bD ?_ | refine bA ?_ _); exact BK282.out) hb; have n1_ := blkB BK283 (by (with_reducible repeat first | refine bN ?_ _ | refine bD ?_ | refine bA ?_ _); exact BK283.out) hb; have n2_ := Aside0.mk (below_step (by repeat (first | (with_reducible first | exact HB.out | apply below_alloc | apply pw_below_drewN | apply below_drew1) | exact HB.out)) hb); have n3_ := Aside0.mk (hbox); have n4_ := Aside0.mk ((by rw [hg]; exact (below_size (by repeat (first | (with_reducible first | exact HB.out | apply below_alloc | apply pw_below_drewN | apply below_drew1) | exact HB.out))) : w.heap.size ≤ gb284)); have n5_ := n4_; have n6_ := Aside0.mk ((by rw [hg]; exact Nat.ne_of_lt (blkLt BK282 (by (with_reducible repeat first | refine bN ?_ _ | refine bD ?_ | refine bA ?_ _); exact BK282.out)) : gb282 ≠ gb284)); have n7_ := Aside0.mk n6_.out.symm; have n8_ := Aside0.mk ((by rw [hg]; exact Nat.ne_of_lt (blkLt BK283 (by (with_reducible repeat first | refine bN ?_ _ | refine bD ?_ | refine bA ?_ _); exact BK283.out)) : gb283 ≠ gb284)); have n9_ := Aside0.mk n8_.out.symm; clear BK282 BK283 HB; have BK282 := n0_; have BK283 := n1_; have HB := n2_; have BK284 := n3_; have GW284 := n4_; have GE284 := n5_; have NB282_284 := n6_; have NB284_282 := n7_; have NB283_284 := n8_; have NB284_283 := n9_; clear n0_ n1_ n2_ n3_ n4_ n5_ n6_ n7_ n8_ n9_; clear hb hbox hg))
 (try simp only [Act.put, List.setIfInBounds_toArray, List.set_cons_zero, List.set_cons_succ])
 go_cut [16] (fun v16 wc => ∃ (kq : Nat) (x16_3 : Bool), v16 = .bool x16_3 ∧ Aside0 (clusterlocksref04_Covers.j0 kq x16_3 a0_0 a0_1 a0_2 a0_3 a1_0 a1_1 a2_0 a2_1 = some r) ∧ Aside0 (kq ≤ k) ∧ Aside0 (wc.heap[gb282]? = some (.cells #[.string a0_0, .int .i64 a0_1, .int .i64 a0_2, .int .i64 a0_3] 23 (0, 0))) ∧ Aside0 (wc.heap[gb283]? = some (.cells #[.int .i64 a1_0, .int .i64 a1_1] 25 (0, 0))) ∧ Aside0 (wc.heap[gb284]? = some (.cells #[.int .i64 a2_0, .int .i64 a2_1] 25 (0, 0))) ∧ Aside0 (Below w.heap.size w wc))
 case first =>
  have H := HC4.out
  clear HC4
  replace H := Option.bind_eq_some_iff.mp H
  obtain ⟨t285, A80, H⟩ := H
  replace H : (if t285 = true then ((clusterlocksref04_Permitted.f a0_0 a0_1 a0_2 a0_3 a2_0 a2_1).bind fun t286 => (clusterlocksref04_Covers.j0 k (!t286) a0_0 a0_1 a0_2 a0_3 a1_0 a1_1 a2_0 a2_1)) else (clusterlocksref04_Covers.j0 k true a0_0 a0_1 a0_2 a0_3 a1_0 a1_1 a2_0 a2_1)) = some r := H
  have A8 := Aside0.mk A80
  clear A80
  by_cases c9 : t285 = true
  ·subst c9
   have H1 : ((clusterlocksref04_Permitted.f a0_0 a0_1 a0_2 a0_3 a2_0 a2_1).bind fun t286 => (clusterlocksref04_Covers.j0 k (!t286) a0_0 a0_1 a0_2 a0_3 a1_0 a1_1 a2_0 a2_1)) = some r := by rw [if_pos rfl] at H; exact H
   clear H
   have H := H1
   clear H1
   replace H := Option.bind_eq_some_iff.mp H
   obtain ⟨t286, A100, H⟩ := H
   replace H : (clusterlocksref04_Covers.j0 k (!t286) a0_0 a0_1 a0_2 a0_3 a1_0 a1_1 a2_0 a2_1) = some r := H
   have A10 := Aside0.mk A100
   clear A100
   have H' := Aside0.mk H
   clear H
   have hnb11 := NB282_283.out
   have hnc11 := NB283_282.out
   have hnb12 := NB282_284.out
   have hnc12 := NB284_282.out
   have hcz13_0 : w7.cell? ⟨gb282, 0, none⟩ = some (.string a0_0) := (blk_cell BK282.out 0).trans rfl
   have hcz13_1 : w7.cell? ⟨gb282, 1, none⟩ = some (.int .i64 a0_1) := (blk_cell BK282.out 1).trans rfl
   have hcz13_2 : w7.cell? ⟨gb282, 2, none⟩ = some (.int .i64 a0_2) := (blk_cell BK282.out 2).trans rfl
   have hcz13_3 : w7.cell? ⟨gb282, 3, none⟩ = some (.int .i64 a0_3) := (blk_cell BK282.out 3).trans rfl
   have hfz13_0 := blk_frozen BK282.out 0
   have hfz13_1 := blk_frozen BK282.out 1
   have hfz13_2 := blk_frozen BK282.out 2
   have hfz13_3 := blk_frozen BK282.out 3
   have hnb14 := NB283_284.out
   have hnc14 := NB284_283.out
   have hcz15_0 : w7.cell? ⟨gb283, 0, none⟩ = some (.int .i64 a1_0) := (blk_cell BK283.out 0).trans rfl
   have hcz15_1 : w7.cell? ⟨gb283, 1, none⟩ = some (.int .i64 a1_1) := (blk_cell BK283.out 1).trans rfl
   have hfz15_0 := blk_frozen BK283.out 0
   have hfz15_1 := blk_frozen BK283.out 1
   go_wp2_with (first | ((with_reducible refine gate_callee (f := 21) rfl ?_); refine goesL_ (some 9) rfl rfl Tryd.func21 (by kernel_rfl) rfl #[.agg #[.string a0_0, .int .i64 a0_1, .int .i64 a0_2, .int .i64 a0_3], .agg #[.int .i64 a1_0, .int .i64 a1_1]] rfl (by (try simp only [List.map_toArray, List.map_cons, List.map_nil]); first | done | rfl | (simp only [List.length_drop, List.length_take]; rfl)) ?_; (with_reducible refine (clusterlocksref04_Permitted.calls a0_0 a0_1 a0_2 a0_3 a1_0 a1_1 true _ A8.out).mono ?_); rintro e w16 ⟨rfl, hb⟩; refine ⟨_, rfl, ?_⟩; have n0_ := blkB BK282 (by (with_reducible repeat first | refine bN ?_ _ | refine bD ?_ | refine bA ?_ _); exact BK282.out) hb; have n1_ := blkB BK283 (by (with_reducible repeat first | refine bN ?_ _ | refine bD ?_ | refine bA ?_ _); exact BK283.out) hb; have n2_ := blkB BK284 (by (with_reducible repeat first | refine bN ?_ _ | refine bD ?_ | refine bA ?_ _); exact BK284.out) hb; have n3_ := Aside0.mk (below_step (by repeat (first | (with_reducible first | exact HB.out | apply below_alloc | apply pw_below_drewN | apply below_drew1) | exact HB.out)) hb); clear BK282 BK283 BK284 HB; have BK282 := n0_; have BK283 := n1_; have BK284 := n2_; have HB := n3_; clear n0_ n1_ n2_ n3_; (try clear hb); have hcz17_0 : w16.cell? ⟨gb282, 0, none⟩ = some (.string a0_0) := (blk_cell BK282.out 0).trans rfl; have hcz17_1 : w16.cell? ⟨gb282, 1, none⟩ = some (.int .i64 a0_1) := (blk_cell BK282.out 1).trans rfl; have hcz17_2 : w16.cell? ⟨gb282, 2, none⟩ = some (.int .i64 a0_2) := (blk_cell BK282.out 2).trans rfl; have hcz17_3 : w16.cell? ⟨gb282, 3, none⟩ = some (.int .i64 a0_3) := (blk_cell BK282.out 3).trans rfl; have hfz17_0 := blk_frozen BK282.out 0; have hfz17_1 := blk_frozen BK282.out 1; have hfz17_2 := blk_frozen BK282.out 2; have hfz17_3 := blk_frozen BK282.out 3; have hcz18_0 : w16.cell? ⟨gb284, 0, none⟩ = some (.int .i64 a2_0) := (blk_cell BK284.out 0).trans rfl; have hcz18_1 : w16.cell? ⟨gb284, 1, none⟩ = some (.int .i64 a2_1) := (blk_cell BK284.out 1).trans rfl; have hfz18_0 := blk_frozen BK284.out 0; have hfz18_1 := blk_frozen BK284.out 1) | (go_at_call 21; (with_reducible refine (clusterlocksref04_Permitted.calls a0_0 a0_1 a0_2 a0_3 a2_0 a2_1 t286 _ A10.out).mono ?_); rintro e w19 ⟨rfl, hb⟩; have n0_ := blkB BK282 (by (with_reducible repeat first | refine bN ?_ _ | refine bD ?_ | refine bA ?_ _); exact BK282.out) hb; have n1_ := blkB BK283 (by (with_reducible repeat first | refine bN ?_ _ | refine bD ?_ | refine bA ?_ _); exact BK283.out) hb; have n2_ := blkB BK284 (by (with_reducible repeat first | refine bN ?_ _ | refine bD ?_ | refine bA ?_ _); exact BK284.out) hb; have n3_ := Aside0.mk (below_step (by repeat (first | (with_reducible first | exact HB.out | apply below_alloc | apply pw_below_drewN | apply below_drew1) | exact HB.out)) hb); clear BK282 BK283 BK284 HB; have BK282 := n0_; have BK283 := n1_; have BK284 := n2_; have HB := n3_; clear n0_ n1_ n2_ n3_; (try clear hb)))
   go_meet
   case rel => exact ⟨_, (!t286), (by first | rfl | (simp; done) | (simp [*]; done)), H', ⟨by first | omega | exact Nat.le_refl _⟩, ⟨by (with_reducible repeat first | refine bN ?_ _ | refine bD ?_ | refine bA ?_ _); exact BK282.out⟩, ⟨by (with_reducible repeat first | refine bN ?_ _ | refine bD ?_ | refine bA ?_ _); exact BK283.out⟩, ⟨by (with_reducible repeat first | refine bN ?_ _ | refine bD ?_ | refine bA ?_ _); exact BK284.out⟩, ⟨by repeat (first | (with_reducible first | exact HB.out | apply below_alloc | apply pw_below_drewN | apply below_drew1) | exact HB.out)⟩⟩
  ·replace c9 := Bool.eq_false_iff.mpr c9
   subst c9
   have H1 : (clusterlocksref04_Covers.j0 k true a0_0 a0_1 a0_2 a0_3 a1_0 a1_1 a2_0 a2_1) = some r := by rw [if_neg (show ¬ (false = true) by decide)] at H; exact H
   clear H
   have H := H1
   clear H1
   have H' := Aside0.mk H
   clear H
   have hnb20 := NB282_283.out
   have hnc20 := NB283_282.out
   have hnb21 := NB282_284.out
   have hnc21 := NB284_282.out
   have hcz22_0 : w7.cell? ⟨gb282, 0, none⟩ = some (.string a0_0) := (blk_cell BK282.out 0).trans rfl
   have hcz22_1 : w7.cell? ⟨gb282, 1, none⟩ = some (.int .i64 a0_1) := (blk_cell BK282.out 1).trans rfl
   have hcz22_2 : w7.cell? ⟨gb282, 2, none⟩ = some (.int .i64 a0_2) := (blk_cell BK282.out 2).trans rfl
   have hcz22_3 : w7.cell? ⟨gb282, 3, none⟩ = some (.int .i64 a0_3) := (blk_cell BK282.out 3).trans rfl
   have hfz22_0 := blk_frozen BK282.out 0
   have hfz22_1 := blk_frozen BK282.out 1
   have hfz22_2 := blk_frozen BK282.out 2
   have hfz22_3 := blk_frozen BK282.out 3
   have hnb23 := NB283_284.out
   have hnc23 := NB284_283.out
   have hcz24_0 : w7.cell? ⟨gb283, 0, none⟩ = some (.int .i64 a1_0) := (blk_cell BK283.out 0).trans rfl
   have hcz24_1 : w7.cell? ⟨gb283, 1, none⟩ = some (.int .i64 a1_1) := (blk_cell BK283.out 1).trans rfl
   have hfz24_0 := blk_frozen BK283.out 0
   have hfz24_1 := blk_frozen BK283.out 1
   go_wp2_with (first | ((with_reducible refine gate_callee (f := 21) rfl ?_); refine goesL_ (some 9) rfl rfl Tryd.func21 (by kernel_rfl) rfl #[.agg #[.string a0_0, .int .i64 a0_1, .int .i64 a0_2, .int .i64 a0_3], .agg #[.int .i64 a1_0, .int .i64 a1_1]] rfl (by (try simp only [List.map_toArray, List.map_cons, List.map_nil]); first | done | rfl | (simp only [List.length_drop, List.length_take]; rfl)) ?_; (with_reducible refine (clusterlocksref04_Permitted.calls a0_0 a0_1 a0_2 a0_3 a1_0 a1_1 false _ A8.out).mono ?_); rintro e w25 ⟨rfl, hb⟩; refine ⟨_, rfl, ?_⟩; have n0_ := blkB BK282 (by (with_reducible repeat first | refine bN ?_ _ | refine bD ?_ | refine bA ?_ _); exact BK282.out) hb; have n1_ := blkB BK283 (by (with_reducible repeat first | refine bN ?_ _ | refine bD ?_ | refine bA ?_ _); exact BK283.out) hb; have n2_ := blkB BK284 (by (with_reducible repeat first | refine bN ?_ _ | refine bD ?_ | refine bA ?_ _); exact BK284.out) hb; have n3_ := Aside0.mk (below_step (by repeat (first | (with_reducible first | exact HB.out | apply below_alloc | apply pw_below_drewN | apply below_drew1) | exact HB.out)) hb); clear BK282 BK283 BK284 HB; have BK282 := n0_; have BK283 := n1_; have BK284 := n2_; have HB := n3_; clear n0_ n1_ n2_ n3_; (try clear hb)))
   go_meet
   case rel => exact ⟨_, (true), (by first | rfl | (simp; done) | (simp [*]; done)), H', ⟨by first | omega | exact Nat.le_refl _⟩, ⟨by (with_reducible repeat first | refine bN ?_ _ | refine bD ?_ | refine bA ?_ _); exact BK282.out⟩, ⟨by (with_reducible repeat first | refine bN ?_ _ | refine bD ?_ | refine bA ?_ _); exact BK283.out⟩, ⟨by (with_reducible repeat first | refine bN ?_ _ | refine bD ?_ | refine bA ?_ _); exact BK284.out⟩, ⟨by repeat (first | (with_reducible first | exact HB.out | apply below_alloc | apply pw_below_drewN | apply below_drew1) | exact HB.out)⟩⟩
 case rest =>
  clear HC4
  try clear c1
  try clear c2
  try clear p2
  try clear c9
  try clear c11
  try clear c12
  try clear c14
  try clear c20
  try clear c21
  try clear c23
  try clear hcz13_0
  try clear hcz13_1
  try clear hcz13_2
  try clear hcz13_3
  try clear hcz15_0
  try clear hcz15_1
  try clear hcz17_0
  try clear hcz17_1
  try clear hcz17_2
  try clear hcz17_3
  try clear hcz18_0
  try clear hcz18_1
  try clear hcz22_0
  try clear hcz22_1
  try clear hcz22_2
  try clear hcz22_3
  try clear hcz24_0
  try clear hcz24_1
  try clear hfz13_0
  try clear hfz13_1
  try clear hfz13_2
  try clear hfz13_3
  try clear hfz15_0
  try clear hfz15_1
  try clear hfz17_0
  try clear hfz17_1
  try clear hfz17_2
  try clear hfz17_3
  try clear hfz18_0
  try clear hfz18_1
  try clear hfz22_0
  try clear hfz22_1
  try clear hfz22_2
  try clear hfz22_3
  try clear hfz24_0
  try clear hfz24_1
  obtain ⟨kq, x16_3, rfl, HA, HJ3, BK282, BK283, BK284, HB⟩ := hcut
  cases kq with
  | zero => exact absurd HA.out (by simp [clusterlocksref04_Covers.j0])
  | succ kj3 =>
   have H := HA.out
   clear HA
   simp only [clusterlocksref04_Covers.j0] at H
   by_cases c26 : x16_3 = true
   ·subst c26
    have H1 : (some false) = some r := by rw [if_pos rfl] at H; exact H
    clear H
    have H := H1
    clear H1
    obtain rfl := Option.some.inj H
    go_wp2
    go_ret
    exact ⟨by first | rfl | (simp [errW_none, errW_some] <;> rfl) | (simp [*, errW_none, errW_some] <;> rfl), by repeat (first | (with_reducible first | exact HB.out | apply below_alloc | apply pw_below_drewN | apply below_drew1) | exact HB.out)⟩
   ·replace c26 := Bool.eq_false_iff.mpr c26
    subst c26
    have H1 : ((clusterlocksref04_Zero.f a2_0 a2_1).bind fun t287 => (if t287 = true then (some true) else ((clusterlocksref04_Zero.f a1_0 a1_1).bind fun t288 => (if t288 = true then (some false) else (if a0_1 = 1 then ((clusterlocksref03_Covers.f a1_0 a2_0).bind fun t289 => (some t289)) else (some (decide (a1_1 ≥ a2_1)))))))) = some r := by rw [if_neg (show ¬ (false = true) by decide)] at H; exact H
    clear H
    have H := H1
    clear H1
    replace H := Option.bind_eq_some_iff.mp H
    obtain ⟨t287, A270, H⟩ := H
    replace H : (if t287 = true then (some true) else ((clusterlocksref04_Zero.f a1_0 a1_1).bind fun t288 => (if t288 = true then (some false) else (if a0_1 = 1 then ((clusterlocksref03_Covers.f a1_0 a2_0).bind fun t289 => (some t289)) else (some (decide (a1_1 ≥ a2_1))))))) = some r := H
    have A27 := Aside0.mk A270
    clear A270
    by_cases c28 : t287 = true
    ·subst c28
     have H1 : (some true) = some r := by rw [if_pos rfl] at H; exact H
     clear H
     have H := H1
     clear H1
     obtain rfl := Option.some.inj H
     have hnb29 := NB284_282.out
     have hnc29 := NB282_284.out
     have hnb30 := NB284_283.out
     have hnc30 := NB283_284.out
     have hcz31_0 : wc.cell? ⟨gb284, 0, none⟩ = some (.int .i64 a2_0) := (blk_cell BK284.out 0).trans rfl
     have hcz31_1 : wc.cell? ⟨gb284, 1, none⟩ = some (.int .i64 a2_1) := (blk_cell BK284.out 1).trans rfl
     have hfz31_0 := blk_frozen BK284.out 0
     have hfz31_1 := blk_frozen BK284.out 1
     go_wp2_with (first | ((with_reducible refine gate_callee (f := 35) rfl ?_); refine goesL_ (some 18) rfl rfl Tryd.func35 (by kernel_rfl) rfl #[.agg #[.int .i64 a2_0, .int .i64 a2_1]] rfl (by (try simp only [List.map_toArray, List.map_cons, List.map_nil]); first | done | rfl | (simp only [List.length_drop, List.length_take]; rfl)) ?_; (with_reducible refine (clusterlocksref04_Zero.calls a2_0 a2_1 true _ A27.out).mono ?_); rintro e w32 ⟨rfl, hb⟩; refine ⟨_, rfl, ?_⟩; have n0_ := blkB BK282 (by (with_reducible repeat first | refine bN ?_ _ | refine bD ?_ | refine bA ?_ _); exact BK282.out) hb; have n1_ := blkB BK283 (by (with_reducible repeat first | refine bN ?_ _ | refine bD ?_ | refine bA ?_ _); exact BK283.out) hb; have n2_ := blkB BK284 (by (with_reducible repeat first | refine bN ?_ _ | refine bD ?_ | refine bA ?_ _); exact BK284.out) hb; have n3_ := Aside0.mk (below_step (by repeat (first | (with_reducible first | exact HB.out | apply below_alloc | apply pw_below_drewN | apply below_drew1) | exact HB.out)) hb); clear BK282 BK283 BK284 HB; have BK282 := n0_; have BK283 := n1_; have BK284 := n2_; have HB := n3_; clear n0_ n1_ n2_ n3_; (try clear hb)))
     go_ret
     exact ⟨by first | rfl | (simp [errW_none, errW_some] <;> rfl) | (simp [*, errW_none, errW_some] <;> rfl), by repeat (first | (with_reducible first | exact HB.out | apply below_alloc | apply pw_below_drewN | apply below_drew1) | exact HB.out)⟩
    ·replace c28 := Bool.eq_false_iff.mpr c28
     subst c28
     have H1 : ((clusterlocksref04_Zero.f a1_0 a1_1).bind fun t288 => (if t288 = true then (some false) else (if a0_1 = 1 then ((clusterlocksref03_Covers.f a1_0 a2_0).bind fun t289 => (some t289)) else (some (decide (a1_1 ≥ a2_1)))))) = some r := by rw [if_neg (show ¬ (false = true) by decide)] at H; exact H
     clear H
     have H := H1
     clear H1
     replace H := Option.bind_eq_some_iff.mp H
     obtain ⟨t288, A330, H⟩ := H
     replace H : (if t288 = true then (some false) else (if a0_1 = 1 then ((clusterlocksref03_Covers.f a1_0 a2_0).bind fun t289 => (some t289)) else (some (decide (a1_1 ≥ a2_1))))) = some r := H
     have A33 := Aside0.mk A330
     clear A330
     by_cases c34 : t288 = true
     ·subst c34
      have H1 : (some false) = some r := by rw [if_pos rfl] at H; exact H
      clear H
      have H := H1
      clear H1
      obtain rfl := Option.some.inj H
      have hnb35 := NB284_282.out
      have hnc35 := NB282_284.out
      have hnb36 := NB284_283.out
      have hnc36 := NB283_284.out
      have hcz37_0 : wc.cell? ⟨gb284, 0, none⟩ = some (.int .i64 a2_0) := (blk_cell BK284.out 0).trans rfl
      have hcz37_1 : wc.cell? ⟨gb284, 1, none⟩ = some (.int .i64 a2_1) := (blk_cell BK284.out 1).trans rfl
      have hfz37_0 := blk_frozen BK284.out 0
      have hfz37_1 := blk_frozen BK284.out 1
      go_wp2_with (first | ((with_reducible refine gate_callee (f := 35) rfl ?_); refine goesL_ (some 18) rfl rfl Tryd.func35 (by kernel_rfl) rfl #[.agg #[.int .i64 a2_0, .int .i64 a2_1]] rfl (by (try simp only [List.map_toArray, List.map_cons, List.map_nil]); first | done | rfl | (simp only [List.length_drop, List.length_take]; rfl)) ?_; (with_reducible refine (clusterlocksref04_Zero.calls a2_0 a2_1 false _ A27.out).mono ?_); rintro e w38 ⟨rfl, hb⟩; refine ⟨_, rfl, ?_⟩; have n0_ := blkB BK282 (by (with_reducible repeat first | refine bN ?_ _ | refine bD ?_ | refine bA ?_ _); exact BK282.out) hb; have n1_ := blkB BK283 (by (with_reducible repeat first | refine bN ?_ _ | refine bD ?_ | refine bA ?_ _); exact BK283.out) hb; have n2_ := blkB BK284 (by (with_reducible repeat first | refine bN ?_ _ | refine bD ?_ | refine bA ?_ _); exact BK284.out) hb; have n3_ := Aside0.mk (below_step (by repeat (first | (with_reducible first | exact HB.out | apply below_alloc | apply pw_below_drewN | apply below_drew1) | exact HB.out)) hb); clear BK282 BK283 BK284 HB; have BK282 := n0_; have BK283 := n1_; have BK284 := n2_; have HB := n3_; clear n0_ n1_ n2_ n3_; (try clear hb); have hnb39 := NB283_282.out; have hnc39 := NB282_283.out; have hcz40_0 : w38.cell? ⟨gb283, 0, none⟩ = some (.int .i64 a1_0) := (blk_cell BK283.out 0).trans rfl; have hcz40_1 : w38.cell? ⟨gb283, 1, none⟩ = some (.int .i64 a1_1) := (blk_cell BK283.out 1).trans rfl; have hfz40_0 := blk_frozen BK283.out 0; have hfz40_1 := blk_frozen BK283.out 1) | ((with_reducible refine gate_callee (f := 35) rfl ?_); refine goesL_ (some 20) rfl rfl Tryd.func35 (by kernel_rfl) rfl #[.agg #[.int .i64 a1_0, .int .i64 a1_1]] rfl (by (try simp only [List.map_toArray, List.map_cons, List.map_nil]); first | done | rfl | (simp only [List.length_drop, List.length_take]; rfl)) ?_; (with_reducible refine (clusterlocksref04_Zero.calls a1_0 a1_1 true _ A33.out).mono ?_); rintro e w41 ⟨rfl, hb⟩; refine ⟨_, rfl, ?_⟩; have n0_ := blkB BK282 (by (with_reducible repeat first | refine bN ?_ _ | refine bD ?_ | refine bA ?_ _); exact BK282.out) hb; have n1_ := blkB BK283 (by (with_reducible repeat first | refine bN ?_ _ | refine bD ?_ | refine bA ?_ _); exact BK283.out) hb; have n2_ := blkB BK284 (by (with_reducible repeat first | refine bN ?_ _ | refine bD ?_ | refine bA ?_ _); exact BK284.out) hb; have n3_ := Aside0.mk (below_step (by repeat (first | (with_reducible first | exact HB.out | apply below_alloc | apply pw_below_drewN | apply below_drew1) | exact HB.out)) hb); clear BK282 BK283 BK284 HB; have BK282 := n0_; have BK283 := n1_; have BK284 := n2_; have HB := n3_; clear n0_ n1_ n2_ n3_; (try clear hb)))
      go_ret
      exact ⟨by first | rfl | (simp [errW_none, errW_some] <;> rfl) | (simp [*, errW_none, errW_some] <;> rfl), by repeat (first | (with_reducible first | exact HB.out | apply below_alloc | apply pw_below_drewN | apply below_drew1) | exact HB.out)⟩
     ·replace c34 := Bool.eq_false_iff.mpr c34
      subst c34
      have H1 : (if a0_1 = 1 then ((clusterlocksref03_Covers.f a1_0 a2_0).bind fun t289 => (some t289)) else (some (decide (a1_1 ≥ a2_1)))) = some r := by rw [if_neg (show ¬ (false = true) by decide)] at H; exact H
      clear H
      have H := H1
      clear H1
      by_cases c42 : a0_1 = 1
      ·rw [if_pos c42] at H
       have c42b0 : (a0_1 == 1) = true := beq_iff_eq.mpr c42
       have c42b1 : (a0_1 != 1) = false := bne_eq_false_iff_eq.mpr c42
       clear c42
       replace H := Option.bind_eq_some_iff.mp H
       obtain ⟨t289, A430, H⟩ := H
       replace H : (some t289) = some r := H
       have A43 := Aside0.mk A430
       clear A430
       obtain rfl := Option.some.inj H
       have hnb44 := NB284_282.out
       have hnc44 := NB282_284.out
       have hnb45 := NB284_283.out
       have hnc45 := NB283_284.out
       have hcz46_0 : wc.cell? ⟨gb284, 0, none⟩ = some (.int .i64 a2_0) := (blk_cell BK284.out 0).trans rfl
       have hcz46_1 : wc.cell? ⟨gb284, 1, none⟩ = some (.int .i64 a2_1) := (blk_cell BK284.out 1).trans rfl
       have hfz46_0 := blk_frozen BK284.out 0
       have hfz46_1 := blk_frozen BK284.out 1
       go_wp2_with (first | ((with_reducible refine gate_callee (f := 35) rfl ?_); refine goesL_ (some 18) rfl rfl Tryd.func35 (by kernel_rfl) rfl #[.agg #[.int .i64 a2_0, .int .i64 a2_1]] rfl (by (try simp only [List.map_toArray, List.map_cons, List.map_nil]); first | done | rfl | (simp only [List.length_drop, List.length_take]; rfl)) ?_; (with_reducible refine (clusterlocksref04_Zero.calls a2_0 a2_1 false _ A27.out).mono ?_); rintro e w47 ⟨rfl, hb⟩; refine ⟨_, rfl, ?_⟩; have n0_ := blkB BK282 (by (with_reducible repeat first | refine bN ?_ _ | refine bD ?_ | refine bA ?_ _); exact BK282.out) hb; have n1_ := blkB BK283 (by (with_reducible repeat first | refine bN ?_ _ | refine bD ?_ | refine bA ?_ _); exact BK283.out) hb; have n2_ := blkB BK284 (by (with_reducible repeat first | refine bN ?_ _ | refine bD ?_ | refine bA ?_ _); exact BK284.out) hb; have n3_ := Aside0.mk (below_step (by repeat (first | (with_reducible first | exact HB.out | apply below_alloc | apply pw_below_drewN | apply below_drew1) | exact HB.out)) hb); clear BK282 BK283 BK284 HB; have BK282 := n0_; have BK283 := n1_; have BK284 := n2_; have HB := n3_; clear n0_ n1_ n2_ n3_; (try clear hb); have hnb48 := NB283_282.out; have hnc48 := NB282_283.out; have hcz49_0 : w47.cell? ⟨gb283, 0, none⟩ = some (.int .i64 a1_0) := (blk_cell BK283.out 0).trans rfl; have hcz49_1 : w47.cell? ⟨gb283, 1, none⟩ = some (.int .i64 a1_1) := (blk_cell BK283.out 1).trans rfl; have hfz49_0 := blk_frozen BK283.out 0; have hfz49_1 := blk_frozen BK283.out 1) | ((with_reducible refine gate_callee (f := 35) rfl ?_); refine goesL_ (some 20) rfl rfl Tryd.func35 (by kernel_rfl) rfl #[.agg #[.int .i64 a1_0, .int .i64 a1_1]] rfl (by (try simp only [List.map_toArray, List.map_cons, List.map_nil]); first | done | rfl | (simp only [List.length_drop, List.length_take]; rfl)) ?_; (with_reducible refine (clusterlocksref04_Zero.calls a1_0 a1_1 false _ A33.out).mono ?_); rintro e w50 ⟨rfl, hb⟩; refine ⟨_, rfl, ?_⟩; have n0_ := blkB BK282 (by (with_reducible repeat first | refine bN ?_ _ | refine bD ?_ | refine bA ?_ _); exact BK282.out) hb; have n1_ := blkB BK283 (by (with_reducible repeat first | refine bN ?_ _ | refine bD ?_ | refine bA ?_ _); exact BK283.out) hb; have n2_ := blkB BK284 (by (with_reducible repeat first | refine bN ?_ _ | refine bD ?_ | refine bA ?_ _); exact BK284.out) hb; have n3_ := Aside0.mk (below_step (by repeat (first | (with_reducible first | exact HB.out | apply below_alloc | apply pw_below_drewN | apply below_drew1) | exact HB.out)) hb); clear BK282 BK283 BK284 HB; have BK282 := n0_; have BK283 := n1_; have BK284 := n2_; have HB := n3_; clear n0_ n1_ n2_ n3_; (try clear hb); have hcz51_0 : w50.cell? ⟨gb282, 0, none⟩ = some (.string a0_0) := (blk_cell BK282.out 0).trans rfl; have hcz51_1 : w50.cell? ⟨gb282, 1, none⟩ = some (.int .i64 a0_1) := (blk_cell BK282.out 1).trans rfl; have hcz51_2 : w50.cell? ⟨gb282, 2, none⟩ = some (.int .i64 a0_2) := (blk_cell BK282.out 2).trans rfl; have hcz51_3 : w50.cell? ⟨gb282, 3, none⟩ = some (.int .i64 a0_3) := (blk_cell BK282.out 3).trans rfl; have hfz51_0 := blk_frozen BK282.out 0; have hfz51_1 := blk_frozen BK282.out 1; have hfz51_2 := blk_frozen BK282.out 2; have hfz51_3 := blk_frozen BK282.out 3; have hcz52_0 : w50.cell? ⟨gb283, 0, none⟩ = some (.int .i64 a1_0) := (blk_cell BK283.out 0).trans rfl; have hcz52_1 : w50.cell? ⟨gb283, 1, none⟩ = some (.int .i64 a1_1) := (blk_cell BK283.out 1).trans rfl; have hfz52_0 := blk_frozen BK283.out 0; have hfz52_1 := blk_frozen BK283.out 1; have hcz53_0 : w50.cell? ⟨gb284, 0, none⟩ = some (.int .i64 a2_0) := (blk_cell BK284.out 0).trans rfl; have hcz53_1 : w50.cell? ⟨gb284, 1, none⟩ = some (.int .i64 a2_1) := (blk_cell BK284.out 1).trans rfl; have hfz53_0 := blk_frozen BK284.out 0; have hfz53_1 := blk_frozen BK284.out 1) | ((with_reducible refine gate_callee (f := 41) rfl ?_); refine goesL_ (some 28) rfl rfl Tryd.func41 (by kernel_rfl) rfl #[.int .i64 a1_0, .int .i64 a2_0] rfl (by (try simp only [List.map_toArray, List.map_cons, List.map_nil]); first | done | rfl | (simp only [List.length_drop, List.length_take]; rfl)) ?_; (with_reducible refine (clusterlocksref03_Covers.calls a1_0 a2_0 t289 _ A43.out).mono ?_); rintro e w' ⟨rfl, ⟨nd, rfl⟩⟩; refine ⟨_, rfl, ?_⟩))
       go_ret
       exact ⟨by first | rfl | (simp [errW_none, errW_some] <;> rfl) | (simp [*, errW_none, errW_some] <;> rfl), by repeat (first | (with_reducible first | exact HB.out | apply below_alloc | apply pw_below_drewN | apply below_drew1) | exact HB.out)⟩
      ·rw [if_neg c42] at H
       have c42b0 : (a0_1 == 1) = false := beq_eq_false_iff_ne.mpr c42
       have c42b1 : (a0_1 != 1) = true := bne_iff_ne.mpr c42
       obtain rfl := Option.some.inj H
       have hnb54 := NB284_282.out
       have hnc54 := NB282_284.out
       have hnb55 := NB284_283.out
       have hnc55 := NB283_284.out
       have hcz56_0 : wc.cell? ⟨gb284, 0, none⟩ = some (.int .i64 a2_0) := (blk_cell BK284.out 0).trans rfl
       have hcz56_1 : wc.cell? ⟨gb284, 1, none⟩ = some (.int .i64 a2_1) := (blk_cell BK284.out 1).trans rfl
       have hfz56_0 := blk_frozen BK284.out 0
       have hfz56_1 := blk_frozen BK284.out 1
       go_wp2_with (first | ((with_reducible refine gate_callee (f := 35) rfl ?_); refine goesL_ (some 18) rfl rfl Tryd.func35 (by kernel_rfl) rfl #[.agg #[.int .i64 a2_0, .int .i64 a2_1]] rfl (by (try simp only [List.map_toArray, List.map_cons, List.map_nil]); first | done | rfl | (simp only [List.length_drop, List.length_take]; rfl)) ?_; (with_reducible refine (clusterlocksref04_Zero.calls a2_0 a2_1 false _ A27.out).mono ?_); rintro e w57 ⟨rfl, hb⟩; refine ⟨_, rfl, ?_⟩; have n0_ := blkB BK282 (by (with_reducible repeat first | refine bN ?_ _ | refine bD ?_ | refine bA ?_ _); exact BK282.out) hb; have n1_ := blkB BK283 (by (with_reducible repeat first | refine bN ?_ _ | refine bD ?_ | refine bA ?_ _); exact BK283.out) hb; have n2_ := blkB BK284 (by (with_reducible repeat first | refine bN ?_ _ | refine bD ?_ | refine bA ?_ _); exact BK284.out) hb; have n3_ := Aside0.mk (below_step (by repeat (first | (with_reducible first | exact HB.out | apply below_alloc | apply pw_below_drewN | apply below_drew1) | exact HB.out)) hb); clear BK282 BK283 BK284 HB; have BK282 := n0_; have BK283 := n1_; have BK284 := n2_; have HB := n3_; clear n0_ n1_ n2_ n3_; (try clear hb); have hnb58 := NB283_282.out; have hnc58 := NB282_283.out; have hcz59_0 : w57.cell? ⟨gb283, 0, none⟩ = some (.int .i64 a1_0) := (blk_cell BK283.out 0).trans rfl; have hcz59_1 : w57.cell? ⟨gb283, 1, none⟩ = some (.int .i64 a1_1) := (blk_cell BK283.out 1).trans rfl; have hfz59_0 := blk_frozen BK283.out 0; have hfz59_1 := blk_frozen BK283.out 1) | ((with_reducible refine gate_callee (f := 35) rfl ?_); refine goesL_ (some 20) rfl rfl Tryd.func35 (by kernel_rfl) rfl #[.agg #[.int .i64 a1_0, .int .i64 a1_1]] rfl (by (try simp only [List.map_toArray, List.map_cons, List.map_nil]); first | done | rfl | (simp only [List.length_drop, List.length_take]; rfl)) ?_; (with_reducible refine (clusterlocksref04_Zero.calls a1_0 a1_1 false _ A33.out).mono ?_); rintro e w60 ⟨rfl, hb⟩; refine ⟨_, rfl, ?_⟩; have n0_ := blkB BK282 (by (with_reducible repeat first | refine bN ?_ _ | refine bD ?_ | refine bA ?_ _); exact BK282.out) hb; have n1_ := blkB BK283 (by (with_reducible repeat first | refine bN ?_ _ | refine bD ?_ | refine bA ?_ _); exact BK283.out) hb; have n2_ := blkB BK284 (by (with_reducible repeat first | refine bN ?_ _ | refine bD ?_ | refine bA ?_ _); exact BK284.out) hb; have n3_ := Aside0.mk (below_step (by repeat (first | (with_reducible first | exact HB.out | apply below_alloc | apply pw_below_drewN | apply below_drew1) | exact HB.out)) hb); clear BK282 BK283 BK284 HB; have BK282 := n0_; have BK283 := n1_; have BK284 := n2_; have HB := n3_; clear n0_ n1_ n2_ n3_; (try clear hb); have hcz61_0 : w60.cell? ⟨gb282, 0, none⟩ = some (.string a0_0) := (blk_cell BK282.out 0).trans rfl; have hcz61_1 : w60.cell? ⟨gb282, 1, none⟩ = some (.int .i64 a0_1) := (blk_cell BK282.out 1).trans rfl; have hcz61_2 : w60.cell? ⟨gb282, 2, none⟩ = some (.int .i64 a0_2) := (blk_cell BK282.out 2).trans rfl; have hcz61_3 : w60.cell? ⟨gb282, 3, none⟩ = some (.int .i64 a0_3) := (blk_cell BK282.out 3).trans rfl; have hfz61_0 := blk_frozen BK282.out 0; have hfz61_1 := blk_frozen BK282.out 1; have hfz61_2 := blk_frozen BK282.out 2; have hfz61_3 := blk_frozen BK282.out 3; have hcz62_0 : w60.cell? ⟨gb283, 0, none⟩ = some (.int .i64 a1_0) := (blk_cell BK283.out 0).trans rfl; have hcz62_1 : w60.cell? ⟨gb283, 1, none⟩ = some (.int .i64 a1_1) := (blk_cell BK283.out 1).trans rfl; have hfz62_0 := blk_frozen BK283.out 0; have hfz62_1 := blk_frozen BK283.out 1; have hcz63_0 : w60.cell? ⟨gb284, 0, none⟩ = some (.int .i64 a2_0) := (blk_cell BK284.out 0).trans rfl; have hcz63_1 : w60.cell? ⟨gb284, 1, none⟩ = some (.int .i64 a2_1) := (blk_cell BK284.out 1).trans rfl; have hfz63_0 := blk_frozen BK284.out 0; have hfz63_1 := blk_frozen BK284.out 1))
       go_ret
       exact ⟨by first | rfl | (simp [errW_none, errW_some] <;> rfl) | (simp [*, errW_none, errW_some] <;> rfl), by repeat (first | (with_reducible first | exact HB.out | apply below_alloc | apply pw_below_drewN | apply below_drew1) | exact HB.out)⟩

/-! ### clusterlocksref03_Sup: function 42 -/
def clusterlocksref03_Sup.l0 : Nat → Int → Int → Int → Option (Int)
 | 0, _, _, _ => none
 | k + 1, x0, x1, x5 => if x5 ≤ 5 then ((clusterlocksref03_Covers.f x5 x0).bind fun t290 => (if t290 = true then ((clusterlocksref03_Covers.f x5 x1).bind fun t291 => (if t291 = true then (some x5) else (clusterlocksref03_Sup.l0 k x0 x1 (wrap64 (x5 + 1))))) else (clusterlocksref03_Sup.l0 k x0 x1 (wrap64 (x5 + 1))))) else (some 0)
def clusterlocksref03_Sup.f (k : Nat) (a0 : Int) (a1 : Int) : Option (Int) := clusterlocksref03_Sup.l0 k a0 a1 1
theorem clusterlocksref03_Sup.mono_l : ∀ k, (∀ y0 y1 y2, LeO (clusterlocksref03_Sup.l0 k y0 y1 y2) (clusterlocksref03_Sup.l0 (k + 1) y0 y1 y2))
 | 0 => fun _ _ _ r h => by simp [clusterlocksref03_Sup.l0] at h
 | k + 1 => by
  have ih0 := clusterlocksref03_Sup.mono_l k
  ·intro y0 y1 y2
   unfold clusterlocksref03_Sup.l0
   repeat' first
   | (with_reducible exact ih0 _ _ _)
   | (with_reducible exact LeO.refl _)
   | (with_reducible exact LeO.none _)
   | (with_reducible refine LeO.ite ?_ ?_)
   | (with_reducible refine LeO.bind ?_ (fun _ => ?_))
   | exact ih0 _ _ _
   | exact LeO.none _
   | refine LeO.ite ?_ ?_
   | refine LeO.bind ?_ (fun _ => ?_)
theorem clusterlocksref03_Sup.mono : ∀ a0 a1 k, LeO (clusterlocksref03_Sup.f k a0 a1) (clusterlocksref03_Sup.f (k + 1) a0 a1) := by
 intro a0 a1 k
 have ih0 := clusterlocksref03_Sup.mono_l k
 unfold clusterlocksref03_Sup.f
 repeat' first
   | (with_reducible exact ih0 _ _ _)
   | (with_reducible exact LeO.refl _)
   | (with_reducible exact LeO.none _)
   | (with_reducible refine LeO.ite ?_ ?_)
   | (with_reducible refine LeO.bind ?_ (fun _ => ?_))
   | exact ih0 _ _ _
   | exact LeO.none _
   | refine LeO.ite ?_ ?_
   | refine LeO.bind ?_ (fun _ => ?_)
set_option maxHeartbeats 8000000 in
set_option maxRecDepth 100000 in
theorem clusterlocksref03_Sup.calls (k : Nat) (a0 : Int) (a1 : Int) (r : Int) (w : World) (h : clusterlocksref03_Sup.f k a0 a1 = some r) :
  Calls Tryd.prog 42 #[.int .i64 a0, .int .i64 a1] w fun e w' => e = .returned (.int .i64 r) ∧ Drawn0 w w' := by
 have H : (clusterlocksref03_Sup.l0 k a0 a1 1) = some r := h
 clear h
 have H' := Aside0.mk H
 clear H
 go_enter Tryd.func42, Tryd.ntmps42
 go_wp2
 go_loopg [5] k (fun kq v5 w' => ∃ (x5_1 : Int), v5 = .int .i64 x5_1 ∧ Aside0 (clusterlocksref03_Sup.l0 kq a0 a1 x5_1 = some r) ∧ Aside0 (kq ≤ k) ∧ Drawn0 w w')
 case atStart => exact ⟨(1), (by first | rfl | (simp; done) | (simp [*]; done)), H', ⟨Nat.le_refl _⟩, by repeat (first | exact Drawn0.refl _ | apply Drawn0.step)⟩
 case round =>
  clear H'
  try clear p2
  obtain ⟨x5_1, rfl, HA, HK1, ⟨m1, rfl⟩⟩ := hrel
  cases gk with
  | zero => exact absurd HA.out (by simp [clusterlocksref03_Sup.l0])
  | succ k1 =>
   have H := HA.out
   clear HA
   simp only [clusterlocksref03_Sup.l0] at H
   by_cases c3 : x5_1 ≤ 5
   ·rw [if_pos c3] at H
    have c3b0 : decide (x5_1 ≤ 5) = true := decide_eq_true c3
    clear c3
    replace H := Option.bind_eq_some_iff.mp H
    obtain ⟨t290, A40, H⟩ := H
    replace H : (if t290 = true then ((clusterlocksref03_Covers.f x5_1 a1).bind fun t291 => (if t291 = true then (some x5_1) else (clusterlocksref03_Sup.l0 k1 a0 a1 (wrap64 (x5_1 + 1))))) else (clusterlocksref03_Sup.l0 k1 a0 a1 (wrap64 (x5_1 + 1)))) = some r := H
    have A4 := Aside0.mk A40
    clear A40
    by_cases c5 : t290 = true
    ·subst c5
     have H1 : ((clusterlocksref03_Covers.f x5_1 a1).bind fun t291 => (if t291 = true then (some x5_1) else (clusterlocksref03_Sup.l0 k1 a0 a1 (wrap64 (x5_1 + 1))))) = some r := by rw [if_pos rfl] at H; exact H
     clear H
     have H := H1
     clear H1
     replace H := Option.bind_eq_some_iff.mp H
     obtain ⟨t291, A60, H⟩ := H
     replace H : (if t291 = true then (some x5_1) else (clusterlocksref03_Sup.l0 k1 a0 a1 (wrap64 (x5_1 + 1)))) = some r := H
     have A6 := Aside0.mk A60
     clear A60
     by_cases c7 : t291 = true
     ·subst c7
      have H1 : (some x5_1) = some r := by rw [if_pos rfl] at H; exact H
      clear H
      have H := H1
      clear H1
      obtain rfl := Option.some.inj H
      go_wp2_with (first | ((with_reducible refine gate_callee (f := 41) rfl ?_); refine goesL_ (some 12) rfl rfl Tryd.func41 (by kernel_rfl) rfl #[.int .i64 x5_1, .int .i64 a0] rfl (by (try simp only [List.map_toArray, List.map_cons, List.map_nil]); first | done | rfl | (simp only [List.length_drop, List.length_take]; rfl)) ?_; (with_reducible refine (clusterlocksref03_Covers.calls x5_1 a0 true _ A4.out).mono ?_); rintro e w' ⟨rfl, ⟨nd, rfl⟩⟩; refine ⟨_, rfl, ?_⟩) | (go_at_call 41; (with_reducible refine (clusterlocksref03_Covers.calls x5_1 a1 true _ A6.out).mono ?_); rintro e w' ⟨rfl, ⟨nd, rfl⟩⟩))
      go_ret
      exact ⟨by first | rfl | (simp; done) | (simp [*]; done), by repeat (first | exact Drawn0.refl _ | apply Drawn0.step)⟩
     ·replace c7 := Bool.eq_false_iff.mpr c7
      subst c7
      have H1 : (clusterlocksref03_Sup.l0 k1 a0 a1 (wrap64 (x5_1 + 1))) = some r := by rw [if_neg (show ¬ (false = true) by decide)] at H; exact H
      clear H
      have H := H1
      clear H1
      have H' := Aside0.mk H
      clear H
      go_wp2_with (first | ((with_reducible refine gate_callee (f := 41) rfl ?_); refine goesL_ (some 12) rfl rfl Tryd.func41 (by kernel_rfl) rfl #[.int .i64 x5_1, .int .i64 a0] rfl (by (try simp only [List.map_toArray, List.map_cons, List.map_nil]); first | done | rfl | (simp only [List.length_drop, List.length_take]; rfl)) ?_; (with_reducible refine (clusterlocksref03_Covers.calls x5_1 a0 true _ A4.out).mono ?_); rintro e w' ⟨rfl, ⟨nd, rfl⟩⟩; refine ⟨_, rfl, ?_⟩) | (go_at_call 41; (with_reducible refine (clusterlocksref03_Covers.calls x5_1 a1 false _ A6.out).mono ?_); rintro e w' ⟨rfl, ⟨nd, rfl⟩⟩))
      go_roundg k1
      case measure => have := HK1.out; omega
      case rel => exact ⟨(wrap64 (x5_1 + 1)), (by first | rfl | (simp; done) | (simp [*]; done)), H', ⟨by have := HK1.out; omega⟩, by repeat (first | exact Drawn0.refl _ | apply Drawn0.step)⟩
    ·replace c5 := Bool.eq_false_iff.mpr c5
     subst c5
     have H1 : (clusterlocksref03_Sup.l0 k1 a0 a1 (wrap64 (x5_1 + 1))) = some r := by rw [if_neg (show ¬ (false = true) by decide)] at H; exact H
     clear H
     have H := H1
     clear H1
     have H' := Aside0.mk H
     clear H
     go_wp2_with (first | ((with_reducible refine gate_callee (f := 41) rfl ?_); refine goesL_ (some 12) rfl rfl Tryd.func41 (by kernel_rfl) rfl #[.int .i64 x5_1, .int .i64 a0] rfl (by (try simp only [List.map_toArray, List.map_cons, List.map_nil]); first | done | rfl | (simp only [List.length_drop, List.length_take]; rfl)) ?_; (with_reducible refine (clusterlocksref03_Covers.calls x5_1 a0 false _ A4.out).mono ?_); rintro e w' ⟨rfl, ⟨nd, rfl⟩⟩; refine ⟨_, rfl, ?_⟩))
     go_roundg k1
     case measure => have := HK1.out; omega
     case rel => exact ⟨(wrap64 (x5_1 + 1)), (by first | rfl | (simp; done) | (simp [*]; done)), H', ⟨by have := HK1.out; omega⟩, by repeat (first | exact Drawn0.refl _ | apply Drawn0.step)⟩
   ·rw [if_neg c3] at H
    have c3b0 : decide (x5_1 ≤ 5) = false := decide_eq_false c3
    clear c3
    obtain rfl := Option.some.inj H
    go_wp2
    go_ret
    exact ⟨by first | rfl | (simp; done) | (simp [*]; done), by repeat (first | exact Drawn0.refl _ | apply Drawn0.step)⟩

end Go.Proofs.YtlkhdhjdcgiciaaDoor.PA
