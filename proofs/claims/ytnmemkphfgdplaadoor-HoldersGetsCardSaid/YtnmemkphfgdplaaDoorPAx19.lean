-- Printed by wip/tool/myprint.py for this claim; Lean checks it.
import Derived.Test.YtnmemkphfgdplaaDoorPAx0
import Derived.Test.YtnmemkphfgdplaaDoorSlim
import Derived.Test.YtnmemkphfgdplaaDoorPAx1
namespace Go.Proofs.YtnmemkphfgdplaaDoor.PA
open Go.RowKit Go.Proofs.YtnmemkphfgdplaaDoorW.PrintWords Go.Proofs.YtnmemkphfgdplaaDoorW.PrintLast Go.Proofs.YtnmemkphfgdplaaDoorW.PrintMore
attribute [local go_sem] max2_int min2_int max_two min_two max_three min_three max_four min_four   -- for this text's walks alone
set_option linter.unusedVariables false
set_option linter.unusedSimpArgs false

attribute [local go_sem high] eqA24
/-! ### holders_Get: function 27 -/
def holders_Get.l0 : Nat → List (S53) → Int → Int → Int → Int → Int → Option (Int × Int)
 | 0, _, _, _, _, _, _ => none
 | k + 1, x7, x8, x9, x356000, x356001, x356002 => if x9 < x8 then (if 0 ≤ x9 then (if x9 < (x7.length : Int) then (if (((rd_T53 x7 x9).f0.f0) == x356000 && (((rd_T53 x7 x9).f0.f1) == x356001 && (((rd_T53 x7 x9).f0.f2) == x356002))) = true then (some ((rd_T53 x7 x9).f1.f0, (rd_T53 x7 x9).f1.f1)) else (holders_Get.l0 k x7 x8 (wrap64 (x9 + 1)) x356000 x356001 x356002)) else (none)) else (none)) else (some (0, 0))
def holders_Get.f (k : Nat) (l0 : List (S53)) (a1_0 : Int) (a1_1 : Int) (a1_2 : Int) : Option (Int × Int) := holders_Get.l0 k l0 (l0.length : Int) 0 a1_0 a1_1 a1_2
theorem holders_Get.mono_l : ∀ k, (∀ y0 y1 y2 y3 y4 y5, LeO (holders_Get.l0 k y0 y1 y2 y3 y4 y5) (holders_Get.l0 (k + 1) y0 y1 y2 y3 y4 y5))
 | 0 => fun _ _ _ _ _ _ r h => by simp [holders_Get.l0] at h
 | k + 1 => by
  have ih0 := holders_Get.mono_l k
  ·intro y0 y1 y2 y3 y4 y5
   unfold holders_Get.l0
   repeat' first
   | (with_reducible exact ih0 _ _ _ _ _ _)
   | (with_reducible exact LeO.refl _)
   | (with_reducible exact LeO.none _)
   | (with_reducible refine LeO.ite ?_ ?_)
   | (with_reducible refine LeO.bind ?_ (fun _ => ?_))
   | exact ih0 _ _ _ _ _ _
   | exact LeO.none _
   | refine LeO.ite ?_ ?_
   | refine LeO.bind ?_ (fun _ => ?_)
theorem holders_Get.mono : ∀ a0 a1 a2 a3 k, LeO (holders_Get.f k a0 a1 a2 a3) (holders_Get.f (k + 1) a0 a1 a2 a3) := by
 intro a0 a1 a2 a3 k
 have ih0 := holders_Get.mono_l k
 unfold holders_Get.f
 repeat' first
   | (with_reducible exact ih0 _ _ _ _ _ _)
   | (with_reducible exact LeO.refl _)
   | (with_reducible exact LeO.none _)
   | (with_reducible refine LeO.ite ?_ ?_)
   | (with_reducible refine LeO.bind ?_ (fun _ => ?_))
   | exact ih0 _ _ _ _ _ _
   | exact LeO.none _
   | refine LeO.ite ?_ ?_
   | refine LeO.bind ?_ (fun _ => ?_)
set_option maxHeartbeats 8000000 in
set_option maxRecDepth 100000 in
theorem holders_Get.calls (k : Nat) (A0 : Option Addr) (c0 : Nat) (l0 : List (S53)) (a1_0 : Int) (a1_1 : Int) (a1_2 : Int) (r1 : Int) (r2 : Int) (w : World) (hr0 : Kd.C k53 w A0 l0.length l0) (hc0 : l0.length ≤ c0) (h : holders_Get.f k l0 a1_0 a1_1 a1_2 = some (r1, r2)) :
  Calls Tryd.prog 27 #[.slice A0 l0.length c0, .agg #[.int .i64 a1_0, .int .i64 a1_1, .int .i64 a1_2]] w fun e w' => e = .returned (.agg #[.int .i64 r1, .int .i64 r2]) ∧ Below w.heap.size w w' := by
 have hu24 := Tryd.underlying24
 have hu26 := Tryd.underlying26
 have hu53 := Tryd.underlying53
 have HR0 := Aside0.mk hr0
 have HC0 := Aside0.mk hc0
 clear hr0 hc0
 have HB := Aside0.mk (Below.refl w.heap.size w)
 have H : (holders_Get.l0 k l0 (l0.length : Int) 0 a1_0 a1_1 a1_2) = some (r1, r2) := h
 clear h
 have H' := Aside0.mk H
 clear H
 go_enter Tryd.func27, Tryd.ntmps27
 go_wp2_with (first | ((with_reducible refine gate_dst (N := 3) rfl ?_); refine box_event ?hg (N := 3) ?hd (cs := #[.int .i64 a1_0, .int .i64 a1_1, .int .i64 a1_2]) (t := 24) ?hr ?_; (case hd => rfl); (case hg => rfl); (case hr => first | (go_simp; done) | (go_simp; rfl)); intro gb355 hg w3 hbox hb; have BK355 := Aside0.mk hbox; have GW355 := gE HB hg; replace HB := bB HB hb; have GE355 := GW355; clear hb hbox hg) | ((with_reducible refine gate_dst (N := 4) rfl ?_); refine box_event ?hg (N := 4) ?hd (cs := #[.int .i64 0, .int .i64 0]) (t := 26) ?hr ?_; (case hd => rfl); (case hg => rfl); (case hr => first | (go_simp; done) | (go_simp; rfl)); intro gb356 hg w4 hbox hb; have BK356 := Aside0.mk hbox; have GW356 := gE HB hg; replace HB := bB HB hb; have GE356 := GW356; have NB355_356 := gN BK355 hg; replace BK355 := bK BK355 hb; have NB356_355 := Aside0.mk NB355_356.out.symm; clear hb hbox hg))
 go_loopg [9] k (fun kq v9 w' => ∃ (x9_1 : Int) (x357000_1 : Int) (x357001_1 : Int), v9 = .int .i64 x9_1 ∧ Aside0 (holders_Get.l0 kq l0 (l0.length : Int) x9_1 a1_0 a1_1 a1_2 = some (r1, r2)) ∧ Aside0 (kq ≤ k) ∧ Aside0 (w'.heap[gb355]? = some (.cells #[.int .i64 a1_0, .int .i64 a1_1, .int .i64 a1_2] 24 (0, 0))) ∧ Aside0 (w'.heap[gb356]? = some (.cells #[.int .i64 x357000_1, .int .i64 x357001_1] 26 (0, 0))) ∧ Aside0 (Below w.heap.size w w'))
 case atStart => exact ⟨(0), (0), (0), (by first | rfl | (simp; done) | (simp [*]; done)), H', ⟨Nat.le_refl _⟩, ⟨by (with_reducible repeat first | refine bN ?_ _ | refine bD ?_ | refine bA ?_ _); exact BK355.out⟩, ⟨by (with_reducible repeat first | refine bN ?_ _ | refine bD ?_ | refine bA ?_ _); exact BK356.out⟩, ⟨by repeat (first | (with_reducible first | exact HB.out | apply bL | apply bM | apply bR | refine bS ?_ GE356.out) | exact HB.out)⟩⟩
 case round =>
  clear H'
  try clear c2
  try clear p2
  obtain ⟨x9_1, x357000_1, x357001_1, rfl, HA, HK1, BK355, BK356, HB⟩ := hrel
  cases gk with
  | zero => exact absurd HA.out (by simp [holders_Get.l0])
  | succ k1 =>
   have H := HA.out
   clear HA
   simp only [holders_Get.l0] at H
   by_cases c5 : x9_1 < (l0.length : Int)
   ·rw [if_pos c5] at H
    have c5b0 : decide (x9_1 < (l0.length : Int)) = true := decide_eq_true c5
    clear c5
    by_cases c6 : 0 ≤ x9_1
    ·rw [if_pos c6] at H
     have c6b0 : decide (0 ≤ x9_1) = true := decide_eq_true c6
     clear c6
     have HH_ := Aside0.mk H
     clear H
     have p357 : 0 ≤ (x9_1 : Int) := of_decide_eq_true (by first | (with_reducible assumption) | assumption)
     have H := HH_.out
     clear HH_
     by_cases c7 : x9_1 < (l0.length : Int)
     ·rw [if_pos c7] at H
      have c7b0 : decide (x9_1 < (l0.length : Int)) = true := decide_eq_true c7
      clear c7
      have HH_ := Aside0.mk H
      clear H
      have q357 : x9_1 < (l0.length : Int) := of_decide_eq_true (by first | (with_reducible assumption) | assumption)
      obtain ⟨ad357, e357, hx357_0, hx357_1, hx357_2, hx357_3, hx357_4⟩ := at_T53 HR0.out x9_1 p357 q357
      cases e357
      replace hx357_0 := kC HB hx357_0
      replace hx357_1 := kC HB hx357_1
      replace hx357_2 := kC HB hx357_2
      replace hx357_3 := kC HB hx357_3
      replace hx357_4 := kC HB hx357_4
      replace p357 := eq_true p357
      replace q357 := eq_true q357
      have H := HH_.out
      clear HH_
      by_cases c8 : (((rd_T53 l0 x9_1).f0.f0) == a1_0 && (((rd_T53 l0 x9_1).f0.f1) == a1_1 && (((rd_T53 l0 x9_1).f0.f2) == a1_2))) = true
      ·rw [if_pos c8] at H
       have c8b0 : (((rd_T53 l0 x9_1).f0.f0) == a1_0 && (((rd_T53 l0 x9_1).f0.f1) == a1_1 && (((rd_T53 l0 x9_1).f0.f2) == a1_2))) = true := c8
       (try (have c8b1 : decide (((rd_T53 l0 x9_1).f0.f0) = a1_0 && (((rd_T53 l0 x9_1).f0.f1) == a1_1 && (((rd_T53 l0 x9_1).f0.f2) == a1_2))) = true := by simpa using c8))
       (try (have c8b2 : (((rd_T53 l0 x9_1).f0.f0) == a1_0 && (((rd_T53 l0 x9_1).f0.f1) == a1_1 && (((rd_T53 l0 x9_1).f0.f2) == a1_2))) = true := by simpa using c8))
       clear c8
       simp only [Option.some.injEq, Prod.mk.injEq] at H
       obtain ⟨rfl, rfl⟩ := H
       (try simp only [c8b0, c8b1, c8b2])
       go_wp2_with (first | ((with_reducible refine gate_dst (N := 6) rfl ?_); refine box_event ?hg (N := 6) ?hd (cs := #[.int .i64 0, .int .i64 0, .int .i64 0, .int .i64 0, .int .i64 0]) (t := 53) ?hr ?_; (case hd => rfl); (case hg => rfl); (case hr => first | (go_simp; done) | (go_simp; rfl)); intro gb358 hg w9 hbox hb; have BK358 := Aside0.mk hbox; have GW358 := Aside0.mk ((by rw [hg]; exact (below_size (by repeat (first | (with_reducible first | exact HB.out | apply bL | apply bM | apply bR | refine bS ?_ GE356.out) | exact HB.out))) : w.heap.size ≤ gb358)); replace HB := Aside0.mk (below_step (by repeat (first | (with_reducible first | exact HB.out | apply bL | apply bM | apply bR | refine bS ?_ GE356.out) | exact HB.out)) hb); have GE358 := GW358; have NB355_358 := gN BK355 hg; replace BK355 := bK BK355 hb; have NB358_355 := Aside0.mk NB355_358.out.symm; have NB356_358 := gN BK356 hg; replace BK356 := bK BK356 hb; have NB358_356 := Aside0.mk NB356_358.out.symm; clear hb hbox hg; have hnb10 := NB358_355.out; have hnc10 := NB355_358.out; have hnb11 := NB358_356.out; have hnc11 := NB356_358.out; obtain ⟨hcz12_0, hcz12_1, hcz12_2, hcz12_3, hcz12_4, hfz12_0, hfz12_1, hfz12_2, hfz12_3, hfz12_4⟩ := d5 BK358; have hnb13 := NB355_356.out; have hnc13 := NB356_355.out; obtain ⟨hcz14_0, hcz14_1, hcz14_2, hfz14_0, hfz14_1, hfz14_2⟩ := d3 BK355; have hcz15_0 : w9.cell? ⟨gb356, 0, none⟩ = some (.int .i64 x357000_1) := bC BK356 0 rfl; have hcz15_1 : w9.cell? ⟨gb356, 1, none⟩ = some (.int .i64 x357001_1) := bC BK356 1 rfl; have hfz15_0 := bF BK356 0; have hfz15_1 := bF BK356 1))
       refine bodyPost_ret (results_cell_row rfl _ _ gb356 26 #[.int .i64 ((rd_T53 l0 x9_1).f1.f0), .int .i64 ((rd_T53 l0 x9_1).f1.f1)] (0, 0) _ rfl (by (with_reducible repeat first | refine bN ?_ _ | refine bD ?_ | refine bA ?_ _); refine blk_put (cs := #[.int .i64 ((rd_T53 l0 x9_1).f1.f0), .int .i64 x357001_1]) ?_ 1 _ rfl; (with_reducible repeat first | refine bN ?_ _ | refine bD ?_ | refine bA ?_ _); refine blk_put (cs := #[.int .i64 x357000_1, .int .i64 x357001_1]) ?_ 0 _ rfl; (with_reducible repeat first | refine bN ?_ _ | refine bD ?_ | refine bA ?_ _); refine blk_far ?_ NB356_358.out _; (with_reducible repeat first | refine bN ?_ _ | refine bD ?_ | refine bA ?_ _); refine blk_far ?_ NB356_358.out _; (with_reducible repeat first | refine bN ?_ _ | refine bD ?_ | refine bA ?_ _); refine blk_far ?_ NB356_358.out _; (with_reducible repeat first | refine bN ?_ _ | refine bD ?_ | refine bA ?_ _); refine blk_far ?_ NB356_358.out _; (with_reducible repeat first | refine bN ?_ _ | refine bD ?_ | refine bA ?_ _); refine blk_far ?_ NB356_358.out _; (with_reducible repeat first | refine bN ?_ _ | refine bD ?_ | refine bA ?_ _); exact BK356.out) Tryd.underlying26 rfl (by kernel_rfl)) rfl ?_
       exact ⟨by first | rfl | (simp [errW_none, errW_some] <;> rfl) | (simp [*, errW_none, errW_some] <;> rfl), by repeat (first | (with_reducible first | exact HB.out | apply bL | apply bM | apply bR | refine bS ?_ GE356.out | refine bS ?_ GE358.out) | exact HB.out)⟩
      ·rw [if_neg c8] at H
       have c8b0 : (((rd_T53 l0 x9_1).f0.f0) == a1_0 && (((rd_T53 l0 x9_1).f0.f1) == a1_1 && (((rd_T53 l0 x9_1).f0.f2) == a1_2))) = false := by simpa using c8
       (try (have c8b1 : decide (((rd_T53 l0 x9_1).f0.f0) = a1_0 && (((rd_T53 l0 x9_1).f0.f1) == a1_1 && (((rd_T53 l0 x9_1).f0.f2) == a1_2))) = false := by simpa using c8))
       (try (have c8b2 : (((rd_T53 l0 x9_1).f0.f0) == a1_0 && (((rd_T53 l0 x9_1).f0.f1) == a1_1 && (((rd_T53 l0 x9_1).f0.f2) == a1_2))) = false := by simpa using c8))
       (try (have c8b3 : ¬ (((rd_T53 l0 x9_1).f0.f0) = a1_0 && (((rd_T53 l0 x9_1).f0.f1) == a1_1 && (((rd_T53 l0 x9_1).f0.f2) == a1_2))) := by simpa using c8))
       clear c8
       have H' := Aside0.mk H
       clear H
       (try simp only [c8b0, c8b1, c8b2, c8b3])
       go_wp2_with (first | ((with_reducible refine gate_dst (N := 6) rfl ?_); refine box_event ?hg (N := 6) ?hd (cs := #[.int .i64 0, .int .i64 0, .int .i64 0, .int .i64 0, .int .i64 0]) (t := 53) ?hr ?_; (case hd => rfl); (case hg => rfl); (case hr => first | (go_simp; done) | (go_simp; rfl)); intro gb358 hg w16 hbox hb; have BK358 := Aside0.mk hbox; have GW358 := Aside0.mk ((by rw [hg]; exact (below_size (by repeat (first | (with_reducible first | exact HB.out | apply bL | apply bM | apply bR | refine bS ?_ GE356.out) | exact HB.out))) : w.heap.size ≤ gb358)); replace HB := Aside0.mk (below_step (by repeat (first | (with_reducible first | exact HB.out | apply bL | apply bM | apply bR | refine bS ?_ GE356.out) | exact HB.out)) hb); have GE358 := GW358; have NB355_358 := gN BK355 hg; replace BK355 := bK BK355 hb; have NB358_355 := Aside0.mk NB355_358.out.symm; have NB356_358 := gN BK356 hg; replace BK356 := bK BK356 hb; have NB358_356 := Aside0.mk NB356_358.out.symm; clear hb hbox hg; have hnb17 := NB358_355.out; have hnc17 := NB355_358.out; have hnb18 := NB358_356.out; have hnc18 := NB356_358.out; obtain ⟨hcz19_0, hcz19_1, hcz19_2, hcz19_3, hcz19_4, hfz19_0, hfz19_1, hfz19_2, hfz19_3, hfz19_4⟩ := d5 BK358; have hnb20 := NB355_356.out; have hnc20 := NB356_355.out; have hcz21_0 : w16.cell? ⟨gb355, 0, none⟩ = some (.int .i64 a1_0) := bC BK355 0 rfl; have hcz21_1 : w16.cell? ⟨gb355, 1, none⟩ = some (.int .i64 a1_1) := bC BK355 1 rfl; have hcz21_2 : w16.cell? ⟨gb355, 2, none⟩ = some (.int .i64 a1_2) := bC BK355 2 rfl; have hfz21_0 := bF BK355 0; have hfz21_1 := bF BK355 1; have hfz21_2 := bF BK355 2))
       go_roundg k1
       case measure => have := HK1.out; omega
       case rel => exact ⟨(wrap64 (x9_1 + 1)), (x357000_1), (x357001_1), (by first | rfl | (simp; done) | (simp [*]; done)), H', ⟨by have := HK1.out; omega⟩, ⟨by (with_reducible repeat first | refine bN ?_ _ | refine bD ?_ | refine bA ?_ _); refine blk_far ?_ NB355_358.out _; (with_reducible repeat first | refine bN ?_ _ | refine bD ?_ | refine bA ?_ _); refine blk_far ?_ NB355_358.out _; (with_reducible repeat first | refine bN ?_ _ | refine bD ?_ | refine bA ?_ _); refine blk_far ?_ NB355_358.out _; (with_reducible repeat first | refine bN ?_ _ | refine bD ?_ | refine bA ?_ _); refine blk_far ?_ NB355_358.out _; (with_reducible repeat first | refine bN ?_ _ | refine bD ?_ | refine bA ?_ _); refine blk_far ?_ NB355_358.out _; (with_reducible repeat first | refine bN ?_ _ | refine bD ?_ | refine bA ?_ _); exact BK355.out⟩, ⟨by (with_reducible repeat first | refine bN ?_ _ | refine bD ?_ | refine bA ?_ _); refine blk_far ?_ NB356_358.out _; (with_reducible repeat first | refine bN ?_ _ | refine bD ?_ | refine bA ?_ _); refine blk_far ?_ NB356_358.out _; (with_reducible repeat first | refine bN ?_ _ | refine bD ?_ | refine bA ?_ _); refine blk_far ?_ NB356_358.out _; (with_reducible repeat first | refine bN ?_ _ | refine bD ?_ | refine bA ?_ _); refine blk_far ?_ NB356_358.out _; (with_reducible repeat first | refine bN ?_ _ | refine bD ?_ | refine bA ?_ _); refine blk_far ?_ NB356_358.out _; (with_reducible repeat first | refine bN ?_ _ | refine bD ?_ | refine bA ?_ _); exact BK356.out⟩, ⟨by repeat (first | (with_reducible first | exact HB.out | apply bL | apply bM | apply bR | refine bS ?_ GE356.out | refine bS ?_ GE358.out) | exact HB.out)⟩⟩
     ·rw [if_neg c7] at H
      exact absurd H (by simp)
    ·rw [if_neg c6] at H
     exact absurd H (by simp)
   ·rw [if_neg c5] at H
    have c5b0 : decide (x9_1 < (l0.length : Int)) = false := decide_eq_false c5
    clear c5
    simp only [Option.some.injEq, Prod.mk.injEq] at H
    obtain ⟨rfl, rfl⟩ := H
    have hnb22 := NB356_355.out
    have hnc22 := NB355_356.out
    obtain ⟨hcz23_0, hcz23_1, hfz23_0, hfz23_1⟩ := d2 BK356
    go_wp2
    refine bodyPost_ret (results_cell_row rfl _ _ gb356 26 #[.int .i64 0, .int .i64 0] (0, 0) _ rfl (by (with_reducible repeat first | refine bN ?_ _ | refine bD ?_ | refine bA ?_ _); refine blk_put (cs := #[.int .i64 0, .int .i64 x357001_1]) ?_ 1 _ rfl; (with_reducible repeat first | refine bN ?_ _ | refine bD ?_ | refine bA ?_ _); refine blk_put (cs := #[.int .i64 x357000_1, .int .i64 x357001_1]) ?_ 0 _ rfl; (with_reducible repeat first | refine bN ?_ _ | refine bD ?_ | refine bA ?_ _); exact BK356.out) Tryd.underlying26 rfl (by kernel_rfl)) rfl ?_
    exact ⟨by first | rfl | (simp [errW_none, errW_some] <;> rfl) | (simp [*, errW_none, errW_some] <;> rfl), by repeat (first | (with_reducible first | exact HB.out | apply bL | apply bM | apply bR | refine bS ?_ GE356.out) | exact HB.out)⟩
/-! ### clusterlocksref10_Get: function 29 -/
def clusterlocksref10_Get.l0 : Nat → List (S53) → Int → Int → Int → Int → Option (Int × Int)
 | 0, _, _, _, _, _ => none
 | k + 1, x0, x5, x360000, x360001, x360002 => if x5 < (x0.length : Int) then (if 0 ≤ x5 then (if (((rd_T53 x0 x5).f0.f0) == x360000 && (((rd_T53 x0 x5).f0.f1) == x360001 && (((rd_T53 x0 x5).f0.f2) == x360002))) = true then (some ((rd_T53 x0 x5).f1.f0, (rd_T53 x0 x5).f1.f1)) else (clusterlocksref10_Get.l0 k x0 (wrap64 (x5 + 1)) x360000 x360001 x360002)) else (none)) else (some (0, 0))
def clusterlocksref10_Get.f (k : Nat) (l0 : List (S53)) (a1_0 : Int) (a1_1 : Int) (a1_2 : Int) : Option (Int × Int) := clusterlocksref10_Get.l0 k l0 0 a1_0 a1_1 a1_2
theorem clusterlocksref10_Get.mono_l : ∀ k, (∀ y0 y1 y2 y3 y4, LeO (clusterlocksref10_Get.l0 k y0 y1 y2 y3 y4) (clusterlocksref10_Get.l0 (k + 1) y0 y1 y2 y3 y4))
 | 0 => fun _ _ _ _ _ r h => by simp [clusterlocksref10_Get.l0] at h
 | k + 1 => by
  have ih0 := clusterlocksref10_Get.mono_l k
  ·intro y0 y1 y2 y3 y4
   unfold clusterlocksref10_Get.l0
   repeat' first
   | (with_reducible exact ih0 _ _ _ _ _)
   | (with_reducible exact LeO.refl _)
   | (with_reducible exact LeO.none _)
   | (with_reducible refine LeO.ite ?_ ?_)
   | (with_reducible refine LeO.bind ?_ (fun _ => ?_))
   | exact ih0 _ _ _ _ _
   | exact LeO.none _
   | refine LeO.ite ?_ ?_
   | refine LeO.bind ?_ (fun _ => ?_)
theorem clusterlocksref10_Get.mono : ∀ a0 a1 a2 a3 k, LeO (clusterlocksref10_Get.f k a0 a1 a2 a3) (clusterlocksref10_Get.f (k + 1) a0 a1 a2 a3) := by
 intro a0 a1 a2 a3 k
 have ih0 := clusterlocksref10_Get.mono_l k
 unfold clusterlocksref10_Get.f
 repeat' first
   | (with_reducible exact ih0 _ _ _ _ _)
   | (with_reducible exact LeO.refl _)
   | (with_reducible exact LeO.none _)
   | (with_reducible refine LeO.ite ?_ ?_)
   | (with_reducible refine LeO.bind ?_ (fun _ => ?_))
   | exact ih0 _ _ _ _ _
   | exact LeO.none _
   | refine LeO.ite ?_ ?_
   | refine LeO.bind ?_ (fun _ => ?_)
set_option maxHeartbeats 8000000 in
set_option maxRecDepth 100000 in
theorem clusterlocksref10_Get.calls (k : Nat) (A0 : Option Addr) (c0 : Nat) (l0 : List (S53)) (a1_0 : Int) (a1_1 : Int) (a1_2 : Int) (r1 : Int) (r2 : Int) (w : World) (hr0 : Kd.C k53 w A0 l0.length l0) (hc0 : l0.length ≤ c0) (h : clusterlocksref10_Get.f k l0 a1_0 a1_1 a1_2 = some (r1, r2)) :
  Calls Tryd.prog 29 #[.slice A0 l0.length c0, .agg #[.int .i64 a1_0, .int .i64 a1_1, .int .i64 a1_2]] w fun e w' => e = .returned (.agg #[.int .i64 r1, .int .i64 r2]) ∧ Below w.heap.size w w' := by
 have hu24 := Tryd.underlying24
 have hu26 := Tryd.underlying26
 have HR0 := Aside0.mk hr0
 have HC0 := Aside0.mk hc0
 clear hr0 hc0
 have HB := Aside0.mk (Below.refl w.heap.size w)
 have H : (clusterlocksref10_Get.l0 k l0 0 a1_0 a1_1 a1_2) = some (r1, r2) := h
 clear h
 have H' := Aside0.mk H
 clear H
 go_enter Tryd.func29, Tryd.ntmps29
 go_wp2_with (first | ((with_reducible refine gate_dst (N := 3) rfl ?_); refine box_event ?hg (N := 3) ?hd (cs := #[.int .i64 a1_0, .int .i64 a1_1, .int .i64 a1_2]) (t := 24) ?hr ?_; (case hd => rfl); (case hg => rfl); (case hr => first | (go_simp; done) | (go_simp; rfl)); intro gb359 hg w3 hbox hb; have BK359 := Aside0.mk hbox; have GW359 := gE HB hg; replace HB := bB HB hb; have GE359 := GW359; clear hb hbox hg) | ((with_reducible refine gate_dst (N := 4) rfl ?_); refine box_event ?hg (N := 4) ?hd (cs := #[.int .i64 0, .int .i64 0]) (t := 26) ?hr ?_; (case hd => rfl); (case hg => rfl); (case hr => first | (go_simp; done) | (go_simp; rfl)); intro gb360 hg w4 hbox hb; have BK360 := Aside0.mk hbox; have GW360 := gE HB hg; replace HB := bB HB hb; have GE360 := GW360; have NB359_360 := gN BK359 hg; replace BK359 := bK BK359 hb; have NB360_359 := Aside0.mk NB359_360.out.symm; clear hb hbox hg))
 repeat (go_quiet (first | ((with_reducible refine gate_dst (N := 3) rfl ?_); refine box_event ?hg (N := 3) ?hd (cs := #[.int .i64 a1_0, .int .i64 a1_1, .int .i64 a1_2]) (t := 24) ?hr ?_; (case hd => rfl); (case hg => rfl); (case hr => first | (go_simp; done) | (go_simp; rfl)); intro gb359 hg w3 hbox hb; have BK359 := Aside0.mk hbox; have GW359 := gE HB hg; replace HB := bB HB hb; have GE359 := GW359; clear hb hbox hg) | ((with_reducible refine gate_dst (N := 4) rfl ?_); refine box_event ?hg (N := 4) ?hd (cs := #[.int .i64 0, .int .i64 0]) (t := 26) ?hr ?_; (case hd => rfl); (case hg => rfl); (case hr => first | (go_simp; done) | (go_simp; rfl)); intro gb360 hg w4 hbox hb; have BK360 := Aside0.mk hbox; have GW360 := gE HB hg; replace HB := bB HB hb; have GE360 := GW360; have NB359_360 := gN BK359 hg; replace BK359 := bK BK359 hb; have NB360_359 := Aside0.mk NB359_360.out.symm; clear hb hbox hg)); try go_wp2_with (first | ((with_reducible refine gate_dst (N := 3) rfl ?_); refine box_event ?hg (N := 3) ?hd (cs := #[.int .i64 a1_0, .int .i64 a1_1, .int .i64 a1_2]) (t := 24) ?hr ?_; (case hd => rfl); (case hg => rfl); (case hr => first | (go_simp; done) | (go_simp; rfl)); intro gb359 hg w3 hbox hb; have BK359 := Aside0.mk hbox; have GW359 := gE HB hg; replace HB := bB HB hb; have GE359 := GW359; clear hb hbox hg) | ((with_reducible refine gate_dst (N := 4) rfl ?_); refine box_event ?hg (N := 4) ?hd (cs := #[.int .i64 0, .int .i64 0]) (t := 26) ?hr ?_; (case hd => rfl); (case hg => rfl); (case hr => first | (go_simp; done) | (go_simp; rfl)); intro gb360 hg w4 hbox hb; have BK360 := Aside0.mk hbox; have GW360 := gE HB hg; replace HB := bB HB hb; have GE360 := GW360; have NB359_360 := gN BK359 hg; replace BK359 := bK BK359 hb; have NB360_359 := Aside0.mk NB359_360.out.symm; clear hb hbox hg)))
 go_loopg [5] k (fun kq v5 w' => ∃ (x5_1 : Int) (x361000_1 : Int) (x361001_1 : Int), v5 = .int .i64 x5_1 ∧ Aside0 (clusterlocksref10_Get.l0 kq l0 x5_1 a1_0 a1_1 a1_2 = some (r1, r2)) ∧ Aside0 (kq ≤ k) ∧ Aside0 (w'.heap[gb359]? = some (.cells #[.int .i64 a1_0, .int .i64 a1_1, .int .i64 a1_2] 24 (0, 0))) ∧ Aside0 (w'.heap[gb360]? = some (.cells #[.int .i64 x361000_1, .int .i64 x361001_1] 26 (0, 0))) ∧ Aside0 (Below w.heap.size w w'))
 case atStart => exact ⟨(0), (0), (0), (by first | rfl | (simp; done) | (simp [*]; done)), H', ⟨Nat.le_refl _⟩, ⟨by (with_reducible repeat first | refine bN ?_ _ | refine bD ?_ | refine bA ?_ _); exact BK359.out⟩, ⟨by (with_reducible repeat first | refine bN ?_ _ | refine bD ?_ | refine bA ?_ _); exact BK360.out⟩, ⟨by repeat (first | (with_reducible first | exact HB.out | apply bL | apply bM | apply bR | refine bS ?_ GE360.out) | exact HB.out)⟩⟩
 case round =>
  clear H'
  try clear c2
  try clear p2
  obtain ⟨x5_1, x361000_1, x361001_1, rfl, HA, HK1, BK359, BK360, HB⟩ := hrel
  cases gk with
  | zero => exact absurd HA.out (by simp [clusterlocksref10_Get.l0])
  | succ k1 =>
   have H := HA.out
   clear HA
   simp only [clusterlocksref10_Get.l0] at H
   by_cases c5 : x5_1 < (l0.length : Int)
   ·rw [if_pos c5] at H
    have c5b0 : decide (x5_1 < (l0.length : Int)) = true := decide_eq_true c5
    clear c5
    by_cases c6 : 0 ≤ x5_1
    ·rw [if_pos c6] at H
     have c6b0 : decide (0 ≤ x5_1) = true := decide_eq_true c6
     clear c6
     have HH_ := Aside0.mk H
     clear H
     have p361 : 0 ≤ (x5_1 : Int) := of_decide_eq_true (by first | (with_reducible assumption) | assumption)
     have q361 : x5_1 < (l0.length : Int) := of_decide_eq_true (by first | (with_reducible assumption) | assumption)
     obtain ⟨ad361, e361, hx361_0, hx361_1, hx361_2, hx361_3, hx361_4⟩ := at_T53 HR0.out x5_1 p361 q361
     cases e361
     replace hx361_0 := kC HB hx361_0
     replace hx361_1 := kC HB hx361_1
     replace hx361_2 := kC HB hx361_2
     replace hx361_3 := kC HB hx361_3
     replace hx361_4 := kC HB hx361_4
     replace p361 := eq_true p361
     replace q361 := eq_true q361
     have hnb8 := NB359_360.out
     have hnc8 := NB360_359.out
     obtain ⟨hcz9_0, hcz9_1, hcz9_2, hfz9_0, hfz9_1, hfz9_2⟩ := d3 BK359
     have H := HH_.out
     clear HH_
     by_cases c7 : (((rd_T53 l0 x5_1).f0.f0) == a1_0 && (((rd_T53 l0 x5_1).f0.f1) == a1_1 && (((rd_T53 l0 x5_1).f0.f2) == a1_2))) = true
     ·rw [if_pos c7] at H
      have c7b0 : (((rd_T53 l0 x5_1).f0.f0) == a1_0 && (((rd_T53 l0 x5_1).f0.f1) == a1_1 && (((rd_T53 l0 x5_1).f0.f2) == a1_2))) = true := c7
      (try (have c7b1 : decide (((rd_T53 l0 x5_1).f0.f0) = a1_0 && (((rd_T53 l0 x5_1).f0.f1) == a1_1 && (((rd_T53 l0 x5_1).f0.f2) == a1_2))) = true := by simpa using c7))
      (try (have c7b2 : (((rd_T53 l0 x5_1).f0.f0) == a1_0 && (((rd_T53 l0 x5_1).f0.f1) == a1_1 && (((rd_T53 l0 x5_1).f0.f2) == a1_2))) = true := by simpa using c7))
      clear c7
      simp only [Option.some.injEq, Prod.mk.injEq] at H
      obtain ⟨rfl, rfl⟩ := H
      (try simp only [c7b0, c7b1, c7b2])
      have p362 : 0 ≤ (x5_1 : Int) := of_decide_eq_true (by first | (with_reducible assumption) | assumption)
      have q362 : x5_1 < (l0.length : Int) := of_decide_eq_true (by first | (with_reducible assumption) | assumption)
      obtain ⟨ad362, e362, hx362_0, hx362_1, hx362_2, hx362_3, hx362_4⟩ := at_T53 HR0.out x5_1 p362 q362
      obtain rfl : ad361 = ad362 := (by injection e362)
      replace hx362_0 := kC HB hx362_0
      replace hx362_1 := kC HB hx362_1
      replace hx362_2 := kC HB hx362_2
      replace hx362_3 := kC HB hx362_3
      replace hx362_4 := kC HB hx362_4
      replace p362 := eq_true p362
      replace q362 := eq_true q362
      obtain ⟨hcz10_0, hcz10_1, hfz10_0, hfz10_1⟩ := d2 BK360
      go_wp2
      repeat (go_quiet (fail); try go_wp2)
      refine bodyPost_ret (results_cell_row rfl _ _ gb360 26 #[.int .i64 ((rd_T53 l0 x5_1).f1.f0), .int .i64 ((rd_T53 l0 x5_1).f1.f1)] (0, 0) _ rfl (by (with_reducible repeat first | refine bN ?_ _ | refine bD ?_ | refine bA ?_ _); refine blk_put (cs := #[.int .i64 ((rd_T53 l0 x5_1).f1.f0), .int .i64 x361001_1]) ?_ 1 _ rfl; (with_reducible repeat first | refine bN ?_ _ | refine bD ?_ | refine bA ?_ _); refine blk_put (cs := #[.int .i64 x361000_1, .int .i64 x361001_1]) ?_ 0 _ rfl; (with_reducible repeat first | refine bN ?_ _ | refine bD ?_ | refine bA ?_ _); exact BK360.out) Tryd.underlying26 rfl (by kernel_rfl)) rfl ?_
      exact ⟨by first | rfl | (simp [errW_none, errW_some] <;> rfl) | (simp [*, errW_none, errW_some] <;> rfl), by repeat (first | (with_reducible first | exact HB.out | apply bL | apply bM | apply bR | refine bS ?_ GE360.out) | exact HB.out)⟩
     ·rw [if_neg c7] at H
      have c7b0 : (((rd_T53 l0 x5_1).f0.f0) == a1_0 && (((rd_T53 l0 x5_1).f0.f1) == a1_1 && (((rd_T53 l0 x5_1).f0.f2) == a1_2))) = false := by simpa using c7
      (try (have c7b1 : decide (((rd_T53 l0 x5_1).f0.f0) = a1_0 && (((rd_T53 l0 x5_1).f0.f1) == a1_1 && (((rd_T53 l0 x5_1).f0.f2) == a1_2))) = false := by simpa using c7))
      (try (have c7b2 : (((rd_T53 l0 x5_1).f0.f0) == a1_0 && (((rd_T53 l0 x5_1).f0.f1) == a1_1 && (((rd_T53 l0 x5_1).f0.f2) == a1_2))) = false := by simpa using c7))
      (try (have c7b3 : ¬ (((rd_T53 l0 x5_1).f0.f0) = a1_0 && (((rd_T53 l0 x5_1).f0.f1) == a1_1 && (((rd_T53 l0 x5_1).f0.f2) == a1_2))) := by simpa using c7))
      clear c7
      have H' := Aside0.mk H
      clear H
      (try simp only [c7b0, c7b1, c7b2, c7b3])
      go_wp2
      repeat (go_quiet (fail); try go_wp2)
      go_roundg k1
      case measure => have := HK1.out; omega
      case rel => exact ⟨(wrap64 (x5_1 + 1)), (x361000_1), (x361001_1), (by first | rfl | (simp; done) | (simp [*]; done)), H', ⟨by have := HK1.out; omega⟩, ⟨by (with_reducible repeat first | refine bN ?_ _ | refine bD ?_ | refine bA ?_ _); exact BK359.out⟩, ⟨by (with_reducible repeat first | refine bN ?_ _ | refine bD ?_ | refine bA ?_ _); exact BK360.out⟩, ⟨by repeat (first | (with_reducible first | exact HB.out | apply bL | apply bM | apply bR | refine bS ?_ GE360.out) | exact HB.out)⟩⟩
    ·rw [if_neg c6] at H
     exact absurd H (by simp)
   ·rw [if_neg c5] at H
    have c5b0 : decide (x5_1 < (l0.length : Int)) = false := decide_eq_false c5
    clear c5
    simp only [Option.some.injEq, Prod.mk.injEq] at H
    obtain ⟨rfl, rfl⟩ := H
    have hnb13 := NB360_359.out
    have hnc13 := NB359_360.out
    obtain ⟨hcz14_0, hcz14_1, hfz14_0, hfz14_1⟩ := d2 BK360
    go_wp2
    repeat (go_quiet (fail); try go_wp2)
    refine bodyPost_ret (results_cell_row rfl _ _ gb360 26 #[.int .i64 0, .int .i64 0] (0, 0) _ rfl (by (with_reducible repeat first | refine bN ?_ _ | refine bD ?_ | refine bA ?_ _); refine blk_put (cs := #[.int .i64 0, .int .i64 x361001_1]) ?_ 1 _ rfl; (with_reducible repeat first | refine bN ?_ _ | refine bD ?_ | refine bA ?_ _); refine blk_put (cs := #[.int .i64 x361000_1, .int .i64 x361001_1]) ?_ 0 _ rfl; (with_reducible repeat first | refine bN ?_ _ | refine bD ?_ | refine bA ?_ _); exact BK360.out) Tryd.underlying26 rfl (by kernel_rfl)) rfl ?_
    exact ⟨by first | rfl | (simp [errW_none, errW_some] <;> rfl) | (simp [*, errW_none, errW_some] <;> rfl), by repeat (first | (with_reducible first | exact HB.out | apply bL | apply bM | apply bR | refine bS ?_ GE360.out) | exact HB.out)⟩
/-! ### holders_Procs: function 30 -/
def holders_Procs.l0 : Nat → List (S24) → List (S53) → Int → Int → Option ((List (S24)))
 | 0, _, _, _, _ => none
 | k + 1, x3, x6, x7, x8 => if x8 < x7 then (if 0 ≤ x8 then (if x8 < (x6.length : Int) then (if x3.length < 5864062014805 then (holders_Procs.l0 k (x3 ++ [(⟨(rd_T53 x6 x8).f0.f0, (rd_T53 x6 x8).f0.f1, (rd_T53 x6 x8).f0.f2⟩ : S24)]) x6 x7 (wrap64 (x8 + 1))) else (none)) else (none)) else (none)) else (some x3)
def holders_Procs.f (k : Nat) (l0 : List (S53)) : Option ((List (S24))) := holders_Procs.l0 k ([] : List (S24)) l0 (l0.length : Int) 0
theorem holders_Procs.mono_l : ∀ k, (∀ y0 y1 y2 y3, LeO (holders_Procs.l0 k y0 y1 y2 y3) (holders_Procs.l0 (k + 1) y0 y1 y2 y3))
 | 0 => fun _ _ _ _ r h => by simp [holders_Procs.l0] at h
 | k + 1 => by
  have ih0 := holders_Procs.mono_l k
  ·intro y0 y1 y2 y3
   unfold holders_Procs.l0
   repeat' first
   | (with_reducible exact ih0 _ _ _ _)
   | (with_reducible exact LeO.refl _)
   | (with_reducible exact LeO.none _)
   | (with_reducible refine LeO.ite ?_ ?_)
   | (with_reducible refine LeO.bind ?_ (fun _ => ?_))
   | exact ih0 _ _ _ _
   | exact LeO.none _
   | refine LeO.ite ?_ ?_
   | refine LeO.bind ?_ (fun _ => ?_)
theorem holders_Procs.mono : ∀ a0 k, LeO (holders_Procs.f k a0) (holders_Procs.f (k + 1) a0) := by
 intro a0 k
 have ih0 := holders_Procs.mono_l k
 unfold holders_Procs.f
 repeat' first
   | (with_reducible exact ih0 _ _ _ _)
   | (with_reducible exact LeO.refl _)
   | (with_reducible exact LeO.none _)
   | (with_reducible refine LeO.ite ?_ ?_)
   | (with_reducible refine LeO.bind ?_ (fun _ => ?_))
   | exact ih0 _ _ _ _
   | exact LeO.none _
   | refine LeO.ite ?_ ?_
   | refine LeO.bind ?_ (fun _ => ?_)
set_option maxHeartbeats 8000000 in
set_option maxRecDepth 100000 in
theorem holders_Procs.calls (k : Nat) (A0 : Option Addr) (c0 : Nat) (l0 : List (S53)) (r : List (S24)) (w : World) (hr0 : Kd.C k53 w A0 l0.length l0) (hc0 : l0.length ≤ c0) (h : holders_Procs.f k l0 = some r) :
  Calls Tryd.prog 30 #[.slice A0 l0.length c0] w fun e w' => ∃ v0_ : Value, e = .returned (v0_) ∧ Kd.R k24 24 w' w.heap.size (fun _ => True) v0_ r ∧ Below w.heap.size w w' := by
 have hu53 := Tryd.underlying53
 have hu24 := Tryd.underlying24
 have HR0 := Aside0.mk hr0
 have HC0 := Aside0.mk hc0
 clear hr0 hc0
 have HB := Aside0.mk (Below.refl w.heap.size w)
 have H : (holders_Procs.l0 k ([] : List (S24)) l0 (l0.length : Int) 0) = some r := h
 clear h
 have H' := Aside0.mk H
 clear H
 go_enter Tryd.func30, Tryd.ntmps30
 go_wp2
 go_loopg [3, 8] k (fun kq v3 v8 w' => ∃ (x3_1 : List (S24)) (x8_1 : Int), v8 = .int .i64 x8_1 ∧ Aside0 (holders_Procs.l0 kq x3_1 l0 (l0.length : Int) x8_1 = some r) ∧ Aside0 (kq ≤ k) ∧ Aside0 (Kd.R k24 24 w' w.heap.size (fun _ => True) v3 x3_1) ∧ Aside0 (Below w.heap.size w w'))
 case atStart => exact ⟨(([] : List (S24))), (0), (by first | rfl | (simp; done) | (simp [*]; done)), H', ⟨Nat.le_refl _⟩, ⟨by first | exact Kd.R_nil _ _ _ _ _ | exact Kd.N_nil _ _ _ _ _ | exact Kd.V_nil _ _ _ _ _ | exact Kd.Q_nil _ _ _ _ _ | exact Kd.S_nil _ _ _ _ _⟩, ⟨by repeat (first | (with_reducible first | exact HB.out | apply bL | apply bM | apply bR) | exact HB.out)⟩⟩
 case round =>
  clear H'
  obtain ⟨x3_1, x8_1, rfl, HA, HK1, HO_3, HB⟩ := hrel
  cases gk with
  | zero => exact absurd HA.out (by simp [holders_Procs.l0])
  | succ k1 =>
   have H := HA.out
   clear HA
   simp only [holders_Procs.l0] at H
   by_cases c2 : x8_1 < (l0.length : Int)
   ·rw [if_pos c2] at H
    have c2b0 : decide (x8_1 < (l0.length : Int)) = true := decide_eq_true c2
    clear c2
    by_cases c3 : 0 ≤ x8_1
    ·rw [if_pos c3] at H
     have c3b0 : decide (0 ≤ x8_1) = true := decide_eq_true c3
     clear c3
     by_cases c4 : x8_1 < (l0.length : Int)
     ·rw [if_pos c4] at H
      have c4b0 : decide (x8_1 < (l0.length : Int)) = true := decide_eq_true c4
      clear c4
      by_cases c5 : x3_1.length < 5864062014805
      ·rw [if_pos c5] at H
       have LMc5 := Aside0.mk c5
       clear c5
       obtain ⟨y365, hy365⟩ : ∃ y_ : List (S24), y_ = (x3_1 ++ [(⟨(rd_T53 l0 x8_1).f0.f0, (rd_T53 l0 x8_1).f0.f1, (rd_T53 l0 x8_1).f0.f2⟩ : S24)]) := ⟨_, rfl⟩
       replace H : (holders_Procs.l0 k1 y365 l0 (l0.length : Int) (wrap64 (x8_1 + 1))) = some r := by first | (rw [hy365]; with_reducible exact H) | (have H2_ := (Option.bind_some _ _).symm.trans H; rw [hy365]; with_reducible exact H2_) | (have H2_ := (Option.bind_some _ _).symm.trans H; with_reducible exact H2_) | with_reducible exact H | (rw [hy365]; exact H) | exact H
       have Ny365 := Aside0.mk hy365
       clear hy365
       have H' := Aside0.mk H
       clear H
       have p363 : 0 ≤ (x8_1 : Int) := of_decide_eq_true (by first | (with_reducible assumption) | assumption)
       have q363 : x8_1 < (l0.length : Int) := of_decide_eq_true (by first | (with_reducible assumption) | assumption)
       obtain ⟨ad363, e363, hx363_0, hx363_1, hx363_2, hx363_3, hx363_4⟩ := at_T53 HR0.out x8_1 p363 q363
       cases e363
       replace hx363_0 := kC HB hx363_0
       replace hx363_1 := kC HB hx363_1
       replace hx363_2 := kC HB hx363_2
       replace hx363_3 := kC HB hx363_3
       replace hx363_4 := kC HB hx363_4
       replace p363 := eq_true p363
       replace q363 := eq_true q363
       go_wp2_with (first | ((with_reducible refine gate_dst (N := 5) rfl ?_); refine box_event ?hg (N := 5) ?hd (cs := #[.int .i64 0, .int .i64 0, .int .i64 0, .int .i64 0, .int .i64 0]) (t := 53) ?hr ?_; (case hd => rfl); (case hg => rfl); (case hr => first | (go_simp; done) | (go_simp; rfl)); intro gb364 hg w6 hbox hb; replace HO_3 := Aside0.mk (Kd.R_below (by (with_reducible repeat (first | apply Kd.R_alloc | apply Kd.R_drewN | apply Kd.R_drew)); exact HO_3.out) hb); have BK364 := Aside0.mk hbox; have GW364 := gE HB hg; replace HB := bB HB hb; have GE364 := GW364; clear hb hbox hg; have hcz7_0 : w6.cell? ⟨gb364, 0, none⟩ = some (.int .i64 0) := bC BK364 0 rfl; have hcz7_1 : w6.cell? ⟨gb364, 1, none⟩ = some (.int .i64 0) := bC BK364 1 rfl; have hcz7_2 : w6.cell? ⟨gb364, 2, none⟩ = some (.int .i64 0) := bC BK364 2 rfl; have hcz7_3 : w6.cell? ⟨gb364, 3, none⟩ = some (.int .i64 0) := bC BK364 3 rfl; have hcz7_4 : w6.cell? ⟨gb364, 4, none⟩ = some (.int .i64 0) := bC BK364 4 rfl; have hfz7_0 := bF BK364 0; have hfz7_1 := bF BK364 1; have hfz7_2 := bF BK364 2; have hfz7_3 := bF BK364 3; have hfz7_4 := bF BK364 4) | ((with_reducible refine gate_builtin (b := .append) (xs := #[.tmp 12, .tmp 15]) rfl ?_); at_builtin; refine Kd.R_append k24 (w0 := w) w.heap.size rfl (.tmp 12) (.tmp 15) 35 24 (.agg #[(.int .i64 0), (.int .i64 0), (.int .i64 0)]) 24 rfl Tryd.underlying35 info24 rfl (by decide) (by omega) u3 x3_1 (⟨(rd_T53 l0 x8_1).f0.f0, (rd_T53 l0 x8_1).f0.f1, (rd_T53 l0 x8_1).f0.f2⟩ : S24) [.int .i64 ((rd_T53 l0 x8_1).f0.f0), .int .i64 ((rd_T53 l0 x8_1).f0.f1), .int .i64 ((rd_T53 l0 x8_1).f0.f2)] (fun _ => True) (fun _ => False) rfl (by first | (go_simp; done) | (go_simp; rfl)) ?aP (fun _ hk => hk.elim) ?aF ?aO ?aB ?aS ?aL ?_; (case aP => exact k24_mkM _ _ _ (⟨(rd_T53 l0 x8_1).f0.f0, (rd_T53 l0 x8_1).f0.f1, (rd_T53 l0 x8_1).f0.f2⟩ : S24)); (case aB => exact (by repeat (first | (with_reducible first | exact HB.out | apply bL | apply bM | apply bR | refine bS ?_ GE364.out) | exact HB.out))); (case aF => exact (fun _ _ => trivial)); (case aO => exact (by (with_reducible repeat (first | apply Kd.R_alloc | apply Kd.R_drewN | apply Kd.R_drew)); exact Kd.R_mono (Kd.R_far (p := ⟨gb364, 4, none⟩) (Kd.R_far (p := ⟨gb364, 3, none⟩) (Kd.R_far (p := ⟨gb364, 2, none⟩) (Kd.R_far (p := ⟨gb364, 1, none⟩) (Kd.R_far (p := ⟨gb364, 0, none⟩) (Kd.R_types HO_3.out BK364.out (by decide)) (fun _ hk => hk.2) (.int .i64 ((rd_T53 l0 x8_1).f0.f0))) (fun _ hk => hk.2) (.int .i64 ((rd_T53 l0 x8_1).f0.f1))) (fun _ hk => hk.2) (.int .i64 ((rd_T53 l0 x8_1).f0.f2))) (fun _ hk => hk.2) (.int .i64 ((rd_T53 l0 x8_1).f1.f0))) (fun _ hk => hk.2) (.int .i64 ((rd_T53 l0 x8_1).f1.f1))) (fun _ hk => trivial))); (case aS => exact (below_size (by repeat (first | (with_reducible first | exact HB.out | apply bL | apply bM | apply bR | refine bS ?_ GE364.out) | exact HB.out)))); (case aL => have := LMc5.out; omega); intro v366 w8 ho hb hg hat; rw [← Ny365.out] at ho; replace BK364 := Aside0.mk (blk_grown (g := gb364) (o := .cells #[.int .i64 ((rd_T53 l0 x8_1).f0.f0), .int .i64 ((rd_T53 l0 x8_1).f0.f1), .int .i64 ((rd_T53 l0 x8_1).f0.f2), .int .i64 ((rd_T53 l0 x8_1).f1.f0), .int .i64 ((rd_T53 l0 x8_1).f1.f1)] 53 (0, 0)) (by (with_reducible repeat first | refine bN ?_ _ | refine bD ?_ | refine bA ?_ _); refine blk_put (cs := #[.int .i64 ((rd_T53 l0 x8_1).f0.f0), .int .i64 ((rd_T53 l0 x8_1).f0.f1), .int .i64 ((rd_T53 l0 x8_1).f0.f2), .int .i64 ((rd_T53 l0 x8_1).f1.f0), .int .i64 0]) ?_ 4 _ rfl; (with_reducible repeat first | refine bN ?_ _ | refine bD ?_ | refine bA ?_ _); refine blk_put (cs := #[.int .i64 ((rd_T53 l0 x8_1).f0.f0), .int .i64 ((rd_T53 l0 x8_1).f0.f1), .int .i64 ((rd_T53 l0 x8_1).f0.f2), .int .i64 0, .int .i64 0]) ?_ 3 _ rfl; (with_reducible repeat first | refine bN ?_ _ | refine bD ?_ | refine bA ?_ _); refine blk_put (cs := #[.int .i64 ((rd_T53 l0 x8_1).f0.f0), .int .i64 ((rd_T53 l0 x8_1).f0.f1), .int .i64 0, .int .i64 0, .int .i64 0]) ?_ 2 _ rfl; (with_reducible repeat first | refine bN ?_ _ | refine bD ?_ | refine bA ?_ _); refine blk_put (cs := #[.int .i64 ((rd_T53 l0 x8_1).f0.f0), .int .i64 0, .int .i64 0, .int .i64 0, .int .i64 0]) ?_ 1 _ rfl; (with_reducible repeat first | refine bN ?_ _ | refine bD ?_ | refine bA ?_ _); refine blk_put (cs := #[.int .i64 0, .int .i64 0, .int .i64 0, .int .i64 0, .int .i64 0]) ?_ 0 _ rfl; (with_reducible repeat first | refine bN ?_ _ | refine bD ?_ | refine bA ?_ _); exact BK364.out) hg (Kd.R_ne HO_3.out BK364.out (by decide))); replace HB := Aside0.mk (hb); have HO367 := Aside0.mk (ho); clear HO_3; clear ho hb hg hat))
       go_roundg k1
       case measure => have := HK1.out; omega
       case rel => exact ⟨(y365), (wrap64 (x8_1 + 1)), (by first | rfl | (simp; done) | (simp [*]; done)), H', ⟨by have := HK1.out; omega⟩, ⟨by (with_reducible repeat (first | apply Kd.R_alloc | apply Kd.R_drewN | apply Kd.R_drew)); exact HO367.out⟩, ⟨by repeat (first | (with_reducible first | exact HB.out | apply bL | apply bM | apply bR | refine bS ?_ GE364.out) | exact HB.out)⟩⟩
      ·rw [if_neg c5] at H
       exact absurd H (by simp)
     ·rw [if_neg c4] at H
      exact absurd H (by simp)
    ·rw [if_neg c3] at H
     exact absurd H (by simp)
   ·rw [if_neg c2] at H
    have c2b0 : decide (x8_1 < (l0.length : Int)) = false := decide_eq_false c2
    clear c2
    obtain rfl := Option.some.inj H
    go_wp2
    go_ret
    exact ⟨_, by first | rfl | (simp [errW_none, errW_some] <;> rfl) | (simp [*, errW_none, errW_some] <;> rfl), by (with_reducible repeat (first | apply Kd.R_alloc | apply Kd.R_drewN | apply Kd.R_drew)); exact HO_3.out, by repeat (first | (with_reducible first | exact HB.out | apply bL | apply bM | apply bR) | exact HB.out)⟩
end Go.Proofs.YtnmemkphfgdplaaDoor.PA

