/- The three numbers of a process, and how two triples compare. Conditions: none. -/
import Derived.Test.YtnmemkphfgdplaaDoorPAx0
import Derived.Test.YtnmemkphfgdplaaDoorSlim
import Derived.Deep.QuietTactic
import Derived.BigQuiet
import Derived.Lib.ReflectliteSlice
import Derived.Laws.Externs
namespace Go.Proofs.YtnmemkphfgdplaaDoor.PA
open Go.RowKit Go.Proofs.YtnmemkphfgdplaaDoorW.PrintWords Go.Proofs.YtnmemkphfgdplaaDoorW.PrintLast Go.Proofs.YtnmemkphfgdplaaDoorW.PrintMore
attribute [local go_sem] max2_int min2_int max_two min_two max_three min_three max_four min_four
set_option linter.unusedVariables false
set_option linter.unusedSimpArgs false
set_option maxHeartbeats 4000000 in
set_option maxRecDepth 100000 in
theorem ident_triple.calls (a b c : Int) (w : World) :
  Calls Tryd.prog 62 #[.agg #[.int .i64 a, .int .i64 b, .int .i64 c]] w fun e w' => e = .returned (.agg #[.int .i64 a, .int .i64 b, .int .i64 c]) ∧ Below w.heap.size w w' := by
 have hu24 := Tryd.underlying24
 have hu75 := Tryd.underlying75
 have HB := Aside0.mk (Below.refl w.heap.size w)
 go_enter Tryd.func62, Tryd.ntmps62
 go_upto_region 1 with (first | ((with_reducible refine gate_dst (N := 1) rfl ?_); refine box_event ?hg (N := 1) ?hd (cs := #[.int .i64 a, .int .i64 b, .int .i64 c]) (t := 24) ?hr ?_; (case hd => rfl); (case hg => rfl); (case hr => first | (go_simp; done) | (go_simp; rfl)); intro gb1 hg w3 hbox hb; replace HB := Aside0.mk (below_step HB.out hb); have BK1 := Aside0.mk (hbox); clear hb hbox hg) | ((with_reducible refine gate_dst (N := 2) rfl ?_); refine box_event ?hg (N := 2) ?hd (cs := #[.int .i64 0, .int .i64 0, .int .i64 0]) (t := 75) ?hr ?_; (case hd => rfl); (case hg => rfl); (case hr => first | (go_simp; done) | (go_simp; rfl)); intro gb2 hg w4 hbox hb; have n0_ := blkB BK1 (by (with_reducible repeat (first | refine blk_drewN ?_ _ | refine blk_drew ?_ | refine blk_alloc ?_ _)); exact BK1.out) hb; have n1_ := bB HB hb; have n2_ := Aside0.mk (hbox); have n4_ := Aside0.mk ((by rw [hg]; exact (below_size (uB HB)) : w.heap.size ≤ gb2)); clear BK1; clear HB; have BK1 := n0_; have HB := n1_; have BK2 := n2_; have GE2 := n4_; clear n0_ n1_ n2_ n4_; clear hb hbox hg))
 obtain ⟨hcz1_0, hcz1_1, hcz1_2, hfz1_0, hfz1_1, hfz1_2⟩ := d3 BK1
 obtain ⟨hcz2_0, hcz2_1, hcz2_2, hfz2_0, hfz2_1, hfz2_2⟩ := d3 BK2
 try go_wp2
 refine bodyPost_ret (results_cell_row rfl _ _ gb2 75 #[.int .i64 a, .int .i64 b, .int .i64 c] (0, 0) _ rfl (by refine blk_put (cs := #[.int .i64 a, .int .i64 b, .int .i64 0]) ?_ 2 _ rfl; refine blk_put (cs := #[.int .i64 a, .int .i64 0, .int .i64 0]) ?_ 1 _ rfl; refine blk_put (cs := #[.int .i64 0, .int .i64 0, .int .i64 0]) ?_ 0 _ rfl; exact BK2.out) Tryd.underlying75 rfl (by kernel_rfl)) rfl ?_
 exact ⟨by first | rfl | (simp [*]), by repeat (first | (with_reducible first | exact HB.out | apply bL | apply bM | apply bR | refine below_set ?_ GE2.out) | exact HB.out)⟩
def order_l : Nat → Int → Int → Int → Int → Int → Int → Int → Option Int
 | 0, _, _, _, _, _, _, _ => none
 | k + 1, a0, a1, a2, b0, b1, b2, i => if i = 0 then (if a0 < b0 then some (-1) else if a0 > b0 then some 1 else order_l k a0 a1 a2 b0 b1 b2 1) else if i = 1 then (if a1 < b1 then some (-1) else if a1 > b1 then some 1 else order_l k a0 a1 a2 b0 b1 b2 2) else if i = 2 then (if a2 < b2 then some (-1) else if a2 > b2 then some 1 else order_l k a0 a1 a2 b0 b1 b2 3) else if i = 3 then some 0 else none
set_option maxHeartbeats 4000000 in
set_option maxRecDepth 100000 in
theorem ident_order.calls (k : Nat) (a0 a1 a2 b0 b1 b2 r : Int) (w : World) (h : order_l k a0 a1 a2 b0 b1 b2 0 = some r) :
  Calls Tryd.prog 61 #[.agg #[.int .i64 a0, .int .i64 a1, .int .i64 a2], .agg #[.int .i64 b0, .int .i64 b1, .int .i64 b2]] w fun e w' => e = .returned (.int .i64 r) ∧ Below w.heap.size w w' := by
 have hu75 := Tryd.underlying75
 have HB := Aside0.mk (Below.refl w.heap.size w)
 have H' := Aside0.mk h
 clear h
 go_enter Tryd.func61, Tryd.ntmps61
 go_wp2_with (first | ((with_reducible refine gate_dst (N := 2) rfl ?_); refine box_event ?hg (N := 2) ?hd (cs := #[.int .i64 a0, .int .i64 a1, .int .i64 a2]) (t := 75) ?hr ?_; (case hd => rfl); (case hg => rfl); (case hr => first | (go_simp; done) | (go_simp; rfl)); intro gb1 hg w3 hbox hb; replace HB := Aside0.mk (below_step HB.out hb); have BK1 := Aside0.mk (hbox); clear hb hbox hg) | ((with_reducible refine gate_dst (N := 3) rfl ?_); refine box_event ?hg (N := 3) ?hd (cs := #[.int .i64 b0, .int .i64 b1, .int .i64 b2]) (t := 75) ?hr ?_; (case hd => rfl); (case hg => rfl); (case hr => first | (go_simp; done) | (go_simp; rfl)); intro gb2 hg w4 hbox hb; replace BK1 := blkB BK1 (by (with_reducible repeat (first | refine blk_drewN ?_ _ | refine blk_drew ?_ | refine blk_alloc ?_ _)); exact BK1.out) hb; replace HB := bB HB hb; have BK2 := Aside0.mk (hbox); clear hb hbox hg))
 go_loopg [6] k (fun kq v6 w' => ∃ (i : Int), v6 = .int .i64 i ∧ Aside0 (order_l kq a0 a1 a2 b0 b1 b2 i = some r) ∧ Aside0 (kq ≤ k) ∧ Aside0 (w'.heap[gb1]? = some (.cells #[.int .i64 a0, .int .i64 a1, .int .i64 a2] 75 (0, 0))) ∧ Aside0 (w'.heap[gb2]? = some (.cells #[.int .i64 b0, .int .i64 b1, .int .i64 b2] 75 (0, 0))) ∧ Aside0 (Below w.heap.size w w'))
 case atStart => exact ⟨0, (by first | rfl | (simp; done) | (simp [*]; done)), H', ⟨Nat.le_refl _⟩, ⟨by (with_reducible repeat (first | refine blk_drewN ?_ _ | refine blk_drew ?_ | refine blk_alloc ?_ _)); exact BK1.out⟩, ⟨by (with_reducible repeat (first | refine blk_drewN ?_ _ | refine blk_drew ?_ | refine blk_alloc ?_ _)); exact BK2.out⟩, ⟨by repeat (first | (with_reducible first | exact HB.out | apply bL | apply bM | apply bR) | exact HB.out)⟩⟩
 case round =>
  clear H'
  obtain ⟨i, rfl, HA, HK1, BK1, BK2, HB⟩ := hrel
  cases gk with
  | zero => exact absurd HA.out (by simp [order_l])
  | succ k1 =>
   have H := HA.out
   clear HA
   simp only [order_l] at H
   have hca_0 : wr.cell? ⟨gb1, 0, none⟩ = some (.int .i64 a0) := bC BK1 0 rfl
   have hfa_0 := bF BK1 0
   have hca_1 : wr.cell? ⟨gb1, 1, none⟩ = some (.int .i64 a1) := bC BK1 1 rfl
   have hfa_1 := bF BK1 1
   have hca_2 : wr.cell? ⟨gb1, 2, none⟩ = some (.int .i64 a2) := bC BK1 2 rfl
   have hfa_2 := bF BK1 2
   have hcb_0 : wr.cell? ⟨gb2, 0, none⟩ = some (.int .i64 b0) := bC BK2 0 rfl
   have hfb_0 := bF BK2 0
   have hcb_1 : wr.cell? ⟨gb2, 1, none⟩ = some (.int .i64 b1) := bC BK2 1 rfl
   have hfb_1 := bF BK2 1
   have hcb_2 : wr.cell? ⟨gb2, 2, none⟩ = some (.int .i64 b2) := bC BK2 2 rfl
   have hfb_2 := bF BK2 2
   by_cases ci0 : i = 0
   ·subst ci0
    rw [if_pos rfl] at H
    by_cases l_ : a0 < b0
    ·rw [if_pos l_] at H
     obtain rfl := Option.some.inj H
     have l0_ : decide (a0 < b0) = true := decide_eq_true l_
     clear l_
     go_wp2
     go_quiet (fail)
     go_wp2
     go_ret
     exact ⟨rfl, by repeat (first | (with_reducible first | exact HB.out | apply bL | apply bM | apply bR) | exact HB.out)⟩
    ·rw [if_neg l_] at H
     have l0_ : decide (a0 < b0) = false := decide_eq_false l_
     clear l_
     by_cases m_ : a0 > b0
     ·rw [if_pos m_] at H
      obtain rfl := Option.some.inj H
      have m0_ : decide (b0 < a0) = true := decide_eq_true m_
      have m1_ : decide (a0 > b0) = true := decide_eq_true m_
      clear m_
      go_wp2
      go_quiet (fail)
      go_wp2
      go_quiet (fail)
      go_wp2
      go_ret
      exact ⟨rfl, by repeat (first | (with_reducible first | exact HB.out | apply bL | apply bM | apply bR) | exact HB.out)⟩
     ·rw [if_neg m_] at H
      have H' := Aside0.mk H
      clear H
      have m0_ : decide (b0 < a0) = false := decide_eq_false m_
      have m1_ : decide (a0 > b0) = false := decide_eq_false m_
      clear m_
      go_wp2
      go_quiet (fail)
      go_wp2
      go_quiet (fail)
      go_wp2
      go_roundg k1
      case measure => have := HK1.out; omega
      case rel => exact ⟨1, (by first | rfl | (simp; done) | (simp [*]; done)), H', ⟨by have := HK1.out; omega⟩, ⟨by (with_reducible repeat (first | refine blk_drewN ?_ _ | refine blk_drew ?_ | refine blk_alloc ?_ _)); exact BK1.out⟩, ⟨by (with_reducible repeat (first | refine blk_drewN ?_ _ | refine blk_drew ?_ | refine blk_alloc ?_ _)); exact BK2.out⟩, ⟨by repeat (first | (with_reducible first | exact HB.out | apply bL | apply bM | apply bR) | exact HB.out)⟩⟩
   by_cases ci1 : i = 1
   ·subst ci1
    rw [if_neg (by decide)] at H; rw [if_pos rfl] at H
    by_cases l_ : a1 < b1
    ·rw [if_pos l_] at H
     obtain rfl := Option.some.inj H
     have l0_ : decide (a1 < b1) = true := decide_eq_true l_
     clear l_
     go_wp2
     go_quiet (fail)
     go_wp2
     go_ret
     exact ⟨rfl, by repeat (first | (with_reducible first | exact HB.out | apply bL | apply bM | apply bR) | exact HB.out)⟩
    ·rw [if_neg l_] at H
     have l0_ : decide (a1 < b1) = false := decide_eq_false l_
     clear l_
     by_cases m_ : a1 > b1
     ·rw [if_pos m_] at H
      obtain rfl := Option.some.inj H
      have m0_ : decide (b1 < a1) = true := decide_eq_true m_
      have m1_ : decide (a1 > b1) = true := decide_eq_true m_
      clear m_
      go_wp2
      go_quiet (fail)
      go_wp2
      go_quiet (fail)
      go_wp2
      go_ret
      exact ⟨rfl, by repeat (first | (with_reducible first | exact HB.out | apply bL | apply bM | apply bR) | exact HB.out)⟩
     ·rw [if_neg m_] at H
      have H' := Aside0.mk H
      clear H
      have m0_ : decide (b1 < a1) = false := decide_eq_false m_
      have m1_ : decide (a1 > b1) = false := decide_eq_false m_
      clear m_
      go_wp2
      go_quiet (fail)
      go_wp2
      go_quiet (fail)
      go_wp2
      go_roundg k1
      case measure => have := HK1.out; omega
      case rel => exact ⟨2, (by first | rfl | (simp; done) | (simp [*]; done)), H', ⟨by have := HK1.out; omega⟩, ⟨by (with_reducible repeat (first | refine blk_drewN ?_ _ | refine blk_drew ?_ | refine blk_alloc ?_ _)); exact BK1.out⟩, ⟨by (with_reducible repeat (first | refine blk_drewN ?_ _ | refine blk_drew ?_ | refine blk_alloc ?_ _)); exact BK2.out⟩, ⟨by repeat (first | (with_reducible first | exact HB.out | apply bL | apply bM | apply bR) | exact HB.out)⟩⟩
   by_cases ci2 : i = 2
   ·subst ci2
    rw [if_neg (by decide)] at H; rw [if_neg (by decide)] at H; rw [if_pos rfl] at H
    by_cases l_ : a2 < b2
    ·rw [if_pos l_] at H
     obtain rfl := Option.some.inj H
     have l0_ : decide (a2 < b2) = true := decide_eq_true l_
     clear l_
     go_wp2
     go_quiet (fail)
     go_wp2
     go_ret
     exact ⟨rfl, by repeat (first | (with_reducible first | exact HB.out | apply bL | apply bM | apply bR) | exact HB.out)⟩
    ·rw [if_neg l_] at H
     have l0_ : decide (a2 < b2) = false := decide_eq_false l_
     clear l_
     by_cases m_ : a2 > b2
     ·rw [if_pos m_] at H
      obtain rfl := Option.some.inj H
      have m0_ : decide (b2 < a2) = true := decide_eq_true m_
      have m1_ : decide (a2 > b2) = true := decide_eq_true m_
      clear m_
      go_wp2
      go_quiet (fail)
      go_wp2
      go_quiet (fail)
      go_wp2
      go_ret
      exact ⟨rfl, by repeat (first | (with_reducible first | exact HB.out | apply bL | apply bM | apply bR) | exact HB.out)⟩
     ·rw [if_neg m_] at H
      have H' := Aside0.mk H
      clear H
      have m0_ : decide (b2 < a2) = false := decide_eq_false m_
      have m1_ : decide (a2 > b2) = false := decide_eq_false m_
      clear m_
      go_wp2
      go_quiet (fail)
      go_wp2
      go_quiet (fail)
      go_wp2
      go_roundg k1
      case measure => have := HK1.out; omega
      case rel => exact ⟨3, (by first | rfl | (simp; done) | (simp [*]; done)), H', ⟨by have := HK1.out; omega⟩, ⟨by (with_reducible repeat (first | refine blk_drewN ?_ _ | refine blk_drew ?_ | refine blk_alloc ?_ _)); exact BK1.out⟩, ⟨by (with_reducible repeat (first | refine blk_drewN ?_ _ | refine blk_drew ?_ | refine blk_alloc ?_ _)); exact BK2.out⟩, ⟨by repeat (first | (with_reducible first | exact HB.out | apply bL | apply bM | apply bR) | exact HB.out)⟩⟩
   by_cases ci3 : i = 3
   ·subst ci3
    rw [if_neg (by decide)] at H; rw [if_neg (by decide)] at H; rw [if_neg (by decide)] at H; rw [if_pos rfl] at H
    obtain rfl := Option.some.inj H
    go_wp2
    go_ret
    exact ⟨rfl, by repeat (first | (with_reducible first | exact HB.out | apply bL | apply bM | apply bR) | exact HB.out)⟩
   rw [if_neg ci0, if_neg ci1, if_neg ci2, if_neg ci3] at H
   exact absurd H (by simp)
end Go.Proofs.YtnmemkphfgdplaaDoor.PA
namespace Go.Proofs.YtnmemkphfgdplaaDoor.PA
open Go.RowKit Go.Proofs.YtnmemkphfgdplaaDoorW.PrintWords Go.Proofs.YtnmemkphfgdplaaDoorW.PrintLast Go.Proofs.YtnmemkphfgdplaaDoorW.PrintMore
attribute [local go_sem] max2_int min2_int max_two min_two max_three min_three max_four min_four
set_option linter.unusedVariables false
set_option linter.unusedSimpArgs false
set_option maxHeartbeats 4000000 in
set_option maxRecDepth 100000 in
theorem ident_CompareProc.callsK (k : Nat) (a0 a1 a2 b0 b1 b2 r : Int) (w : World) (h : order_l k a0 a1 a2 b0 b1 b2 0 = some r) :
  Calls Tryd.prog 46 #[.agg #[.int .i64 a0, .int .i64 a1, .int .i64 a2], .agg #[.int .i64 b0, .int .i64 b1, .int .i64 b2]] w fun e w' => e = .returned (.int .i64 r) ∧ Below w.heap.size w w' := by
 have hu24 := Tryd.underlying24
 have HB := Aside0.mk (Below.refl w.heap.size w)
 have H0 := Aside0.mk h
 clear h
 go_enter Tryd.func46, Tryd.ntmps46
 go_upto_region 1 with (first | ((with_reducible refine gate_dst (N := 2) rfl ?_); refine box_event ?hg (N := 2) ?hd (cs := #[.int .i64 a0, .int .i64 a1, .int .i64 a2]) (t := 24) ?hr ?_; (case hd => rfl); (case hg => rfl); (case hr => first | (go_simp; done) | (go_simp; rfl)); intro gb1 hg w3 hbox hb; have n0_ := bB HB hb; have n1_ := Aside0.mk hbox; clear HB ; have HB := n0_; have BK1 := n1_; clear n0_ n1_; clear hb hbox hg) | ((with_reducible refine gate_dst (N := 3) rfl ?_); refine box_event ?hg (N := 3) ?hd (cs := #[.int .i64 b0, .int .i64 b1, .int .i64 b2]) (t := 24) ?hr ?_; (case hd => rfl); (case hg => rfl); (case hr => first | (go_simp; done) | (go_simp; rfl)); intro gb2 hg w4 hbox hb; replace BK1 := bK BK1 hb; replace HB := bB HB hb; have BK2 := Aside0.mk hbox; clear hb hbox hg))
 have hca0_w4 : w4.cell? ⟨gb1, 0, none⟩ = some (.int .i64 a0) := bC BK1 0 rfl
 have hfa0_w4 := bF BK1 0
 have hca1_w4 : w4.cell? ⟨gb1, 1, none⟩ = some (.int .i64 a1) := bC BK1 1 rfl
 have hfa1_w4 := bF BK1 1
 have hca2_w4 : w4.cell? ⟨gb1, 2, none⟩ = some (.int .i64 a2) := bC BK1 2 rfl
 have hfa2_w4 := bF BK1 2
 have hcb0_w4 : w4.cell? ⟨gb2, 0, none⟩ = some (.int .i64 b0) := bC BK2 0 rfl
 have hfb0_w4 := bF BK2 0
 have hcb1_w4 : w4.cell? ⟨gb2, 1, none⟩ = some (.int .i64 b1) := bC BK2 1 rfl
 have hfb1_w4 := bF BK2 1
 have hcb2_w4 : w4.cell? ⟨gb2, 2, none⟩ = some (.int .i64 b2) := bC BK2 2 rfl
 have hfb2_w4 := bF BK2 2
 go_region_with (first | (go_at_call 62; (with_reducible refine (ident_triple.calls a0 a1 a2 _).mono ?_); rintro e w5 ⟨rfl, hb⟩; replace BK1 := bK BK1 hb; replace BK2 := bK BK2 hb; replace HB := bB HB hb; clear hb; have hca0_w5 : w5.cell? ⟨gb1, 0, none⟩ = some (.int .i64 a0) := bC BK1 0 rfl; have hfa0_w5 := bF BK1 0; have hca1_w5 : w5.cell? ⟨gb1, 1, none⟩ = some (.int .i64 a1) := bC BK1 1 rfl; have hfa1_w5 := bF BK1 1; have hca2_w5 : w5.cell? ⟨gb1, 2, none⟩ = some (.int .i64 a2) := bC BK1 2 rfl; have hfa2_w5 := bF BK1 2; have hcb0_w5 : w5.cell? ⟨gb2, 0, none⟩ = some (.int .i64 b0) := bC BK2 0 rfl; have hfb0_w5 := bF BK2 0; have hcb1_w5 : w5.cell? ⟨gb2, 1, none⟩ = some (.int .i64 b1) := bC BK2 1 rfl; have hfb1_w5 := bF BK2 1; have hcb2_w5 : w5.cell? ⟨gb2, 2, none⟩ = some (.int .i64 b2) := bC BK2 2 rfl; have hfb2_w5 := bF BK2 2) | (go_at_call 62; (with_reducible refine (ident_triple.calls b0 b1 b2 _).mono ?_); rintro e w6 ⟨rfl, hb⟩; replace BK1 := bK BK1 hb; replace BK2 := bK BK2 hb; replace HB := bB HB hb; clear hb; have hca0_w6 : w6.cell? ⟨gb1, 0, none⟩ = some (.int .i64 a0) := bC BK1 0 rfl; have hfa0_w6 := bF BK1 0; have hca1_w6 : w6.cell? ⟨gb1, 1, none⟩ = some (.int .i64 a1) := bC BK1 1 rfl; have hfa1_w6 := bF BK1 1; have hca2_w6 : w6.cell? ⟨gb1, 2, none⟩ = some (.int .i64 a2) := bC BK1 2 rfl; have hfa2_w6 := bF BK1 2; have hcb0_w6 : w6.cell? ⟨gb2, 0, none⟩ = some (.int .i64 b0) := bC BK2 0 rfl; have hfb0_w6 := bF BK2 0; have hcb1_w6 : w6.cell? ⟨gb2, 1, none⟩ = some (.int .i64 b1) := bC BK2 1 rfl; have hfb1_w6 := bF BK2 1; have hcb2_w6 : w6.cell? ⟨gb2, 2, none⟩ = some (.int .i64 b2) := bC BK2 2 rfl; have hfb2_w6 := bF BK2 2) | (go_at_call 61; (with_reducible refine (ident_order.calls k a0 a1 a2 b0 b1 b2 r _ H0.out).mono ?_); rintro e w7 ⟨rfl, hb⟩; replace BK1 := bK BK1 hb; replace BK2 := bK BK2 hb; replace HB := bB HB hb; clear hb; have hca0_w7 : w7.cell? ⟨gb1, 0, none⟩ = some (.int .i64 a0) := bC BK1 0 rfl; have hfa0_w7 := bF BK1 0; have hca1_w7 : w7.cell? ⟨gb1, 1, none⟩ = some (.int .i64 a1) := bC BK1 1 rfl; have hfa1_w7 := bF BK1 1; have hca2_w7 : w7.cell? ⟨gb1, 2, none⟩ = some (.int .i64 a2) := bC BK1 2 rfl; have hfa2_w7 := bF BK1 2; have hcb0_w7 : w7.cell? ⟨gb2, 0, none⟩ = some (.int .i64 b0) := bC BK2 0 rfl; have hfb0_w7 := bF BK2 0; have hcb1_w7 : w7.cell? ⟨gb2, 1, none⟩ = some (.int .i64 b1) := bC BK2 1 rfl; have hfb1_w7 := bF BK2 1; have hcb2_w7 : w7.cell? ⟨gb2, 2, none⟩ = some (.int .i64 b2) := bC BK2 2 rfl; have hfb2_w7 := bF BK2 2))
 all_goals (go_wp2; go_ret; exact ⟨rfl, by repeat (first | (with_reducible first | exact HB.out | apply bL | apply bM | apply bR) | exact HB.out)⟩)
end Go.Proofs.YtnmemkphfgdplaaDoor.PA
namespace Go.Proofs.YtnmemkphfgdplaaDoor.PA
open Go.RowKit Go.Proofs.YtnmemkphfgdplaaDoorW.PrintWords Go.Proofs.YtnmemkphfgdplaaDoorW.PrintLast Go.Proofs.YtnmemkphfgdplaaDoorW.PrintMore
attribute [local go_sem] max2_int min2_int max_two min_two max_three min_three max_four min_four
set_option linter.unusedVariables false
set_option linter.unusedSimpArgs false
/-- How two triples compare. -/
def cmp3 (a0 a1 a2 b0 b1 b2 : Int) : Int := if a0 < b0 then -1 else if a0 > b0 then 1 else if a1 < b1 then -1 else if a1 > b1 then 1 else if a2 < b2 then -1 else if a2 > b2 then 1 else 0
theorem order_cmp3 (a0 a1 a2 b0 b1 b2 : Int) : order_l 4 a0 a1 a2 b0 b1 b2 0 = some (cmp3 a0 a1 a2 b0 b1 b2) := by
 simp only [order_l, cmp3]
 simp
 repeat' split
 all_goals rfl
theorem ident_CompareProc.calls3 (a0 a1 a2 b0 b1 b2 : Int) (w : World) :
  Calls Tryd.prog 46 #[.agg #[.int .i64 a0, .int .i64 a1, .int .i64 a2], .agg #[.int .i64 b0, .int .i64 b1, .int .i64 b2]] w fun e w' => e = .returned (.int .i64 (cmp3 a0 a1 a2 b0 b1 b2)) ∧ Below w.heap.size w w' := ident_CompareProc.callsK 4 a0 a1 a2 b0 b1 b2 _ w (order_cmp3 a0 a1 a2 b0 b1 b2)
set_option maxHeartbeats 4000000 in
set_option maxRecDepth 100000 in
theorem holders_rising1.calls (ad : Addr) (c : Nat) (l : List S53) (gb : Nat) (i j : Int) (w : World) (hr : Kd.C k53 w (some ad) l.length l) (hg : w.cell? ⟨gb, 0, none⟩ = some (.slice (some ad) l.length c)) (hi0 : 0 ≤ i) (hi1 : i < l.length) (hj0 : 0 ≤ j) (hj1 : j < l.length) :
  Calls Tryd.prog 64 #[.int .i64 i, .int .i64 j, .pointer (some ⟨gb, 0, none⟩)] w fun e w' => e = .returned (.bool (decide (cmp3 (rd_T53 l i).f0.f0 (rd_T53 l i).f0.f1 (rd_T53 l i).f0.f2 (rd_T53 l j).f0.f0 (rd_T53 l j).f0.f1 (rd_T53 l j).f0.f2 < 0))) ∧ Below w.heap.size w w' := by
 have hu22 := Tryd.underlying22
 have hu24 := Tryd.underlying24
 have hu53 := Tryd.underlying53
 obtain ⟨adi, ei, hxi0, hxi1, hxi2, _, _⟩ := at_T53 hr i hi0 hi1
 cases ei
 obtain ⟨adj, ej, hxj0, hxj1, hxj2, _, _⟩ := at_T53 hr j hj0 hj1
 cases ej
 replace hi0 := eq_true hi0
 replace hi1 := eq_true hi1
 replace hj0 := eq_true hj0
 replace hj1 := eq_true hj1
 go_enter Tryd.func64, Tryd.ntmps64
 try go_wp2
 refine start_ (n := 13) (S := fun w' => w'.cell? ⟨gb, 0, none⟩ = some (.slice (some ad) l.length c) ∧ w'.cell? (ad.add (i.toNat * 5)) = some (.int .i64 (rd_T53 l i).f0.f0) ∧ w'.cell? ⟨(ad.add (i.toNat * 5)).block, (ad.add (i.toNat * 5)).off + 1, none⟩ = some (.int .i64 (rd_T53 l i).f0.f1) ∧ w'.cell? ⟨(ad.add (i.toNat * 5)).block, (ad.add (i.toNat * 5)).off + 2, none⟩ = some (.int .i64 (rd_T53 l i).f0.f2) ∧ w'.cell? (ad.add (j.toNat * 5)) = some (.int .i64 (rd_T53 l j).f0.f0) ∧ w'.cell? ⟨(ad.add (j.toNat * 5)).block, (ad.add (j.toNat * 5)).off + 1, none⟩ = some (.int .i64 (rd_T53 l j).f0.f1) ∧ w'.cell? ⟨(ad.add (j.toNat * 5)).block, (ad.add (j.toNat * 5)).off + 2, none⟩ = some (.int .i64 (rd_T53 l j).f0.f2)) (ds := []) #[false, false, false, false, false, false, false, false, false, false, false, false, false] (by kernel_rfl) rfl rfl ⟨hg, hxi0, hxi1, hxi2, hxj0, hxj1, hxj2⟩ (fun hHeld => ?_)
 refine take_ (i := 0) (N := some 6) (v := ?_) (a' := ?_) #[true, false, false, false, false, false, false, false, false, false, false, false, false] rfl rfl (by kernel_rfl) (fun _ _ _ h => h) (Or.inl ⟨by rfl, ?_⟩) hHeld ?_ ?_
 rotate_left
 ·rintro w' ⟨s0, s1, s2, s3, s4, s5, s6⟩
  go_simp
  with_reducible rfl
 rotate_left
 ·simp only [Act.put, List.setIfInBounds_toArray, List.set_cons_zero, List.set_cons_succ, i64_w, i32_w]
  rfl
 refine pure_ (i := 1) (N := some 7) (v := ?_) (a' := ?_) #[true, true, false, false, false, false, false, false, false, false, false, false, false] rfl rfl (by kernel_rfl) (fun _ _ _ h => h) (Or.inl ⟨by rfl, ?_⟩) ?_ ?_
 rotate_left
 ·intro w'
  go_simp
  with_reducible rfl
 rotate_left
 ·simp only [Act.put, List.setIfInBounds_toArray, List.set_cons_zero, List.set_cons_succ, i64_w, i32_w]
  rfl
 refine pure_ (i := 2) (N := some 8) (v := ?_) (a' := ?_) #[true, true, true, false, false, false, false, false, false, false, false, false, false] rfl rfl (by kernel_rfl) (fun _ _ _ h => h) (Or.inl ⟨by rfl, ?_⟩) ?_ ?_
 rotate_left
 ·intro w'
  go_simp
  with_reducible rfl
 rotate_left
 ·simp only [Act.put, List.setIfInBounds_toArray, List.set_cons_zero, List.set_cons_succ, i64_w, i32_w]
  rfl
 refine pure_ (i := 3) (N := some 9) (v := ?_) (a' := ?_) #[true, true, true, true, false, false, false, false, false, false, false, false, false] rfl rfl (by kernel_rfl) (fun _ _ _ h => h) (Or.inl ⟨by rfl, ?_⟩) ?_ ?_
 rotate_left
 ·intro w'
  go_simp
  with_reducible rfl
 rotate_left
 ·simp only [Act.put, List.setIfInBounds_toArray, List.set_cons_zero, List.set_cons_succ, i64_w, i32_w]
  rfl
 refine take_ (i := 4) (N := some 10) (v := ?_) (a' := ?_) #[true, true, true, true, true, false, false, false, false, false, false, false, false] rfl rfl (by kernel_rfl) (fun _ _ _ h => h) (Or.inl ⟨by rfl, ?_⟩) hHeld ?_ ?_
 rotate_left
 ·rintro w' ⟨s0, s1, s2, s3, s4, s5, s6⟩
  go_simp
  with_reducible rfl
 rotate_left
 ·simp only [Act.put, List.setIfInBounds_toArray, List.set_cons_zero, List.set_cons_succ, i64_w, i32_w]
  rfl
 refine take_ (i := 5) (N := some 11) (v := ?_) (a' := ?_) #[true, true, true, true, true, true, false, false, false, false, false, false, false] rfl rfl (by kernel_rfl) (fun _ _ _ h => h) (Or.inl ⟨by rfl, ?_⟩) hHeld ?_ ?_
 rotate_left
 ·rintro w' ⟨s0, s1, s2, s3, s4, s5, s6⟩
  go_simp
  with_reducible rfl
 rotate_left
 ·simp only [Act.put, List.setIfInBounds_toArray, List.set_cons_zero, List.set_cons_succ, i64_w, i32_w]
  rfl
 refine pure_ (i := 6) (N := some 12) (v := ?_) (a' := ?_) #[true, true, true, true, true, true, true, false, false, false, false, false, false] rfl rfl (by kernel_rfl) (fun _ _ _ h => h) (Or.inl ⟨by rfl, ?_⟩) ?_ ?_
 rotate_left
 ·intro w'
  go_simp
  with_reducible rfl
 rotate_left
 ·simp only [Act.put, List.setIfInBounds_toArray, List.set_cons_zero, List.set_cons_succ, i64_w, i32_w]
  rfl
 refine pure_ (i := 7) (N := some 13) (v := ?_) (a' := ?_) #[true, true, true, true, true, true, true, true, false, false, false, false, false] rfl rfl (by kernel_rfl) (fun _ _ _ h => h) (Or.inl ⟨by rfl, ?_⟩) ?_ ?_
 rotate_left
 ·intro w'
  go_simp
  with_reducible rfl
 rotate_left
 ·simp only [Act.put, List.setIfInBounds_toArray, List.set_cons_zero, List.set_cons_succ, i64_w, i32_w]
  rfl
 refine pure_ (i := 8) (N := some 14) (v := ?_) (a' := ?_) #[true, true, true, true, true, true, true, true, true, false, false, false, false] rfl rfl (by kernel_rfl) (fun _ _ _ h => h) (Or.inl ⟨by rfl, ?_⟩) ?_ ?_
 rotate_left
 ·intro w'
  go_simp
  with_reducible rfl
 rotate_left
 ·simp only [Act.put, List.setIfInBounds_toArray, List.set_cons_zero, List.set_cons_succ, i64_w, i32_w]
  rfl
 refine take_ (i := 9) (N := some 15) (v := ?_) (a' := ?_) #[true, true, true, true, true, true, true, true, true, true, false, false, false] rfl rfl (by kernel_rfl) (fun _ _ _ h => h) (Or.inl ⟨by rfl, ?_⟩) hHeld ?_ ?_
 rotate_left
 ·rintro w' ⟨s0, s1, s2, s3, s4, s5, s6⟩
  go_simp
  with_reducible rfl
 rotate_left
 ·simp only [Act.put, List.setIfInBounds_toArray, List.set_cons_zero, List.set_cons_succ, i64_w, i32_w]
  rfl
 refine one_ (i := 10) (N := some 16) #[true, true, true, true, true, true, true, true, true, true, true, false, false] rfl rfl (by kernel_rfl) (by decide) (fun K hK => ?_)
 refine goes_ Tryd.func46 (by kernel_rfl) rfl #[.agg #[.int .i64 (rd_T53 l i).f0.f0, .int .i64 (rd_T53 l i).f0.f1, .int .i64 (rd_T53 l i).f0.f2], .agg #[.int .i64 (rd_T53 l j).f0.f0, .int .i64 (rd_T53 l j).f0.f1, .int .i64 (rd_T53 l j).f0.f2]] (by rfl) rfl rfl (by (try simp only [List.map_toArray, List.map_cons, List.map_nil]); first | done | rfl) ?_
 with_reducible refine (ident_CompareProc.calls3 _ _ _ _ _ _ _).mono ?_
 rintro e w5 ⟨rfl, hb⟩
 refine ⟨_, rfl, ?_⟩
 have HB := below_step (below_drew1 (Below.refl w.heap.size w)) hb
 refine hK.out _ _ ⟨(HB.cell (World.block_lt_of_cell? w _ hg)).trans hg, (HB.cell (World.block_lt_of_cell? w _ hxi0)).trans hxi0, (HB.cell (World.block_lt_of_cell? w _ hxi1)).trans hxi1, (HB.cell (World.block_lt_of_cell? w _ hxi2)).trans hxi2, (HB.cell (World.block_lt_of_cell? w _ hxj0)).trans hxj0, (HB.cell (World.block_lt_of_cell? w _ hxj1)).trans hxj1, (HB.cell (World.block_lt_of_cell? w _ hxj2)).trans hxj2⟩ (fun hHeld => ?_)
 clear hK K
 refine norm_ (a' := ?_) ?_ ?_
 rotate_left
 ·show Act.put _ (some 16) _ = _
  simp only [Act.put, List.setIfInBounds_toArray, List.set_cons_zero, List.set_cons_succ, i64_w, i32_w]
  rfl
 refine pure_ (i := 11) (N := some 17) (v := ?_) (a' := ?_) #[true, true, true, true, true, true, true, true, true, true, true, true, false] rfl rfl (by kernel_rfl) (fun _ _ _ h => h) (Or.inl ⟨by rfl, ?_⟩) ?_ ?_
 rotate_left
 ·intro w'
  go_simp
  with_reducible rfl
 rotate_left
 ·simp only [Act.put, List.setIfInBounds_toArray, List.set_cons_zero, List.set_cons_succ, i64_w, i32_w]
  rfl
 refine pure_ (i := 12) (N := some 5) (v := ?_) (a' := ?_) #[true, true, true, true, true, true, true, true, true, true, true, true, true] rfl rfl (by kernel_rfl) (fun _ _ _ h => h) (Or.inl ⟨by rfl, ?_⟩) ?_ ?_
 rotate_left
 ·intro w'
  go_simp
  with_reducible rfl
 rotate_left
 ·simp only [Act.put, List.setIfInBounds_toArray, List.set_cons_zero, List.set_cons_succ, i64_w, i32_w]
  rfl
 refine done_ (by kernel_rfl) ?_
 try go_wp2
 go_ret
 exact ⟨rfl, HB⟩
end Go.Proofs.YtnmemkphfgdplaaDoor.PA
namespace Go.Proofs.YtnmemkphfgdplaaDoor.PA
open Go.RowKit Go.Proofs.YtnmemkphfgdplaaDoorW.PrintWords Go.Proofs.YtnmemkphfgdplaaDoorW.PrintLast Go.Proofs.YtnmemkphfgdplaaDoorW.PrintMore
attribute [local go_sem] max2_int min2_int max_two min_two max_three min_three max_four min_four
set_option linter.unusedVariables false
set_option linter.unusedSimpArgs false
set_option maxHeartbeats 4000000 in
set_option maxRecDepth 100000 in
theorem holders_place1.calls (ad : Addr) (c : Nat) (l : List S53) (gl gp : Nat) (i p0 p1 p2 : Int) (w : World) (hr : Kd.C k53 w (some ad) l.length l) (hg : w.cell? ⟨gl, 0, none⟩ = some (.slice (some ad) l.length c)) (hp0 : w.cell? ⟨gp, 0, none⟩ = some (.int .i64 p0)) (hp1 : w.cell? ⟨gp, 1, none⟩ = some (.int .i64 p1)) (hp2 : w.cell? ⟨gp, 2, none⟩ = some (.int .i64 p2)) (hi0 : 0 ≤ i) (hi1 : i < l.length) :
  Calls Tryd.prog 50 #[.int .i64 i, .pointer (some ⟨gl, 0, none⟩), .pointer (some ⟨gp, 0, none⟩)] w fun e w' => e = .returned (.bool (decide (cmp3 (rd_T53 l i).f0.f0 (rd_T53 l i).f0.f1 (rd_T53 l i).f0.f2 p0 p1 p2 > 0))) ∧ Below w.heap.size w w' := by
 have hu22 := Tryd.underlying22
 have hu24 := Tryd.underlying24
 have hu53 := Tryd.underlying53
 obtain ⟨adi, ei, hxi0, hxi1, hxi2, _, _⟩ := at_T53 hr i hi0 hi1
 cases ei
 replace hi0 := eq_true hi0
 replace hi1 := eq_true hi1
 go_enter Tryd.func50, Tryd.ntmps50
 try go_wp2
 refine start_ (n := 9) (S := fun w' => w'.cell? ⟨gl, 0, none⟩ = some (.slice (some ad) l.length c) ∧ w'.cell? (ad.add (i.toNat * 5)) = some (.int .i64 (rd_T53 l i).f0.f0) ∧ w'.cell? ⟨(ad.add (i.toNat * 5)).block, (ad.add (i.toNat * 5)).off + 1, none⟩ = some (.int .i64 (rd_T53 l i).f0.f1) ∧ w'.cell? ⟨(ad.add (i.toNat * 5)).block, (ad.add (i.toNat * 5)).off + 2, none⟩ = some (.int .i64 (rd_T53 l i).f0.f2) ∧ w'.cell? ⟨gp, 0, none⟩ = some (.int .i64 p0) ∧ w'.cell? ⟨gp, 1, none⟩ = some (.int .i64 p1) ∧ w'.cell? ⟨gp, 2, none⟩ = some (.int .i64 p2)) (ds := []) #[false, false, false, false, false, false, false, false, false] (by kernel_rfl) rfl rfl ⟨hg, hxi0, hxi1, hxi2, hp0, hp1, hp2⟩ (fun hHeld => ?_)
 refine take_ (i := 0) (N := some 5) (v := ?_) (a' := ?_) #[true, false, false, false, false, false, false, false, false] rfl rfl (by kernel_rfl) (fun _ _ _ h => h) (Or.inl ⟨by rfl, ?_⟩) hHeld ?_ ?_
 rotate_left
 ·rintro w' ⟨s0, s1, s2, s3, s4, s5, s6⟩
  go_simp
  with_reducible rfl
 rotate_left
 ·simp only [Act.put, List.setIfInBounds_toArray, List.set_cons_zero, List.set_cons_succ, i64_w, i32_w]
  rfl
 refine pure_ (i := 1) (N := some 6) (v := ?_) (a' := ?_) #[true, true, false, false, false, false, false, false, false] rfl rfl (by kernel_rfl) (fun _ _ _ h => h) (Or.inl ⟨by rfl, ?_⟩) ?_ ?_
 rotate_left
 ·intro w'
  go_simp
  with_reducible rfl
 rotate_left
 ·simp only [Act.put, List.setIfInBounds_toArray, List.set_cons_zero, List.set_cons_succ, i64_w, i32_w]
  rfl
 refine pure_ (i := 2) (N := some 7) (v := ?_) (a' := ?_) #[true, true, true, false, false, false, false, false, false] rfl rfl (by kernel_rfl) (fun _ _ _ h => h) (Or.inl ⟨by rfl, ?_⟩) ?_ ?_
 rotate_left
 ·intro w'
  go_simp
  with_reducible rfl
 rotate_left
 ·simp only [Act.put, List.setIfInBounds_toArray, List.set_cons_zero, List.set_cons_succ, i64_w, i32_w]
  rfl
 refine pure_ (i := 3) (N := some 8) (v := ?_) (a' := ?_) #[true, true, true, true, false, false, false, false, false] rfl rfl (by kernel_rfl) (fun _ _ _ h => h) (Or.inl ⟨by rfl, ?_⟩) ?_ ?_
 rotate_left
 ·intro w'
  go_simp
  with_reducible rfl
 rotate_left
 ·simp only [Act.put, List.setIfInBounds_toArray, List.set_cons_zero, List.set_cons_succ, i64_w, i32_w]
  rfl
 refine take_ (i := 4) (N := some 9) (v := ?_) (a' := ?_) #[true, true, true, true, true, false, false, false, false] rfl rfl (by kernel_rfl) (fun _ _ _ h => h) (Or.inl ⟨by rfl, ?_⟩) hHeld ?_ ?_
 rotate_left
 ·rintro w' ⟨s0, s1, s2, s3, s4, s5, s6⟩
  go_simp
  with_reducible rfl
 rotate_left
 ·simp only [Act.put, List.setIfInBounds_toArray, List.set_cons_zero, List.set_cons_succ, i64_w, i32_w]
  rfl
 refine take_ (i := 5) (N := some 10) (v := ?_) (a' := ?_) #[true, true, true, true, true, true, false, false, false] rfl rfl (by kernel_rfl) (fun _ _ _ h => h) (Or.inl ⟨by rfl, ?_⟩) hHeld ?_ ?_
 rotate_left
 ·rintro w' ⟨s0, s1, s2, s3, s4, s5, s6⟩
  go_simp
  with_reducible rfl
 rotate_left
 ·simp only [Act.put, List.setIfInBounds_toArray, List.set_cons_zero, List.set_cons_succ, i64_w, i32_w]
  rfl
 refine one_ (i := 6) (N := some 11) #[true, true, true, true, true, true, true, false, false] rfl rfl (by kernel_rfl) (by decide) (fun K hK => ?_)
 refine goes_ Tryd.func46 (by kernel_rfl) rfl #[.agg #[.int .i64 (rd_T53 l i).f0.f0, .int .i64 (rd_T53 l i).f0.f1, .int .i64 (rd_T53 l i).f0.f2], .agg #[.int .i64 p0, .int .i64 p1, .int .i64 p2]] (by rfl) rfl rfl (by (try simp only [List.map_toArray, List.map_cons, List.map_nil]); first | done | rfl) ?_
 with_reducible refine (ident_CompareProc.calls3 _ _ _ _ _ _ _).mono ?_
 rintro e w5 ⟨rfl, hb⟩
 refine ⟨_, rfl, ?_⟩
 have HB := below_step (below_drew1 (Below.refl w.heap.size w)) hb
 refine hK.out _ _ ⟨(HB.cell (World.block_lt_of_cell? w _ hg)).trans hg, (HB.cell (World.block_lt_of_cell? w _ hxi0)).trans hxi0, (HB.cell (World.block_lt_of_cell? w _ hxi1)).trans hxi1, (HB.cell (World.block_lt_of_cell? w _ hxi2)).trans hxi2, (HB.cell (World.block_lt_of_cell? w _ hp0)).trans hp0, (HB.cell (World.block_lt_of_cell? w _ hp1)).trans hp1, (HB.cell (World.block_lt_of_cell? w _ hp2)).trans hp2⟩ (fun hHeld => ?_)
 clear hK K
 refine norm_ (a' := ?_) ?_ ?_
 rotate_left
 ·show Act.put _ (some 11) _ = _
  simp only [Act.put, List.setIfInBounds_toArray, List.set_cons_zero, List.set_cons_succ, i64_w, i32_w]
  rfl
 refine pure_ (i := 7) (N := some 12) (v := ?_) (a' := ?_) #[true, true, true, true, true, true, true, true, false] rfl rfl (by kernel_rfl) (fun _ _ _ h => h) (Or.inl ⟨by rfl, ?_⟩) ?_ ?_
 rotate_left
 ·intro w'
  go_simp
  with_reducible rfl
 rotate_left
 ·simp only [Act.put, List.setIfInBounds_toArray, List.set_cons_zero, List.set_cons_succ, i64_w, i32_w]
  rfl
 refine pure_ (i := 8) (N := some 4) (v := ?_) (a' := ?_) #[true, true, true, true, true, true, true, true, true] rfl rfl (by kernel_rfl) (fun _ _ _ h => h) (Or.inl ⟨by rfl, ?_⟩) ?_ ?_
 rotate_left
 ·intro w'
  go_simp
  with_reducible rfl
 rotate_left
 ·simp only [Act.put, List.setIfInBounds_toArray, List.set_cons_zero, List.set_cons_succ, i64_w, i32_w]
  rfl
 refine done_ (by kernel_rfl) ?_
 try go_wp2
 go_ret
 exact ⟨rfl, HB⟩
end Go.Proofs.YtnmemkphfgdplaaDoor.PA
namespace Go.Proofs.YtnmemkphfgdplaaDoor.PA
open Go.RowKit Go.Lib Go.Proofs.YtnmemkphfgdplaaDoorW.PrintWords Go.Proofs.YtnmemkphfgdplaaDoorW.PrintLast Go.Proofs.YtnmemkphfgdplaaDoorW.PrintMore
attribute [local go_sem] max2_int min2_int max_two min_two max_three min_three max_four min_four
set_option linter.unusedVariables false
set_option linter.unusedSimpArgs false
/-- Whether the processes ascend, from place i down. -/
def sorted_l (l : List S53) : Nat → Int → Option Bool
 | 0, _ => none
 | k + 1, i => if i > 0 then (if cmp3 (rd_T53 l i).f0.f0 (rd_T53 l i).f0.f1 (rd_T53 l i).f0.f2 (rd_T53 l (i - 1)).f0.f0 (rd_T53 l (i - 1)).f0.f1 (rd_T53 l (i - 1)).f0.f2 < 0 then some false else sorted_l l k (i - 1)) else some true
set_option maxHeartbeats 4000000 in
set_option maxRecDepth 100000 in
theorem sort_SliceIsSorted.calls (k : Nat) (A : Option Addr) (c : Nat) (l : List S53) (gb : Nat) (r : Bool) (w : World) (hr : Kd.C k53 w A l.length l) (hg : w.cell? ⟨gb, 0, none⟩ = some (.slice A l.length c)) (hl : l.length < 1000000) (h : sorted_l l k ((l.length : Int) - 1) = some r) :
  Calls Tryd.prog 63 #[.iface 22 (.slice A l.length c), .func (.func 64) #[] #[.pointer (some ⟨gb, 0, none⟩)]] w fun e w' => e = .returned (.bool r) ∧ Below w.heap.size w w' := by
 obtain ⟨i22, hi22, hd22⟩ : ∃ i, Tryd.prog.info? 22 = some i ∧ i.desc = .slice 53 := ⟨_, rfl, rfl⟩
 have hv := run_valueOf_slice (P := Tryd.prog) 22 53 i22 hi22 hd22 A l.length c w
 have hlen := fun a w ha => run_valueLen_slice (P := Tryd.prog) 22 53 i22 hi22 hd22 (by kernel_rfl) a A l.length c w ha
 simp only [typeHandle] at hv hlen
 have hu83 := Tryd.underlying83
 have HR := Aside0.mk hr
 have HG := Aside0.mk hg
 have HL := Aside0.mk hl
 have H' := Aside0.mk h
 clear hr hg hl h
 go_enter Tryd.func63, Tryd.ntmps63
 go_wp2
 rw [run_callFunc_extern Tryd.func65 (by kernel_rfl) (by kernel_rfl) (by kernel_rfl) (e := fun args => Extern.ReflectliteValue.unpack (args.getD 0 (.tuple #[]))) (by kernel_rfl),
  show Sem.run Tryd.prog ((fun args : Array Value => Extern.ReflectliteValue.unpack (args.getD 0 (.tuple #[]))) #[.iface 22 (.slice A l.length c)]) w = _ from hv]
 simp only [Result.andThen]
 rw [Oper.upon_value]
 have hbox0 := heap_alloc_new w (.cells #[.slice A l.length c] 22)
 have hb0 : Below w.heap.size w (w.alloc (.cells #[.slice A l.length c] 22)) := below_alloc (Below.refl _ _) _
 generalize w.alloc (.cells #[.slice A l.length c] 22) = w1 at hbox0 hb0 ⊢
 have BKv := Aside0.mk hbox0
 have HB := Aside0.mk hb0
 clear hbox0 hb0 hv
 go_wp2_with (first | ((with_reducible refine gate_dst (N := 5) rfl ?_); refine box_event ?hg (N := 5) ?hd (cs := #[.pointer none, .pointer none, .int .u64 0]) (t := 83) ?hr ?_; (case hd => rfl); (case hg => rfl); (case hr => first | (go_simp; done) | (go_simp; rfl)); intro gb5 hg w2 hbox hb; have BK5 := Aside0.mk hbox; have GE5 := Aside0.mk ((by rw [hg]; exact (below_size (uB HB)) : w.heap.size ≤ gb5)); replace HB := bB HB hb; have NE5 := Aside0.mk ((by rw [hg]; exact Nat.ne_of_lt (blkLt BKv (uK BKv)) : w.heap.size ≠ gb5)); replace BKv := bK BKv hb; clear hb hbox hg; have hc0 : w2.cell? ⟨gb5, 0, none⟩ = some (.pointer none) := bC BK5 0 rfl; have hc1 : w2.cell? ⟨gb5, 1, none⟩ = some (.pointer none) := bC BK5 1 rfl; have hc2 : w2.cell? ⟨gb5, 2, none⟩ = some (.int .u64 0) := bC BK5 2 rfl; have hf0 := bF BK5 0; have hf1 := bF BK5 1; have hf2 := bF BK5 2))
 have e5 : (((w2.setCell ⟨gb5, 0, none⟩ (Value.pointer (some { block := 1, off := 22 }))).setCell ⟨gb5, 1, none⟩ (Value.pointer (some { block := w.heap.size, off := 0 }))).setCell ⟨gb5, 2, none⟩ (Value.int IntKind.u64 151)).heap[w.heap.size]? = some (.cells #[.slice A l.length c] 22 (0, 0)) := blk_far (blk_far (blk_far BKv.out NE5.out _) NE5.out _) NE5.out _
 have b5 : Below w.heap.size w (((w2.setCell ⟨gb5, 0, none⟩ (Value.pointer (some { block := 1, off := 22 }))).setCell ⟨gb5, 1, none⟩ (Value.pointer (some { block := w.heap.size, off := 0 }))).setCell ⟨gb5, 2, none⟩ (Value.int IntKind.u64 151)) := below_set (below_set (below_set HB.out GE5.out) GE5.out) GE5.out
 generalize ((w2.setCell ⟨gb5, 0, none⟩ (Value.pointer (some { block := 1, off := 22 }))).setCell ⟨gb5, 1, none⟩ (Value.pointer (some { block := w.heap.size, off := 0 }))).setCell ⟨gb5, 2, none⟩ (Value.int IntKind.u64 151) = w3 at e5 b5 ⊢
 have hgs : Tryd.prog.globals.size = 1 := by kernel_rfl
 rw [hgs] at hlen
 rw [run_callFunc_extern Tryd.func66 (by kernel_rfl) (by kernel_rfl) (by kernel_rfl) (e := Extern.ReflectliteValue.method (Extern.ReflectliteValue.valueError "reflectlite.Value.Len" 0) Extern.ReflectliteValue.len) (by kernel_rfl), hlen _ _ ((blk_cell e5 0).trans rfl)]
 simp only [Result.andThen]
 rw [Oper.upon_value]
 clear HB
 have HB := Aside0.mk b5
 clear b5 e5 BKv BK5 GE5 NE5 hc0 hc1 hc2 hf0 hf1 hf2 hlen hgs
 have hw0 : Aside0 (wrap64 ((l.length : Int) - 1) = (l.length : Int) - 1) := ⟨by have := HL.out; unfold wrap64; omega⟩
 go_wp2
 go_loopg [7] k (fun kq v7 w' => ∃ (i : Int), v7 = .int .i64 i ∧ Aside0 (sorted_l l kq i = some r) ∧ Aside0 (kq ≤ k) ∧ Aside0 (i < l.length) ∧ Aside0 (Below w.heap.size w w'))
 case atStart => exact ⟨wrap64 ((l.length : Int) - 1), (by first | rfl | (simp; done) | (simp [*]; done)), ⟨by rw [hw0.out]; exact H'.out⟩, ⟨Nat.le_refl _⟩, ⟨by rw [hw0.out]; omega⟩, ⟨by repeat (first | (with_reducible first | exact HB.out | apply bL | apply bM | apply bR) | exact HB.out)⟩⟩
 case round =>
  clear H'
  obtain ⟨i, rfl, HA, HK1, HI, HB⟩ := hrel
  cases gk with
  | zero => exact absurd HA.out (by simp [sorted_l])
  | succ k1 =>
   have H := HA.out
   clear HA
   simp only [sorted_l] at H
   by_cases c1 : i > 0
   ·rw [if_pos c1] at H
    have P0 : Aside0 (0 ≤ i) := ⟨by omega⟩
    have P1 : Aside0 (i < (l.length : Int)) := HI
    have P2 : Aside0 (0 ≤ i - 1) := ⟨by omega⟩
    have P3 : Aside0 (i - 1 < (l.length : Int)) := ⟨by have := HI.out; omega⟩
    obtain ⟨ad, ea, _⟩ := at_T53 HR.out i P0.out P1.out
    subst ea
    have hw1 : wrap64 (i - 1) = i - 1 := by have := HL.out; have := HI.out; unfold wrap64; omega
    have c1a : decide (0 < i) = true := decide_eq_true c1
    have c1b : decide (i > 0) = true := decide_eq_true c1
    clear c1
    by_cases c2 : cmp3 (rd_T53 l i).f0.f0 (rd_T53 l i).f0.f1 (rd_T53 l i).f0.f2 (rd_T53 l (i - 1)).f0.f0 (rd_T53 l (i - 1)).f0.f1 (rd_T53 l (i - 1)).f0.f2 < 0
    ·rw [if_pos c2] at H
     obtain rfl := Option.some.inj H
     have c2a : decide (cmp3 (rd_T53 l i).f0.f0 (rd_T53 l i).f0.f1 (rd_T53 l i).f0.f2 (rd_T53 l (i - 1)).f0.f0 (rd_T53 l (i - 1)).f0.f1 (rd_T53 l (i - 1)).f0.f2 < 0) = true := decide_eq_true c2
     clear c2 H
     go_wp2_with (first | (go_at_call 64; (with_reducible refine (holders_rising1.calls ad c l gb i (i - 1) _ (Kd.C_below HR.out (uB HB)) ((Below.cell (uB HB) (World.block_lt_of_cell? w _ HG.out)).trans HG.out) P0.out P1.out P2.out P3.out).mono ?_); rintro e w5 ⟨rfl, hb⟩; have n1_ := bB HB hb; clear HB; have HB := n1_; clear n1_; clear hb))
     go_ret
     exact ⟨rfl, by repeat (first | (with_reducible first | exact HB.out | apply bL | apply bM | apply bR) | exact HB.out)⟩
    ·rw [if_neg c2] at H
     have c2a : decide (cmp3 (rd_T53 l i).f0.f0 (rd_T53 l i).f0.f1 (rd_T53 l i).f0.f2 (rd_T53 l (i - 1)).f0.f0 (rd_T53 l (i - 1)).f0.f1 (rd_T53 l (i - 1)).f0.f2 < 0) = false := decide_eq_false c2
     clear c2
     have H' := Aside0.mk H
     clear H
     go_wp2_with (first | (go_at_call 64; (with_reducible refine (holders_rising1.calls ad c l gb i (i - 1) _ (Kd.C_below HR.out (uB HB)) ((Below.cell (uB HB) (World.block_lt_of_cell? w _ HG.out)).trans HG.out) P0.out P1.out P2.out P3.out).mono ?_); rintro e w5 ⟨rfl, hb⟩; have n1_ := bB HB hb; clear HB; have HB := n1_; clear n1_; clear hb))
     go_roundg k1
     case measure => have := HK1.out; omega
     case rel => exact ⟨wrap64 (i - 1), (by first | rfl | (simp; done) | (simp [*]; done)), ⟨by rw [hw1]; exact H'.out⟩, ⟨by have := HK1.out; omega⟩, ⟨by rw [hw1]; exact P3.out⟩, ⟨by repeat (first | (with_reducible first | exact HB.out | apply bL | apply bM | apply bR) | exact HB.out)⟩⟩
   ·rw [if_neg c1] at H
    obtain rfl := Option.some.inj H
    have c1a : decide (0 < i) = false := decide_eq_false c1
    have c1b : decide (i > 0) = false := decide_eq_false c1
    clear c1 H
    go_wp2
    go_ret
    exact ⟨rfl, by repeat (first | (with_reducible first | exact HB.out | apply bL | apply bM | apply bR) | exact HB.out)⟩
set_option maxHeartbeats 4000000 in
set_option maxRecDepth 100000 in
theorem holders_rising.callsK (k : Nat) (A : Option Addr) (c : Nat) (l : List S53) (r : Bool) (w : World) (hr : Kd.C k53 w A l.length l) (hl : l.length < 1000000) (h : sorted_l l k ((l.length : Int) - 1) = some r) :
  Calls Tryd.prog 51 #[.slice A l.length c] w fun e w' => e = .returned (.bool r) ∧ Below w.heap.size w w' := by
 have hmf : ∀ (fn : Fn) (first cap : Array Value) (w : World), (Instr.makeFunc fn first cap).run Tryd.prog w = .ok (.func fn first cap) w := fun _ _ _ _ => rfl
 have hu22 := Tryd.underlying22
 have HR := Aside0.mk hr
 have HL := Aside0.mk hl
 have H' := Aside0.mk h
 have HB := Aside0.mk (Below.refl w.heap.size w)
 clear hr hl h
 go_enter Tryd.func51, Tryd.ntmps51
 go_wp2_with (first | ((with_reducible refine gate_dst (N := 1) rfl ?_); refine box_event ?hg (N := 1) ?hd (cs := #[.slice A l.length c]) (t := 22) ?hr ?_; (case hd => rfl); (case hg => rfl); (case hr => first | (go_simp; done) | (go_simp; rfl)); intro gb1 hg w3 hbox hb; replace HB := Aside0.mk (below_step HB.out hb); have BK1 := Aside0.mk (hbox); clear hb hbox hg; have hc0 : w3.cell? ⟨gb1, 0, none⟩ = some (.slice A l.length c) := bC BK1 0 rfl) | (go_at_call 63; (with_reducible refine (sort_SliceIsSorted.calls k A c l gb1 r _ (Kd.C_below HR.out (uB HB)) ((blk_cell (uK BK1) 0).trans rfl) HL.out H'.out).mono ?_); rintro e w5 ⟨rfl, hb⟩; have n1_ := bB HB hb; clear HB; have HB := n1_; clear n1_; clear hb))
 go_ret
 exact ⟨rfl, by repeat (first | (with_reducible first | exact HB.out | apply bL | apply bM | apply bR) | exact HB.out)⟩
end Go.Proofs.YtnmemkphfgdplaaDoor.PA
namespace Go.Proofs.YtnmemkphfgdplaaDoor.PA
open Go.RowKit Go.Lib Go.Proofs.YtnmemkphfgdplaaDoorW.PrintWords Go.Proofs.YtnmemkphfgdplaaDoorW.PrintLast Go.Proofs.YtnmemkphfgdplaaDoorW.PrintMore
attribute [local go_sem] max2_int min2_int max_two min_two max_three min_three max_four min_four
set_option linter.unusedVariables false
set_option linter.unusedSimpArgs false
/-- Whether the process at i is greater than p. -/
def above (l : List S53) (p0 p1 p2 : Int) (i : Int) : Int := cmp3 (rd_T53 l i).f0.f0 (rd_T53 l i).f0.f1 (rd_T53 l i).f0.f2 p0 p1 p2
def search_l (l : List S53) (p0 p1 p2 : Int) : Nat → Int → Int → Option Int
 | 0, _, _ => none
 | k + 1, i, j => if i < j then (if above l p0 p1 p2 ((i + j) / 2) > 0 then search_l l p0 p1 p2 k i ((i + j) / 2) else search_l l p0 p1 p2 k ((i + j) / 2 + 1) j) else some i
set_option maxHeartbeats 4000000 in
set_option maxRecDepth 100000 in
theorem sort_Search.calls (k : Nat) (A : Option Addr) (c : Nat) (l : List S53) (gl gp : Nat) (p0 p1 p2 r : Int) (w : World) (hr : Kd.C k53 w A l.length l) (hg : w.cell? ⟨gl, 0, none⟩ = some (.slice A l.length c)) (hp0 : w.cell? ⟨gp, 0, none⟩ = some (.int .i64 p0)) (hp1 : w.cell? ⟨gp, 1, none⟩ = some (.int .i64 p1)) (hp2 : w.cell? ⟨gp, 2, none⟩ = some (.int .i64 p2)) (hl : l.length < 1000000) (h : search_l l p0 p1 p2 k 0 (l.length : Int) = some r) :
  Calls Tryd.prog 52 #[.int .i64 (l.length : Int), .func (.func 50) #[] #[.pointer (some ⟨gl, 0, none⟩), .pointer (some ⟨gp, 0, none⟩)]] w fun e w' => e = .returned (.int .i64 r) ∧ Below w.heap.size w w' := by
 have HR := Aside0.mk hr
 have HG := Aside0.mk hg
 have HP0 := Aside0.mk hp0
 have HP1 := Aside0.mk hp1
 have HP2 := Aside0.mk hp2
 have HL := Aside0.mk hl
 have H' := Aside0.mk h
 have HB := Aside0.mk (Below.refl w.heap.size w)
 clear hr hg hl h hp0 hp1 hp2
 go_enter Tryd.func52, Tryd.ntmps52
 go_wp2
 go_loopg [5, 6] k (fun kq v5 v6 w' => ∃ (i j : Int), v5 = .int .i64 i ∧ v6 = .int .i64 j ∧ Aside0 (search_l l p0 p1 p2 kq i j = some r) ∧ Aside0 (kq ≤ k) ∧ Aside0 (0 ≤ i ∧ j ≤ l.length) ∧ Aside0 (Below w.heap.size w w'))
 case atStart => exact ⟨0, (l.length : Int), (by first | rfl | (simp; done) | (simp [*]; done)), (by first | rfl | (simp; done) | (simp [*]; done)), H', ⟨Nat.le_refl _⟩, ⟨by omega⟩, ⟨by repeat (first | (with_reducible first | exact HB.out | apply bL | apply bM | apply bR) | exact HB.out)⟩⟩
 case round =>
  clear H'
  obtain ⟨i, j, rfl, rfl, HA, HK1, HI, HB⟩ := hrel
  cases gk with
  | zero => exact absurd HA.out (by simp [search_l])
  | succ k1 =>
   have H := HA.out
   clear HA
   simp only [search_l] at H
   by_cases c1 : i < j
   ·rw [if_pos c1] at H
    have P0 : Aside0 (0 ≤ (i + j) / 2) := ⟨by have := HI.out; omega⟩
    have P1 : Aside0 ((i + j) / 2 < (l.length : Int)) := ⟨by have := HI.out; omega⟩
    have P2 : Aside0 (i ≤ (i + j) / 2) := ⟨by have := HI.out; omega⟩
    have P3 : Aside0 ((i + j) / 2 < j) := ⟨by have := HI.out; omega⟩
    obtain ⟨ad, ea, _⟩ := at_T53 HR.out _ P0.out P1.out
    subst ea
    have c1a : decide (i < j) = true := decide_eq_true c1
    clear c1
    have hm : wrap64 (IntKind.u64.wrap (wrap64 (i + j)) / 2) = (i + j) / 2 := by
     have e1 : wrap64 (i + j) = i + j := by have := HL.out; have := HI.out; have := P2.out; have := P3.out; unfold wrap64; omega
     have e2 : IntKind.u64.wrap (i + j) = i + j := by have := HL.out; have := HI.out; have := P2.out; have := P3.out; simp [IntKind.wrap, IntKind.bits, IntKind.signed]; omega
     rw [e1, e2]
     have := HL.out; have := HI.out; have := P2.out; have := P3.out; unfold wrap64; omega
    have hm1 : wrap64 ((i + j) / 2 + 1) = (i + j) / 2 + 1 := by have := HL.out; have := P0.out; have := P1.out; unfold wrap64; omega
    unfold above at H
    by_cases c2 : cmp3 (rd_T53 l ((i + j) / 2)).f0.f0 (rd_T53 l ((i + j) / 2)).f0.f1 (rd_T53 l ((i + j) / 2)).f0.f2 p0 p1 p2 > 0
    ·rw [if_pos c2] at H
     have c2a : decide (cmp3 (rd_T53 l ((i + j) / 2)).f0.f0 (rd_T53 l ((i + j) / 2)).f0.f1 (rd_T53 l ((i + j) / 2)).f0.f2 p0 p1 p2 > 0) = true := decide_eq_true c2
     have c2b : decide (0 < cmp3 (rd_T53 l ((i + j) / 2)).f0.f0 (rd_T53 l ((i + j) / 2)).f0.f1 (rd_T53 l ((i + j) / 2)).f0.f2 p0 p1 p2) = true := decide_eq_true c2
     clear c2
     have H' := Aside0.mk H
     clear H
     go_wp2_with (first | (go_at_call 50; (with_reducible refine (holders_place1.calls ad c l gl gp ((i + j) / 2) p0 p1 p2 _ (Kd.C_below HR.out (uB HB)) ((Below.cell (uB HB) (World.block_lt_of_cell? w _ HG.out)).trans HG.out) ((Below.cell (uB HB) (World.block_lt_of_cell? w _ HP0.out)).trans HP0.out) ((Below.cell (uB HB) (World.block_lt_of_cell? w _ HP1.out)).trans HP1.out) ((Below.cell (uB HB) (World.block_lt_of_cell? w _ HP2.out)).trans HP2.out) P0.out P1.out).mono ?_); rintro e w5 ⟨rfl, hb⟩; have n1_ := bB HB hb; clear HB; have HB := n1_; clear n1_; clear hb))
     go_roundg k1
     case measure => have := HK1.out; omega
     case rel => exact ⟨i, (i + j) / 2, (by first | rfl | (simp; done) | (simp [*]; done)), (by first | rfl | (simp; done) | (simp [*]; done)), H', ⟨by have := HK1.out; omega⟩, ⟨by have := HI.out; have := P1.out; omega⟩, ⟨by repeat (first | (with_reducible first | exact HB.out | apply bL | apply bM | apply bR) | exact HB.out)⟩⟩
    ·rw [if_neg c2] at H
     have c2a : decide (cmp3 (rd_T53 l ((i + j) / 2)).f0.f0 (rd_T53 l ((i + j) / 2)).f0.f1 (rd_T53 l ((i + j) / 2)).f0.f2 p0 p1 p2 > 0) = false := decide_eq_false c2
     have c2b : decide (0 < cmp3 (rd_T53 l ((i + j) / 2)).f0.f0 (rd_T53 l ((i + j) / 2)).f0.f1 (rd_T53 l ((i + j) / 2)).f0.f2 p0 p1 p2) = false := decide_eq_false c2
     clear c2
     have H' := Aside0.mk H
     clear H
     go_wp2_with (first | (go_at_call 50; (with_reducible refine (holders_place1.calls ad c l gl gp ((i + j) / 2) p0 p1 p2 _ (Kd.C_below HR.out (uB HB)) ((Below.cell (uB HB) (World.block_lt_of_cell? w _ HG.out)).trans HG.out) ((Below.cell (uB HB) (World.block_lt_of_cell? w _ HP0.out)).trans HP0.out) ((Below.cell (uB HB) (World.block_lt_of_cell? w _ HP1.out)).trans HP1.out) ((Below.cell (uB HB) (World.block_lt_of_cell? w _ HP2.out)).trans HP2.out) P0.out P1.out).mono ?_); rintro e w5 ⟨rfl, hb⟩; have n1_ := bB HB hb; clear HB; have HB := n1_; clear n1_; clear hb))
     go_roundg k1
     case measure => have := HK1.out; omega
     case rel => exact ⟨wrap64 ((i + j) / 2 + 1), j, (by first | rfl | (simp; done) | (simp [*]; done)), (by first | rfl | (simp; done) | (simp [*]; done)), ⟨by rw [hm1]; exact H'.out⟩, ⟨by have := HK1.out; omega⟩, ⟨by rw [hm1]; have := HI.out; have := P0.out; omega⟩, ⟨by repeat (first | (with_reducible first | exact HB.out | apply bL | apply bM | apply bR) | exact HB.out)⟩⟩
   ·rw [if_neg c1] at H
    obtain rfl := Option.some.inj H
    have c1a : decide (i < j) = false := decide_eq_false c1
    clear c1 H
    go_wp2
    go_ret
    exact ⟨rfl, by repeat (first | (with_reducible first | exact HB.out | apply bL | apply bM | apply bR) | exact HB.out)⟩
end Go.Proofs.YtnmemkphfgdplaaDoor.PA
namespace Go.Proofs.YtnmemkphfgdplaaDoor.PA
open Go.RowKit Go.Lib Go.Proofs.YtnmemkphfgdplaaDoorW.PrintWords Go.Proofs.YtnmemkphfgdplaaDoorW.PrintLast Go.Proofs.YtnmemkphfgdplaaDoorW.PrintMore
attribute [local go_sem] max2_int min2_int max_two min_two max_three min_three max_four min_four
set_option linter.unusedVariables false
set_option linter.unusedSimpArgs false
def linear_l (l : List S53) (p0 p1 p2 : Int) : Nat → Int → Option Int
 | 0, _ => none
 | k + 1, i => if i < l.length then (if above l p0 p1 p2 i > 0 then some i else linear_l l p0 p1 p2 k (i + 1)) else some i
def place_f (k : Nat) (l : List S53) (p0 p1 p2 : Int) : Option Int := (sorted_l l k ((l.length : Int) - 1)).bind fun b => if b = true then search_l l p0 p1 p2 k 0 (l.length : Int) else linear_l l p0 p1 p2 k 0
set_option maxHeartbeats 4000000 in
set_option maxRecDepth 100000 in
theorem holders_place.callsK (k : Nat) (A : Option Addr) (c : Nat) (l : List S53) (p0 p1 p2 r : Int) (w : World) (hr : Kd.C k53 w A l.length l) (hl : l.length < 1000000) (h : place_f k l p0 p1 p2 = some r) :
  Calls Tryd.prog 33 #[.slice A l.length c, .agg #[.int .i64 p0, .int .i64 p1, .int .i64 p2]] w fun e w' => e = .returned (.int .i64 r) ∧ Below w.heap.size w w' := by
 have hmf : ∀ (fn : Fn) (first cap : Array Value) (w : World), (Instr.makeFunc fn first cap).run Tryd.prog w = .ok (.func fn first cap) w := fun _ _ _ _ => rfl
 have hu22 := Tryd.underlying22
 have hu24 := Tryd.underlying24
 have HR := Aside0.mk hr
 have HL := Aside0.mk hl
 unfold place_f at h
 obtain ⟨b, hs, h⟩ := Option.bind_eq_some_iff.mp h
 have HS := Aside0.mk hs
 have HB := Aside0.mk (Below.refl w.heap.size w)
 clear hr hl hs
 by_cases hb0 : b = true
 ·subst hb0
  have H' : Aside0 (search_l l p0 p1 p2 k 0 (l.length : Int) = some r) := ⟨by rw [if_pos rfl] at h; exact h⟩
  clear h
  go_enter Tryd.func33, Tryd.ntmps33
  go_wp2_with (first | ((with_reducible refine gate_dst (N := 2) rfl ?_); refine box_event ?hg (N := 2) ?hd (cs := #[.slice A l.length c]) (t := 22) ?hr ?_; (case hd => rfl); (case hg => rfl); (case hr => first | (go_simp; done) | (go_simp; rfl)); intro gb1 hg w3 hbox hb; have n0_ := bB HB hb; have n1_ := Aside0.mk hbox; clear HB ; have HB := n0_; have BK1 := n1_; clear n0_ n1_; clear hb hbox hg) | ((with_reducible refine gate_dst (N := 3) rfl ?_); refine box_event ?hg (N := 3) ?hd (cs := #[.int .i64 p0, .int .i64 p1, .int .i64 p2]) (t := 24) ?hr ?_; (case hd => rfl); (case hg => rfl); (case hr => first | (go_simp; done) | (go_simp; rfl)); intro gb2 hg w4 hbox hb; replace BK1 := bK BK1 hb; replace HB := bB HB hb; have BK2 := Aside0.mk hbox; clear hb hbox hg; have hc0 : w4.cell? ⟨gb1, 0, none⟩ = some (.slice A l.length c) := bC BK1 0 rfl) | (go_at_call 51; (with_reducible refine (holders_rising.callsK k A c l true _ (Kd.C_below HR.out (uB HB)) HL.out HS.out).mono ?_); rintro e w5 ⟨rfl, hb⟩; have n0_ := bK BK1 hb; have n1_ := bK BK2 hb; have n9_ := bB HB hb; clear BK1 BK2 HB; have BK1 := n0_; have BK2 := n1_; have HB := n9_; clear n0_ n1_ n9_; clear hb; have hc0 : w5.cell? ⟨gb1, 0, none⟩ = some (.slice A l.length c) := bC BK1 0 rfl) | (go_at_call 52; (with_reducible refine (sort_Search.calls k A c l gb1 gb2 p0 p1 p2 r _ (Kd.C_below HR.out (uB HB)) ((blk_cell (uK BK1) 0).trans rfl) ((blk_cell (uK BK2) 0).trans rfl) ((blk_cell (uK BK2) 1).trans rfl) ((blk_cell (uK BK2) 2).trans rfl) HL.out H'.out).mono ?_); rintro e w6 ⟨rfl, hb⟩; have n0_ := bK BK1 hb; have n1_ := bK BK2 hb; have n9_ := bB HB hb; clear BK1 BK2 HB; have BK1 := n0_; have BK2 := n1_; have HB := n9_; clear n0_ n1_ n9_; clear hb))
  go_ret
  exact ⟨rfl, by repeat (first | (with_reducible first | exact HB.out | apply bL | apply bM | apply bR) | exact HB.out)⟩
 ·replace hb0 := Bool.eq_false_iff.mpr hb0
  subst hb0
  have H' : Aside0 (linear_l l p0 p1 p2 k 0 = some r) := ⟨by rw [if_neg (by decide)] at h; exact h⟩
  clear h
  go_enter Tryd.func33, Tryd.ntmps33
  go_wp2_with (first | ((with_reducible refine gate_dst (N := 2) rfl ?_); refine box_event ?hg (N := 2) ?hd (cs := #[.slice A l.length c]) (t := 22) ?hr ?_; (case hd => rfl); (case hg => rfl); (case hr => first | (go_simp; done) | (go_simp; rfl)); intro gb1 hg w3 hbox hb; have n0_ := bB HB hb; have n1_ := Aside0.mk hbox; clear HB ; have HB := n0_; have BK1 := n1_; clear n0_ n1_; clear hb hbox hg) | ((with_reducible refine gate_dst (N := 3) rfl ?_); refine box_event ?hg (N := 3) ?hd (cs := #[.int .i64 p0, .int .i64 p1, .int .i64 p2]) (t := 24) ?hr ?_; (case hd => rfl); (case hg => rfl); (case hr => first | (go_simp; done) | (go_simp; rfl)); intro gb2 hg w4 hbox hb; replace BK1 := bK BK1 hb; replace HB := bB HB hb; have BK2 := Aside0.mk hbox; clear hb hbox hg; have hc0 : w4.cell? ⟨gb1, 0, none⟩ = some (.slice A l.length c) := bC BK1 0 rfl) | (go_at_call 51; (with_reducible refine (holders_rising.callsK k A c l false _ (Kd.C_below HR.out (uB HB)) HL.out HS.out).mono ?_); rintro e w5 ⟨rfl, hb⟩; have n0_ := bK BK1 hb; have n1_ := bK BK2 hb; have n9_ := bB HB hb; clear BK1 BK2 HB; have BK1 := n0_; have BK2 := n1_; have HB := n9_; clear n0_ n1_ n9_; clear hb; have hc0 : w5.cell? ⟨gb1, 0, none⟩ = some (.slice A l.length c) := bC BK1 0 rfl))
  go_loopg [6] k (fun kq v6 w' => ∃ (i : Int), v6 = .int .i64 i ∧ Aside0 (linear_l l p0 p1 p2 kq i = some r) ∧ Aside0 (kq ≤ k) ∧ Aside0 (0 ≤ i ∧ i ≤ l.length) ∧ Aside0 (w'.heap[gb1]? = some (.cells #[.slice A l.length c] 22 (0, 0))) ∧ Aside0 (w'.heap[gb2]? = some (.cells #[.int .i64 p0, .int .i64 p1, .int .i64 p2] 24 (0, 0))) ∧ Aside0 (Below w.heap.size w w'))
  case atStart => exact ⟨0, (by first | rfl | (simp; done) | (simp [*]; done)), H', ⟨Nat.le_refl _⟩, ⟨by omega⟩, ⟨by (with_reducible repeat first | refine bN ?_ _ | refine bD ?_ | refine bA ?_ _); exact BK1.out⟩, ⟨by (with_reducible repeat first | refine bN ?_ _ | refine bD ?_ | refine bA ?_ _); exact BK2.out⟩, ⟨by repeat (first | (with_reducible first | exact HB.out | apply bL | apply bM | apply bR) | exact HB.out)⟩⟩
  case round =>
   clear H'
   obtain ⟨i, rfl, HA, HK1, HI, BK1, BK2, HB⟩ := hrel
   have hcr : wr.cell? ⟨gb1, 0, none⟩ = some (.slice A l.length c) := bC BK1 0 rfl
   cases gk with
   | zero => exact absurd HA.out (by simp [linear_l])
   | succ k1 =>
    have H := HA.out
    clear HA
    simp only [linear_l] at H
    by_cases c1 : i < l.length
    ·rw [if_pos c1] at H
     have P0 : Aside0 (0 ≤ i) := ⟨HI.out.1⟩
     have P1 : Aside0 (i < (l.length : Int)) := ⟨c1⟩
     obtain ⟨ad, ea, _⟩ := at_T53 HR.out _ P0.out P1.out
     subst ea
     have c1a : decide (i < (l.length : Int)) = true := decide_eq_true c1
     have hm1 : Aside0 (wrap64 (i + 1) = i + 1) := ⟨by have := HL.out; have := P0.out; unfold wrap64; omega⟩
     clear c1
     unfold above at H
     by_cases c2 : cmp3 (rd_T53 l i).f0.f0 (rd_T53 l i).f0.f1 (rd_T53 l i).f0.f2 p0 p1 p2 > 0
     ·rw [if_pos c2] at H
      obtain rfl := Option.some.inj H
      have c2a : decide (cmp3 (rd_T53 l i).f0.f0 (rd_T53 l i).f0.f1 (rd_T53 l i).f0.f2 p0 p1 p2 > 0) = true := decide_eq_true c2
      have c2b : decide (0 < cmp3 (rd_T53 l i).f0.f0 (rd_T53 l i).f0.f1 (rd_T53 l i).f0.f2 p0 p1 p2) = true := decide_eq_true c2
      clear c2 H
      go_wp2_with (first | (go_at_call 50; (with_reducible refine (holders_place1.calls ad c l gb1 gb2 i p0 p1 p2 _ (Kd.C_below HR.out (uB HB)) ((blk_cell (uK BK1) 0).trans rfl) ((blk_cell (uK BK2) 0).trans rfl) ((blk_cell (uK BK2) 1).trans rfl) ((blk_cell (uK BK2) 2).trans rfl) P0.out P1.out).mono ?_); rintro e w6 ⟨rfl, hb⟩; have n0_ := bK BK1 hb; have n1_ := bK BK2 hb; have n9_ := bB HB hb; clear BK1 BK2 HB; have BK1 := n0_; have BK2 := n1_; have HB := n9_; clear n0_ n1_ n9_; clear hb))
      go_ret
      exact ⟨rfl, by repeat (first | (with_reducible first | exact HB.out | apply bL | apply bM | apply bR) | exact HB.out)⟩
     ·rw [if_neg c2] at H
      have c2a : decide (cmp3 (rd_T53 l i).f0.f0 (rd_T53 l i).f0.f1 (rd_T53 l i).f0.f2 p0 p1 p2 > 0) = false := decide_eq_false c2
      have c2b : decide (0 < cmp3 (rd_T53 l i).f0.f0 (rd_T53 l i).f0.f1 (rd_T53 l i).f0.f2 p0 p1 p2) = false := decide_eq_false c2
      clear c2
      have H' := Aside0.mk H
      clear H
      go_wp2_with (first | (go_at_call 50; (with_reducible refine (holders_place1.calls ad c l gb1 gb2 i p0 p1 p2 _ (Kd.C_below HR.out (uB HB)) ((blk_cell (uK BK1) 0).trans rfl) ((blk_cell (uK BK2) 0).trans rfl) ((blk_cell (uK BK2) 1).trans rfl) ((blk_cell (uK BK2) 2).trans rfl) P0.out P1.out).mono ?_); rintro e w6 ⟨rfl, hb⟩; have n0_ := bK BK1 hb; have n1_ := bK BK2 hb; have n9_ := bB HB hb; clear BK1 BK2 HB; have BK1 := n0_; have BK2 := n1_; have HB := n9_; clear n0_ n1_ n9_; clear hb))
      go_roundg k1
      case measure => have := HK1.out; omega
      case rel => exact ⟨wrap64 (i + 1), (by first | rfl | (simp; done) | (simp [*]; done)), ⟨by rw [hm1.out]; exact H'.out⟩, ⟨by have := HK1.out; omega⟩, ⟨by rw [hm1.out]; have := P0.out; have := P1.out; omega⟩, ⟨by (with_reducible repeat first | refine bN ?_ _ | refine bD ?_ | refine bA ?_ _); exact BK1.out⟩, ⟨by (with_reducible repeat first | refine bN ?_ _ | refine bD ?_ | refine bA ?_ _); exact BK2.out⟩, ⟨by repeat (first | (with_reducible first | exact HB.out | apply bL | apply bM | apply bR) | exact HB.out)⟩⟩
    ·rw [if_neg c1] at H
     obtain rfl := Option.some.inj H
     have c1a : decide (i < (l.length : Int)) = false := decide_eq_false c1
     clear c1 H
     go_wp2
     go_ret
     exact ⟨rfl, by repeat (first | (with_reducible first | exact HB.out | apply bL | apply bM | apply bR) | exact HB.out)⟩
end Go.Proofs.YtnmemkphfgdplaaDoor.PA
