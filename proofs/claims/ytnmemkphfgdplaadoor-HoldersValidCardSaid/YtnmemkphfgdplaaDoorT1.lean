/- The three numbers of a process, and how two triples compare. Conditions: none. -/
import Derived.Test.YtnmemkphfgdplaaDoorPAx0
import Derived.Test.YtnmemkphfgdplaaDoorSlim
import Derived.Deep.QuietTactic
import Derived.BigQuiet
namespace Go.Proofs.YtnmemkphfgdplaaDoor.PA
open Go.RowKit Go.Proofs.YtnmemkphfgdplaaDoorW.PrintWords Go.Proofs.YtnmemkphfgdplaaDoorW.PrintLast Go.Proofs.YtnmemkphfgdplaaDoorW.PrintMore
attribute [local go_sem] max2_int min2_int max_two min_two max_three min_three max_four min_four
set_option linter.unusedVariables false
set_option linter.unusedSimpArgs false
set_option maxHeartbeats 4000000 in
set_option maxRecDepth 100000 in
theorem ident_triple.calls (a b c : Int) (w : World) :
    Calls Tryd.prog 62 #[.agg #[.int .i64 a, .int .i64 b, .int .i64 c]] w fun e w' => e = .returned (.agg #[.int .i64 a, .int .i64 b, .int .i64 c]) ∧ Below w.heap.size w w' := by
  have hu24 := Tryd.underlying24
  have hu75 := Tryd.underlying75
  have HB := Aside0.mk (Below.refl w.heap.size w)
  go_enter Tryd.func62, Tryd.ntmps62
  go_upto_region 1 with (first | ((with_reducible refine gate_dst (N := 1) rfl ?_); refine box_event ?hg (N := 1) ?hd (cs := #[.int .i64 a, .int .i64 b, .int .i64 c]) (t := 24) ?hr ?_; (case hd => rfl); (case hg => rfl); (case hr => first | (go_simp; done) | (go_simp; rfl)); intro gb1 hg w3 hbox hb; have n0_ := Aside0.mk (below_step HB.out hb); have n1_ := Aside0.mk (hbox); clear HB; have HB := n0_; have BK1 := n1_; clear n0_ n1_; clear hb hbox hg) | ((with_reducible refine gate_dst (N := 2) rfl ?_); refine box_event ?hg (N := 2) ?hd (cs := #[.int .i64 0, .int .i64 0, .int .i64 0]) (t := 75) ?hr ?_; (case hd => rfl); (case hg => rfl); (case hr => first | (go_simp; done) | (go_simp; rfl)); intro gb2 hg w4 hbox hb; have n0_ := blkB BK1 (by (with_reducible repeat (first | refine blk_drewN ?_ _ | refine blk_drew ?_ | refine blk_alloc ?_ _)); exact BK1.out) hb; have n1_ := Aside0.mk (below_step (by repeat (first | (with_reducible first | exact HB.out | apply below_alloc | apply pw_below_drewN | apply below_drew1) | exact HB.out)) hb); have n2_ := Aside0.mk (hbox); have n4_ := Aside0.mk ((by rw [hg]; exact (below_size (by repeat (first | (with_reducible first | exact HB.out | apply below_alloc | apply pw_below_drewN | apply below_drew1) | exact HB.out))) : w.heap.size ≤ gb2)); clear BK1; clear HB; have BK1 := n0_; have HB := n1_; have BK2 := n2_; have GE2 := n4_; clear n0_ n1_ n2_ n4_; clear hb hbox hg))
  have hcz1_0 : w4.cell? ⟨gb1, 0, none⟩ = some (.int .i64 a) := (blk_cell BK1.out 0).trans rfl
  have hcz1_1 : w4.cell? ⟨gb1, 1, none⟩ = some (.int .i64 b) := (blk_cell BK1.out 1).trans rfl
  have hcz1_2 : w4.cell? ⟨gb1, 2, none⟩ = some (.int .i64 c) := (blk_cell BK1.out 2).trans rfl
  have hfz1_0 := blk_frozen BK1.out 0
  have hfz1_1 := blk_frozen BK1.out 1
  have hfz1_2 := blk_frozen BK1.out 2
  have hcz2_0 : w4.cell? ⟨gb2, 0, none⟩ = some (.int .i64 0) := (blk_cell BK2.out 0).trans rfl
  have hcz2_1 : w4.cell? ⟨gb2, 1, none⟩ = some (.int .i64 0) := (blk_cell BK2.out 1).trans rfl
  have hcz2_2 : w4.cell? ⟨gb2, 2, none⟩ = some (.int .i64 0) := (blk_cell BK2.out 2).trans rfl
  have hfz2_0 := blk_frozen BK2.out 0
  have hfz2_1 := blk_frozen BK2.out 1
  have hfz2_2 := blk_frozen BK2.out 2
  try go_wp2
  refine bodyPost_ret (results_cell_row rfl _ _ gb2 75 #[.int .i64 a, .int .i64 b, .int .i64 c] (0, 0) _ rfl (by refine blk_put (cs := #[.int .i64 a, .int .i64 b, .int .i64 0]) ?_ 2 _ rfl; refine blk_put (cs := #[.int .i64 a, .int .i64 0, .int .i64 0]) ?_ 1 _ rfl; refine blk_put (cs := #[.int .i64 0, .int .i64 0, .int .i64 0]) ?_ 0 _ rfl; exact BK2.out) Tryd.underlying75 rfl (by kernel_rfl)) rfl ?_
  exact ⟨by first | rfl | (simp [*]), by repeat (first | (with_reducible first | exact HB.out | apply below_alloc | apply pw_below_drewN | apply below_drew1 | refine below_set ?_ GE2.out) | exact HB.out)⟩
def order_l : Nat → Int → Int → Int → Int → Int → Int → Int → Option Int
  | 0, _, _, _, _, _, _, _ => none
  | k + 1, a0, a1, a2, b0, b1, b2, i => if i = 0 then (if a0 < b0 then some (-1) else if a0 > b0 then some 1 else order_l k a0 a1 a2 b0 b1 b2 1) else if i = 1 then (if a1 < b1 then some (-1) else if a1 > b1 then some 1 else order_l k a0 a1 a2 b0 b1 b2 2) else if i = 2 then (if a2 < b2 then some (-1) else if a2 > b2 then some 1 else order_l k a0 a1 a2 b0 b1 b2 3) else if i = 3 then some 0 else none
set_option maxHeartbeats 4000000 in
set_option maxRecDepth 100000 in
theorem ident_order.calls (k : Nat) (a0 a1 a2 b0 b1 b2 r : Int) (w : World) (h : order_l k a0 a1 a2 b0 b1 b2 0 = some r) :
    Calls Tryd.prog 61 #[.agg #[.int .i64 a0, .int .i64 a1, .int .i64 a2], .agg #[.int .i64 b0, .int .i64 b1, .int .i64 b2]] w fun e w' => e = .returned (.int .i64 r) ∧ Below w.heap.size w w' := by
  have hu75 := Tryd.underlying75
  have HB := Aside0.mk (Below.refl w.heap.size w)
  have H' := Aside0.mk h
  clear h
  go_enter Tryd.func61, Tryd.ntmps61
  go_wp2_with (first | ((with_reducible refine gate_dst (N := 2) rfl ?_); refine box_event ?hg (N := 2) ?hd (cs := #[.int .i64 a0, .int .i64 a1, .int .i64 a2]) (t := 75) ?hr ?_; (case hd => rfl); (case hg => rfl); (case hr => first | (go_simp; done) | (go_simp; rfl)); intro gb1 hg w3 hbox hb; have n0_ := Aside0.mk (below_step HB.out hb); have n1_ := Aside0.mk (hbox); clear HB; have HB := n0_; have BK1 := n1_; clear n0_ n1_; clear hb hbox hg) | ((with_reducible refine gate_dst (N := 3) rfl ?_); refine box_event ?hg (N := 3) ?hd (cs := #[.int .i64 b0, .int .i64 b1, .int .i64 b2]) (t := 75) ?hr ?_; (case hd => rfl); (case hg => rfl); (case hr => first | (go_simp; done) | (go_simp; rfl)); intro gb2 hg w4 hbox hb; have n0_ := blkB BK1 (by (with_reducible repeat (first | refine blk_drewN ?_ _ | refine blk_drew ?_ | refine blk_alloc ?_ _)); exact BK1.out) hb; have n1_ := Aside0.mk (below_step (by repeat (first | (with_reducible first | exact HB.out | apply below_alloc | apply pw_below_drewN | apply below_drew1) | exact HB.out)) hb); have n2_ := Aside0.mk (hbox); clear BK1; clear HB; have BK1 := n0_; have HB := n1_; have BK2 := n2_; clear n0_ n1_ n2_; clear hb hbox hg))
  go_loopg [6] k (fun kq v6 w' => ∃ (i : Int), v6 = .int .i64 i ∧ Aside0 (order_l kq a0 a1 a2 b0 b1 b2 i = some r) ∧ Aside0 (kq ≤ k) ∧ Aside0 (w'.heap[gb1]? = some (.cells #[.int .i64 a0, .int .i64 a1, .int .i64 a2] 75 (0, 0))) ∧ Aside0 (w'.heap[gb2]? = some (.cells #[.int .i64 b0, .int .i64 b1, .int .i64 b2] 75 (0, 0))) ∧ Aside0 (Below w.heap.size w w'))
  case atStart => exact ⟨0, (by first | rfl | (simp; done) | (simp [*]; done)), H', ⟨Nat.le_refl _⟩, ⟨by (with_reducible repeat (first | refine blk_drewN ?_ _ | refine blk_drew ?_ | refine blk_alloc ?_ _)); exact BK1.out⟩, ⟨by (with_reducible repeat (first | refine blk_drewN ?_ _ | refine blk_drew ?_ | refine blk_alloc ?_ _)); exact BK2.out⟩, ⟨by repeat (first | (with_reducible first | exact HB.out | apply below_alloc | apply pw_below_drewN | apply below_drew1) | exact HB.out)⟩⟩
  case round =>
    clear H'
    obtain ⟨i, rfl, HA, HK1, BK1, BK2, HB⟩ := hrel
    cases gk with
    | zero => exact absurd HA.out (by simp [order_l])
    | succ k1 =>
      have H := HA.out
      clear HA
      simp only [order_l] at H
      have hca_0 : wr.cell? ⟨gb1, 0, none⟩ = some (.int .i64 a0) := (blk_cell BK1.out 0).trans rfl
      have hfa_0 := blk_frozen BK1.out 0
      have hca_1 : wr.cell? ⟨gb1, 1, none⟩ = some (.int .i64 a1) := (blk_cell BK1.out 1).trans rfl
      have hfa_1 := blk_frozen BK1.out 1
      have hca_2 : wr.cell? ⟨gb1, 2, none⟩ = some (.int .i64 a2) := (blk_cell BK1.out 2).trans rfl
      have hfa_2 := blk_frozen BK1.out 2
      have hcb_0 : wr.cell? ⟨gb2, 0, none⟩ = some (.int .i64 b0) := (blk_cell BK2.out 0).trans rfl
      have hfb_0 := blk_frozen BK2.out 0
      have hcb_1 : wr.cell? ⟨gb2, 1, none⟩ = some (.int .i64 b1) := (blk_cell BK2.out 1).trans rfl
      have hfb_1 := blk_frozen BK2.out 1
      have hcb_2 : wr.cell? ⟨gb2, 2, none⟩ = some (.int .i64 b2) := (blk_cell BK2.out 2).trans rfl
      have hfb_2 := blk_frozen BK2.out 2
      by_cases ci0 : i = 0
      · subst ci0
        rw [if_pos rfl] at H
        by_cases l_ : a0 < b0
        · rw [if_pos l_] at H
          obtain rfl := Option.some.inj H
          have l0_ : decide (a0 < b0) = true := decide_eq_true l_
          clear l_
          go_wp2
          go_quiet (fail)
          go_wp2
          go_ret
          exact ⟨rfl, by repeat (first | (with_reducible first | exact HB.out | apply below_alloc | apply pw_below_drewN | apply below_drew1) | exact HB.out)⟩
        · rw [if_neg l_] at H
          have l0_ : decide (a0 < b0) = false := decide_eq_false l_
          clear l_
          by_cases m_ : a0 > b0
          · rw [if_pos m_] at H
            obtain rfl := Option.some.inj H
            have m0_ : decide (b0 < a0) = true := decide_eq_true m_
            have m1_ : decide (a0 > b0) = true := decide_eq_true m_
            clear m_
            go_wp2
            go_quiet (fail)
            go_wp2
            go_quiet (fail)
            go_wp2
            go_ret
            exact ⟨rfl, by repeat (first | (with_reducible first | exact HB.out | apply below_alloc | apply pw_below_drewN | apply below_drew1) | exact HB.out)⟩
          · rw [if_neg m_] at H
            have H' := Aside0.mk H
            clear H
            have m0_ : decide (b0 < a0) = false := decide_eq_false m_
            have m1_ : decide (a0 > b0) = false := decide_eq_false m_
            clear m_
            go_wp2
            go_quiet (fail)
            go_wp2
            go_quiet (fail)
            go_wp2
            go_roundg k1
            case measure => have := HK1.out; omega
            case rel => exact ⟨1, (by first | rfl | (simp; done) | (simp [*]; done)), H', ⟨by have := HK1.out; omega⟩, ⟨by (with_reducible repeat (first | refine blk_drewN ?_ _ | refine blk_drew ?_ | refine blk_alloc ?_ _)); exact BK1.out⟩, ⟨by (with_reducible repeat (first | refine blk_drewN ?_ _ | refine blk_drew ?_ | refine blk_alloc ?_ _)); exact BK2.out⟩, ⟨by repeat (first | (with_reducible first | exact HB.out | apply below_alloc | apply pw_below_drewN | apply below_drew1) | exact HB.out)⟩⟩
      by_cases ci1 : i = 1
      · subst ci1
        rw [if_neg (by decide)] at H; rw [if_pos rfl] at H
        by_cases l_ : a1 < b1
        · rw [if_pos l_] at H
          obtain rfl := Option.some.inj H
          have l0_ : decide (a1 < b1) = true := decide_eq_true l_
          clear l_
          go_wp2
          go_quiet (fail)
          go_wp2
          go_ret
          exact ⟨rfl, by repeat (first | (with_reducible first | exact HB.out | apply below_alloc | apply pw_below_drewN | apply below_drew1) | exact HB.out)⟩
        · rw [if_neg l_] at H
          have l0_ : decide (a1 < b1) = false := decide_eq_false l_
          clear l_
          by_cases m_ : a1 > b1
          · rw [if_pos m_] at H
            obtain rfl := Option.some.inj H
            have m0_ : decide (b1 < a1) = true := decide_eq_true m_
            have m1_ : decide (a1 > b1) = true := decide_eq_true m_
            clear m_
            go_wp2
            go_quiet (fail)
            go_wp2
            go_quiet (fail)
            go_wp2
            go_ret
            exact ⟨rfl, by repeat (first | (with_reducible first | exact HB.out | apply below_alloc | apply pw_below_drewN | apply below_drew1) | exact HB.out)⟩
          · rw [if_neg m_] at H
            have H' := Aside0.mk H
            clear H
            have m0_ : decide (b1 < a1) = false := decide_eq_false m_
            have m1_ : decide (a1 > b1) = false := decide_eq_false m_
            clear m_
            go_wp2
            go_quiet (fail)
            go_wp2
            go_quiet (fail)
            go_wp2
            go_roundg k1
            case measure => have := HK1.out; omega
            case rel => exact ⟨2, (by first | rfl | (simp; done) | (simp [*]; done)), H', ⟨by have := HK1.out; omega⟩, ⟨by (with_reducible repeat (first | refine blk_drewN ?_ _ | refine blk_drew ?_ | refine blk_alloc ?_ _)); exact BK1.out⟩, ⟨by (with_reducible repeat (first | refine blk_drewN ?_ _ | refine blk_drew ?_ | refine blk_alloc ?_ _)); exact BK2.out⟩, ⟨by repeat (first | (with_reducible first | exact HB.out | apply below_alloc | apply pw_below_drewN | apply below_drew1) | exact HB.out)⟩⟩
      by_cases ci2 : i = 2
      · subst ci2
        rw [if_neg (by decide)] at H; rw [if_neg (by decide)] at H; rw [if_pos rfl] at H
        by_cases l_ : a2 < b2
        · rw [if_pos l_] at H
          obtain rfl := Option.some.inj H
          have l0_ : decide (a2 < b2) = true := decide_eq_true l_
          clear l_
          go_wp2
          go_quiet (fail)
          go_wp2
          go_ret
          exact ⟨rfl, by repeat (first | (with_reducible first | exact HB.out | apply below_alloc | apply pw_below_drewN | apply below_drew1) | exact HB.out)⟩
        · rw [if_neg l_] at H
          have l0_ : decide (a2 < b2) = false := decide_eq_false l_
          clear l_
          by_cases m_ : a2 > b2
          · rw [if_pos m_] at H
            obtain rfl := Option.some.inj H
            have m0_ : decide (b2 < a2) = true := decide_eq_true m_
            have m1_ : decide (a2 > b2) = true := decide_eq_true m_
            clear m_
            go_wp2
            go_quiet (fail)
            go_wp2
            go_quiet (fail)
            go_wp2
            go_ret
            exact ⟨rfl, by repeat (first | (with_reducible first | exact HB.out | apply below_alloc | apply pw_below_drewN | apply below_drew1) | exact HB.out)⟩
          · rw [if_neg m_] at H
            have H' := Aside0.mk H
            clear H
            have m0_ : decide (b2 < a2) = false := decide_eq_false m_
            have m1_ : decide (a2 > b2) = false := decide_eq_false m_
            clear m_
            go_wp2
            go_quiet (fail)
            go_wp2
            go_quiet (fail)
            go_wp2
            go_roundg k1
            case measure => have := HK1.out; omega
            case rel => exact ⟨3, (by first | rfl | (simp; done) | (simp [*]; done)), H', ⟨by have := HK1.out; omega⟩, ⟨by (with_reducible repeat (first | refine blk_drewN ?_ _ | refine blk_drew ?_ | refine blk_alloc ?_ _)); exact BK1.out⟩, ⟨by (with_reducible repeat (first | refine blk_drewN ?_ _ | refine blk_drew ?_ | refine blk_alloc ?_ _)); exact BK2.out⟩, ⟨by repeat (first | (with_reducible first | exact HB.out | apply below_alloc | apply pw_below_drewN | apply below_drew1) | exact HB.out)⟩⟩
      by_cases ci3 : i = 3
      · subst ci3
        rw [if_neg (by decide)] at H; rw [if_neg (by decide)] at H; rw [if_neg (by decide)] at H; rw [if_pos rfl] at H
        obtain rfl := Option.some.inj H
        go_wp2
        go_ret
        exact ⟨rfl, by repeat (first | (with_reducible first | exact HB.out | apply below_alloc | apply pw_below_drewN | apply below_drew1) | exact HB.out)⟩
      rw [if_neg ci0, if_neg ci1, if_neg ci2, if_neg ci3] at H
      exact absurd H (by simp)
end Go.Proofs.YtnmemkphfgdplaaDoor.PA
