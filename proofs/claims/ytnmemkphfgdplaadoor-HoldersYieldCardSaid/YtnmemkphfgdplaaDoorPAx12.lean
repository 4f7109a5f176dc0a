-- Printed by wip/tool/myprint.py for this claim; Lean checks it.
import Derived.Test.YtnmemkphfgdplaaDoorPAx0
import Derived.Test.YtnmemkphfgdplaaDoorSlim
import Derived.Test.YtnmemkphfgdplaaDoorPAx10
namespace Go.Proofs.YtnmemkphfgdplaaDoor.PA
open Go.RowKit Go.Proofs.YtnmemkphfgdplaaDoorW.PrintWords Go.Proofs.YtnmemkphfgdplaaDoorW.PrintLast Go.Proofs.YtnmemkphfgdplaaDoorW.PrintMore
attribute [local go_sem] max2_int min2_int max_two min_two max_three min_three max_four min_four   -- for this text's walks alone
set_option linter.unusedVariables false
set_option linter.unusedSimpArgs false

/-! ### clusterlocksref02_ValidProc: function 36 -/
def clusterlocksref02_ValidProc.f (a0_0 : Int) (a0_1 : Int) (a0_2 : Int) : Option (Bool) := if a0_0 ≥ 0 then (if a0_0 < 4 then (if a0_1 ≥ 1 then (if a0_1 ≤ 99 then (if a0_2 ≥ 1 then (some (decide (a0_2 ≤ 999))) else (some false)) else (some false)) else (some false)) else (some false)) else (some false)
set_option maxHeartbeats 8000000 in
set_option maxRecDepth 100000 in
theorem clusterlocksref02_ValidProc.calls (a0_0 : Int) (a0_1 : Int) (a0_2 : Int) (r : Bool) (w : World) (h : clusterlocksref02_ValidProc.f a0_0 a0_1 a0_2 = some r) :
  Calls Tryd.prog 36 #[.agg #[.int .i64 a0_0, .int .i64 a0_1, .int .i64 a0_2]] w fun e w' => e = .returned (.bool r) ∧ Below w.heap.size w w' := by
 have hu24 := Tryd.underlying24
 have HB := Aside0.mk (Below.refl w.heap.size w)
 have H : (if a0_0 ≥ 0 then (if a0_0 < 4 then (if a0_1 ≥ 1 then (if a0_1 ≤ 99 then (if a0_2 ≥ 1 then (some (decide (a0_2 ≤ 999))) else (some false)) else (some false)) else (some false)) else (some false)) else (some false)) = some r := h
 clear h
 by_cases c2 : a0_0 ≥ 0
 ·rw [if_pos c2] at H
  have c2b0 : decide (0 ≤ a0_0) = true := decide_eq_true c2
  clear c2
  by_cases c3 : a0_0 < 4
  ·rw [if_pos c3] at H
   have c3b0 : decide (a0_0 < 4) = true := decide_eq_true c3
   clear c3
   by_cases c4 : a0_1 ≥ 1
   ·rw [if_pos c4] at H
    have c4b0 : decide (1 ≤ a0_1) = true := decide_eq_true c4
    clear c4
    by_cases c5 : a0_1 ≤ 99
    ·rw [if_pos c5] at H
     have c5b0 : decide (a0_1 ≤ 99) = true := decide_eq_true c5
     clear c5
     by_cases c6 : a0_2 ≥ 1
     ·rw [if_pos c6] at H
      have c6b0 : decide (1 ≤ a0_2) = true := decide_eq_true c6
      clear c6
      obtain rfl := Option.some.inj H
      go_enter Tryd.func36, Tryd.ntmps36
      go_wp2_with (first | ((with_reducible refine gate_dst (N := 1) rfl ?_); refine box_event ?hg (N := 1) ?hd (cs := #[.int .i64 a0_0, .int .i64 a0_1, .int .i64 a0_2]) (t := 24) ?hr ?_; (case hd => rfl); (case hg => rfl); (case hr => first | (go_simp; done) | (go_simp; rfl)); intro gb261 hg w7 hbox hb; have BK261 := Aside0.mk hbox; have GW261 := gE HB hg; replace HB := bB HB hb; have GE261 := GW261; clear hb hbox hg; have hcz8_0 : w7.cell? ⟨gb261, 0, none⟩ = some (.int .i64 a0_0) := bC BK261 0 rfl; have hcz8_1 : w7.cell? ⟨gb261, 1, none⟩ = some (.int .i64 a0_1) := bC BK261 1 rfl; have hcz8_2 : w7.cell? ⟨gb261, 2, none⟩ = some (.int .i64 a0_2) := bC BK261 2 rfl; have hfz8_0 := bF BK261 0; have hfz8_1 := bF BK261 1; have hfz8_2 := bF BK261 2))
      go_ret
      exact ⟨by first | rfl | (simp [errW_none, errW_some] <;> rfl) | (simp [*, errW_none, errW_some] <;> rfl), by repeat (first | (with_reducible first | exact HB.out | apply bL | apply bM | apply bR) | exact HB.out)⟩
     ·rw [if_neg c6] at H
      have c6b0 : decide (1 ≤ a0_2) = false := decide_eq_false c6
      clear c6
      obtain rfl := Option.some.inj H
      go_enter Tryd.func36, Tryd.ntmps36
      go_wp2_with (first | ((with_reducible refine gate_dst (N := 1) rfl ?_); refine box_event ?hg (N := 1) ?hd (cs := #[.int .i64 a0_0, .int .i64 a0_1, .int .i64 a0_2]) (t := 24) ?hr ?_; (case hd => rfl); (case hg => rfl); (case hr => first | (go_simp; done) | (go_simp; rfl)); intro gb261 hg w9 hbox hb; have BK261 := Aside0.mk hbox; have GW261 := gE HB hg; replace HB := bB HB hb; have GE261 := GW261; clear hb hbox hg; have hcz10_0 : w9.cell? ⟨gb261, 0, none⟩ = some (.int .i64 a0_0) := bC BK261 0 rfl; have hcz10_1 : w9.cell? ⟨gb261, 1, none⟩ = some (.int .i64 a0_1) := bC BK261 1 rfl; have hcz10_2 : w9.cell? ⟨gb261, 2, none⟩ = some (.int .i64 a0_2) := bC BK261 2 rfl; have hfz10_0 := bF BK261 0; have hfz10_1 := bF BK261 1; have hfz10_2 := bF BK261 2))
      go_ret
      exact ⟨by first | rfl | (simp [errW_none, errW_some] <;> rfl) | (simp [*, errW_none, errW_some] <;> rfl), by repeat (first | (with_reducible first | exact HB.out | apply bL | apply bM | apply bR) | exact HB.out)⟩
    ·rw [if_neg c5] at H
     have c5b0 : decide (a0_1 ≤ 99) = false := decide_eq_false c5
     clear c5
     obtain rfl := Option.some.inj H
     go_enter Tryd.func36, Tryd.ntmps36
     go_wp2_with (first | ((with_reducible refine gate_dst (N := 1) rfl ?_); refine box_event ?hg (N := 1) ?hd (cs := #[.int .i64 a0_0, .int .i64 a0_1, .int .i64 a0_2]) (t := 24) ?hr ?_; (case hd => rfl); (case hg => rfl); (case hr => first | (go_simp; done) | (go_simp; rfl)); intro gb261 hg w11 hbox hb; have BK261 := Aside0.mk hbox; have GW261 := gE HB hg; replace HB := bB HB hb; have GE261 := GW261; clear hb hbox hg; have hcz12_0 : w11.cell? ⟨gb261, 0, none⟩ = some (.int .i64 a0_0) := bC BK261 0 rfl; have hcz12_1 : w11.cell? ⟨gb261, 1, none⟩ = some (.int .i64 a0_1) := bC BK261 1 rfl; have hcz12_2 : w11.cell? ⟨gb261, 2, none⟩ = some (.int .i64 a0_2) := bC BK261 2 rfl; have hfz12_0 := bF BK261 0; have hfz12_1 := bF BK261 1; have hfz12_2 := bF BK261 2))
     go_ret
     exact ⟨by first | rfl | (simp [errW_none, errW_some] <;> rfl) | (simp [*, errW_none, errW_some] <;> rfl), by repeat (first | (with_reducible first | exact HB.out | apply bL | apply bM | apply bR) | exact HB.out)⟩
   ·rw [if_neg c4] at H
    have c4b0 : decide (1 ≤ a0_1) = false := decide_eq_false c4
    clear c4
    obtain rfl := Option.some.inj H
    go_enter Tryd.func36, Tryd.ntmps36
    go_wp2_with (first | ((with_reducible refine gate_dst (N := 1) rfl ?_); refine box_event ?hg (N := 1) ?hd (cs := #[.int .i64 a0_0, .int .i64 a0_1, .int .i64 a0_2]) (t := 24) ?hr ?_; (case hd => rfl); (case hg => rfl); (case hr => first | (go_simp; done) | (go_simp; rfl)); intro gb261 hg w13 hbox hb; have BK261 := Aside0.mk hbox; have GW261 := gE HB hg; replace HB := bB HB hb; have GE261 := GW261; clear hb hbox hg; have hcz14_0 : w13.cell? ⟨gb261, 0, none⟩ = some (.int .i64 a0_0) := bC BK261 0 rfl; have hcz14_1 : w13.cell? ⟨gb261, 1, none⟩ = some (.int .i64 a0_1) := bC BK261 1 rfl; have hcz14_2 : w13.cell? ⟨gb261, 2, none⟩ = some (.int .i64 a0_2) := bC BK261 2 rfl; have hfz14_0 := bF BK261 0; have hfz14_1 := bF BK261 1; have hfz14_2 := bF BK261 2))
    go_ret
    exact ⟨by first | rfl | (simp [errW_none, errW_some] <;> rfl) | (simp [*, errW_none, errW_some] <;> rfl), by repeat (first | (with_reducible first | exact HB.out | apply bL | apply bM | apply bR) | exact HB.out)⟩
  ·rw [if_neg c3] at H
   have c3b0 : decide (a0_0 < 4) = false := decide_eq_false c3
   clear c3
   obtain rfl := Option.some.inj H
   go_enter Tryd.func36, Tryd.ntmps36
   go_wp2_with (first | ((with_reducible refine gate_dst (N := 1) rfl ?_); refine box_event ?hg (N := 1) ?hd (cs := #[.int .i64 a0_0, .int .i64 a0_1, .int .i64 a0_2]) (t := 24) ?hr ?_; (case hd => rfl); (case hg => rfl); (case hr => first | (go_simp; done) | (go_simp; rfl)); intro gb261 hg w15 hbox hb; have BK261 := Aside0.mk hbox; have GW261 := gE HB hg; replace HB := bB HB hb; have GE261 := GW261; clear hb hbox hg; have hcz16_0 : w15.cell? ⟨gb261, 0, none⟩ = some (.int .i64 a0_0) := bC BK261 0 rfl; have hcz16_1 : w15.cell? ⟨gb261, 1, none⟩ = some (.int .i64 a0_1) := bC BK261 1 rfl; have hcz16_2 : w15.cell? ⟨gb261, 2, none⟩ = some (.int .i64 a0_2) := bC BK261 2 rfl; have hfz16_0 := bF BK261 0; have hfz16_1 := bF BK261 1; have hfz16_2 := bF BK261 2))
   go_ret
   exact ⟨by first | rfl | (simp [errW_none, errW_some] <;> rfl) | (simp [*, errW_none, errW_some] <;> rfl), by repeat (first | (with_reducible first | exact HB.out | apply bL | apply bM | apply bR) | exact HB.out)⟩
 ·rw [if_neg c2] at H
  have c2b0 : decide (0 ≤ a0_0) = false := decide_eq_false c2
  clear c2
  obtain rfl := Option.some.inj H
  go_enter Tryd.func36, Tryd.ntmps36
  go_wp2_with (first | ((with_reducible refine gate_dst (N := 1) rfl ?_); refine box_event ?hg (N := 1) ?hd (cs := #[.int .i64 a0_0, .int .i64 a0_1, .int .i64 a0_2]) (t := 24) ?hr ?_; (case hd => rfl); (case hg => rfl); (case hr => first | (go_simp; done) | (go_simp; rfl)); intro gb261 hg w17 hbox hb; have BK261 := Aside0.mk hbox; have GW261 := gE HB hg; replace HB := bB HB hb; have GE261 := GW261; clear hb hbox hg; have hcz18_0 : w17.cell? ⟨gb261, 0, none⟩ = some (.int .i64 a0_0) := bC BK261 0 rfl; have hcz18_1 : w17.cell? ⟨gb261, 1, none⟩ = some (.int .i64 a0_1) := bC BK261 1 rfl; have hcz18_2 : w17.cell? ⟨gb261, 2, none⟩ = some (.int .i64 a0_2) := bC BK261 2 rfl; have hfz18_0 := bF BK261 0; have hfz18_1 := bF BK261 1; have hfz18_2 := bF BK261 2))
  go_ret
  exact ⟨by first | rfl | (simp [errW_none, errW_some] <;> rfl) | (simp [*, errW_none, errW_some] <;> rfl), by repeat (first | (with_reducible first | exact HB.out | apply bL | apply bM | apply bR) | exact HB.out)⟩
/-! ### clusterlocksref04_Shaped: function 48 -/
def clusterlocksref04_Shaped.f (a0_0 : ByteArray) (a0_1 : Int) (a0_2 : Int) (a0_3 : Int) : Option (Bool) := if a0_1 = 1 then (if a0_2 = 1 then (some true) else (if a0_1 = 2 then (if a0_2 ≥ 1 then (some (decide (a0_2 ≤ 8))) else (some false)) else (some false))) else (if a0_1 = 2 then (if a0_2 ≥ 1 then (some (decide (a0_2 ≤ 8))) else (some false)) else (some false))
set_option maxHeartbeats 8000000 in
set_option maxRecDepth 100000 in
theorem clusterlocksref04_Shaped.calls (a0_0 : ByteArray) (a0_1 : Int) (a0_2 : Int) (a0_3 : Int) (r : Bool) (w : World) (h : clusterlocksref04_Shaped.f a0_0 a0_1 a0_2 a0_3 = some r) :
  Calls Tryd.prog 48 #[.agg #[.string a0_0, .int .i64 a0_1, .int .i64 a0_2, .int .i64 a0_3]] w fun e w' => e = .returned (.bool r) ∧ Below w.heap.size w w' := by
 have hu32 := Tryd.underlying32
 have HB := Aside0.mk (Below.refl w.heap.size w)
 have H : (if a0_1 = 1 then (if a0_2 = 1 then (some true) else (if a0_1 = 2 then (if a0_2 ≥ 1 then (some (decide (a0_2 ≤ 8))) else (some false)) else (some false))) else (if a0_1 = 2 then (if a0_2 ≥ 1 then (some (decide (a0_2 ≤ 8))) else (some false)) else (some false))) = some r := h
 clear h
 by_cases c2 : a0_1 = 1
 ·rw [if_pos c2] at H
  have c2b0 : (a0_1 == 1) = true := beq_iff_eq.mpr c2
  have c2b1 : (a0_1 != 1) = false := bne_eq_false_iff_eq.mpr c2
  clear c2
  by_cases c3 : a0_2 = 1
  ·rw [if_pos c3] at H
   have c3b0 : (a0_2 == 1) = true := beq_iff_eq.mpr c3
   have c3b1 : (a0_2 != 1) = false := bne_eq_false_iff_eq.mpr c3
   clear c3
   obtain rfl := Option.some.inj H
   go_enter Tryd.func48, Tryd.ntmps48
   go_wp2_with (first | ((with_reducible refine gate_dst (N := 1) rfl ?_); refine box_event ?hg (N := 1) ?hd (cs := #[.string a0_0, .int .i64 a0_1, .int .i64 a0_2, .int .i64 a0_3]) (t := 32) ?hr ?_; (case hd => rfl); (case hg => rfl); (case hr => first | (go_simp; done) | (go_simp; rfl)); intro gb262 hg w4 hbox hb; have BK262 := Aside0.mk hbox; have GW262 := gE HB hg; replace HB := bB HB hb; have GE262 := GW262; clear hb hbox hg; have hcz5_0 : w4.cell? ⟨gb262, 0, none⟩ = some (.string a0_0) := bC BK262 0 rfl; have hcz5_1 : w4.cell? ⟨gb262, 1, none⟩ = some (.int .i64 a0_1) := bC BK262 1 rfl; have hcz5_2 : w4.cell? ⟨gb262, 2, none⟩ = some (.int .i64 a0_2) := bC BK262 2 rfl; have hcz5_3 : w4.cell? ⟨gb262, 3, none⟩ = some (.int .i64 a0_3) := bC BK262 3 rfl; have hfz5_0 := bF BK262 0; have hfz5_1 := bF BK262 1; have hfz5_2 := bF BK262 2; have hfz5_3 := bF BK262 3))
   go_ret
   exact ⟨by first | rfl | (simp [errW_none, errW_some] <;> rfl) | (simp [*, errW_none, errW_some] <;> rfl), by repeat (first | (with_reducible first | exact HB.out | apply bL | apply bM | apply bR) | exact HB.out)⟩
  ·rw [if_neg c3] at H
   have c3b0 : (a0_2 == 1) = false := beq_eq_false_iff_ne.mpr c3
   have c3b1 : (a0_2 != 1) = true := bne_iff_ne.mpr c3
   by_cases c6 : a0_1 = 2
   ·rw [if_pos c6] at H
    have c6b0 : (a0_1 == 2) = true := beq_iff_eq.mpr c6
    have c6b1 : (a0_1 != 2) = false := bne_eq_false_iff_eq.mpr c6
    clear c6
    by_cases c7 : a0_2 ≥ 1
    ·rw [if_pos c7] at H
     have c7b0 : decide (1 ≤ a0_2) = true := decide_eq_true c7
     clear c7
     obtain rfl := Option.some.inj H
     go_enter Tryd.func48, Tryd.ntmps48
     go_wp2_with (first | ((with_reducible refine gate_dst (N := 1) rfl ?_); refine box_event ?hg (N := 1) ?hd (cs := #[.string a0_0, .int .i64 a0_1, .int .i64 a0_2, .int .i64 a0_3]) (t := 32) ?hr ?_; (case hd => rfl); (case hg => rfl); (case hr => first | (go_simp; done) | (go_simp; rfl)); intro gb262 hg w8 hbox hb; have BK262 := Aside0.mk hbox; have GW262 := gE HB hg; replace HB := bB HB hb; have GE262 := GW262; clear hb hbox hg; have hcz9_0 : w8.cell? ⟨gb262, 0, none⟩ = some (.string a0_0) := bC BK262 0 rfl; have hcz9_1 : w8.cell? ⟨gb262, 1, none⟩ = some (.int .i64 a0_1) := bC BK262 1 rfl; have hcz9_2 : w8.cell? ⟨gb262, 2, none⟩ = some (.int .i64 a0_2) := bC BK262 2 rfl; have hcz9_3 : w8.cell? ⟨gb262, 3, none⟩ = some (.int .i64 a0_3) := bC BK262 3 rfl; have hfz9_0 := bF BK262 0; have hfz9_1 := bF BK262 1; have hfz9_2 := bF BK262 2; have hfz9_3 := bF BK262 3))
     go_ret
     exact ⟨by first | rfl | (simp [errW_none, errW_some] <;> rfl) | (simp [*, errW_none, errW_some] <;> rfl), by repeat (first | (with_reducible first | exact HB.out | apply bL | apply bM | apply bR) | exact HB.out)⟩
    ·rw [if_neg c7] at H
     have c7b0 : decide (1 ≤ a0_2) = false := decide_eq_false c7
     clear c7
     obtain rfl := Option.some.inj H
     go_enter Tryd.func48, Tryd.ntmps48
     go_wp2_with (first | ((with_reducible refine gate_dst (N := 1) rfl ?_); refine box_event ?hg (N := 1) ?hd (cs := #[.string a0_0, .int .i64 a0_1, .int .i64 a0_2, .int .i64 a0_3]) (t := 32) ?hr ?_; (case hd => rfl); (case hg => rfl); (case hr => first | (go_simp; done) | (go_simp; rfl)); intro gb262 hg w10 hbox hb; have BK262 := Aside0.mk hbox; have GW262 := gE HB hg; replace HB := bB HB hb; have GE262 := GW262; clear hb hbox hg; have hcz11_0 : w10.cell? ⟨gb262, 0, none⟩ = some (.string a0_0) := bC BK262 0 rfl; have hcz11_1 : w10.cell? ⟨gb262, 1, none⟩ = some (.int .i64 a0_1) := bC BK262 1 rfl; have hcz11_2 : w10.cell? ⟨gb262, 2, none⟩ = some (.int .i64 a0_2) := bC BK262 2 rfl; have hcz11_3 : w10.cell? ⟨gb262, 3, none⟩ = some (.int .i64 a0_3) := bC BK262 3 rfl; have hfz11_0 := bF BK262 0; have hfz11_1 := bF BK262 1; have hfz11_2 := bF BK262 2; have hfz11_3 := bF BK262 3))
     go_ret
     exact ⟨by first | rfl | (simp [errW_none, errW_some] <;> rfl) | (simp [*, errW_none, errW_some] <;> rfl), by repeat (first | (with_reducible first | exact HB.out | apply bL | apply bM | apply bR) | exact HB.out)⟩
   ·rw [if_neg c6] at H
    have c6b0 : (a0_1 == 2) = false := beq_eq_false_iff_ne.mpr c6
    have c6b1 : (a0_1 != 2) = true := bne_iff_ne.mpr c6
    obtain rfl := Option.some.inj H
    go_enter Tryd.func48, Tryd.ntmps48
    go_wp2_with (first | ((with_reducible refine gate_dst (N := 1) rfl ?_); refine box_event ?hg (N := 1) ?hd (cs := #[.string a0_0, .int .i64 a0_1, .int .i64 a0_2, .int .i64 a0_3]) (t := 32) ?hr ?_; (case hd => rfl); (case hg => rfl); (case hr => first | (go_simp; done) | (go_simp; rfl)); intro gb262 hg w12 hbox hb; have BK262 := Aside0.mk hbox; have GW262 := gE HB hg; replace HB := bB HB hb; have GE262 := GW262; clear hb hbox hg; have hcz13_0 : w12.cell? ⟨gb262, 0, none⟩ = some (.string a0_0) := bC BK262 0 rfl; have hcz13_1 : w12.cell? ⟨gb262, 1, none⟩ = some (.int .i64 a0_1) := bC BK262 1 rfl; have hcz13_2 : w12.cell? ⟨gb262, 2, none⟩ = some (.int .i64 a0_2) := bC BK262 2 rfl; have hcz13_3 : w12.cell? ⟨gb262, 3, none⟩ = some (.int .i64 a0_3) := bC BK262 3 rfl; have hfz13_0 := bF BK262 0; have hfz13_1 := bF BK262 1; have hfz13_2 := bF BK262 2; have hfz13_3 := bF BK262 3))
    go_ret
    exact ⟨by first | rfl | (simp [errW_none, errW_some] <;> rfl) | (simp [*, errW_none, errW_some] <;> rfl), by repeat (first | (with_reducible first | exact HB.out | apply bL | apply bM | apply bR) | exact HB.out)⟩
 ·rw [if_neg c2] at H
  have c2b0 : (a0_1 == 1) = false := beq_eq_false_iff_ne.mpr c2
  have c2b1 : (a0_1 != 1) = true := bne_iff_ne.mpr c2
  by_cases c14 : a0_1 = 2
  ·rw [if_pos c14] at H
   have c14b0 : (a0_1 == 2) = true := beq_iff_eq.mpr c14
   have c14b1 : (a0_1 != 2) = false := bne_eq_false_iff_eq.mpr c14
   clear c14
   by_cases c15 : a0_2 ≥ 1
   ·rw [if_pos c15] at H
    have c15b0 : decide (1 ≤ a0_2) = true := decide_eq_true c15
    clear c15
    obtain rfl := Option.some.inj H
    go_enter Tryd.func48, Tryd.ntmps48
    go_wp2_with (first | ((with_reducible refine gate_dst (N := 1) rfl ?_); refine box_event ?hg (N := 1) ?hd (cs := #[.string a0_0, .int .i64 a0_1, .int .i64 a0_2, .int .i64 a0_3]) (t := 32) ?hr ?_; (case hd => rfl); (case hg => rfl); (case hr => first | (go_simp; done) | (go_simp; rfl)); intro gb262 hg w16 hbox hb; have BK262 := Aside0.mk hbox; have GW262 := gE HB hg; replace HB := bB HB hb; have GE262 := GW262; clear hb hbox hg; have hcz17_0 : w16.cell? ⟨gb262, 0, none⟩ = some (.string a0_0) := bC BK262 0 rfl; have hcz17_1 : w16.cell? ⟨gb262, 1, none⟩ = some (.int .i64 a0_1) := bC BK262 1 rfl; have hcz17_2 : w16.cell? ⟨gb262, 2, none⟩ = some (.int .i64 a0_2) := bC BK262 2 rfl; have hcz17_3 : w16.cell? ⟨gb262, 3, none⟩ = some (.int .i64 a0_3) := bC BK262 3 rfl; have hfz17_0 := bF BK262 0; have hfz17_1 := bF BK262 1; have hfz17_2 := bF BK262 2; have hfz17_3 := bF BK262 3))
    go_ret
    exact ⟨by first | rfl | (simp [errW_none, errW_some] <;> rfl) | (simp [*, errW_none, errW_some] <;> rfl), by repeat (first | (with_reducible first | exact HB.out | apply bL | apply bM | apply bR) | exact HB.out)⟩
   ·rw [if_neg c15] at H
    have c15b0 : decide (1 ≤ a0_2) = false := decide_eq_false c15
    clear c15
    obtain rfl := Option.some.inj H
    go_enter Tryd.func48, Tryd.ntmps48
    go_wp2_with (first | ((with_reducible refine gate_dst (N := 1) rfl ?_); refine box_event ?hg (N := 1) ?hd (cs := #[.string a0_0, .int .i64 a0_1, .int .i64 a0_2, .int .i64 a0_3]) (t := 32) ?hr ?_; (case hd => rfl); (case hg => rfl); (case hr => first | (go_simp; done) | (go_simp; rfl)); intro gb262 hg w18 hbox hb; have BK262 := Aside0.mk hbox; have GW262 := gE HB hg; replace HB := bB HB hb; have GE262 := GW262; clear hb hbox hg; have hcz19_0 : w18.cell? ⟨gb262, 0, none⟩ = some (.string a0_0) := bC BK262 0 rfl; have hcz19_1 : w18.cell? ⟨gb262, 1, none⟩ = some (.int .i64 a0_1) := bC BK262 1 rfl; have hcz19_2 : w18.cell? ⟨gb262, 2, none⟩ = some (.int .i64 a0_2) := bC BK262 2 rfl; have hcz19_3 : w18.cell? ⟨gb262, 3, none⟩ = some (.int .i64 a0_3) := bC BK262 3 rfl; have hfz19_0 := bF BK262 0; have hfz19_1 := bF BK262 1; have hfz19_2 := bF BK262 2; have hfz19_3 := bF BK262 3))
    go_ret
    exact ⟨by first | rfl | (simp [errW_none, errW_some] <;> rfl) | (simp [*, errW_none, errW_some] <;> rfl), by repeat (first | (with_reducible first | exact HB.out | apply bL | apply bM | apply bR) | exact HB.out)⟩
  ·rw [if_neg c14] at H
   have c14b0 : (a0_1 == 2) = false := beq_eq_false_iff_ne.mpr c14
   have c14b1 : (a0_1 != 2) = true := bne_iff_ne.mpr c14
   obtain rfl := Option.some.inj H
   go_enter Tryd.func48, Tryd.ntmps48
   go_wp2_with (first | ((with_reducible refine gate_dst (N := 1) rfl ?_); refine box_event ?hg (N := 1) ?hd (cs := #[.string a0_0, .int .i64 a0_1, .int .i64 a0_2, .int .i64 a0_3]) (t := 32) ?hr ?_; (case hd => rfl); (case hg => rfl); (case hr => first | (go_simp; done) | (go_simp; rfl)); intro gb262 hg w20 hbox hb; have BK262 := Aside0.mk hbox; have GW262 := gE HB hg; replace HB := bB HB hb; have GE262 := GW262; clear hb hbox hg; have hcz21_0 : w20.cell? ⟨gb262, 0, none⟩ = some (.string a0_0) := bC BK262 0 rfl; have hcz21_1 : w20.cell? ⟨gb262, 1, none⟩ = some (.int .i64 a0_1) := bC BK262 1 rfl; have hcz21_2 : w20.cell? ⟨gb262, 2, none⟩ = some (.int .i64 a0_2) := bC BK262 2 rfl; have hcz21_3 : w20.cell? ⟨gb262, 3, none⟩ = some (.int .i64 a0_3) := bC BK262 3 rfl; have hfz21_0 := bF BK262 0; have hfz21_1 := bF BK262 1; have hfz21_2 := bF BK262 2; have hfz21_3 := bF BK262 3))
   go_ret
   exact ⟨by first | rfl | (simp [errW_none, errW_some] <;> rfl) | (simp [*, errW_none, errW_some] <;> rfl), by repeat (first | (with_reducible first | exact HB.out | apply bL | apply bM | apply bR) | exact HB.out)⟩
/-! ### clusterlocksref03_Valid: function 54 -/
def clusterlocksref03_Valid.f (a0 : Int) : Option (Bool) := if a0 ≥ 1 then (some (decide (a0 ≤ 5))) else (some false)
set_option maxHeartbeats 8000000 in
set_option maxRecDepth 100000 in
theorem clusterlocksref03_Valid.calls (a0 : Int) (r : Bool) (w : World) (h : clusterlocksref03_Valid.f a0 = some r) :
  Calls Tryd.prog 54 #[.int .i64 a0] w fun e w' => e = .returned (.bool r) ∧ Drawn0 w w' := by
 have H : (if a0 ≥ 1 then (some (decide (a0 ≤ 5))) else (some false)) = some r := h
 clear h
 by_cases c2 : a0 ≥ 1
 ·rw [if_pos c2] at H
  have c2b0 : decide (1 ≤ a0) = true := decide_eq_true c2
  clear c2
  obtain rfl := Option.some.inj H
  go_enter Tryd.func54, Tryd.ntmps54
  go_wp2
  go_ret
  exact ⟨by first | rfl | (simp; done) | (simp [*]; done), by repeat (first | exact Drawn0.refl _ | apply Drawn0.step)⟩
 ·rw [if_neg c2] at H
  have c2b0 : decide (1 ≤ a0) = false := decide_eq_false c2
  clear c2
  obtain rfl := Option.some.inj H
  go_enter Tryd.func54, Tryd.ntmps54
  go_wp2
  go_ret
  exact ⟨by first | rfl | (simp; done) | (simp [*]; done), by repeat (first | exact Drawn0.refl _ | apply Drawn0.step)⟩
/-! ### clusterlocksref04_Fits: function 37 -/
def clusterlocksref04_Fits.f (a0_0 : ByteArray) (a0_1 : Int) (a0_2 : Int) (a0_3 : Int) (a1_0 : Int) (a1_1 : Int) : Option (Bool) := (clusterlocksref04_Shaped.f a0_0 a0_1 a0_2 a0_3).bind fun t265 => (if t265 = true then (if a0_1 = 1 then ((clusterlocksref03_Valid.f a1_0).bind fun t266 => (if t266 = true then (some (a1_1 == 0)) else (some false))) else (if a1_0 = 0 then (if a1_1 ≥ 1 then (some (decide (a1_1 ≤ a0_2))) else (some false)) else (some false))) else (some false))
set_option maxHeartbeats 8000000 in
set_option maxRecDepth 100000 in
theorem clusterlocksref04_Fits.calls (a0_0 : ByteArray) (a0_1 : Int) (a0_2 : Int) (a0_3 : Int) (a1_0 : Int) (a1_1 : Int) (r : Bool) (w : World) (h : clusterlocksref04_Fits.f a0_0 a0_1 a0_2 a0_3 a1_0 a1_1 = some r) :
  Calls Tryd.prog 37 #[.agg #[.string a0_0, .int .i64 a0_1, .int .i64 a0_2, .int .i64 a0_3], .agg #[.int .i64 a1_0, .int .i64 a1_1]] w fun e w' => e = .returned (.bool r) ∧ Below w.heap.size w w' := by
 have hu32 := Tryd.underlying32
 have hu26 := Tryd.underlying26
 have HB := Aside0.mk (Below.refl w.heap.size w)
 have H : ((clusterlocksref04_Shaped.f a0_0 a0_1 a0_2 a0_3).bind fun t265 => (if t265 = true then (if a0_1 = 1 then ((clusterlocksref03_Valid.f a1_0).bind fun t266 => (if t266 = true then (some (a1_1 == 0)) else (some false))) else (if a1_0 = 0 then (if a1_1 ≥ 1 then (some (decide (a1_1 ≤ a0_2))) else (some false)) else (some false))) else (some false))) = some r := h
 clear h
 obtain ⟨t265, A30, H⟩ := Option.bind_eq_some_iff.mp H
 have A3 := Aside0.mk A30; clear A30
 by_cases c4 : t265 = true
 ·subst c4
  rw [if_pos rfl] at H
  by_cases c5 : a0_1 = 1
  ·rw [if_pos c5] at H
   have c5b0 : (a0_1 == 1) = true := beq_iff_eq.mpr c5
   have c5b1 : (a0_1 != 1) = false := bne_eq_false_iff_eq.mpr c5
   clear c5
   obtain ⟨t266, A60, H⟩ := Option.bind_eq_some_iff.mp H
   have A6 := Aside0.mk A60; clear A60
   by_cases c7 : t266 = true
   ·subst c7
    rw [if_pos rfl] at H
    obtain rfl := Option.some.inj H
    go_enter Tryd.func37, Tryd.ntmps37
    go_wp2_with (first | ((with_reducible refine gate_dst (N := 2) rfl ?_); refine box_event ?hg (N := 2) ?hd (cs := #[.string a0_0, .int .i64 a0_1, .int .i64 a0_2, .int .i64 a0_3]) (t := 32) ?hr ?_; (case hd => rfl); (case hg => rfl); (case hr => first | (go_simp; done) | (go_simp; rfl)); intro gb263 hg w8 hbox hb; have BK263 := Aside0.mk hbox; have GW263 := gE HB hg; replace HB := bB HB hb; have GE263 := GW263; clear hb hbox hg) | ((with_reducible refine gate_dst (N := 3) rfl ?_); refine box_event ?hg (N := 3) ?hd (cs := #[.int .i64 a1_0, .int .i64 a1_1]) (t := 26) ?hr ?_; (case hd => rfl); (case hg => rfl); (case hr => first | (go_simp; done) | (go_simp; rfl)); intro gb264 hg w9 hbox hb; have BK264 := Aside0.mk hbox; have GW264 := gE HB hg; replace HB := bB HB hb; have GE264 := GW264; have NB263_264 := gN BK263 hg; replace BK263 := bK BK263 hb; have NB264_263 := Aside0.mk NB263_264.out.symm; clear hb hbox hg; have hnb10 := NB263_264.out; have hnc10 := NB264_263.out; have hcz11_0 : w9.cell? ⟨gb263, 0, none⟩ = some (.string a0_0) := bC BK263 0 rfl; have hcz11_1 : w9.cell? ⟨gb263, 1, none⟩ = some (.int .i64 a0_1) := bC BK263 1 rfl; have hcz11_2 : w9.cell? ⟨gb263, 2, none⟩ = some (.int .i64 a0_2) := bC BK263 2 rfl; have hcz11_3 : w9.cell? ⟨gb263, 3, none⟩ = some (.int .i64 a0_3) := bC BK263 3 rfl; have hfz11_0 := bF BK263 0; have hfz11_1 := bF BK263 1; have hfz11_2 := bF BK263 2; have hfz11_3 := bF BK263 3) | ((with_reducible refine gate_callee (f := 48) rfl ?_); refine goesL_ (some 6) rfl rfl Tryd.func48 (by kernel_rfl) rfl #[.agg #[.string a0_0, .int .i64 a0_1, .int .i64 a0_2, .int .i64 a0_3]] rfl (by (try simp only [mA]); first | done | rfl) ?_; (with_reducible refine (clusterlocksref04_Shaped.calls a0_0 a0_1 a0_2 a0_3 true _ A3.out).mono ?_); rintro e w12 ⟨rfl, hb⟩; refine ⟨_, rfl, ?_⟩; replace BK263 := bK BK263 hb; replace BK264 := bK BK264 hb; replace HB := bB HB hb; (try clear hb); obtain ⟨hcz13_0, hcz13_1, hcz13_2, hcz13_3, hfz13_0, hfz13_1, hfz13_2, hfz13_3⟩ := d4 BK263; have hcz14_0 : w12.cell? ⟨gb264, 0, none⟩ = some (.int .i64 a1_0) := bC BK264 0 rfl; have hcz14_1 : w12.cell? ⟨gb264, 1, none⟩ = some (.int .i64 a1_1) := bC BK264 1 rfl; have hfz14_0 := bF BK264 0; have hfz14_1 := bF BK264 1) | ((with_reducible refine gate_callee (f := 54) rfl ?_); refine goesL_ (some 13) rfl rfl Tryd.func54 (by kernel_rfl) rfl #[.int .i64 a1_0] rfl (by (try simp only [mA]); first | done | rfl) ?_; (with_reducible refine (clusterlocksref03_Valid.calls a1_0 true _ A6.out).mono ?_); rintro e w' ⟨rfl, ⟨nd, rfl⟩⟩; refine ⟨_, rfl, ?_⟩))
    go_ret
    exact ⟨by first | rfl | (simp [errW_none, errW_some] <;> rfl) | (simp [*, errW_none, errW_some] <;> rfl), by repeat (first | (with_reducible first | exact HB.out | apply bL | apply bM | apply bR) | exact HB.out)⟩
   ·replace c7 := Bool.eq_false_iff.mpr c7
    subst c7
    rw [if_neg (show ¬ (false = true) by decide)] at H
    obtain rfl := Option.some.inj H
    go_enter Tryd.func37, Tryd.ntmps37
    go_wp2_with (first | ((with_reducible refine gate_dst (N := 2) rfl ?_); refine box_event ?hg (N := 2) ?hd (cs := #[.string a0_0, .int .i64 a0_1, .int .i64 a0_2, .int .i64 a0_3]) (t := 32) ?hr ?_; (case hd => rfl); (case hg => rfl); (case hr => first | (go_simp; done) | (go_simp; rfl)); intro gb263 hg w15 hbox hb; have BK263 := Aside0.mk hbox; have GW263 := gE HB hg; replace HB := bB HB hb; have GE263 := GW263; clear hb hbox hg) | ((with_reducible refine gate_dst (N := 3) rfl ?_); refine box_event ?hg (N := 3) ?hd (cs := #[.int .i64 a1_0, .int .i64 a1_1]) (t := 26) ?hr ?_; (case hd => rfl); (case hg => rfl); (case hr => first | (go_simp; done) | (go_simp; rfl)); intro gb264 hg w16 hbox hb; have BK264 := Aside0.mk hbox; have GW264 := gE HB hg; replace HB := bB HB hb; have GE264 := GW264; have NB263_264 := gN BK263 hg; replace BK263 := bK BK263 hb; have NB264_263 := Aside0.mk NB263_264.out.symm; clear hb hbox hg; have hnb17 := NB263_264.out; have hnc17 := NB264_263.out; have hcz18_0 : w16.cell? ⟨gb263, 0, none⟩ = some (.string a0_0) := bC BK263 0 rfl; have hcz18_1 : w16.cell? ⟨gb263, 1, none⟩ = some (.int .i64 a0_1) := bC BK263 1 rfl; have hcz18_2 : w16.cell? ⟨gb263, 2, none⟩ = some (.int .i64 a0_2) := bC BK263 2 rfl; have hcz18_3 : w16.cell? ⟨gb263, 3, none⟩ = some (.int .i64 a0_3) := bC BK263 3 rfl; have hfz18_0 := bF BK263 0; have hfz18_1 := bF BK263 1; have hfz18_2 := bF BK263 2; have hfz18_3 := bF BK263 3) | ((with_reducible refine gate_callee (f := 48) rfl ?_); refine goesL_ (some 6) rfl rfl Tryd.func48 (by kernel_rfl) rfl #[.agg #[.string a0_0, .int .i64 a0_1, .int .i64 a0_2, .int .i64 a0_3]] rfl (by (try simp only [mA]); first | done | rfl) ?_; (with_reducible refine (clusterlocksref04_Shaped.calls a0_0 a0_1 a0_2 a0_3 true _ A3.out).mono ?_); rintro e w19 ⟨rfl, hb⟩; refine ⟨_, rfl, ?_⟩; replace BK263 := bK BK263 hb; replace BK264 := bK BK264 hb; replace HB := bB HB hb; (try clear hb); obtain ⟨hcz20_0, hcz20_1, hcz20_2, hcz20_3, hfz20_0, hfz20_1, hfz20_2, hfz20_3⟩ := d4 BK263; have hcz21_0 : w19.cell? ⟨gb264, 0, none⟩ = some (.int .i64 a1_0) := bC BK264 0 rfl; have hcz21_1 : w19.cell? ⟨gb264, 1, none⟩ = some (.int .i64 a1_1) := bC BK264 1 rfl; have hfz21_0 := bF BK264 0; have hfz21_1 := bF BK264 1) | ((with_reducible refine gate_callee (f := 54) rfl ?_); refine goesL_ (some 13) rfl rfl Tryd.func54 (by kernel_rfl) rfl #[.int .i64 a1_0] rfl (by (try simp only [mA]); first | done | rfl) ?_; (with_reducible refine (clusterlocksref03_Valid.calls a1_0 false _ A6.out).mono ?_); rintro e w' ⟨rfl, ⟨nd, rfl⟩⟩; refine ⟨_, rfl, ?_⟩))
    go_ret
    exact ⟨by first | rfl | (simp [errW_none, errW_some] <;> rfl) | (simp [*, errW_none, errW_some] <;> rfl), by repeat (first | (with_reducible first | exact HB.out | apply bL | apply bM | apply bR) | exact HB.out)⟩
  ·rw [if_neg c5] at H
   have c5b0 : (a0_1 == 1) = false := beq_eq_false_iff_ne.mpr c5
   have c5b1 : (a0_1 != 1) = true := bne_iff_ne.mpr c5
   by_cases c22 : a1_0 = 0
   ·rw [if_pos c22] at H
    have c22b0 : (a1_0 == 0) = true := beq_iff_eq.mpr c22
    have c22b1 : (a1_0 != 0) = false := bne_eq_false_iff_eq.mpr c22
    clear c22
    by_cases c23 : a1_1 ≥ 1
    ·rw [if_pos c23] at H
     have c23b0 : decide (1 ≤ a1_1) = true := decide_eq_true c23
     clear c23
     obtain rfl := Option.some.inj H
     go_enter Tryd.func37, Tryd.ntmps37
     go_wp2_with (first | ((with_reducible refine gate_dst (N := 2) rfl ?_); refine box_event ?hg (N := 2) ?hd (cs := #[.string a0_0, .int .i64 a0_1, .int .i64 a0_2, .int .i64 a0_3]) (t := 32) ?hr ?_; (case hd => rfl); (case hg => rfl); (case hr => first | (go_simp; done) | (go_simp; rfl)); intro gb263 hg w24 hbox hb; have BK263 := Aside0.mk hbox; have GW263 := gE HB hg; replace HB := bB HB hb; have GE263 := GW263; clear hb hbox hg) | ((with_reducible refine gate_dst (N := 3) rfl ?_); refine box_event ?hg (N := 3) ?hd (cs := #[.int .i64 a1_0, .int .i64 a1_1]) (t := 26) ?hr ?_; (case hd => rfl); (case hg => rfl); (case hr => first | (go_simp; done) | (go_simp; rfl)); intro gb264 hg w25 hbox hb; have BK264 := Aside0.mk hbox; have GW264 := gE HB hg; replace HB := bB HB hb; have GE264 := GW264; have NB263_264 := gN BK263 hg; replace BK263 := bK BK263 hb; have NB264_263 := Aside0.mk NB263_264.out.symm; clear hb hbox hg; have hnb26 := NB263_264.out; have hnc26 := NB264_263.out; have hcz27_0 : w25.cell? ⟨gb263, 0, none⟩ = some (.string a0_0) := bC BK263 0 rfl; have hcz27_1 : w25.cell? ⟨gb263, 1, none⟩ = some (.int .i64 a0_1) := bC BK263 1 rfl; have hcz27_2 : w25.cell? ⟨gb263, 2, none⟩ = some (.int .i64 a0_2) := bC BK263 2 rfl; have hcz27_3 : w25.cell? ⟨gb263, 3, none⟩ = some (.int .i64 a0_3) := bC BK263 3 rfl; have hfz27_0 := bF BK263 0; have hfz27_1 := bF BK263 1; have hfz27_2 := bF BK263 2; have hfz27_3 := bF BK263 3) | ((with_reducible refine gate_callee (f := 48) rfl ?_); refine goesL_ (some 6) rfl rfl Tryd.func48 (by kernel_rfl) rfl #[.agg #[.string a0_0, .int .i64 a0_1, .int .i64 a0_2, .int .i64 a0_3]] rfl (by (try simp only [mA]); first | done | rfl) ?_; (with_reducible refine (clusterlocksref04_Shaped.calls a0_0 a0_1 a0_2 a0_3 true _ A3.out).mono ?_); rintro e w28 ⟨rfl, hb⟩; refine ⟨_, rfl, ?_⟩; replace BK263 := bK BK263 hb; replace BK264 := bK BK264 hb; replace HB := bB HB hb; (try clear hb); obtain ⟨hcz29_0, hcz29_1, hcz29_2, hcz29_3, hfz29_0, hfz29_1, hfz29_2, hfz29_3⟩ := d4 BK263; have hcz30_0 : w28.cell? ⟨gb264, 0, none⟩ = some (.int .i64 a1_0) := bC BK264 0 rfl; have hcz30_1 : w28.cell? ⟨gb264, 1, none⟩ = some (.int .i64 a1_1) := bC BK264 1 rfl; have hfz30_0 := bF BK264 0; have hfz30_1 := bF BK264 1))
     go_ret
     exact ⟨by first | rfl | (simp [errW_none, errW_some] <;> rfl) | (simp [*, errW_none, errW_some] <;> rfl), by repeat (first | (with_reducible first | exact HB.out | apply bL | apply bM | apply bR) | exact HB.out)⟩
    ·rw [if_neg c23] at H
     have c23b0 : decide (1 ≤ a1_1) = false := decide_eq_false c23
     clear c23
     obtain rfl := Option.some.inj H
     go_enter Tryd.func37, Tryd.ntmps37
     go_wp2_with (first | ((with_reducible refine gate_dst (N := 2) rfl ?_); refine box_event ?hg (N := 2) ?hd (cs := #[.string a0_0, .int .i64 a0_1, .int .i64 a0_2, .int .i64 a0_3]) (t := 32) ?hr ?_; (case hd => rfl); (case hg => rfl); (case hr => first | (go_simp; done) | (go_simp; rfl)); intro gb263 hg w31 hbox hb; have BK263 := Aside0.mk hbox; have GW263 := gE HB hg; replace HB := bB HB hb; have GE263 := GW263; clear hb hbox hg) | ((with_reducible refine gate_dst (N := 3) rfl ?_); refine box_event ?hg (N := 3) ?hd (cs := #[.int .i64 a1_0, .int .i64 a1_1]) (t := 26) ?hr ?_; (case hd => rfl); (case hg => rfl); (case hr => first | (go_simp; done) | (go_simp; rfl)); intro gb264 hg w32 hbox hb; have BK264 := Aside0.mk hbox; have GW264 := gE HB hg; replace HB := bB HB hb; have GE264 := GW264; have NB263_264 := gN BK263 hg; replace BK263 := bK BK263 hb; have NB264_263 := Aside0.mk NB263_264.out.symm; clear hb hbox hg; have hnb33 := NB263_264.out; have hnc33 := NB264_263.out; have hcz34_0 : w32.cell? ⟨gb263, 0, none⟩ = some (.string a0_0) := bC BK263 0 rfl; have hcz34_1 : w32.cell? ⟨gb263, 1, none⟩ = some (.int .i64 a0_1) := bC BK263 1 rfl; have hcz34_2 : w32.cell? ⟨gb263, 2, none⟩ = some (.int .i64 a0_2) := bC BK263 2 rfl; have hcz34_3 : w32.cell? ⟨gb263, 3, none⟩ = some (.int .i64 a0_3) := bC BK263 3 rfl; have hfz34_0 := bF BK263 0; have hfz34_1 := bF BK263 1; have hfz34_2 := bF BK263 2; have hfz34_3 := bF BK263 3) | ((with_reducible refine gate_callee (f := 48) rfl ?_); refine goesL_ (some 6) rfl rfl Tryd.func48 (by kernel_rfl) rfl #[.agg #[.string a0_0, .int .i64 a0_1, .int .i64 a0_2, .int .i64 a0_3]] rfl (by (try simp only [mA]); first | done | rfl) ?_; (with_reducible refine (clusterlocksref04_Shaped.calls a0_0 a0_1 a0_2 a0_3 true _ A3.out).mono ?_); rintro e w35 ⟨rfl, hb⟩; refine ⟨_, rfl, ?_⟩; replace BK263 := bK BK263 hb; replace BK264 := bK BK264 hb; replace HB := bB HB hb; (try clear hb); obtain ⟨hcz36_0, hcz36_1, hcz36_2, hcz36_3, hfz36_0, hfz36_1, hfz36_2, hfz36_3⟩ := d4 BK263; have hcz37_0 : w35.cell? ⟨gb264, 0, none⟩ = some (.int .i64 a1_0) := bC BK264 0 rfl; have hcz37_1 : w35.cell? ⟨gb264, 1, none⟩ = some (.int .i64 a1_1) := bC BK264 1 rfl; have hfz37_0 := bF BK264 0; have hfz37_1 := bF BK264 1))
     go_ret
     exact ⟨by first | rfl | (simp [errW_none, errW_some] <;> rfl) | (simp [*, errW_none, errW_some] <;> rfl), by repeat (first | (with_reducible first | exact HB.out | apply bL | apply bM | apply bR) | exact HB.out)⟩
   ·rw [if_neg c22] at H
    have c22b0 : (a1_0 == 0) = false := beq_eq_false_iff_ne.mpr c22
    have c22b1 : (a1_0 != 0) = true := bne_iff_ne.mpr c22
    obtain rfl := Option.some.inj H
    go_enter Tryd.func37, Tryd.ntmps37
    go_wp2_with (first | ((with_reducible refine gate_dst (N := 2) rfl ?_); refine box_event ?hg (N := 2) ?hd (cs := #[.string a0_0, .int .i64 a0_1, .int .i64 a0_2, .int .i64 a0_3]) (t := 32) ?hr ?_; (case hd => rfl); (case hg => rfl); (case hr => first | (go_simp; done) | (go_simp; rfl)); intro gb263 hg w38 hbox hb; have BK263 := Aside0.mk hbox; have GW263 := gE HB hg; replace HB := bB HB hb; have GE263 := GW263; clear hb hbox hg) | ((with_reducible refine gate_dst (N := 3) rfl ?_); refine box_event ?hg (N := 3) ?hd (cs := #[.int .i64 a1_0, .int .i64 a1_1]) (t := 26) ?hr ?_; (case hd => rfl); (case hg => rfl); (case hr => first | (go_simp; done) | (go_simp; rfl)); intro gb264 hg w39 hbox hb; have BK264 := Aside0.mk hbox; have GW264 := gE HB hg; replace HB := bB HB hb; have GE264 := GW264; have NB263_264 := gN BK263 hg; replace BK263 := bK BK263 hb; have NB264_263 := Aside0.mk NB263_264.out.symm; clear hb hbox hg; have hnb40 := NB263_264.out; have hnc40 := NB264_263.out; have hcz41_0 : w39.cell? ⟨gb263, 0, none⟩ = some (.string a0_0) := bC BK263 0 rfl; have hcz41_1 : w39.cell? ⟨gb263, 1, none⟩ = some (.int .i64 a0_1) := bC BK263 1 rfl; have hcz41_2 : w39.cell? ⟨gb263, 2, none⟩ = some (.int .i64 a0_2) := bC BK263 2 rfl; have hcz41_3 : w39.cell? ⟨gb263, 3, none⟩ = some (.int .i64 a0_3) := bC BK263 3 rfl; have hfz41_0 := bF BK263 0; have hfz41_1 := bF BK263 1; have hfz41_2 := bF BK263 2; have hfz41_3 := bF BK263 3) | ((with_reducible refine gate_callee (f := 48) rfl ?_); refine goesL_ (some 6) rfl rfl Tryd.func48 (by kernel_rfl) rfl #[.agg #[.string a0_0, .int .i64 a0_1, .int .i64 a0_2, .int .i64 a0_3]] rfl (by (try simp only [mA]); first | done | rfl) ?_; (with_reducible refine (clusterlocksref04_Shaped.calls a0_0 a0_1 a0_2 a0_3 true _ A3.out).mono ?_); rintro e w42 ⟨rfl, hb⟩; refine ⟨_, rfl, ?_⟩; replace BK263 := bK BK263 hb; replace BK264 := bK BK264 hb; replace HB := bB HB hb; (try clear hb); obtain ⟨hcz43_0, hcz43_1, hcz43_2, hcz43_3, hfz43_0, hfz43_1, hfz43_2, hfz43_3⟩ := d4 BK263; have hcz44_0 : w42.cell? ⟨gb264, 0, none⟩ = some (.int .i64 a1_0) := bC BK264 0 rfl; have hcz44_1 : w42.cell? ⟨gb264, 1, none⟩ = some (.int .i64 a1_1) := bC BK264 1 rfl; have hfz44_0 := bF BK264 0; have hfz44_1 := bF BK264 1))
    go_ret
    exact ⟨by first | rfl | (simp [errW_none, errW_some] <;> rfl) | (simp [*, errW_none, errW_some] <;> rfl), by repeat (first | (with_reducible first | exact HB.out | apply bL | apply bM | apply bR) | exact HB.out)⟩
 ·replace c4 := Bool.eq_false_iff.mpr c4
  subst c4
  rw [if_neg (show ¬ (false = true) by decide)] at H
  obtain rfl := Option.some.inj H
  go_enter Tryd.func37, Tryd.ntmps37
  go_wp2_with (first | ((with_reducible refine gate_dst (N := 2) rfl ?_); refine box_event ?hg (N := 2) ?hd (cs := #[.string a0_0, .int .i64 a0_1, .int .i64 a0_2, .int .i64 a0_3]) (t := 32) ?hr ?_; (case hd => rfl); (case hg => rfl); (case hr => first | (go_simp; done) | (go_simp; rfl)); intro gb263 hg w45 hbox hb; have BK263 := Aside0.mk hbox; have GW263 := gE HB hg; replace HB := bB HB hb; have GE263 := GW263; clear hb hbox hg) | ((with_reducible refine gate_dst (N := 3) rfl ?_); refine box_event ?hg (N := 3) ?hd (cs := #[.int .i64 a1_0, .int .i64 a1_1]) (t := 26) ?hr ?_; (case hd => rfl); (case hg => rfl); (case hr => first | (go_simp; done) | (go_simp; rfl)); intro gb264 hg w46 hbox hb; have BK264 := Aside0.mk hbox; have GW264 := gE HB hg; replace HB := bB HB hb; have GE264 := GW264; have NB263_264 := gN BK263 hg; replace BK263 := bK BK263 hb; have NB264_263 := Aside0.mk NB263_264.out.symm; clear hb hbox hg; have hnb47 := NB263_264.out; have hnc47 := NB264_263.out; have hcz48_0 : w46.cell? ⟨gb263, 0, none⟩ = some (.string a0_0) := bC BK263 0 rfl; have hcz48_1 : w46.cell? ⟨gb263, 1, none⟩ = some (.int .i64 a0_1) := bC BK263 1 rfl; have hcz48_2 : w46.cell? ⟨gb263, 2, none⟩ = some (.int .i64 a0_2) := bC BK263 2 rfl; have hcz48_3 : w46.cell? ⟨gb263, 3, none⟩ = some (.int .i64 a0_3) := bC BK263 3 rfl; have hfz48_0 := bF BK263 0; have hfz48_1 := bF BK263 1; have hfz48_2 := bF BK263 2; have hfz48_3 := bF BK263 3) | ((with_reducible refine gate_callee (f := 48) rfl ?_); refine goesL_ (some 6) rfl rfl Tryd.func48 (by kernel_rfl) rfl #[.agg #[.string a0_0, .int .i64 a0_1, .int .i64 a0_2, .int .i64 a0_3]] rfl (by (try simp only [mA]); first | done | rfl) ?_; (with_reducible refine (clusterlocksref04_Shaped.calls a0_0 a0_1 a0_2 a0_3 false _ A3.out).mono ?_); rintro e w49 ⟨rfl, hb⟩; refine ⟨_, rfl, ?_⟩; replace BK263 := bK BK263 hb; replace BK264 := bK BK264 hb; replace HB := bB HB hb; (try clear hb)))
  go_ret
  exact ⟨by first | rfl | (simp [errW_none, errW_some] <;> rfl) | (simp [*, errW_none, errW_some] <;> rfl), by repeat (first | (with_reducible first | exact HB.out | apply bL | apply bM | apply bR) | exact HB.out)⟩
/-! ### clusterlocksref04_Permitted: function 57 -/
def clusterlocksref04_Permitted.f (a0_0 : ByteArray) (a0_1 : Int) (a0_2 : Int) (a0_3 : Int) (a1_0 : Int) (a1_1 : Int) : Option (Bool) := (clusterlocksref04_Shaped.f a0_0 a0_1 a0_2 a0_3).bind fun t269 => (if t269 = true then ((clusterlocksref04_Zero.f a1_0 a1_1).bind fun t270 => (if t270 = true then (some true) else ((clusterlocksref04_Fits.f a0_0 a0_1 a0_2 a0_3 a1_0 a1_1).bind fun t271 => (some t271)))) else (some false))
set_option maxHeartbeats 8000000 in
set_option maxRecDepth 100000 in
theorem clusterlocksref04_Permitted.calls (a0_0 : ByteArray) (a0_1 : Int) (a0_2 : Int) (a0_3 : Int) (a1_0 : Int) (a1_1 : Int) (r : Bool) (w : World) (h : clusterlocksref04_Permitted.f a0_0 a0_1 a0_2 a0_3 a1_0 a1_1 = some r) :
  Calls Tryd.prog 57 #[.agg #[.string a0_0, .int .i64 a0_1, .int .i64 a0_2, .int .i64 a0_3], .agg #[.int .i64 a1_0, .int .i64 a1_1]] w fun e w' => e = .returned (.bool r) ∧ Below w.heap.size w w' := by
 have hu32 := Tryd.underlying32
 have hu26 := Tryd.underlying26
 have HB := Aside0.mk (Below.refl w.heap.size w)
 have H : ((clusterlocksref04_Shaped.f a0_0 a0_1 a0_2 a0_3).bind fun t269 => (if t269 = true then ((clusterlocksref04_Zero.f a1_0 a1_1).bind fun t270 => (if t270 = true then (some true) else ((clusterlocksref04_Fits.f a0_0 a0_1 a0_2 a0_3 a1_0 a1_1).bind fun t271 => (some t271)))) else (some false))) = some r := h
 clear h
 obtain ⟨t269, A30, H⟩ := Option.bind_eq_some_iff.mp H
 have A3 := Aside0.mk A30; clear A30
 by_cases c4 : t269 = true
 ·subst c4
  rw [if_pos rfl] at H
  obtain ⟨t270, A50, H⟩ := Option.bind_eq_some_iff.mp H
  have A5 := Aside0.mk A50; clear A50
  by_cases c6 : t270 = true
  ·subst c6
   rw [if_pos rfl] at H
   obtain rfl := Option.some.inj H
   go_enter Tryd.func57, Tryd.ntmps57
   go_wp2_with (first | ((with_reducible refine gate_dst (N := 2) rfl ?_); refine box_event ?hg (N := 2) ?hd (cs := #[.string a0_0, .int .i64 a0_1, .int .i64 a0_2, .int .i64 a0_3]) (t := 32) ?hr ?_; (case hd => rfl); (case hg => rfl); (case hr => first | (go_simp; done) | (go_simp; rfl)); intro gb267 hg w7 hbox hb; have BK267 := Aside0.mk hbox; have GW267 := gE HB hg; replace HB := bB HB hb; have GE267 := GW267; clear hb hbox hg) | ((with_reducible refine gate_dst (N := 3) rfl ?_); refine box_event ?hg (N := 3) ?hd (cs := #[.int .i64 a1_0, .int .i64 a1_1]) (t := 26) ?hr ?_; (case hd => rfl); (case hg => rfl); (case hr => first | (go_simp; done) | (go_simp; rfl)); intro gb268 hg w8 hbox hb; have BK268 := Aside0.mk hbox; have GW268 := gE HB hg; replace HB := bB HB hb; have GE268 := GW268; have NB267_268 := gN BK267 hg; replace BK267 := bK BK267 hb; have NB268_267 := Aside0.mk NB267_268.out.symm; clear hb hbox hg; have hnb9 := NB267_268.out; have hnc9 := NB268_267.out; have hcz10_0 : w8.cell? ⟨gb267, 0, none⟩ = some (.string a0_0) := bC BK267 0 rfl; have hcz10_1 : w8.cell? ⟨gb267, 1, none⟩ = some (.int .i64 a0_1) := bC BK267 1 rfl; have hcz10_2 : w8.cell? ⟨gb267, 2, none⟩ = some (.int .i64 a0_2) := bC BK267 2 rfl; have hcz10_3 : w8.cell? ⟨gb267, 3, none⟩ = some (.int .i64 a0_3) := bC BK267 3 rfl; have hfz10_0 := bF BK267 0; have hfz10_1 := bF BK267 1; have hfz10_2 := bF BK267 2; have hfz10_3 := bF BK267 3) | ((with_reducible refine gate_callee (f := 48) rfl ?_); refine goesL_ (some 6) rfl rfl Tryd.func48 (by kernel_rfl) rfl #[.agg #[.string a0_0, .int .i64 a0_1, .int .i64 a0_2, .int .i64 a0_3]] rfl (by (try simp only [mA]); first | done | rfl) ?_; (with_reducible refine (clusterlocksref04_Shaped.calls a0_0 a0_1 a0_2 a0_3 true _ A3.out).mono ?_); rintro e w11 ⟨rfl, hb⟩; refine ⟨_, rfl, ?_⟩; replace BK267 := bK BK267 hb; replace BK268 := bK BK268 hb; replace HB := bB HB hb; (try clear hb); have hcz12_0 : w11.cell? ⟨gb268, 0, none⟩ = some (.int .i64 a1_0) := bC BK268 0 rfl; have hcz12_1 : w11.cell? ⟨gb268, 1, none⟩ = some (.int .i64 a1_1) := bC BK268 1 rfl; have hfz12_0 := bF BK268 0; have hfz12_1 := bF BK268 1) | (go_at_call 28; (with_reducible refine (clusterlocksref04_Zero.calls a1_0 a1_1 true _ A5.out).mono ?_); rintro e w13 ⟨rfl, hb⟩; replace BK267 := bK BK267 hb; replace BK268 := bK BK268 hb; replace HB := bB HB hb; (try clear hb)))
   go_ret
   exact ⟨by first | rfl | (simp [errW_none, errW_some] <;> rfl) | (simp [*, errW_none, errW_some] <;> rfl), by repeat (first | (with_reducible first | exact HB.out | apply bL | apply bM | apply bR) | exact HB.out)⟩
  ·replace c6 := Bool.eq_false_iff.mpr c6
   subst c6
   rw [if_neg (show ¬ (false = true) by decide)] at H
   obtain ⟨t271, A140, H⟩ := Option.bind_eq_some_iff.mp H
   have A14 := Aside0.mk A140; clear A140
   obtain rfl := Option.some.inj H
   go_enter Tryd.func57, Tryd.ntmps57
   go_wp2_with (first | ((with_reducible refine gate_dst (N := 2) rfl ?_); refine box_event ?hg (N := 2) ?hd (cs := #[.string a0_0, .int .i64 a0_1, .int .i64 a0_2, .int .i64 a0_3]) (t := 32) ?hr ?_; (case hd => rfl); (case hg => rfl); (case hr => first | (go_simp; done) | (go_simp; rfl)); intro gb267 hg w15 hbox hb; have BK267 := Aside0.mk hbox; have GW267 := gE HB hg; replace HB := bB HB hb; have GE267 := GW267; clear hb hbox hg) | ((with_reducible refine gate_dst (N := 3) rfl ?_); refine box_event ?hg (N := 3) ?hd (cs := #[.int .i64 a1_0, .int .i64 a1_1]) (t := 26) ?hr ?_; (case hd => rfl); (case hg => rfl); (case hr => first | (go_simp; done) | (go_simp; rfl)); intro gb268 hg w16 hbox hb; have BK268 := Aside0.mk hbox; have GW268 := gE HB hg; replace HB := bB HB hb; have GE268 := GW268; have NB267_268 := gN BK267 hg; replace BK267 := bK BK267 hb; have NB268_267 := Aside0.mk NB267_268.out.symm; clear hb hbox hg; have hnb17 := NB267_268.out; have hnc17 := NB268_267.out; have hcz18_0 : w16.cell? ⟨gb267, 0, none⟩ = some (.string a0_0) := bC BK267 0 rfl; have hcz18_1 : w16.cell? ⟨gb267, 1, none⟩ = some (.int .i64 a0_1) := bC BK267 1 rfl; have hcz18_2 : w16.cell? ⟨gb267, 2, none⟩ = some (.int .i64 a0_2) := bC BK267 2 rfl; have hcz18_3 : w16.cell? ⟨gb267, 3, none⟩ = some (.int .i64 a0_3) := bC BK267 3 rfl; have hfz18_0 := bF BK267 0; have hfz18_1 := bF BK267 1; have hfz18_2 := bF BK267 2; have hfz18_3 := bF BK267 3) | ((with_reducible refine gate_callee (f := 48) rfl ?_); refine goesL_ (some 6) rfl rfl Tryd.func48 (by kernel_rfl) rfl #[.agg #[.string a0_0, .int .i64 a0_1, .int .i64 a0_2, .int .i64 a0_3]] rfl (by (try simp only [mA]); first | done | rfl) ?_; (with_reducible refine (clusterlocksref04_Shaped.calls a0_0 a0_1 a0_2 a0_3 true _ A3.out).mono ?_); rintro e w19 ⟨rfl, hb⟩; refine ⟨_, rfl, ?_⟩; replace BK267 := bK BK267 hb; replace BK268 := bK BK268 hb; replace HB := bB HB hb; (try clear hb); have hcz20_0 : w19.cell? ⟨gb268, 0, none⟩ = some (.int .i64 a1_0) := bC BK268 0 rfl; have hcz20_1 : w19.cell? ⟨gb268, 1, none⟩ = some (.int .i64 a1_1) := bC BK268 1 rfl; have hfz20_0 := bF BK268 0; have hfz20_1 := bF BK268 1) | (go_at_call 28; (with_reducible refine (clusterlocksref04_Zero.calls a1_0 a1_1 false _ A5.out).mono ?_); rintro e w21 ⟨rfl, hb⟩; replace BK267 := bK BK267 hb; replace BK268 := bK BK268 hb; replace HB := bB HB hb; (try clear hb); obtain ⟨hcz22_0, hcz22_1, hcz22_2, hcz22_3, hfz22_0, hfz22_1, hfz22_2, hfz22_3⟩ := d4 BK267; have hcz23_0 : w21.cell? ⟨gb268, 0, none⟩ = some (.int .i64 a1_0) := bC BK268 0 rfl; have hcz23_1 : w21.cell? ⟨gb268, 1, none⟩ = some (.int .i64 a1_1) := bC BK268 1 rfl; have hfz23_0 := bF BK268 0; have hfz23_1 := bF BK268 1) | (go_at_call 37; (with_reducible refine (clusterlocksref04_Fits.calls a0_0 a0_1 a0_2 a0_3 a1_0 a1_1 t271 _ A14.out).mono ?_); rintro e w24 ⟨rfl, hb⟩; replace BK267 := bK BK267 hb; replace BK268 := bK BK268 hb; replace HB := bB HB hb; (try clear hb)))
   go_ret
   exact ⟨by first | rfl | (simp [errW_none, errW_some] <;> rfl) | (simp [*, errW_none, errW_some] <;> rfl), by repeat (first | (with_reducible first | exact HB.out | apply bL | apply bM | apply bR) | exact HB.out)⟩
 ·replace c4 := Bool.eq_false_iff.mpr c4
  subst c4
  rw [if_neg (show ¬ (false = true) by decide)] at H
  obtain rfl := Option.some.inj H
  go_enter Tryd.func57, Tryd.ntmps57
  go_wp2_with (first | ((with_reducible refine gate_dst (N := 2) rfl ?_); refine box_event ?hg (N := 2) ?hd (cs := #[.string a0_0, .int .i64 a0_1, .int .i64 a0_2, .int .i64 a0_3]) (t := 32) ?hr ?_; (case hd => rfl); (case hg => rfl); (case hr => first | (go_simp; done) | (go_simp; rfl)); intro gb267 hg w25 hbox hb; have BK267 := Aside0.mk hbox; have GW267 := gE HB hg; replace HB := bB HB hb; have GE267 := GW267; clear hb hbox hg) | ((with_reducible refine gate_dst (N := 3) rfl ?_); refine box_event ?hg (N := 3) ?hd (cs := #[.int .i64 a1_0, .int .i64 a1_1]) (t := 26) ?hr ?_; (case hd => rfl); (case hg => rfl); (case hr => first | (go_simp; done) | (go_simp; rfl)); intro gb268 hg w26 hbox hb; have BK268 := Aside0.mk hbox; have GW268 := gE HB hg; replace HB := bB HB hb; have GE268 := GW268; have NB267_268 := gN BK267 hg; replace BK267 := bK BK267 hb; have NB268_267 := Aside0.mk NB267_268.out.symm; clear hb hbox hg; have hnb27 := NB267_268.out; have hnc27 := NB268_267.out; have hcz28_0 : w26.cell? ⟨gb267, 0, none⟩ = some (.string a0_0) := bC BK267 0 rfl; have hcz28_1 : w26.cell? ⟨gb267, 1, none⟩ = some (.int .i64 a0_1) := bC BK267 1 rfl; have hcz28_2 : w26.cell? ⟨gb267, 2, none⟩ = some (.int .i64 a0_2) := bC BK267 2 rfl; have hcz28_3 : w26.cell? ⟨gb267, 3, none⟩ = some (.int .i64 a0_3) := bC BK267 3 rfl; have hfz28_0 := bF BK267 0; have hfz28_1 := bF BK267 1; have hfz28_2 := bF BK267 2; have hfz28_3 := bF BK267 3) | ((with_reducible refine gate_callee (f := 48) rfl ?_); refine goesL_ (some 6) rfl rfl Tryd.func48 (by kernel_rfl) rfl #[.agg #[.string a0_0, .int .i64 a0_1, .int .i64 a0_2, .int .i64 a0_3]] rfl (by (try simp only [mA]); first | done | rfl) ?_; (with_reducible refine (clusterlocksref04_Shaped.calls a0_0 a0_1 a0_2 a0_3 false _ A3.out).mono ?_); rintro e w29 ⟨rfl, hb⟩; refine ⟨_, rfl, ?_⟩; replace BK267 := bK BK267 hb; replace BK268 := bK BK268 hb; replace HB := bB HB hb; (try clear hb)))
  go_ret
  exact ⟨by first | rfl | (simp [errW_none, errW_some] <;> rfl) | (simp [*, errW_none, errW_some] <;> rfl), by repeat (first | (with_reducible first | exact HB.out | apply bL | apply bM | apply bR) | exact HB.out)⟩
/-! ### clusterlocksref03_Compatible: function 58 -/
def clusterlocksref03_Compatible.f (a0 : Int) (a1 : Int) : Option (Bool) := (clusterlocksref03_Valid.f a0).bind fun t272 => (if t272 = true then ((clusterlocksref03_Valid.f a1).bind fun t273 => (if t273 = true then (if a0 = 5 then (some false) else (if a1 = 5 then (some false) else (if a0 = 1 then (some true) else (if a1 = 1 then (some true) else (if a0 = a1 then (some (a0 != 4)) else (some false)))))) else (some false))) else (some false))
set_option maxHeartbeats 8000000 in
set_option maxRecDepth 100000 in
theorem clusterlocksref03_Compatible.calls (a0 : Int) (a1 : Int) (r : Bool) (w : World) (h : clusterlocksref03_Compatible.f a0 a1 = some r) :
  Calls Tryd.prog 58 #[.int .i64 a0, .int .i64 a1] w fun e w' => e = .returned (.bool r) ∧ Drawn0 w w' := by
 have H : ((clusterlocksref03_Valid.f a0).bind fun t272 => (if t272 = true then ((clusterlocksref03_Valid.f a1).bind fun t273 => (if t273 = true then (if a0 = 5 then (some false) else (if a1 = 5 then (some false) else (if a0 = 1 then (some true) else (if a1 = 1 then (some true) else (if a0 = a1 then (some (a0 != 4)) else (some false)))))) else (some false))) else (some false))) = some r := h
 clear h
 obtain ⟨t272, A30, H⟩ := Option.bind_eq_some_iff.mp H
 have A3 := Aside0.mk A30; clear A30
 by_cases c4 : t272 = true
 ·subst c4
  rw [if_pos rfl] at H
  obtain ⟨t273, A50, H⟩ := Option.bind_eq_some_iff.mp H
  have A5 := Aside0.mk A50; clear A50
  by_cases c6 : t273 = true
  ·subst c6
   rw [if_pos rfl] at H
   by_cases c7 : a0 = 5
   ·rw [if_pos c7] at H
    have c7b0 : (a0 == 5) = true := beq_iff_eq.mpr c7
    have c7b1 : (a0 != 5) = false := bne_eq_false_iff_eq.mpr c7
    clear c7
    obtain rfl := Option.some.inj H
    go_enter Tryd.func58, Tryd.ntmps58
    go_wp2_with (first | ((with_reducible refine gate_callee (f := 54) rfl ?_); refine goesL_ (some 6) rfl rfl Tryd.func54 (by kernel_rfl) rfl #[.int .i64 a0] rfl (by (try simp only [mA]); first | done | rfl) ?_; (with_reducible refine (clusterlocksref03_Valid.calls a0 true _ A3.out).mono ?_); rintro e w' ⟨rfl, ⟨nd, rfl⟩⟩; refine ⟨_, rfl, ?_⟩) | (go_at_call 54; (with_reducible refine (clusterlocksref03_Valid.calls a1 true _ A5.out).mono ?_); rintro e w' ⟨rfl, ⟨nd, rfl⟩⟩))
    go_ret
    exact ⟨by first | rfl | (simp; done) | (simp [*]; done), by repeat (first | exact Drawn0.refl _ | apply Drawn0.step)⟩
   ·rw [if_neg c7] at H
    have c7b0 : (a0 == 5) = false := beq_eq_false_iff_ne.mpr c7
    have c7b1 : (a0 != 5) = true := bne_iff_ne.mpr c7
    by_cases c8 : a1 = 5
    ·rw [if_pos c8] at H
     have c8b0 : (a1 == 5) = true := beq_iff_eq.mpr c8
     have c8b1 : (a1 != 5) = false := bne_eq_false_iff_eq.mpr c8
     clear c8
     obtain rfl := Option.some.inj H
     go_enter Tryd.func58, Tryd.ntmps58
     go_wp2_with (first | ((with_reducible refine gate_callee (f := 54) rfl ?_); refine goesL_ (some 6) rfl rfl Tryd.func54 (by kernel_rfl) rfl #[.int .i64 a0] rfl (by (try simp only [mA]); first | done | rfl) ?_; (with_reducible refine (clusterlocksref03_Valid.calls a0 true _ A3.out).mono ?_); rintro e w' ⟨rfl, ⟨nd, rfl⟩⟩; refine ⟨_, rfl, ?_⟩) | (go_at_call 54; (with_reducible refine (clusterlocksref03_Valid.calls a1 true _ A5.out).mono ?_); rintro e w' ⟨rfl, ⟨nd, rfl⟩⟩))
     go_ret
     exact ⟨by first | rfl | (simp; done) | (simp [*]; done), by repeat (first | exact Drawn0.refl _ | apply Drawn0.step)⟩
    ·rw [if_neg c8] at H
     have c8b0 : (a1 == 5) = false := beq_eq_false_iff_ne.mpr c8
     have c8b1 : (a1 != 5) = true := bne_iff_ne.mpr c8
     by_cases c9 : a0 = 1
     ·rw [if_pos c9] at H
      have c9b0 : (a0 == 1) = true := beq_iff_eq.mpr c9
      have c9b1 : (a0 != 1) = false := bne_eq_false_iff_eq.mpr c9
      clear c9
      obtain rfl := Option.some.inj H
      go_enter Tryd.func58, Tryd.ntmps58
      go_wp2_with (first | ((with_reducible refine gate_callee (f := 54) rfl ?_); refine goesL_ (some 6) rfl rfl Tryd.func54 (by kernel_rfl) rfl #[.int .i64 a0] rfl (by (try simp only [mA]); first | done | rfl) ?_; (with_reducible refine (clusterlocksref03_Valid.calls a0 true _ A3.out).mono ?_); rintro e w' ⟨rfl, ⟨nd, rfl⟩⟩; refine ⟨_, rfl, ?_⟩) | (go_at_call 54; (with_reducible refine (clusterlocksref03_Valid.calls a1 true _ A5.out).mono ?_); rintro e w' ⟨rfl, ⟨nd, rfl⟩⟩))
      go_ret
      exact ⟨by first | rfl | (simp; done) | (simp [*]; done), by repeat (first | exact Drawn0.refl _ | apply Drawn0.step)⟩
     ·rw [if_neg c9] at H
      have c9b0 : (a0 == 1) = false := beq_eq_false_iff_ne.mpr c9
      have c9b1 : (a0 != 1) = true := bne_iff_ne.mpr c9
      by_cases c10 : a1 = 1
      ·rw [if_pos c10] at H
       have c10b0 : (a1 == 1) = true := beq_iff_eq.mpr c10
       have c10b1 : (a1 != 1) = false := bne_eq_false_iff_eq.mpr c10
       clear c10
       obtain rfl := Option.some.inj H
       go_enter Tryd.func58, Tryd.ntmps58
       go_wp2_with (first | ((with_reducible refine gate_callee (f := 54) rfl ?_); refine goesL_ (some 6) rfl rfl Tryd.func54 (by kernel_rfl) rfl #[.int .i64 a0] rfl (by (try simp only [mA]); first | done | rfl) ?_; (with_reducible refine (clusterlocksref03_Valid.calls a0 true _ A3.out).mono ?_); rintro e w' ⟨rfl, ⟨nd, rfl⟩⟩; refine ⟨_, rfl, ?_⟩) | (go_at_call 54; (with_reducible refine (clusterlocksref03_Valid.calls a1 true _ A5.out).mono ?_); rintro e w' ⟨rfl, ⟨nd, rfl⟩⟩))
       go_ret
       exact ⟨by first | rfl | (simp; done) | (simp [*]; done), by repeat (first | exact Drawn0.refl _ | apply Drawn0.step)⟩
      ·rw [if_neg c10] at H
       have c10b0 : (a1 == 1) = false := beq_eq_false_iff_ne.mpr c10
       have c10b1 : (a1 != 1) = true := bne_iff_ne.mpr c10
       by_cases c11 : a0 = a1
       ·rw [if_pos c11] at H
        have c11b0 : (a0 == a1) = true := beq_iff_eq.mpr c11
        have c11b1 : (a0 != a1) = false := bne_eq_false_iff_eq.mpr c11
        clear c11
        obtain rfl := Option.some.inj H
        go_enter Tryd.func58, Tryd.ntmps58
        go_wp2_with (first | ((with_reducible refine gate_callee (f := 54) rfl ?_); refine goesL_ (some 6) rfl rfl Tryd.func54 (by kernel_rfl) rfl #[.int .i64 a0] rfl (by (try simp only [mA]); first | done | rfl) ?_; (with_reducible refine (clusterlocksref03_Valid.calls a0 true _ A3.out).mono ?_); rintro e w' ⟨rfl, ⟨nd, rfl⟩⟩; refine ⟨_, rfl, ?_⟩) | (go_at_call 54; (with_reducible refine (clusterlocksref03_Valid.calls a1 true _ A5.out).mono ?_); rintro e w' ⟨rfl, ⟨nd, rfl⟩⟩))
        go_ret
        exact ⟨by first | rfl | (simp; done) | (simp [*]; done), by repeat (first | exact Drawn0.refl _ | apply Drawn0.step)⟩
       ·rw [if_neg c11] at H
        have c11b0 : (a0 == a1) = false := beq_eq_false_iff_ne.mpr c11
        have c11b1 : (a0 != a1) = true := bne_iff_ne.mpr c11
        obtain rfl := Option.some.inj H
        go_enter Tryd.func58, Tryd.ntmps58
        go_wp2_with (first | ((with_reducible refine gate_callee (f := 54) rfl ?_); refine goesL_ (some 6) rfl rfl Tryd.func54 (by kernel_rfl) rfl #[.int .i64 a0] rfl (by (try simp only [mA]); first | done | rfl) ?_; (with_reducible refine (clusterlocksref03_Valid.calls a0 true _ A3.out).mono ?_); rintro e w' ⟨rfl, ⟨nd, rfl⟩⟩; refine ⟨_, rfl, ?_⟩) | (go_at_call 54; (with_reducible refine (clusterlocksref03_Valid.calls a1 true _ A5.out).mono ?_); rintro e w' ⟨rfl, ⟨nd, rfl⟩⟩))
        go_ret
        exact ⟨by first | rfl | (simp; done) | (simp [*]; done), by repeat (first | exact Drawn0.refl _ | apply Drawn0.step)⟩
  ·replace c6 := Bool.eq_false_iff.mpr c6
   subst c6
   rw [if_neg (show ¬ (false = true) by decide)] at H
   obtain rfl := Option.some.inj H
   go_enter Tryd.func58, Tryd.ntmps58
   go_wp2_with (first | ((with_reducible refine gate_callee (f := 54) rfl ?_); refine goesL_ (some 6) rfl rfl Tryd.func54 (by kernel_rfl) rfl #[.int .i64 a0] rfl (by (try simp only [mA]); first | done | rfl) ?_; (with_reducible refine (clusterlocksref03_Valid.calls a0 true _ A3.out).mono ?_); rintro e w' ⟨rfl, ⟨nd, rfl⟩⟩; refine ⟨_, rfl, ?_⟩) | (go_at_call 54; (with_reducible refine (clusterlocksref03_Valid.calls a1 false _ A5.out).mono ?_); rintro e w' ⟨rfl, ⟨nd, rfl⟩⟩))
   go_ret
   exact ⟨by first | rfl | (simp; done) | (simp [*]; done), by repeat (first | exact Drawn0.refl _ | apply Drawn0.step)⟩
 ·replace c4 := Bool.eq_false_iff.mpr c4
  subst c4
  rw [if_neg (show ¬ (false = true) by decide)] at H
  obtain rfl := Option.some.inj H
  go_enter Tryd.func58, Tryd.ntmps58
  go_wp2_with (first | ((with_reducible refine gate_callee (f := 54) rfl ?_); refine goesL_ (some 6) rfl rfl Tryd.func54 (by kernel_rfl) rfl #[.int .i64 a0] rfl (by (try simp only [mA]); first | done | rfl) ?_; (with_reducible refine (clusterlocksref03_Valid.calls a0 false _ A3.out).mono ?_); rintro e w' ⟨rfl, ⟨nd, rfl⟩⟩; refine ⟨_, rfl, ?_⟩))
  go_ret
  exact ⟨by first | rfl | (simp; done) | (simp [*]; done), by repeat (first | exact Drawn0.refl _ | apply Drawn0.step)⟩
end Go.Proofs.YtnmemkphfgdplaaDoor.PA
namespace Go.Proofs.YtnmemkphfgdplaaDoor.PA
open Go.RowKit Go.Proofs.YtnmemkphfgdplaaDoorW.PrintWords Go.Proofs.YtnmemkphfgdplaaDoorW.PrintLast Go.Proofs.YtnmemkphfgdplaaDoorW.PrintMore
attribute [local go_sem] max2_int min2_int max_two min_two max_three min_three max_four min_four   -- for this text's walks alone
set_option linter.unusedVariables false
set_option linter.unusedSimpArgs false
abbrev q13_0 : Array Bool := #[F,F,F,F,F,F,F,F,F,F,F,F,F,F,F,F,F,F,F,F,F,F,F,F,F,F,F,F]
abbrev q13_1 : Array Bool := #[T,F,F,F,F,F,F,F,F,F,F,F,F,F,F,F,F,F,F,F,F,F,F,F,F,F,F,F]
abbrev q13_2 : Array Bool := #[T,T,F,F,F,F,F,F,F,F,F,F,F,F,F,F,F,F,F,F,F,F,F,F,F,F,F,F]
abbrev q13_3 : Array Bool := #[T,T,T,F,F,F,F,F,F,F,F,F,F,F,F,F,F,F,F,F,F,F,F,F,F,F,F,F]
abbrev q13_4 : Array Bool := #[T,T,T,T,F,F,F,F,F,F,F,F,F,F,F,F,F,F,F,F,F,F,F,F,F,F,F,F]
abbrev q13_5 : Array Bool := #[T,T,T,T,T,F,F,F,F,F,F,F,F,F,F,F,F,F,F,F,F,F,F,F,F,F,F,F]
abbrev q13_6 : Array Bool := #[T,T,T,T,T,T,F,F,F,F,F,F,F,F,F,F,F,F,F,F,F,F,F,F,F,F,F,F]
abbrev q13_7 : Array Bool := #[T,T,T,T,T,T,T,F,F,F,F,F,F,F,F,F,F,F,F,F,F,F,F,F,F,F,F,F]
abbrev q13_8 : Array Bool := #[T,T,T,T,T,T,T,T,F,F,F,F,F,F,F,F,F,F,F,F,F,F,F,F,F,F,F,F]
abbrev q13_9 : Array Bool := #[T,T,T,T,T,T,T,T,T,F,F,F,F,F,F,F,F,F,F,F,F,F,F,F,F,F,F,F]
abbrev q13_10 : Array Bool := #[T,T,T,T,T,T,T,T,T,T,F,F,F,F,F,F,F,F,F,F,F,F,F,F,F,F,F,F]
abbrev q13_11 : Array Bool := #[T,T,T,T,T,T,T,T,T,T,T,F,F,F,F,F,F,F,F,F,F,F,F,F,F,F,F,F]
abbrev q13_12 : Array Bool := #[T,T,T,T,T,T,T,T,T,T,T,T,F,F,F,F,F,F,F,F,F,F,F,F,F,F,F,F]
abbrev q13_13 : Array Bool := #[T,T,T,T,T,T,T,T,T,T,T,T,T,F,F,F,F,F,F,F,F,F,F,F,F,F,F,F]
abbrev q13_14 : Array Bool := #[T,T,T,T,T,T,T,T,T,T,T,T,T,T,F,F,F,F,F,F,F,F,F,F,F,F,F,F]
abbrev q13_15 : Array Bool := #[T,T,T,T,T,T,T,T,T,T,T,T,T,T,T,F,F,F,F,F,F,F,F,F,F,F,F,F]
abbrev q13_16 : Array Bool := #[T,T,T,T,T,T,T,T,T,T,T,T,T,T,T,T,F,F,F,F,F,F,F,F,F,F,F,F]
abbrev q13_17 : Array Bool := #[T,T,T,T,T,T,T,T,T,T,T,T,T,T,T,T,T,F,F,F,F,F,F,F,F,F,F,F]
abbrev q13_18 : Array Bool := #[T,T,T,T,T,T,T,T,T,T,T,T,T,T,T,T,T,T,F,F,F,F,F,F,F,F,F,F]
abbrev q13_19 : Array Bool := #[T,T,T,T,T,T,T,T,T,T,T,T,T,T,T,T,T,T,T,F,F,F,F,F,F,F,F,F]
abbrev q13_20 : Array Bool := #[T,T,T,T,T,T,T,T,T,T,T,T,T,T,T,T,T,T,T,T,T,T,T,T,F,F,F,F]
abbrev q13_21 : Array Bool := #[T,T,T,T,T,T,T,T,T,T,T,T,T,T,T,T,T,T,T,T,T,T,T,T,T,F,F,F]
abbrev q13_22 : Array Bool := #[T,T,T,T,T,T,T,T,T,T,T,T,T,T,T,T,T,T,T,T,T,T,T,T,T,T,F,F]
abbrev q13_23 : Array Bool := #[T,T,T,T,T,T,T,T,T,T,T,T,T,T,T,T,T,T,T,T,T,T,T,T,T,T,T,F]
abbrev q13_24 : Array Bool := #[T,T,T,T,T,T,T,T,T,T,T,T,T,T,T,T,T,T,T,T,T,T,T,T,T,T,T,T]
abbrev q13_25 : Array Bool := #[T,T,T,T,T,T,T,T,T,T,T,T,T,T,T,T,T,T,T,T,F,F,F,F,F,F,F,F]
abbrev q13_26 : Array Bool := #[T,T,T,T,T,T,T,T,T,T,T,T,T,T,T,T,T,T,T,T,T,F,F,F,F,F,F,F]
abbrev q13_27 : Array Bool := #[T,T,T,T,T,T,T,T,T,T,T,T,T,T,T,T,T,T,T,T,T,T,F,F,F,F,F,F]
abbrev q13_28 : Array Bool := #[T,T,T,T,T,T,T,T,T,T,T,T,T,T,T,T,T,T,T,T,T,T,T,F,F,F,F,F]
abbrev q13_29 : Array Bool := #[T,T,T,T,T,T,T,T,T,T,T,T,T,T,T,T,T,T,T,F,T,F,F,F,F,F,F,F]
abbrev q13_30 : Array Bool := #[T,T,T,T,T,T,T,T,T,T,T,T,T,T,T,T,T,T,T,F,T,T,F,F,F,F,F,F]
abbrev q13_31 : Array Bool := #[T,T,T,T,T,T,T,T,T,T,T,T,T,T,T,T,T,T,T,F,T,T,T,F,F,F,F,F]
abbrev q13_32 : Array Bool := #[T,T,T,T,T,T,T,T,T,T,T,T,T,T,T,T,T,T,T,F,T,T,T,T,F,F,F,F]

/-! ### clusterlocksref04_Compatible: function 39 -/
mutual
def clusterlocksref04_Compatible.l0 : Nat → List (S26) → Int → Int → ByteArray → Int → Int → Int → Option (Bool)
 | 0, _, _, _, _, _, _, _ => none
 | k + 1, x1, x5, x6, x275000, x275001, x275002, x275003 => if x6 < (x1.length : Int) then (if 0 ≤ x6 then ((clusterlocksref04_Permitted.f x275000 x275001 x275002 x275003 ((rd_T26 x1 x6).f0) ((rd_T26 x1 x6).f1)).bind fun t277 => (if t277 = true then (if x275001 = 2 then (if (wrap64 (x5 + ((rd_T26 x1 x6).f1))) > x275002 then (some false) else (clusterlocksref04_Compatible.l0 k x1 (wrap64 (x5 + ((rd_T26 x1 x6).f1))) (wrap64 (x6 + 1)) x275000 x275001 x275002 x275003)) else (clusterlocksref04_Compatible.l1 k x1 x5 x6 0 x275000 x275001 x275002 x275003)) else (some false))) else (none)) else (some true)
def clusterlocksref04_Compatible.l1 : Nat → List (S26) → Int → Int → Int → ByteArray → Int → Int → Int → Option (Bool)
 | 0, _, _, _, _, _, _, _, _ => none
 | k + 1, x1, x5, x6, x7, x275000, x275001, x275002, x275003 => if x7 < x6 then (if 0 ≤ x6 then (if x6 < (x1.length : Int) then ((clusterlocksref04_Zero.f ((rd_T26 x1 x6).f0) ((rd_T26 x1 x6).f1)).bind fun t280 => (if t280 = true then (clusterlocksref04_Compatible.l1 k x1 x5 x6 (wrap64 (x7 + 1)) x275000 x275001 x275002 x275003) else (if 0 ≤ x7 then (if x7 < (x1.length : Int) then ((clusterlocksref04_Zero.f ((rd_T26 x1 x7).f0) ((rd_T26 x1 x7).f1)).bind fun t282 => (if t282 = true then (clusterlocksref04_Compatible.l1 k x1 x5 x6 (wrap64 (x7 + 1)) x275000 x275001 x275002 x275003) else ((clusterlocksref03_Compatible.f ((rd_T26 x1 x6).f0) ((rd_T26 x1 x7).f0)).bind fun t285 => (if t285 = true then (clusterlocksref04_Compatible.l1 k x1 x5 x6 (wrap64 (x7 + 1)) x275000 x275001 x275002 x275003) else (some false))))) else (none)) else (none)))) else (none)) else (none)) else (clusterlocksref04_Compatible.l0 k x1 x5 (wrap64 (x6 + 1)) x275000 x275001 x275002 x275003)
end
def clusterlocksref04_Compatible.f (k : Nat) (a0_0 : ByteArray) (a0_1 : Int) (a0_2 : Int) (a0_3 : Int) (l1 : List (S26)) : Option (Bool) := (clusterlocksref04_Shaped.f a0_0 a0_1 a0_2 a0_3).bind fun t275 => (if t275 = true then (clusterlocksref04_Compatible.l0 k l1 0 0 a0_0 a0_1 a0_2 a0_3) else (some false))
theorem clusterlocksref04_Compatible.mono_l : ∀ k, (∀ y0 y1 y2 y3 y4 y5 y6, LeO (clusterlocksref04_Compatible.l0 k y0 y1 y2 y3 y4 y5 y6) (clusterlocksref04_Compatible.l0 (k + 1) y0 y1 y2 y3 y4 y5 y6)) ∧ (∀ y0 y1 y2 y3 y4 y5 y6 y7, LeO (clusterlocksref04_Compatible.l1 k y0 y1 y2 y3 y4 y5 y6 y7) (clusterlocksref04_Compatible.l1 (k + 1) y0 y1 y2 y3 y4 y5 y6 y7))
 | 0 => ⟨fun _ _ _ _ _ _ _ r h => by simp [clusterlocksref04_Compatible.l0] at h, fun _ _ _ _ _ _ _ _ r h => by simp [clusterlocksref04_Compatible.l1] at h⟩
 | k + 1 => by
  obtain ⟨ih0, ih1⟩ := clusterlocksref04_Compatible.mono_l k
  refine ⟨?_, ?_⟩
  ·intro y0 y1 y2 y3 y4 y5 y6
   unfold clusterlocksref04_Compatible.l0
   repeat' first
   | (with_reducible exact ih0 _ _ _ _ _ _ _)
   | (with_reducible exact ih1 _ _ _ _ _ _ _ _)
   | (with_reducible exact LeO.refl _)
   | (with_reducible exact LeO.none _)
   | (with_reducible refine LeO.ite ?_ ?_)
   | (with_reducible refine LeO.bind ?_ (fun _ => ?_))
   | exact ih0 _ _ _ _ _ _ _
   | exact ih1 _ _ _ _ _ _ _ _
   | exact LeO.none _
   | refine LeO.ite ?_ ?_
   | refine LeO.bind ?_ (fun _ => ?_)
  ·intro y0 y1 y2 y3 y4 y5 y6 y7
   unfold clusterlocksref04_Compatible.l1
   repeat' first
   | (with_reducible exact ih0 _ _ _ _ _ _ _)
   | (with_reducible exact ih1 _ _ _ _ _ _ _ _)
   | (with_reducible exact LeO.refl _)
   | (with_reducible exact LeO.none _)
   | (with_reducible refine LeO.ite ?_ ?_)
   | (with_reducible refine LeO.bind ?_ (fun _ => ?_))
   | exact ih0 _ _ _ _ _ _ _
   | exact ih1 _ _ _ _ _ _ _ _
   | exact LeO.none _
   | refine LeO.ite ?_ ?_
   | refine LeO.bind ?_ (fun _ => ?_)
theorem clusterlocksref04_Compatible.mono : ∀ a0 a1 a2 a3 a4 k, LeO (clusterlocksref04_Compatible.f k a0 a1 a2 a3 a4) (clusterlocksref04_Compatible.f (k + 1) a0 a1 a2 a3 a4) := by
 intro a0 a1 a2 a3 a4 k
 obtain ⟨ih0, ih1⟩ := clusterlocksref04_Compatible.mono_l k
 unfold clusterlocksref04_Compatible.f
 repeat' first
   | (with_reducible exact ih0 _ _ _ _ _ _ _)
   | (with_reducible exact ih1 _ _ _ _ _ _ _ _)
   | (with_reducible exact LeO.refl _)
   | (with_reducible exact LeO.none _)
   | (with_reducible refine LeO.ite ?_ ?_)
   | (with_reducible refine LeO.bind ?_ (fun _ => ?_))
   | exact ih0 _ _ _ _ _ _ _
   | exact ih1 _ _ _ _ _ _ _ _
   | exact LeO.none _
   | refine LeO.ite ?_ ?_
   | refine LeO.bind ?_ (fun _ => ?_)
def clusterlocksref04_Compatible.T16 : Bool × List (List Nat × List Nat) := (true, [([], []), ([], []), ([0, 1], [0, 1]), ([2], [2]), ([3], [3]), ([4], [4]), ([5, 4], [5]), ([6], [6]), ([6], [6]), ([7, 8, 6], [6, 7, 8]), ([9, 6], [6, 9]), ([10, 6, 6], [6, 10]), ([11, 6], [6, 11]), ([6, 12], [6, 12]), ([13, 11], [13]), ([14], [14]), ([14], [14]), ([15, 16, 14], [14, 15, 16]), ([17, 14], [14, 17]), ([18, 14], [14, 18]), ([14], [14]), ([14], [14]), ([20, 21, 14], [14, 20, 21]), ([22, 14], [14, 22]), ([23, 14], [14, 23]), ([19, 24, 14, 14], [14, 19, 24]), ([25, 14], [14, 25]), ([14, 26], [14, 26])])
def clusterlocksref04_Compatible.B16 : List Nat := [0, 0, 3, 7, 15, 31, 63, 127, 127, 511, 1023, 2047, 4095, 8191, 16383, 32767, 32767, 131071, 262143, 524287, 32767, 32767, 3178495, 7372799, 15761407, 33554431, 67108863, 134217727]
theorem clusterlocksref04_Compatible.tab16 : rtab .any (opsOf Tryd.f39 16) = clusterlocksref04_Compatible.T16 := by kernel_rfl
theorem clusterlocksref04_Compatible.bits16 : waitsOk clusterlocksref04_Compatible.T16.2 clusterlocksref04_Compatible.B16 = true := by kernel_rfl
set_option maxHeartbeats 8000000 in
set_option maxRecDepth 100000 in
theorem clusterlocksref04_Compatible.calls (k : Nat) (a0_0 : ByteArray) (a0_1 : Int) (a0_2 : Int) (a0_3 : Int) (A1 : Option Addr) (c1 : Nat) (l1 : List (S26)) (r : Bool) (w : World) (hr1 : Kd.C k26 w A1 l1.length l1) (hc1 : l1.length ≤ c1) (h : clusterlocksref04_Compatible.f k a0_0 a0_1 a0_2 a0_3 l1 = some r) :
  Calls Tryd.prog 39 #[.agg #[.string a0_0, .int .i64 a0_1, .int .i64 a0_2, .int .i64 a0_3], .slice A1 l1.length c1] w fun e w' => e = .returned (.bool r) ∧ Below w.heap.size w w' := by
 have hu32 := Tryd.underlying32
 have hu26 := Tryd.underlying26
 have HR1 := Aside0.mk hr1
 have HC1 := Aside0.mk hc1
 clear hr1 hc1
 have HB := Aside0.mk (Below.refl w.heap.size w)
 have H : ((clusterlocksref04_Shaped.f a0_0 a0_1 a0_2 a0_3).bind fun t275 => (if t275 = true then (clusterlocksref04_Compatible.l0 k l1 0 0 a0_0 a0_1 a0_2 a0_3) else (some false))) = some r := h
 clear h
 obtain ⟨t275, A30, H⟩ := Option.bind_eq_some_iff.mp H
 have A3 := Aside0.mk A30; clear A30
 by_cases c4 : t275 = true
 ·subst c4
  rw [if_pos rfl] at H
  have H' := Aside0.mk H
  clear H
  go_enter Tryd.func39, Tryd.ntmps39
  go_wp2_with (first | ((with_reducible refine gate_dst (N := 2) rfl ?_); refine box_event ?hg (N := 2) ?hd (cs := #[.string a0_0, .int .i64 a0_1, .int .i64 a0_2, .int .i64 a0_3]) (t := 32) ?hr ?_; (case hd => rfl); (case hg => rfl); (case hr => first | (go_simp; done) | (go_simp; rfl)); intro gb274 hg w5 hbox hb; have BK274 := Aside0.mk hbox; have GW274 := gE HB hg; replace HB := bB HB hb; have GE274 := GW274; clear hb hbox hg; have hcz6_0 : w5.cell? ⟨gb274, 0, none⟩ = some (.string a0_0) := bC BK274 0 rfl; have hcz6_1 : w5.cell? ⟨gb274, 1, none⟩ = some (.int .i64 a0_1) := bC BK274 1 rfl; have hcz6_2 : w5.cell? ⟨gb274, 2, none⟩ = some (.int .i64 a0_2) := bC BK274 2 rfl; have hcz6_3 : w5.cell? ⟨gb274, 3, none⟩ = some (.int .i64 a0_3) := bC BK274 3 rfl; have hfz6_0 := bF BK274 0; have hfz6_1 := bF BK274 1; have hfz6_2 := bF BK274 2; have hfz6_3 := bF BK274 3) | ((with_reducible refine gate_callee (f := 48) rfl ?_); refine goesL_ (some 9) rfl rfl Tryd.func48 (by kernel_rfl) rfl #[.agg #[.string a0_0, .int .i64 a0_1, .int .i64 a0_2, .int .i64 a0_3]] rfl (by (try simp only [mA]); first | done | rfl) ?_; (with_reducible refine (clusterlocksref04_Shaped.calls a0_0 a0_1 a0_2 a0_3 true _ A3.out).mono ?_); rintro e w7 ⟨rfl, hb⟩; refine ⟨_, rfl, ?_⟩; replace BK274 := bK BK274 hb; replace HB := bB HB hb; (try clear hb)))
  go_loopg [5, 6] k (fun kq v5 v6 w' => ∃ (x5_1 : Int) (x6_1 : Int), v5 = .int .i64 x5_1 ∧ v6 = .int .i64 x6_1 ∧ Aside0 (clusterlocksref04_Compatible.l0 kq l1 x5_1 x6_1 a0_0 a0_1 a0_2 a0_3 = some r) ∧ Aside0 (kq ≤ k) ∧ Aside0 (w'.heap[gb274]? = some (.cells #[.string a0_0, .int .i64 a0_1, .int .i64 a0_2, .int .i64 a0_3] 32 (0, 0))) ∧ Aside0 (Below w.heap.size w w'))
  case atStart => exact ⟨(0), (0), (by first | rfl | (simp; done) | (simp [*]; done)), (by first | rfl | (simp; done) | (simp [*]; done)), H', ⟨Nat.le_refl _⟩, ⟨by (with_reducible repeat first | refine bN ?_ _ | refine bD ?_ | refine bA ?_ _); exact BK274.out⟩, ⟨by repeat (first | (with_reducible first | exact HB.out | apply bL | apply bM | apply bR) | exact HB.out)⟩⟩
  case round =>
   clear H'
   try clear c1
   try clear p2
   try clear c3
   try clear c4
   try clear hcz6_0
   try clear hcz6_1
   try clear hcz6_2
   try clear hcz6_3
   try clear hfz6_0
   try clear hfz6_1
   try clear hfz6_2
   try clear hfz6_3
   obtain ⟨x5_1, x6_1, rfl, rfl, HA, HK1, BK274, HB⟩ := hrel
   cases gk with
   | zero => exact absurd HA.out (by simp [clusterlocksref04_Compatible.l0])
   | succ k1 =>
    have H := HA.out
    clear HA
    simp only [clusterlocksref04_Compatible.l0] at H
    by_cases c8 : x6_1 < (l1.length : Int)
    ·rw [if_pos c8] at H
     have c8b0 : decide (x6_1 < (l1.length : Int)) = true := decide_eq_true c8
     clear c8
     by_cases c9 : 0 ≤ x6_1
     ·rw [if_pos c9] at H
      have c9b0 : decide (0 ≤ x6_1) = true := decide_eq_true c9
      clear c9
      obtain ⟨t277, A100, H⟩ := Option.bind_eq_some_iff.mp H
      have A10 := Aside0.mk A100; clear A100
      have HH_ := Aside0.mk H
      clear H
      try go_wp2
      replace BK274 := Aside0.mk (blk_drew BK274.out)
      replace HB := Aside0.mk (below_drew1 HB.out)
      have p276 : 0 ≤ (x6_1 : Int) := of_decide_eq_true (by first | (with_reducible assumption) | assumption)
      have q276 : x6_1 < (l1.length : Int) := of_decide_eq_true (by first | (with_reducible assumption) | assumption)
      obtain ⟨ad276, e276, hx276_0, hx276_1⟩ := at_T26 HR1.out x6_1 p276 q276
      have hw276_1 := hx276_1
      have hw276_0 := hx276_0
      cases e276
      replace hx276_0 := kC HB hx276_0
      replace hx276_1 := kC HB hx276_1
      replace p276 := eq_true p276
      replace q276 := eq_true q276
      refine start_ (n := 7) (S := fun w' => w'.cell? ⟨gb274, 0, none⟩ = some (.string a0_0) ∧ w'.cell? ⟨gb274, 1, none⟩ = some (.int .i64 a0_1) ∧ w'.cell? ⟨gb274, 2, none⟩ = some (.int .i64 a0_2) ∧ w'.cell? ⟨gb274, 3, none⟩ = some (.int .i64 a0_3) ∧ w'.cell? (ad276.add ((x6_1).toNat * 2)) = some (.int .i64 ((rd_T26 l1 x6_1).f0)) ∧ w'.cell? ⟨(ad276.add ((x6_1).toNat * 2)).block, (ad276.add ((x6_1).toNat * 2)).off + 1, none⟩ = some (.int .i64 ((rd_T26 l1 x6_1).f1))) (ds := []) #[F,F,F,F,F,F,F] (by kernel_rfl) rfl rfl ⟨bC BK274 0 rfl, bC BK274 1 rfl, bC BK274 2 rfl, bC BK274 3 rfl, (kC HB hw276_0), (kC HB hw276_1)⟩ (fun hHeld => ?_)
      generalize wr.drew = w14 at BK274 HB hx276_0 hx276_1 hHeld ⊢
      refine pure_ (i := 1) (N := some 18) (v := ?_) (a' := ?_) #[F,T,F,F,F,F,F] rfl rfl (by kernel_rfl) (fun _ _ _ h => h) (Or.inl ⟨by rfl, ?_⟩) ?_ ?_
      rotate_left
      ·intro w'; go_simp; with_reducible rfl
      rotate_left
      ·simp only [sP]; rfl
      refine pure_ (i := 2) (N := some 19) (v := ?_) (a' := ?_) #[F,T,T,F,F,F,F] rfl rfl (by kernel_rfl) (fun _ _ _ h => h) (Or.inl ⟨by rfl, ?_⟩) ?_ ?_
      rotate_left
      ·intro w'; go_simp; with_reducible rfl
      rotate_left
      ·simp only [sP]; rfl
      refine pure_ (i := 3) (N := some 20) (v := ?_) (a' := ?_) #[F,T,T,T,F,F,F] rfl rfl (by kernel_rfl) (fun _ _ _ h => h) (Or.inl ⟨by rfl, ?_⟩) ?_ ?_
      rotate_left
      ·intro w'; go_simp; with_reducible rfl
      rotate_left
      ·simp only [sP]; rfl
      refine take_ (i := 0) (N := some 17) (v := ?_) (a' := ?_) #[T,T,T,T,F,F,F] rfl rfl (by kernel_rfl) (fun _ _ _ h => h) (Or.inl ⟨by rfl, ?_⟩) hHeld ?_ ?_
      rotate_left
      ·rintro w' ⟨s0, s1, s2, s3, s4, s5⟩; go_simp; with_reducible rfl
      rotate_left
      ·simp only [sP]; rfl
      refine take_ (i := 4) (N := some 21) (v := ?_) (a' := ?_) #[T,T,T,T,T,F,F] rfl rfl (by kernel_rfl) (fun _ _ _ h => h) (Or.inl ⟨by rfl, ?_⟩) hHeld ?_ ?_
      rotate_left
      ·rintro w' ⟨s0, s1, s2, s3, s4, s5⟩; go_simp; with_reducible rfl
      rotate_left
      ·simp only [sP]; rfl
      refine one_ (i := 5) (N := some 22) #[T,T,T,T,T,T,F] rfl rfl (by kernel_rfl) (by decide) (fun K hK => ?_)
      refine goes_ Tryd.func57 (by kernel_rfl) rfl #[.agg #[.string a0_0, .int .i64 a0_1, .int .i64 a0_2, .int .i64 a0_3], .agg #[.int .i64 ((rd_T26 l1 x6_1).f0), .int .i64 ((rd_T26 l1 x6_1).f1)]] (by rfl) rfl rfl (by (try simp only [mA]); first | done | rfl) ?_
      have H := HH_.out
      clear HH_
      by_cases c11 : t277 = true
      ·subst c11
       rw [if_pos rfl] at H
       have HH_ := Aside0.mk H
       clear H
       with_reducible refine (clusterlocksref04_Permitted.calls a0_0 a0_1 a0_2 a0_3 ((rd_T26 l1 x6_1).f0) ((rd_T26 l1 x6_1).f1) true _ A10.out).mono ?_
       rintro e w15 ⟨rfl, hb⟩
       refine ⟨_, rfl, ?_⟩
       replace BK274 := bK BK274 hb
       replace HB := bB HB hb
       (try clear hb)
       refine hK.out _ _ ⟨bC BK274 0 rfl, bC BK274 1 rfl, bC BK274 2 rfl, bC BK274 3 rfl, (kC HB hw276_0), (kC HB hw276_1)⟩ (fun hHeld => ?_)
       clear hK K
       refine norm_ (a' := ?_) ?_ ?_
       rotate_left
       ·show Act.put _ (some 22) _ = _
        simp only [sP]
        rfl
       refine pure_ (i := 6) (N := some 23) (v := ?_) (a' := ?_) #[T,T,T,T,T,T,T] rfl rfl (by kernel_rfl) (fun _ _ _ h => h) (Or.inl ⟨by rfl, ?_⟩) ?_ ?_
       rotate_left
       ·intro w'; go_simp; with_reducible rfl
       rotate_left
       ·simp only [sP]; rfl
       refine done_ (by kernel_rfl) ?_
       obtain ⟨hcz16_0, hcz16_1, hcz16_2, hcz16_3, hfz16_0, hfz16_1, hfz16_2, hfz16_3⟩ := d4 BK274
       have H := HH_.out
       clear HH_
       by_cases c12 : a0_1 = 2
       ·rw [if_pos c12] at H
        have c12b0 : (a0_1 == 2) = true := beq_iff_eq.mpr c12
        have c12b1 : (a0_1 != 2) = false := bne_eq_false_iff_eq.mpr c12
        clear c12
        (try simp only [c12b0, c12b1])
        have HH_ := Aside0.mk H
        clear H
        have p278 : 0 ≤ (x6_1 : Int) := of_decide_eq_true (by first | (with_reducible assumption) | assumption)
        have q278 : x6_1 < (l1.length : Int) := of_decide_eq_true (by first | (with_reducible assumption) | assumption)
        obtain ⟨ad278, e278, hx278_0, hx278_1⟩ := at_T26 HR1.out x6_1 p278 q278
        obtain rfl : ad276 = ad278 := (by injection e278)
        replace hx278_0 := kC HB hx278_0
        replace hx278_1 := kC HB hx278_1
        replace p278 := eq_true p278
        replace q278 := eq_true q278
        have H := HH_.out
        clear HH_
        by_cases c13 : (wrap64 (x5_1 + ((rd_T26 l1 x6_1).f1))) > a0_2
        ·rw [if_pos c13] at H
         have c13b0 : decide (a0_2 < (wrap64 (x5_1 + ((rd_T26 l1 x6_1).f1)))) = true := decide_eq_true c13
         clear c13
         obtain rfl := Option.some.inj H
         (try simp only [c13b0])
         try go_wp2
         go_ret
         exact ⟨by first | rfl | (simp [errW_none, errW_some] <;> rfl) | (simp [*, errW_none, errW_some] <;> rfl), by repeat (first | (with_reducible first | exact HB.out | apply bL | apply bM | apply bR) | exact HB.out)⟩
        ·rw [if_neg c13] at H
         have c13b0 : decide (a0_2 < (wrap64 (x5_1 + ((rd_T26 l1 x6_1).f1)))) = false := decide_eq_false c13
         clear c13
         have H' := Aside0.mk H
         clear H
         (try simp only [c13b0])
         try go_wp2
         go_roundg k1
         case measure => have := HK1.out; omega
         case rel => exact ⟨(wrap64 (x5_1 + ((rd_T26 l1 x6_1).f1))), (wrap64 (x6_1 + 1)), (by first | rfl | (simp; done) | (simp [*]; done)), (by first | rfl | (simp; done) | (simp [*]; done)), H', ⟨by have := HK1.out; omega⟩, ⟨by (with_reducible repeat first | refine bN ?_ _ | refine bD ?_ | refine bA ?_ _); exact BK274.out⟩, ⟨by repeat (first | (with_reducible first | exact HB.out | apply bL | apply bM | apply bR) | exact HB.out)⟩⟩
       ·rw [if_neg c12] at H
        have c12b0 : (a0_1 == 2) = false := beq_eq_false_iff_ne.mpr c12
        have c12b1 : (a0_1 != 2) = true := bne_iff_ne.mpr c12
        have H' := Aside0.mk H
        clear H
        (try simp only [c12b0, c12b1])
        try go_wp2
        go_loopg [7] k1 (fun kq v7 w' => ∃ (x7_2 : Int), v7 = .int .i64 x7_2 ∧ Aside0 (clusterlocksref04_Compatible.l1 kq l1 x5_1 x6_1 x7_2 a0_0 a0_1 a0_2 a0_3 = some r) ∧ Aside0 (kq ≤ k1) ∧ Aside0 (w'.heap[gb274]? = some (.cells #[.string a0_0, .int .i64 a0_1, .int .i64 a0_2, .int .i64 a0_3] 32 (0, 0))) ∧ Aside0 (Below w.heap.size w w'))
        case atStart => exact ⟨(0), (by first | rfl | (simp; done) | (simp [*]; done)), H', ⟨Nat.le_refl _⟩, ⟨by (with_reducible repeat first | refine bN ?_ _ | refine bD ?_ | refine bA ?_ _); exact BK274.out⟩, ⟨by repeat (first | (with_reducible first | exact HB.out | apply bL | apply bM | apply bR) | exact HB.out)⟩⟩
        case round =>
         clear H'
         try clear c1
         try clear p2
         try clear q2
         try clear hx2
         try clear c3
         try clear c4
         try clear c5
         try clear p6
         try clear c8
         try clear c8b0
         try clear c9
         try clear c9b0
         try clear c11
         try clear c12
         try clear c12b0
         try clear c12b1
         try clear c13
         try clear c13b0
         try clear hcz16_0
         try clear hcz16_1
         try clear hcz16_2
         try clear hcz16_3
         try clear hcz19_0
         try clear hcz19_1
         try clear hcz19_2
         try clear hcz19_3
         try clear hcz16_0
         try clear hcz16_1
         try clear hcz16_2
         try clear hcz16_3
         try clear hcz6_0
         try clear hcz6_1
         try clear hcz6_2
         try clear hcz6_3
         try clear hfz16_0
         try clear hfz16_1
         try clear hfz16_2
         try clear hfz16_3
         try clear hfz19_0
         try clear hfz19_1
         try clear hfz19_2
         try clear hfz19_3
         try clear hfz16_0
         try clear hfz16_1
         try clear hfz16_2
         try clear hfz16_3
         try clear hfz6_0
         try clear hfz6_1
         try clear hfz6_2
         try clear hfz6_3
         try clear hx276_0
         try clear hx276_1
         try clear hx278_0
         try clear hx278_1
         try clear p2
         try clear p276
         try clear p278
         try clear q276
         try clear q278
         obtain ⟨x7_2, rfl, HA, HK2, BK274, HB⟩ := hrel
         cases gk with
         | zero => exact absurd HA.out (by simp [clusterlocksref04_Compatible.l1])
         | succ k2 =>
          have H := HA.out
          clear HA
          simp only [clusterlocksref04_Compatible.l1] at H
          by_cases c23 : x7_2 < x6_1
          ·rw [if_pos c23] at H
           have c23b0 : decide (x7_2 < x6_1) = true := decide_eq_true c23
           clear c23
           by_cases c24 : 0 ≤ x6_1
           ·rw [if_pos c24] at H
            have c24b0 : decide (0 ≤ x6_1) = true := decide_eq_true c24
            clear c24
            by_cases c25 : x6_1 < (l1.length : Int)
            ·rw [if_pos c25] at H
             have c25b0 : decide (x6_1 < (l1.length : Int)) = true := decide_eq_true c25
             clear c25
             obtain ⟨t280, A260, H⟩ := Option.bind_eq_some_iff.mp H
             have A26 := Aside0.mk A260; clear A260
             by_cases c27 : t280 = true
             ·subst c27
              rw [if_pos rfl] at H
              have H' := Aside0.mk H
              clear H
              try go_wp2
              replace BK274 := Aside0.mk (blk_drew BK274.out)
              replace HB := Aside0.mk (below_drew1 HB.out)
              have p279 : 0 ≤ (x6_1 : Int) := of_decide_eq_true (by first | (with_reducible assumption) | assumption)
              have q279 : x6_1 < (l1.length : Int) := of_decide_eq_true (by first | (with_reducible assumption) | assumption)
              obtain ⟨ad279, e279, hx279_0, hx279_1⟩ := at_T26 HR1.out x6_1 p279 q279
              have hw279_1 := hx279_1
              have hw279_0 := hx279_0
              obtain rfl : ad276 = ad279 := (by injection e279)
              replace hx279_0 := kC HB hx279_0
              replace hx279_1 := kC HB hx279_1
              replace p279 := eq_true p279
              replace q279 := eq_true q279
              refine start_ (n := 28) (S := fun w' => w'.cell? (ad276.add ((x6_1).toNat * 2)) = some (.int .i64 ((rd_T26 l1 x6_1).f0)) ∧ w'.cell? ⟨(ad276.add ((x6_1).toNat * 2)).block, (ad276.add ((x6_1).toNat * 2)).off + 1, none⟩ = some (.int .i64 ((rd_T26 l1 x6_1).f1))) (ds := []) q13_0 (by kernel_rfl) rfl rfl ⟨(kC HB hw279_0), (kC HB hw279_1)⟩ (fun hHeld => ?_); refine with_tabW clusterlocksref04_Compatible.tab16 clusterlocksref04_Compatible.bits16 (fun HT_ HW_ => ?_)
              generalize wr.drew = w28 at BK274 HB hx279_0 hx279_1 hHeld ⊢
              refine pu HT_ 0 43 q13_1 rfl rfl (by kernel_rfl) (fun _ _ _ => id) (.inl ⟨by rfl, by intro w'; go_simp; with_reducible rfl⟩) (by simp only [sP]; rfl) ?_
              refine pu HT_ 1 44 q13_2 rfl rfl (by kernel_rfl) (fun _ _ _ => id) (.inl ⟨by rfl, by intro w'; go_simp; with_reducible rfl⟩) (by simp only [sP]; rfl) ?_
              refine pu HT_ 2 45 q13_3 rfl rfl (by kernel_rfl) (fun _ _ _ => id) (.inl ⟨by rfl, by intro w'; go_simp; with_reducible rfl⟩) (by simp only [sP]; rfl) ?_
              refine tk HT_ HW_ 3 46 q13_4 rfl rfl (by kernel_rfl) (fun _ _ _ => id) (.inl ⟨by rfl, by rintro w' ⟨s0, s1⟩; go_simp; with_reducible rfl⟩) hHeld (by simp only [sP]; rfl) ?_
              refine one_ (i := 4) (N := some 47) q13_5 rfl rfl (one_of HT_.out (by kernel_rfl)) (by decide) (fun K hK => ?_)
              refine goes_ Tryd.func28 (by kernel_rfl) rfl #[.agg #[.int .i64 ((rd_T26 l1 x6_1).f0), .int .i64 ((rd_T26 l1 x6_1).f1)]] (by rfl) rfl rfl (by (try simp only [mA]); first | done | rfl) ?_
              with_reducible refine (clusterlocksref04_Zero.calls ((rd_T26 l1 x6_1).f0) ((rd_T26 l1 x6_1).f1) true _ A26.out).mono ?_
              rintro e w29 ⟨rfl, hb⟩
              refine ⟨_, rfl, ?_⟩
              replace BK274 := bK BK274 hb
              replace HB := bB HB hb
              (try clear hb)
              refine hK.out _ _ ⟨(kC HB hw279_0), (kC HB hw279_1)⟩ (fun hHeld => ?_)
              clear hK K
              refine norm_ (a' := ?_) ?_ ?_
              rotate_left
              ·show Act.put _ (some 47) _ = _
               simp only [sP]
               rfl
              refine pu HT_ 5 48 q13_6 rfl rfl (by kernel_rfl) (fun _ _ _ => id) (.inl ⟨by rfl, by intro w'; go_simp; with_reducible rfl⟩) (by simp only [sP]; rfl) ?_
              refine pu HT_ 6 49 q13_7 rfl rfl (by kernel_rfl) (fun _ _ _ => id) (.inl ⟨by rfl, by intro w'; go_simp; with_reducible rfl⟩) (by simp only [sP]; rfl) ?_
              refine pu HT_ 7 50 q13_8 rfl rfl (by kernel_rfl) (fun _ _ _ => id) (.inr ⟨by rfl, rfl⟩) (by simp only [sP]; rfl) ?_
              refine pu HT_ 8 51 q13_9 rfl rfl (by kernel_rfl) (fun _ _ _ => id) (.inr ⟨by rfl, rfl⟩) (by simp only [sP]; rfl) ?_
              refine pu HT_ 9 52 q13_10 rfl rfl (by kernel_rfl) (fun _ _ _ => id) (.inr ⟨by rfl, rfl⟩) (by simp only [sP]; rfl) ?_
              refine pu HT_ 10 53 q13_11 rfl rfl (by kernel_rfl) (fun _ _ _ => id) (.inr ⟨by rfl, rfl⟩) (by simp only [sP]; rfl) ?_
              refine pu HT_ 11 54 q13_12 rfl rfl (by kernel_rfl) (fun _ _ _ => id) (.inr ⟨by rfl, rfl⟩) (by simp only [sP]; rfl) ?_
              refine pu HT_ 12 55 q13_13 rfl rfl (by kernel_rfl) (fun _ _ _ => id) (.inr ⟨by rfl, rfl⟩) (by simp only [sP]; rfl) ?_
              refine pu HT_ 13 56 q13_14 rfl rfl (by kernel_rfl) (fun _ _ _ => id) (.inl ⟨by rfl, by intro w'; go_simp; with_reducible rfl⟩) (by simp only [sP]; rfl) ?_
              refine pu HT_ 14 57 q13_15 rfl rfl (by kernel_rfl) (fun _ _ _ => id) (.inl ⟨by rfl, by intro w'; go_simp; with_reducible rfl⟩) (by simp only [sP]; rfl) ?_
              refine pu HT_ 15 58 q13_16 rfl rfl (by kernel_rfl) (fun _ _ _ => id) (.inr ⟨by rfl, rfl⟩) (by simp only [sP]; rfl) ?_
              refine pu HT_ 16 59 q13_17 rfl rfl (by kernel_rfl) (fun _ _ _ => id) (.inr ⟨by rfl, rfl⟩) (by simp only [sP]; rfl) ?_
              refine pu HT_ 17 60 q13_18 rfl rfl (by kernel_rfl) (fun _ _ _ => id) (.inr ⟨by rfl, rfl⟩) (by simp only [sP]; rfl) ?_
              refine pu HT_ 18 61 q13_19 rfl rfl (by kernel_rfl) (fun _ _ _ => id) (.inr ⟨by rfl, rfl⟩) (by simp only [sP]; rfl) ?_
              refine pu HT_ 19 62 q13_25 rfl rfl (by kernel_rfl) (fun _ _ _ => id) (.inr ⟨by rfl, rfl⟩) (by simp only [sP]; rfl) ?_
              refine pu HT_ 20 63 q13_26 rfl rfl (by kernel_rfl) (fun _ _ _ => id) (.inr ⟨by rfl, rfl⟩) (by simp only [sP]; rfl) ?_
              refine pu HT_ 21 64 q13_27 rfl rfl (by kernel_rfl) (fun _ _ _ => id) (.inr ⟨by rfl, rfl⟩) (by simp only [sP]; rfl) ?_
              refine pu HT_ 22 65 q13_28 rfl rfl (by kernel_rfl) (fun _ _ _ => id) (.inr ⟨by rfl, rfl⟩) (by simp only [sP]; rfl) ?_
              refine pu HT_ 23 66 q13_20 rfl rfl (by kernel_rfl) (fun _ _ _ => id) (.inr ⟨by rfl, rfl⟩) (by simp only [sP]; rfl) ?_
              refine pu HT_ 24 67 q13_21 rfl rfl (by kernel_rfl) (fun _ _ _ => id) (.inr ⟨by rfl, rfl⟩) (by simp only [sP]; rfl) ?_
              refine pu HT_ 25 68 q13_22 rfl rfl (by kernel_rfl) (fun _ _ _ => id) (.inr ⟨by rfl, rfl⟩) (by simp only [sP]; rfl) ?_
              refine pu HT_ 26 69 q13_23 rfl rfl (by kernel_rfl) (fun _ _ _ => id) (.inr ⟨by rfl, rfl⟩) (by simp only [sP]; rfl) ?_
              refine pu HT_ 27 70 q13_24 rfl rfl (by kernel_rfl) (fun _ _ _ => id) (.inl ⟨by rfl, by intro w'; go_simp; with_reducible rfl⟩) (by simp only [sP]; rfl) ?_
              refine done_ (done_of HT_.out (by kernel_rfl)) ?_
              try go_wp2
              go_roundg k2
              case measure => have := HK1.out; have := HK2.out; omega
              case rel => exact ⟨(wrap64 (x7_2 + 1)), (by first | rfl | (simp; done) | (simp [*]; done)), H', ⟨by have := HK1.out; have := HK2.out; omega⟩, ⟨by (with_reducible repeat first | refine bN ?_ _ | refine bD ?_ | refine bA ?_ _); exact BK274.out⟩, ⟨by repeat (first | (with_reducible first | exact HB.out | apply bL | apply bM | apply bR) | exact HB.out)⟩⟩
             ·replace c27 := Bool.eq_false_iff.mpr c27
              subst c27
              rw [if_neg (show ¬ (false = true) by decide)] at H
              by_cases c30 : 0 ≤ x7_2
              ·rw [if_pos c30] at H
               have c30b0 : decide (0 ≤ x7_2) = true := decide_eq_true c30
               clear c30
               by_cases c31 : x7_2 < (l1.length : Int)
               ·rw [if_pos c31] at H
                have c31b0 : decide (x7_2 < (l1.length : Int)) = true := decide_eq_true c31
                clear c31
                obtain ⟨t282, A320, H⟩ := Option.bind_eq_some_iff.mp H
                have A32 := Aside0.mk A320; clear A320
                have HH_ := Aside0.mk H
                clear H
                try go_wp2
                replace BK274 := Aside0.mk (blk_drew BK274.out)
                replace HB := Aside0.mk (below_drew1 HB.out)
                have p279 : 0 ≤ (x6_1 : Int) := of_decide_eq_true (by first | (with_reducible assumption) | assumption)
                have q279 : x6_1 < (l1.length : Int) := of_decide_eq_true (by first | (with_reducible assumption) | assumption)
                obtain ⟨ad279, e279, hx279_0, hx279_1⟩ := at_T26 HR1.out x6_1 p279 q279
                have hw279_1 := hx279_1
                have hw279_0 := hx279_0
                obtain rfl : ad276 = ad279 := (by injection e279)
                replace hx279_0 := kC HB hx279_0
                replace hx279_1 := kC HB hx279_1
                replace p279 := eq_true p279
                replace q279 := eq_true q279
                have p281 : 0 ≤ (x7_2 : Int) := of_decide_eq_true (by first | (with_reducible assumption) | assumption)
                have q281 : x7_2 < (l1.length : Int) := of_decide_eq_true (by first | (with_reducible assumption) | assumption)
                obtain ⟨ad281, e281, hx281_0, hx281_1⟩ := at_T26 HR1.out x7_2 p281 q281
                have hw281_1 := hx281_1
                have hw281_0 := hx281_0
                obtain rfl : ad276 = ad281 := (by injection e281)
                replace hx281_0 := kC HB hx281_0
                replace hx281_1 := kC HB hx281_1
                replace p281 := eq_true p281
                replace q281 := eq_true q281
                have H := HH_.out
                clear HH_
                by_cases c33 : t282 = true
                ·subst c33
                 rw [if_pos rfl] at H
                 have H' := Aside0.mk H
                 clear H
                 refine start_ (n := 28) (S := fun w' => w'.cell? (ad276.add ((x6_1).toNat * 2)) = some (.int .i64 ((rd_T26 l1 x6_1).f0)) ∧ w'.cell? ⟨(ad276.add ((x6_1).toNat * 2)).block, (ad276.add ((x6_1).toNat * 2)).off + 1, none⟩ = some (.int .i64 ((rd_T26 l1 x6_1).f1)) ∧ w'.cell? (ad276.add ((x7_2).toNat * 2)) = some (.int .i64 ((rd_T26 l1 x7_2).f0)) ∧ w'.cell? ⟨(ad276.add ((x7_2).toNat * 2)).block, (ad276.add ((x7_2).toNat * 2)).off + 1, none⟩ = some (.int .i64 ((rd_T26 l1 x7_2).f1))) (ds := []) q13_0 (by kernel_rfl) rfl rfl ⟨(kC HB hw279_0), (kC HB hw279_1), (kC HB hw281_0), (kC HB hw281_1)⟩ (fun hHeld => ?_); refine with_tabW clusterlocksref04_Compatible.tab16 clusterlocksref04_Compatible.bits16 (fun HT_ HW_ => ?_)
                 generalize wr.drew = w34 at BK274 HB hx279_0 hx279_1 hx281_0 hx281_1 hHeld ⊢
                 refine pu HT_ 0 43 q13_1 rfl rfl (by kernel_rfl) (fun _ _ _ => id) (.inl ⟨by rfl, by intro w'; go_simp; with_reducible rfl⟩) (by simp only [sP]; rfl) ?_
                 refine pu HT_ 1 44 q13_2 rfl rfl (by kernel_rfl) (fun _ _ _ => id) (.inl ⟨by rfl, by intro w'; go_simp; with_reducible rfl⟩) (by simp only [sP]; rfl) ?_
                 refine pu HT_ 2 45 q13_3 rfl rfl (by kernel_rfl) (fun _ _ _ => id) (.inl ⟨by rfl, by intro w'; go_simp; with_reducible rfl⟩) (by simp only [sP]; rfl) ?_
                 refine tk HT_ HW_ 3 46 q13_4 rfl rfl (by kernel_rfl) (fun _ _ _ => id) (.inl ⟨by rfl, by rintro w' ⟨s0, s1, s2, s3⟩; go_simp; with_reducible rfl⟩) hHeld (by simp only [sP]; rfl) ?_
                 refine one_ (i := 4) (N := some 47) q13_5 rfl rfl (one_of HT_.out (by kernel_rfl)) (by decide) (fun K hK => ?_)
                 refine goes_ Tryd.func28 (by kernel_rfl) rfl #[.agg #[.int .i64 ((rd_T26 l1 x6_1).f0), .int .i64 ((rd_T26 l1 x6_1).f1)]] (by rfl) rfl rfl (by (try simp only [mA]); first | done | rfl) ?_
                 with_reducible refine (clusterlocksref04_Zero.calls ((rd_T26 l1 x6_1).f0) ((rd_T26 l1 x6_1).f1) false _ A26.out).mono ?_
                 rintro e w35 ⟨rfl, hb⟩
                 refine ⟨_, rfl, ?_⟩
                 replace BK274 := bK BK274 hb
                 replace HB := bB HB hb
                 (try clear hb)
                 refine hK.out _ _ ⟨(kC HB hw279_0), (kC HB hw279_1), (kC HB hw281_0), (kC HB hw281_1)⟩ (fun hHeld => ?_)
                 clear hK K
                 refine norm_ (a' := ?_) ?_ ?_
                 rotate_left
                 ·show Act.put _ (some 47) _ = _
                  simp only [sP]
                  rfl
                 refine pu HT_ 5 48 q13_6 rfl rfl (by kernel_rfl) (fun _ _ _ => id) (.inl ⟨by rfl, by intro w'; go_simp; with_reducible rfl⟩) (by simp only [sP]; rfl) ?_
                 refine pu HT_ 6 49 q13_7 rfl rfl (by kernel_rfl) (fun _ _ _ => id) (.inl ⟨by rfl, by intro w'; go_simp; with_reducible rfl⟩) (by simp only [sP]; rfl) ?_
                 refine pu HT_ 7 50 q13_8 rfl rfl (by kernel_rfl) (fun _ _ _ => id) (.inl ⟨by rfl, by intro w'; go_simp; with_reducible rfl⟩) (by simp only [sP]; rfl) ?_
                 refine pu HT_ 8 51 q13_9 rfl rfl (by kernel_rfl) (fun _ _ _ => id) (.inl ⟨by rfl, by intro w'; go_simp; with_reducible rfl⟩) (by simp only [sP]; rfl) ?_
                 refine pu HT_ 9 52 q13_10 rfl rfl (by kernel_rfl) (fun _ _ _ => id) (.inl ⟨by rfl, by intro w'; go_simp; with_reducible rfl⟩) (by simp only [sP]; rfl) ?_
                 refine tk HT_ HW_ 10 53 q13_11 rfl rfl (by kernel_rfl) (fun _ _ _ => id) (.inl ⟨by rfl, by rintro w' ⟨s0, s1, s2, s3⟩; go_simp; with_reducible rfl⟩) hHeld (by simp only [sP]; rfl) ?_
                 refine one_ (i := 11) (N := some 54) q13_12 rfl rfl (one_of HT_.out (by kernel_rfl)) (by decide) (fun K hK => ?_)
                 refine goes_ Tryd.func28 (by kernel_rfl) rfl #[.agg #[.int .i64 ((rd_T26 l1 x7_2).f0), .int .i64 ((rd_T26 l1 x7_2).f1)]] (by rfl) rfl rfl (by (try simp only [mA]); first | done | rfl) ?_
                 with_reducible refine (clusterlocksref04_Zero.calls ((rd_T26 l1 x7_2).f0) ((rd_T26 l1 x7_2).f1) true _ A32.out).mono ?_
                 rintro e w36 ⟨rfl, hb⟩
                 refine ⟨_, rfl, ?_⟩
                 replace BK274 := bK BK274 hb
                 replace HB := bB HB hb
                 (try clear hb)
                 refine hK.out _ _ ⟨(kC HB hw279_0), (kC HB hw279_1), (kC HB hw281_0), (kC HB hw281_1)⟩ (fun hHeld => ?_)
                 clear hK K
                 refine norm_ (a' := ?_) ?_ ?_
                 rotate_left
                 ·show Act.put _ (some 54) _ = _
                  simp only [sP]
                  rfl
                 refine pu HT_ 12 55 q13_13 rfl rfl (by kernel_rfl) (fun _ _ _ => id) (.inl ⟨by rfl, by intro w'; go_simp; with_reducible rfl⟩) (by simp only [sP]; rfl) ?_
                 refine pu HT_ 13 56 q13_14 rfl rfl (by kernel_rfl) (fun _ _ _ => id) (.inl ⟨by rfl, by intro w'; go_simp; with_reducible rfl⟩) (by simp only [sP]; rfl) ?_
                 refine pu HT_ 14 57 q13_15 rfl rfl (by kernel_rfl) (fun _ _ _ => id) (.inl ⟨by rfl, by intro w'; go_simp; with_reducible rfl⟩) (by simp only [sP]; rfl) ?_
                 refine pu HT_ 15 58 q13_16 rfl rfl (by kernel_rfl) (fun _ _ _ => id) (.inr ⟨by rfl, rfl⟩) (by simp only [sP]; rfl) ?_
                 refine pu HT_ 16 59 q13_17 rfl rfl (by kernel_rfl) (fun _ _ _ => id) (.inr ⟨by rfl, rfl⟩) (by simp only [sP]; rfl) ?_
                 refine pu HT_ 17 60 q13_18 rfl rfl (by kernel_rfl) (fun _ _ _ => id) (.inr ⟨by rfl, rfl⟩) (by simp only [sP]; rfl) ?_
                 refine pu HT_ 18 61 q13_19 rfl rfl (by kernel_rfl) (fun _ _ _ => id) (.inr ⟨by rfl, rfl⟩) (by simp only [sP]; rfl) ?_
                 refine pu HT_ 19 62 q13_25 rfl rfl (by kernel_rfl) (fun _ _ _ => id) (.inr ⟨by rfl, rfl⟩) (by simp only [sP]; rfl) ?_
                 refine pu HT_ 20 63 q13_26 rfl rfl (by kernel_rfl) (fun _ _ _ => id) (.inr ⟨by rfl, rfl⟩) (by simp only [sP]; rfl) ?_
                 refine pu HT_ 21 64 q13_27 rfl rfl (by kernel_rfl) (fun _ _ _ => id) (.inr ⟨by rfl, rfl⟩) (by simp only [sP]; rfl) ?_
                 refine pu HT_ 22 65 q13_28 rfl rfl (by kernel_rfl) (fun _ _ _ => id) (.inr ⟨by rfl, rfl⟩) (by simp only [sP]; rfl) ?_
                 refine pu HT_ 23 66 q13_20 rfl rfl (by kernel_rfl) (fun _ _ _ => id) (.inr ⟨by rfl, rfl⟩) (by simp only [sP]; rfl) ?_
                 refine pu HT_ 24 67 q13_21 rfl rfl (by kernel_rfl) (fun _ _ _ => id) (.inr ⟨by rfl, rfl⟩) (by simp only [sP]; rfl) ?_
                 refine pu HT_ 25 68 q13_22 rfl rfl (by kernel_rfl) (fun _ _ _ => id) (.inr ⟨by rfl, rfl⟩) (by simp only [sP]; rfl) ?_
                 refine pu HT_ 26 69 q13_23 rfl rfl (by kernel_rfl) (fun _ _ _ => id) (.inr ⟨by rfl, rfl⟩) (by simp only [sP]; rfl) ?_
                 refine pu HT_ 27 70 q13_24 rfl rfl (by kernel_rfl) (fun _ _ _ => id) (.inl ⟨by rfl, by intro w'; go_simp; with_reducible rfl⟩) (by simp only [sP]; rfl) ?_
                 refine done_ (done_of HT_.out (by kernel_rfl)) ?_
                 try go_wp2
                 go_roundg k2
                 case measure => have := HK1.out; have := HK2.out; omega
                 case rel => exact ⟨(wrap64 (x7_2 + 1)), (by first | rfl | (simp; done) | (simp [*]; done)), H', ⟨by have := HK1.out; have := HK2.out; omega⟩, ⟨by (with_reducible repeat first | refine bN ?_ _ | refine bD ?_ | refine bA ?_ _); exact BK274.out⟩, ⟨by repeat (first | (with_reducible first | exact HB.out | apply bL | apply bM | apply bR) | exact HB.out)⟩⟩
                ·replace c33 := Bool.eq_false_iff.mpr c33
                 subst c33
                 rw [if_neg (show ¬ (false = true) by decide)] at H
                 obtain ⟨t285, A370, H⟩ := Option.bind_eq_some_iff.mp H
                 have A37 := Aside0.mk A370; clear A370
                 have HH_ := Aside0.mk H
                 clear H
                 have p283 : 0 ≤ (x6_1 : Int) := of_decide_eq_true (by first | (with_reducible assumption) | assumption)
                 have q283 : x6_1 < (l1.length : Int) := of_decide_eq_true (by first | (with_reducible assumption) | assumption)
                 obtain ⟨ad283, e283, hx283_0, hx283_1⟩ := at_T26 HR1.out x6_1 p283 q283
                 have hw283_1 := hx283_1
                 have hw283_0 := hx283_0
                 obtain rfl : ad276 = ad283 := (by injection e283)
                 replace hx283_0 := kC HB hx283_0
                 replace hx283_1 := kC HB hx283_1
                 replace p283 := eq_true p283
                 replace q283 := eq_true q283
                 have p284 : 0 ≤ (x7_2 : Int) := of_decide_eq_true (by first | (with_reducible assumption) | assumption)
                 have q284 : x7_2 < (l1.length : Int) := of_decide_eq_true (by first | (with_reducible assumption) | assumption)
                 obtain ⟨ad284, e284, hx284_0, hx284_1⟩ := at_T26 HR1.out x7_2 p284 q284
                 have hw284_1 := hx284_1
                 have hw284_0 := hx284_0
                 obtain rfl : ad276 = ad284 := (by injection e284)
                 replace hx284_0 := kC HB hx284_0
                 replace hx284_1 := kC HB hx284_1
                 replace p284 := eq_true p284
                 replace q284 := eq_true q284
                 refine start_ (n := 28) (S := fun w' => w'.cell? (ad276.add ((x6_1).toNat * 2)) = some (.int .i64 ((rd_T26 l1 x6_1).f0)) ∧ w'.cell? ⟨(ad276.add ((x6_1).toNat * 2)).block, (ad276.add ((x6_1).toNat * 2)).off + 1, none⟩ = some (.int .i64 ((rd_T26 l1 x6_1).f1)) ∧ w'.cell? (ad276.add ((x7_2).toNat * 2)) = some (.int .i64 ((rd_T26 l1 x7_2).f0)) ∧ w'.cell? ⟨(ad276.add ((x7_2).toNat * 2)).block, (ad276.add ((x7_2).toNat * 2)).off + 1, none⟩ = some (.int .i64 ((rd_T26 l1 x7_2).f1)) ∧ w'.cell? (ad276.add ((x6_1).toNat * 2)) = some (.int .i64 ((rd_T26 l1 x6_1).f0)) ∧ w'.cell? ⟨(ad276.add ((x6_1).toNat * 2)).block, (ad276.add ((x6_1).toNat * 2)).off + 1, none⟩ = some (.int .i64 ((rd_T26 l1 x6_1).f1)) ∧ w'.cell? (ad276.add ((x7_2).toNat * 2)) = some (.int .i64 ((rd_T26 l1 x7_2).f0)) ∧ w'.cell? ⟨(ad276.add ((x7_2).toNat * 2)).block, (ad276.add ((x7_2).toNat * 2)).off + 1, none⟩ = some (.int .i64 ((rd_T26 l1 x7_2).f1))) (ds := []) q13_0 (by kernel_rfl) rfl rfl ⟨(kC HB hw279_0), (kC HB hw279_1), (kC HB hw281_0), (kC HB hw281_1), (kC HB hw283_0), (kC HB hw283_1), (kC HB hw284_0), (kC HB hw284_1)⟩ (fun hHeld => ?_); refine with_tabW clusterlocksref04_Compatible.tab16 clusterlocksref04_Compatible.bits16 (fun HT_ HW_ => ?_)
                 generalize wr.drew = w39 at BK274 HB hx279_0 hx279_1 hx281_0 hx281_1 hx283_0 hx283_1 hx284_0 hx284_1 hHeld ⊢
                 refine pu HT_ 0 43 q13_1 rfl rfl (by kernel_rfl) (fun _ _ _ => id) (.inl ⟨by rfl, by intro w'; go_simp; with_reducible rfl⟩) (by simp only [sP]; rfl) ?_
                 refine pu HT_ 1 44 q13_2 rfl rfl (by kernel_rfl) (fun _ _ _ => id) (.inl ⟨by rfl, by intro w'; go_simp; with_reducible rfl⟩) (by simp only [sP]; rfl) ?_
                 refine pu HT_ 2 45 q13_3 rfl rfl (by kernel_rfl) (fun _ _ _ => id) (.inl ⟨by rfl, by intro w'; go_simp; with_reducible rfl⟩) (by simp only [sP]; rfl) ?_
                 refine tk HT_ HW_ 3 46 q13_4 rfl rfl (by kernel_rfl) (fun _ _ _ => id) (.inl ⟨by rfl, by rintro w' ⟨s0, s1, s2, s3, s4, s5, s6, s7⟩; go_simp; with_reducible rfl⟩) hHeld (by simp only [sP]; rfl) ?_
                 refine one_ (i := 4) (N := some 47) q13_5 rfl rfl (one_of HT_.out (by kernel_rfl)) (by decide) (fun K hK => ?_)
                 refine goes_ Tryd.func28 (by kernel_rfl) rfl #[.agg #[.int .i64 ((rd_T26 l1 x6_1).f0), .int .i64 ((rd_T26 l1 x6_1).f1)]] (by rfl) rfl rfl (by (try simp only [mA]); first | done | rfl) ?_
                 with_reducible refine (clusterlocksref04_Zero.calls ((rd_T26 l1 x6_1).f0) ((rd_T26 l1 x6_1).f1) false _ A26.out).mono ?_
                 rintro e w40 ⟨rfl, hb⟩
                 refine ⟨_, rfl, ?_⟩
                 replace BK274 := bK BK274 hb
                 replace HB := bB HB hb
                 (try clear hb)
                 refine hK.out _ _ ⟨(kC HB hw279_0), (kC HB hw279_1), (kC HB hw281_0), (kC HB hw281_1), (kC HB hw283_0), (kC HB hw283_1), (kC HB hw284_0), (kC HB hw284_1)⟩ (fun hHeld => ?_)
                 clear hK K
                 refine norm_ (a' := ?_) ?_ ?_
                 rotate_left
                 ·show Act.put _ (some 47) _ = _
                  simp only [sP]
                  rfl
                 refine pu HT_ 5 48 q13_6 rfl rfl (by kernel_rfl) (fun _ _ _ => id) (.inl ⟨by rfl, by intro w'; go_simp; with_reducible rfl⟩) (by simp only [sP]; rfl) ?_
                 refine pu HT_ 6 49 q13_7 rfl rfl (by kernel_rfl) (fun _ _ _ => id) (.inl ⟨by rfl, by intro w'; go_simp; with_reducible rfl⟩) (by simp only [sP]; rfl) ?_
                 refine pu HT_ 7 50 q13_8 rfl rfl (by kernel_rfl) (fun _ _ _ => id) (.inl ⟨by rfl, by intro w'; go_simp; with_reducible rfl⟩) (by simp only [sP]; rfl) ?_
                 refine pu HT_ 8 51 q13_9 rfl rfl (by kernel_rfl) (fun _ _ _ => id) (.inl ⟨by rfl, by intro w'; go_simp; with_reducible rfl⟩) (by simp only [sP]; rfl) ?_
                 refine pu HT_ 9 52 q13_10 rfl rfl (by kernel_rfl) (fun _ _ _ => id) (.inl ⟨by rfl, by intro w'; go_simp; with_reducible rfl⟩) (by simp only [sP]; rfl) ?_
                 refine tk HT_ HW_ 10 53 q13_11 rfl rfl (by kernel_rfl) (fun _ _ _ => id) (.inl ⟨by rfl, by rintro w' ⟨s0, s1, s2, s3, s4, s5, s6, s7⟩; go_simp; with_reducible rfl⟩) hHeld (by simp only [sP]; rfl) ?_
                 refine one_ (i := 11) (N := some 54) q13_12 rfl rfl (one_of HT_.out (by kernel_rfl)) (by decide) (fun K hK => ?_)
                 refine goes_ Tryd.func28 (by kernel_rfl) rfl #[.agg #[.int .i64 ((rd_T26 l1 x7_2).f0), .int .i64 ((rd_T26 l1 x7_2).f1)]] (by rfl) rfl rfl (by (try simp only [mA]); first | done | rfl) ?_
                 with_reducible refine (clusterlocksref04_Zero.calls ((rd_T26 l1 x7_2).f0) ((rd_T26 l1 x7_2).f1) false _ A32.out).mono ?_
                 rintro e w41 ⟨rfl, hb⟩
                 refine ⟨_, rfl, ?_⟩
                 replace BK274 := bK BK274 hb
                 replace HB := bB HB hb
                 (try clear hb)
                 refine hK.out _ _ ⟨(kC HB hw279_0), (kC HB hw279_1), (kC HB hw281_0), (kC HB hw281_1), (kC HB hw283_0), (kC HB hw283_1), (kC HB hw284_0), (kC HB hw284_1)⟩ (fun hHeld => ?_)
                 clear hK K
                 refine norm_ (a' := ?_) ?_ ?_
                 rotate_left
                 ·show Act.put _ (some 54) _ = _
                  simp only [sP]
                  rfl
                 refine pu HT_ 12 55 q13_13 rfl rfl (by kernel_rfl) (fun _ _ _ => id) (.inl ⟨by rfl, by intro w'; go_simp; with_reducible rfl⟩) (by simp only [sP]; rfl) ?_
                 refine pu HT_ 13 56 q13_14 rfl rfl (by kernel_rfl) (fun _ _ _ => id) (.inl ⟨by rfl, by intro w'; go_simp; with_reducible rfl⟩) (by simp only [sP]; rfl) ?_
                 refine pu HT_ 14 57 q13_15 rfl rfl (by kernel_rfl) (fun _ _ _ => id) (.inl ⟨by rfl, by intro w'; go_simp; with_reducible rfl⟩) (by simp only [sP]; rfl) ?_
                 refine pu HT_ 15 58 q13_16 rfl rfl (by kernel_rfl) (fun _ _ _ => id) (.inl ⟨by rfl, by intro w'; go_simp; with_reducible rfl⟩) (by simp only [sP]; rfl) ?_
                 refine pu HT_ 16 59 q13_17 rfl rfl (by kernel_rfl) (fun _ _ _ => id) (.inl ⟨by rfl, by intro w'; go_simp; with_reducible rfl⟩) (by simp only [sP]; rfl) ?_
                 refine pu HT_ 17 60 q13_18 rfl rfl (by kernel_rfl) (fun _ _ _ => id) (.inl ⟨by rfl, by intro w'; go_simp; with_reducible rfl⟩) (by simp only [sP]; rfl) ?_
                 refine pu HT_ 18 61 q13_19 rfl rfl (by kernel_rfl) (fun _ _ _ => id) (.inl ⟨by rfl, by intro w'; go_simp; with_reducible rfl⟩) (by simp only [sP]; rfl) ?_
                 refine pu HT_ 20 63 q13_29 rfl rfl (by kernel_rfl) (fun _ _ _ => id) (.inl ⟨by rfl, by intro w'; go_simp; with_reducible rfl⟩) (by simp only [sP]; rfl) ?_
                 refine pu HT_ 21 64 q13_30 rfl rfl (by kernel_rfl) (fun _ _ _ => id) (.inl ⟨by rfl, by intro w'; go_simp; with_reducible rfl⟩) (by simp only [sP]; rfl) ?_
                 refine pu HT_ 22 65 q13_31 rfl rfl (by kernel_rfl) (fun _ _ _ => id) (.inl ⟨by rfl, by intro w'; go_simp; with_reducible rfl⟩) (by simp only [sP]; rfl) ?_
                 refine pu HT_ 23 66 q13_32 rfl rfl (by kernel_rfl) (fun _ _ _ => id) (.inl ⟨by rfl, by intro w'; go_simp; with_reducible rfl⟩) (by simp only [sP]; rfl) ?_
                 refine tk HT_ HW_ 19 62 q13_20 rfl rfl (by kernel_rfl) (fun _ _ _ => id) (.inl ⟨by rfl, by rintro w' ⟨s0, s1, s2, s3, s4, s5, s6, s7⟩; go_simp; with_reducible rfl⟩) hHeld (by simp only [sP]; rfl) ?_
                 refine tk HT_ HW_ 24 67 q13_21 rfl rfl (by kernel_rfl) (fun _ _ _ => id) (.inl ⟨by rfl, by rintro w' ⟨s0, s1, s2, s3, s4, s5, s6, s7⟩; go_simp; with_reducible rfl⟩) hHeld (by simp only [sP]; rfl) ?_
                 refine one_ (i := 25) (N := some 68) q13_22 rfl rfl (one_of HT_.out (by kernel_rfl)) (by decide) (fun K hK => ?_)
                 refine goes_ Tryd.func58 (by kernel_rfl) rfl #[.int .i64 ((rd_T26 l1 x6_1).f0), .int .i64 ((rd_T26 l1 x7_2).f0)] (by rfl) rfl rfl (by (try simp only [mA]); first | done | rfl) ?_
                 have H := HH_.out
                 clear HH_
                 by_cases c38 : t285 = true
                 ·subst c38
                  rw [if_pos rfl] at H
                  have H' := Aside0.mk H
                  clear H
                  with_reducible refine (clusterlocksref03_Compatible.calls ((rd_T26 l1 x6_1).f0) ((rd_T26 l1 x7_2).f0) true _ A37.out).mono ?_
                  rintro e w' ⟨rfl, ⟨nd, rfl⟩⟩
                  refine ⟨_, rfl, ?_⟩
                  refine hK.out _ _ ⟨(kC HB hw279_0), (kC HB hw279_1), (kC HB hw281_0), (kC HB hw281_1), (kC HB hw283_0), (kC HB hw283_1), (kC HB hw284_0), (kC HB hw284_1)⟩ (fun hHeld => ?_)
                  clear hK K
                  refine norm_ (a' := ?_) ?_ ?_
                  rotate_left
                  ·show Act.put _ (some 68) _ = _
                   simp only [sP]
                   rfl
                  refine pu HT_ 26 69 q13_23 rfl rfl (by kernel_rfl) (fun _ _ _ => id) (.inl ⟨by rfl, by intro w'; go_simp; with_reducible rfl⟩) (by simp only [sP]; rfl) ?_
                  refine pu HT_ 27 70 q13_24 rfl rfl (by kernel_rfl) (fun _ _ _ => id) (.inl ⟨by rfl, by intro w'; go_simp; with_reducible rfl⟩) (by simp only [sP]; rfl) ?_
                  refine done_ (done_of HT_.out (by kernel_rfl)) ?_
                  try go_wp2
                  go_roundg k2
                  case measure => have := HK1.out; have := HK2.out; omega
                  case rel => exact ⟨(wrap64 (x7_2 + 1)), (by first | rfl | (simp; done) | (simp [*]; done)), H', ⟨by have := HK1.out; have := HK2.out; omega⟩, ⟨by (with_reducible repeat first | refine bN ?_ _ | refine bD ?_ | refine bA ?_ _); exact BK274.out⟩, ⟨by repeat (first | (with_reducible first | exact HB.out | apply bL | apply bM | apply bR) | exact HB.out)⟩⟩
                 ·replace c38 := Bool.eq_false_iff.mpr c38
                  subst c38
                  rw [if_neg (show ¬ (false = true) by decide)] at H
                  obtain rfl := Option.some.inj H
                  with_reducible refine (clusterlocksref03_Compatible.calls ((rd_T26 l1 x6_1).f0) ((rd_T26 l1 x7_2).f0) false _ A37.out).mono ?_
                  rintro e w' ⟨rfl, ⟨nd, rfl⟩⟩
                  refine ⟨_, rfl, ?_⟩
                  refine hK.out _ _ ⟨(kC HB hw279_0), (kC HB hw279_1), (kC HB hw281_0), (kC HB hw281_1), (kC HB hw283_0), (kC HB hw283_1), (kC HB hw284_0), (kC HB hw284_1)⟩ (fun hHeld => ?_)
                  clear hK K
                  refine norm_ (a' := ?_) ?_ ?_
                  rotate_left
                  ·show Act.put _ (some 68) _ = _
                   simp only [sP]
                   rfl
                  refine pu HT_ 26 69 q13_23 rfl rfl (by kernel_rfl) (fun _ _ _ => id) (.inl ⟨by rfl, by intro w'; go_simp; with_reducible rfl⟩) (by simp only [sP]; rfl) ?_
                  refine pu HT_ 27 70 q13_24 rfl rfl (by kernel_rfl) (fun _ _ _ => id) (.inl ⟨by rfl, by intro w'; go_simp; with_reducible rfl⟩) (by simp only [sP]; rfl) ?_
                  refine done_ (done_of HT_.out (by kernel_rfl)) ?_
                  try go_wp2
                  go_ret
                  exact ⟨by first | rfl | (simp [errW_none, errW_some] <;> rfl) | (simp [*, errW_none, errW_some] <;> rfl), by repeat (first | (with_reducible first | exact HB.out | apply bL | apply bM | apply bR) | exact HB.out)⟩
               ·rw [if_neg c31] at H
                exact absurd H (by simp)
              ·rw [if_neg c30] at H
               exact absurd H (by simp)
            ·rw [if_neg c25] at H
             exact absurd H (by simp)
           ·rw [if_neg c24] at H
            exact absurd H (by simp)
          ·rw [if_neg c23] at H
           have c23b0 : decide (x7_2 < x6_1) = false := decide_eq_false c23
           clear c23
           have H' := Aside0.mk H
           clear H
           go_wp2
           go_roundg k2
           case measure => have := HK1.out; have := HK2.out; omega
           case rel => exact ⟨(x5_1), (wrap64 (x6_1 + 1)), (by first | rfl | (simp; done) | (simp [*]; done)), (by first | rfl | (simp; done) | (simp [*]; done)), H', ⟨by have := HK1.out; have := HK2.out; omega⟩, ⟨by (with_reducible repeat first | refine bN ?_ _ | refine bD ?_ | refine bA ?_ _); exact BK274.out⟩, ⟨by repeat (first | (with_reducible first | exact HB.out | apply bL | apply bM | apply bR) | exact HB.out)⟩⟩
      ·replace c11 := Bool.eq_false_iff.mpr c11
       subst c11
       rw [if_neg (show ¬ (false = true) by decide)] at H
       obtain rfl := Option.some.inj H
       with_reducible refine (clusterlocksref04_Permitted.calls a0_0 a0_1 a0_2 a0_3 ((rd_T26 l1 x6_1).f0) ((rd_T26 l1 x6_1).f1) false _ A10.out).mono ?_
       rintro e w46 ⟨rfl, hb⟩
       refine ⟨_, rfl, ?_⟩
       replace BK274 := bK BK274 hb
       replace HB := bB HB hb
       (try clear hb)
       refine hK.out _ _ ⟨bC BK274 0 rfl, bC BK274 1 rfl, bC BK274 2 rfl, bC BK274 3 rfl, (kC HB hw276_0), (kC HB hw276_1)⟩ (fun hHeld => ?_)
       clear hK K
       refine norm_ (a' := ?_) ?_ ?_
       rotate_left
       ·show Act.put _ (some 22) _ = _
        simp only [sP]
        rfl
       refine pure_ (i := 6) (N := some 23) (v := ?_) (a' := ?_) #[T,T,T,T,T,T,T] rfl rfl (by kernel_rfl) (fun _ _ _ h => h) (Or.inl ⟨by rfl, ?_⟩) ?_ ?_
       rotate_left
       ·intro w'; go_simp; with_reducible rfl
       rotate_left
       ·simp only [sP]; rfl
       refine done_ (by kernel_rfl) ?_
       try go_wp2
       go_ret
       exact ⟨by first | rfl | (simp [errW_none, errW_some] <;> rfl) | (simp [*, errW_none, errW_some] <;> rfl), by repeat (first | (with_reducible first | exact HB.out | apply bL | apply bM | apply bR) | exact HB.out)⟩
     ·rw [if_neg c9] at H
      exact absurd H (by simp)
    ·rw [if_neg c8] at H
     have c8b0 : decide (x6_1 < (l1.length : Int)) = false := decide_eq_false c8
     clear c8
     obtain rfl := Option.some.inj H
     go_wp2
     go_ret
     exact ⟨by first | rfl | (simp [errW_none, errW_some] <;> rfl) | (simp [*, errW_none, errW_some] <;> rfl), by repeat (first | (with_reducible first | exact HB.out | apply bL | apply bM | apply bR) | exact HB.out)⟩
 ·replace c4 := Bool.eq_false_iff.mpr c4
  subst c4
  rw [if_neg (show ¬ (false = true) by decide)] at H
  obtain rfl := Option.some.inj H
  go_enter Tryd.func39, Tryd.ntmps39
  go_wp2_with (first | ((with_reducible refine gate_dst (N := 2) rfl ?_); refine box_event ?hg (N := 2) ?hd (cs := #[.string a0_0, .int .i64 a0_1, .int .i64 a0_2, .int .i64 a0_3]) (t := 32) ?hr ?_; (case hd => rfl); (case hg => rfl); (case hr => first | (go_simp; done) | (go_simp; rfl)); intro gb274 hg w47 hbox hb; have BK274 := Aside0.mk hbox; have GW274 := gE HB hg; replace HB := bB HB hb; have GE274 := GW274; clear hb hbox hg; have hcz48_0 : w47.cell? ⟨gb274, 0, none⟩ = some (.string a0_0) := bC BK274 0 rfl; have hcz48_1 : w47.cell? ⟨gb274, 1, none⟩ = some (.int .i64 a0_1) := bC BK274 1 rfl; have hcz48_2 : w47.cell? ⟨gb274, 2, none⟩ = some (.int .i64 a0_2) := bC BK274 2 rfl; have hcz48_3 : w47.cell? ⟨gb274, 3, none⟩ = some (.int .i64 a0_3) := bC BK274 3 rfl; have hfz48_0 := bF BK274 0; have hfz48_1 := bF BK274 1; have hfz48_2 := bF BK274 2; have hfz48_3 := bF BK274 3) | ((with_reducible refine gate_callee (f := 48) rfl ?_); refine goesL_ (some 9) rfl rfl Tryd.func48 (by kernel_rfl) rfl #[.agg #[.string a0_0, .int .i64 a0_1, .int .i64 a0_2, .int .i64 a0_3]] rfl (by (try simp only [mA]); first | done | rfl) ?_; (with_reducible refine (clusterlocksref04_Shaped.calls a0_0 a0_1 a0_2 a0_3 false _ A3.out).mono ?_); rintro e w49 ⟨rfl, hb⟩; refine ⟨_, rfl, ?_⟩; replace BK274 := bK BK274 hb; replace HB := bB HB hb; (try clear hb)))
  go_ret
  exact ⟨by first | rfl | (simp [errW_none, errW_some] <;> rfl) | (simp [*, errW_none, errW_some] <;> rfl), by repeat (first | (with_reducible first | exact HB.out | apply bL | apply bM | apply bR) | exact HB.out)⟩
end Go.Proofs.YtnmemkphfgdplaaDoor.PA
