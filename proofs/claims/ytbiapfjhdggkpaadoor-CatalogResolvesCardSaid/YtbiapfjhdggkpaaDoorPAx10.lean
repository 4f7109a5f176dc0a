-- Printed by wip/tool/myprint.py for this claim; Lean checks it.
import Derived.Test.YtbiapfjhdggkpaaDoorPAx0
import Derived.Test.YtbiapfjhdggkpaaDoorPAx1
import Derived.Test.YtbiapfjhdggkpaaDoorPAx2
import Derived.Test.YtbiapfjhdggkpaaDoorPAx3
import Derived.Test.YtbiapfjhdggkpaaDoorPAx4
import Derived.Test.YtbiapfjhdggkpaaDoorPAx5
import Derived.Test.YtbiapfjhdggkpaaDoorPAx6
import Derived.Test.YtbiapfjhdggkpaaDoorPAx9
import Derived.Test.YtbiapfjhdggkpaaDoorSlim
namespace Go.Proofs.YtbiapfjhdggkpaaDoor.PA
open Go.RowKit Go.Proofs.YtbiapfjhdggkpaaDoorW.PrintWords Go.Proofs.YtbiapfjhdggkpaaDoorW.PrintLast Go.Proofs.YtbiapfjhdggkpaaDoorW.PrintMore
attribute [local go_sem] max2_int min2_int max_two min_two max_three min_three max_four min_four   -- for this text's walks alone
set_option linter.unusedVariables false
set_option linter.unusedSimpArgs false

attribute [local go_sem high] eqA26
/-! ### mode_Valid: function 59 -/
def mode_Valid.f (a0 : Int) : Option (Bool) := if a0 ≥ 1 then (some (decide (a0 ≤ 5))) else (some false)
set_option maxHeartbeats 8000000 in
set_option maxRecDepth 100000 in
theorem mode_Valid.calls (a0 : Int) (r : Bool) (w : World) (h : mode_Valid.f a0 = some r) :
  Calls Tryd.prog 59 #[.int .i64 a0] w fun e w' => e = .returned (.bool r) ∧ Drawn0 w w' := by
 have H : (if a0 ≥ 1 then (some (decide (a0 ≤ 5))) else (some false)) = some r := h
 clear h
 by_cases c2 : a0 ≥ 1
 ·rw [if_pos c2] at H
  have c2b0 : decide (1 ≤ a0) = true := decide_eq_true c2
  clear c2
  obtain rfl := Option.some.inj H
  go_enter Tryd.func59, Tryd.ntmps59
  go_wp2
  go_ret
  exact ⟨by first | rfl | (simp; done) | (simp [*]; done), by repeat (first | exact Drawn0.refl _ | apply Drawn0.step)⟩
 ·rw [if_neg c2] at H
  have c2b0 : decide (1 ≤ a0) = false := decide_eq_false c2
  clear c2
  obtain rfl := Option.some.inj H
  go_enter Tryd.func59, Tryd.ntmps59
  go_wp2
  go_ret
  exact ⟨by first | rfl | (simp; done) | (simp [*]; done), by repeat (first | exact Drawn0.refl _ | apply Drawn0.step)⟩
/-! ### amount_Fits: function 45 -/
def amount_Fits.f (a0_0 : ByteArray) (a0_1 : Int) (a0_2 : Int) (a0_3 : Int) (a1_0 : Int) (a1_1 : Int) : Option (Bool) := (amount_Shaped.f a0_0 a0_1 a0_2 a0_3).bind fun t285 => (if t285 = true then (if a0_1 = 1 then ((mode_Valid.f a1_0).bind fun t286 => (if t286 = true then (some (a1_1 == 0)) else (some false))) else (if a1_0 = 0 then (if a1_1 ≥ 1 then (some (decide (a1_1 ≤ a0_2))) else (some false)) else (some false))) else (some false))
set_option maxHeartbeats 8000000 in
set_option maxRecDepth 100000 in
theorem amount_Fits.calls (a0_0 : ByteArray) (a0_1 : Int) (a0_2 : Int) (a0_3 : Int) (a1_0 : Int) (a1_1 : Int) (r : Bool) (w : World) (h : amount_Fits.f a0_0 a0_1 a0_2 a0_3 a1_0 a1_1 = some r) :
  Calls Tryd.prog 45 #[.agg #[.string a0_0, .int .i64 a0_1, .int .i64 a0_2, .int .i64 a0_3], .agg #[.int .i64 a1_0, .int .i64 a1_1]] w fun e w' => e = .returned (.bool r) ∧ Below w.heap.size w w' := by
 have hu26 := Tryd.underlying26
 have hu42 := Tryd.underlying42
 have HB := Aside0.mk (Below.refl w.heap.size w)
 have H : ((amount_Shaped.f a0_0 a0_1 a0_2 a0_3).bind fun t285 => (if t285 = true then (if a0_1 = 1 then ((mode_Valid.f a1_0).bind fun t286 => (if t286 = true then (some (a1_1 == 0)) else (some false))) else (if a1_0 = 0 then (if a1_1 ≥ 1 then (some (decide (a1_1 ≤ a0_2))) else (some false)) else (some false))) else (some false))) = some r := h
 clear h
 obtain ⟨t285, A30, H⟩ := Option.bind_eq_some_iff.mp H
 have A3 := Aside0.mk A30; clear A30
 by_cases c4 : t285 = true
 ·subst c4
  rw [if_pos rfl] at H
  by_cases c5 : a0_1 = 1
  ·rw [if_pos c5] at H
   have c5b0 : (a0_1 == 1) = true := beq_iff_eq.mpr c5
   have c5b1 : (a0_1 != 1) = false := bne_eq_false_iff_eq.mpr c5
   clear c5
   obtain ⟨t286, A60, H⟩ := Option.bind_eq_some_iff.mp H
   have A6 := Aside0.mk A60; clear A60
   by_cases c7 : t286 = true
   ·subst c7
    rw [if_pos rfl] at H
    obtain rfl := Option.some.inj H
    go_enter Tryd.func45, Tryd.ntmps45
    go_wp2_with (first | ((with_reducible refine gate_dst (N := 2) rfl ?_); refine box_event ?hg (N := 2) ?hd (cs := #[.string a0_0, .int .i64 a0_1, .int .i64 a0_2, .int .i64 a0_3]) (t := 26) ?hr ?_; (case hd => rfl); (case hg => rfl); (case hr => first | (go_simp; done) | (go_simp; rfl)); intro gb283 hg w8 hbox hb; have BK283 := Aside0.mk hbox; have GW283 := gE HB hg; replace HB := bB HB hb; have GE283 := GW283; clear hb hbox hg) | ((with_reducible refine gate_dst (N := 3) rfl ?_); refine box_event ?hg (N := 3) ?hd (cs := #[.int .i64 a1_0, .int .i64 a1_1]) (t := 42) ?hr ?_; (case hd => rfl); (case hg => rfl); (case hr => first | (go_simp; done) | (go_simp; rfl)); intro gb284 hg w9 hbox hb; have BK284 := Aside0.mk hbox; have GW284 := gE HB hg; replace HB := bB HB hb; have GE284 := GW284; have NB283_284 := gN BK283 hg; replace BK283 := bK BK283 hb; have NB284_283 := Aside0.mk NB283_284.out.symm; clear hb hbox hg; have hnb10 := NB283_284.out; have hnc10 := NB284_283.out; have hcz11_0 : w9.cell? ⟨gb283, 0, none⟩ = some (.string a0_0) := bC BK283 0 rfl; have hcz11_1 : w9.cell? ⟨gb283, 1, none⟩ = some (.int .i64 a0_1) := bC BK283 1 rfl; have hcz11_2 : w9.cell? ⟨gb283, 2, none⟩ = some (.int .i64 a0_2) := bC BK283 2 rfl; have hcz11_3 : w9.cell? ⟨gb283, 3, none⟩ = some (.int .i64 a0_3) := bC BK283 3 rfl; have hfz11_0 := bF BK283 0; have hfz11_1 := bF BK283 1; have hfz11_2 := bF BK283 2; have hfz11_3 := bF BK283 3) | ((with_reducible refine gate_callee (f := 39) rfl ?_); refine goesL_ (some 6) rfl rfl Tryd.func39 (by kernel_rfl) rfl #[.agg #[.string a0_0, .int .i64 a0_1, .int .i64 a0_2, .int .i64 a0_3]] rfl (by (try simp only [mA]); first | done | rfl) ?_; (with_reducible refine (amount_Shaped.calls a0_0 a0_1 a0_2 a0_3 true _ A3.out).mono ?_); rintro e w12 ⟨rfl, hb⟩; refine ⟨_, rfl, ?_⟩; replace BK283 := bK BK283 hb; replace BK284 := bK BK284 hb; replace HB := bB HB hb; (try clear hb); (try clear hk); obtain ⟨hcz13_0, hcz13_1, hcz13_2, hcz13_3, hfz13_0, hfz13_1, hfz13_2, hfz13_3⟩ := d4 BK283; have hcz14_0 : w12.cell? ⟨gb284, 0, none⟩ = some (.int .i64 a1_0) := bC BK284 0 rfl; have hcz14_1 : w12.cell? ⟨gb284, 1, none⟩ = some (.int .i64 a1_1) := bC BK284 1 rfl; have hfz14_0 := bF BK284 0; have hfz14_1 := bF BK284 1) | ((with_reducible refine gate_callee (f := 59) rfl ?_); refine goesL_ (some 13) rfl rfl Tryd.func59 (by kernel_rfl) rfl #[.int .i64 a1_0] rfl (by (try simp only [mA]); first | done | rfl) ?_; (with_reducible refine (mode_Valid.calls a1_0 true _ A6.out).mono ?_); rintro e w' ⟨rfl, ⟨nd, rfl⟩⟩; refine ⟨_, rfl, ?_⟩))
    go_ret
    exact ⟨by first | rfl | (simp [errW_none, errW_some] <;> rfl) | (simp [*, errW_none, errW_some] <;> rfl), (uS HB)⟩
   ·replace c7 := Bool.eq_false_iff.mpr c7
    subst c7
    rw [if_neg (show ¬ (false = true) by decide)] at H
    obtain rfl := Option.some.inj H
    go_enter Tryd.func45, Tryd.ntmps45
    go_wp2_with (first | ((with_reducible refine gate_dst (N := 2) rfl ?_); refine box_event ?hg (N := 2) ?hd (cs := #[.string a0_0, .int .i64 a0_1, .int .i64 a0_2, .int .i64 a0_3]) (t := 26) ?hr ?_; (case hd => rfl); (case hg => rfl); (case hr => first | (go_simp; done) | (go_simp; rfl)); intro gb283 hg w15 hbox hb; have BK283 := Aside0.mk hbox; have GW283 := gE HB hg; replace HB := bB HB hb; have GE283 := GW283; clear hb hbox hg) | ((with_reducible refine gate_dst (N := 3) rfl ?_); refine box_event ?hg (N := 3) ?hd (cs := #[.int .i64 a1_0, .int .i64 a1_1]) (t := 42) ?hr ?_; (case hd => rfl); (case hg => rfl); (case hr => first | (go_simp; done) | (go_simp; rfl)); intro gb284 hg w16 hbox hb; have BK284 := Aside0.mk hbox; have GW284 := gE HB hg; replace HB := bB HB hb; have GE284 := GW284; have NB283_284 := gN BK283 hg; replace BK283 := bK BK283 hb; have NB284_283 := Aside0.mk NB283_284.out.symm; clear hb hbox hg; have hnb17 := NB283_284.out; have hnc17 := NB284_283.out; have hcz18_0 : w16.cell? ⟨gb283, 0, none⟩ = some (.string a0_0) := bC BK283 0 rfl; have hcz18_1 : w16.cell? ⟨gb283, 1, none⟩ = some (.int .i64 a0_1) := bC BK283 1 rfl; have hcz18_2 : w16.cell? ⟨gb283, 2, none⟩ = some (.int .i64 a0_2) := bC BK283 2 rfl; have hcz18_3 : w16.cell? ⟨gb283, 3, none⟩ = some (.int .i64 a0_3) := bC BK283 3 rfl; have hfz18_0 := bF BK283 0; have hfz18_1 := bF BK283 1; have hfz18_2 := bF BK283 2; have hfz18_3 := bF BK283 3) | ((with_reducible refine gate_callee (f := 39) rfl ?_); refine goesL_ (some 6) rfl rfl Tryd.func39 (by kernel_rfl) rfl #[.agg #[.string a0_0, .int .i64 a0_1, .int .i64 a0_2, .int .i64 a0_3]] rfl (by (try simp only [mA]); first | done | rfl) ?_; (with_reducible refine (amount_Shaped.calls a0_0 a0_1 a0_2 a0_3 true _ A3.out).mono ?_); rintro e w19 ⟨rfl, hb⟩; refine ⟨_, rfl, ?_⟩; replace BK283 := bK BK283 hb; replace BK284 := bK BK284 hb; replace HB := bB HB hb; (try clear hb); (try clear hk); obtain ⟨hcz20_0, hcz20_1, hcz20_2, hcz20_3, hfz20_0, hfz20_1, hfz20_2, hfz20_3⟩ := d4 BK283; have hcz21_0 : w19.cell? ⟨gb284, 0, none⟩ = some (.int .i64 a1_0) := bC BK284 0 rfl; have hcz21_1 : w19.cell? ⟨gb284, 1, none⟩ = some (.int .i64 a1_1) := bC BK284 1 rfl; have hfz21_0 := bF BK284 0; have hfz21_1 := bF BK284 1) | ((with_reducible refine gate_callee (f := 59) rfl ?_); refine goesL_ (some 13) rfl rfl Tryd.func59 (by kernel_rfl) rfl #[.int .i64 a1_0] rfl (by (try simp only [mA]); first | done | rfl) ?_; (with_reducible refine (mode_Valid.calls a1_0 false _ A6.out).mono ?_); rintro e w' ⟨rfl, ⟨nd, rfl⟩⟩; refine ⟨_, rfl, ?_⟩))
    go_ret
    exact ⟨by first | rfl | (simp [errW_none, errW_some] <;> rfl) | (simp [*, errW_none, errW_some] <;> rfl), (uS HB)⟩
  ·rw [if_neg c5] at H
   have c5b0 : (a0_1 == 1) = false := beq_eq_false_iff_ne.mpr c5
   have c5b1 : (a0_1 != 1) = true := bne_iff_ne.mpr c5
   by_cases c22 : a1_0 = 0
   ·rw [if_pos c22] at H
    have c22b0 : (a1_0 == 0) = true := beq_iff_eq.mpr c22
    have c22b1 : (a1_0 != 0) = false := bne_eq_false_iff_eq.mpr c22
    clear c22
    by_cases c23 : a1_1 ≥ 1
    ·rw [if_pos c23] at H
     have c23b0 : decide (1 ≤ a1_1) = true := decide_eq_true c23
     clear c23
     obtain rfl := Option.some.inj H
     go_enter Tryd.func45, Tryd.ntmps45
     go_wp2_with (first | ((with_reducible refine gate_dst (N := 2) rfl ?_); refine box_event ?hg (N := 2) ?hd (cs := #[.string a0_0, .int .i64 a0_1, .int .i64 a0_2, .int .i64 a0_3]) (t := 26) ?hr ?_; (case hd => rfl); (case hg => rfl); (case hr => first | (go_simp; done) | (go_simp; rfl)); intro gb283 hg w24 hbox hb; have BK283 := Aside0.mk hbox; have GW283 := gE HB hg; replace HB := bB HB hb; have GE283 := GW283; clear hb hbox hg) | ((with_reducible refine gate_dst (N := 3) rfl ?_); refine box_event ?hg (N := 3) ?hd (cs := #[.int .i64 a1_0, .int .i64 a1_1]) (t := 42) ?hr ?_; (case hd => rfl); (case hg => rfl); (case hr => first | (go_simp; done) | (go_simp; rfl)); intro gb284 hg w25 hbox hb; have BK284 := Aside0.mk hbox; have GW284 := gE HB hg; replace HB := bB HB hb; have GE284 := GW284; have NB283_284 := gN BK283 hg; replace BK283 := bK BK283 hb; have NB284_283 := Aside0.mk NB283_284.out.symm; clear hb hbox hg; have hnb26 := NB283_284.out; have hnc26 := NB284_283.out; have hcz27_0 : w25.cell? ⟨gb283, 0, none⟩ = some (.string a0_0) := bC BK283 0 rfl; have hcz27_1 : w25.cell? ⟨gb283, 1, none⟩ = some (.int .i64 a0_1) := bC BK283 1 rfl; have hcz27_2 : w25.cell? ⟨gb283, 2, none⟩ = some (.int .i64 a0_2) := bC BK283 2 rfl; have hcz27_3 : w25.cell? ⟨gb283, 3, none⟩ = some (.int .i64 a0_3) := bC BK283 3 rfl; have hfz27_0 := bF BK283 0; have hfz27_1 := bF BK283 1; have hfz27_2 := bF BK283 2; have hfz27_3 := bF BK283 3) | ((with_reducible refine gate_callee (f := 39) rfl ?_); refine goesL_ (some 6) rfl rfl Tryd.func39 (by kernel_rfl) rfl #[.agg #[.string a0_0, .int .i64 a0_1, .int .i64 a0_2, .int .i64 a0_3]] rfl (by (try simp only [mA]); first | done | rfl) ?_; (with_reducible refine (amount_Shaped.calls a0_0 a0_1 a0_2 a0_3 true _ A3.out).mono ?_); rintro e w28 ⟨rfl, hb⟩; refine ⟨_, rfl, ?_⟩; replace BK283 := bK BK283 hb; replace BK284 := bK BK284 hb; replace HB := bB HB hb; (try clear hb); (try clear hk); obtain ⟨hcz29_0, hcz29_1, hcz29_2, hcz29_3, hfz29_0, hfz29_1, hfz29_2, hfz29_3⟩ := d4 BK283; have hcz30_0 : w28.cell? ⟨gb284, 0, none⟩ = some (.int .i64 a1_0) := bC BK284 0 rfl; have hcz30_1 : w28.cell? ⟨gb284, 1, none⟩ = some (.int .i64 a1_1) := bC BK284 1 rfl; have hfz30_0 := bF BK284 0; have hfz30_1 := bF BK284 1))
     go_ret
     exact ⟨by first | rfl | (simp [errW_none, errW_some] <;> rfl) | (simp [*, errW_none, errW_some] <;> rfl), (uS HB)⟩
    ·rw [if_neg c23] at H
     have c23b0 : decide (1 ≤ a1_1) = false := decide_eq_false c23
     clear c23
     obtain rfl := Option.some.inj H
     go_enter Tryd.func45, Tryd.ntmps45
     go_wp2_with (first | ((with_reducible refine gate_dst (N := 2) rfl ?_); refine box_event ?hg (N := 2) ?hd (cs := #[.string a0_0, .int .i64 a0_1, .int .i64 a0_2, .int .i64 a0_3]) (t := 26) ?hr ?_; (case hd => rfl); (case hg => rfl); (case hr => first | (go_simp; done) | (go_simp; rfl)); intro gb283 hg w31 hbox hb; have BK283 := Aside0.mk hbox; have GW283 := gE HB hg; replace HB := bB HB hb; have GE283 := GW283; clear hb hbox hg) | ((with_reducible refine gate_dst (N := 3) rfl ?_); refine box_event ?hg (N := 3) ?hd (cs := #[.int .i64 a1_0, .int .i64 a1_1]) (t := 42) ?hr ?_; (case hd => rfl); (case hg => rfl); (case hr => first | (go_simp; done) | (go_simp; rfl)); intro gb284 hg w32 hbox hb; have BK284 := Aside0.mk hbox; have GW284 := gE HB hg; replace HB := bB HB hb; have GE284 := GW284; have NB283_284 := gN BK283 hg; replace BK283 := bK BK283 hb; have NB284_283 := Aside0.mk NB283_284.out.symm; clear hb hbox hg; have hnb33 := NB283_284.out; have hnc33 := NB284_283.out; have hcz34_0 : w32.cell? ⟨gb283, 0, none⟩ = some (.string a0_0) := bC BK283 0 rfl; have hcz34_1 : w32.cell? ⟨gb283, 1, none⟩ = some (.int .i64 a0_1) := bC BK283 1 rfl; have hcz34_2 : w32.cell? ⟨gb283, 2, none⟩ = some (.int .i64 a0_2) := bC BK283 2 rfl; have hcz34_3 : w32.cell? ⟨gb283, 3, none⟩ = some (.int .i64 a0_3) := bC BK283 3 rfl; have hfz34_0 := bF BK283 0; have hfz34_1 := bF BK283 1; have hfz34_2 := bF BK283 2; have hfz34_3 := bF BK283 3) | ((with_reducible refine gate_callee (f := 39) rfl ?_); refine goesL_ (some 6) rfl rfl Tryd.func39 (by kernel_rfl) rfl #[.agg #[.string a0_0, .int .i64 a0_1, .int .i64 a0_2, .int .i64 a0_3]] rfl (by (try simp only [mA]); first | done | rfl) ?_; (with_reducible refine (amount_Shaped.calls a0_0 a0_1 a0_2 a0_3 true _ A3.out).mono ?_); rintro e w35 ⟨rfl, hb⟩; refine ⟨_, rfl, ?_⟩; replace BK283 := bK BK283 hb; replace BK284 := bK BK284 hb; replace HB := bB HB hb; (try clear hb); (try clear hk); obtain ⟨hcz36_0, hcz36_1, hcz36_2, hcz36_3, hfz36_0, hfz36_1, hfz36_2, hfz36_3⟩ := d4 BK283; have hcz37_0 : w35.cell? ⟨gb284, 0, none⟩ = some (.int .i64 a1_0) := bC BK284 0 rfl; have hcz37_1 : w35.cell? ⟨gb284, 1, none⟩ = some (.int .i64 a1_1) := bC BK284 1 rfl; have hfz37_0 := bF BK284 0; have hfz37_1 := bF BK284 1))
     go_ret
     exact ⟨by first | rfl | (simp [errW_none, errW_some] <;> rfl) | (simp [*, errW_none, errW_some] <;> rfl), (uS HB)⟩
   ·rw [if_neg c22] at H
    have c22b0 : (a1_0 == 0) = false := beq_eq_false_iff_ne.mpr c22
    have c22b1 : (a1_0 != 0) = true := bne_iff_ne.mpr c22
    obtain rfl := Option.some.inj H
    go_enter Tryd.func45, Tryd.ntmps45
    go_wp2_with (first | ((with_reducible refine gate_dst (N := 2) rfl ?_); refine box_event ?hg (N := 2) ?hd (cs := #[.string a0_0, .int .i64 a0_1, .int .i64 a0_2, .int .i64 a0_3]) (t := 26) ?hr ?_; (case hd => rfl); (case hg => rfl); (case hr => first | (go_simp; done) | (go_simp; rfl)); intro gb283 hg w38 hbox hb; have BK283 := Aside0.mk hbox; have GW283 := gE HB hg; replace HB := bB HB hb; have GE283 := GW283; clear hb hbox hg) | ((with_reducible refine gate_dst (N := 3) rfl ?_); refine box_event ?hg (N := 3) ?hd (cs := #[.int .i64 a1_0, .int .i64 a1_1]) (t := 42) ?hr ?_; (case hd => rfl); (case hg => rfl); (case hr => first | (go_simp; done) | (go_simp; rfl)); intro gb284 hg w39 hbox hb; have BK284 := Aside0.mk hbox; have GW284 := gE HB hg; replace HB := bB HB hb; have GE284 := GW284; have NB283_284 := gN BK283 hg; replace BK283 := bK BK283 hb; have NB284_283 := Aside0.mk NB283_284.out.symm; clear hb hbox hg; have hnb40 := NB283_284.out; have hnc40 := NB284_283.out; have hcz41_0 : w39.cell? ⟨gb283, 0, none⟩ = some (.string a0_0) := bC BK283 0 rfl; have hcz41_1 : w39.cell? ⟨gb283, 1, none⟩ = some (.int .i64 a0_1) := bC BK283 1 rfl; have hcz41_2 : w39.cell? ⟨gb283, 2, none⟩ = some (.int .i64 a0_2) := bC BK283 2 rfl; have hcz41_3 : w39.cell? ⟨gb283, 3, none⟩ = some (.int .i64 a0_3) := bC BK283 3 rfl; have hfz41_0 := bF BK283 0; have hfz41_1 := bF BK283 1; have hfz41_2 := bF BK283 2; have hfz41_3 := bF BK283 3) | ((with_reducible refine gate_callee (f := 39) rfl ?_); refine goesL_ (some 6) rfl rfl Tryd.func39 (by kernel_rfl) rfl #[.agg #[.string a0_0, .int .i64 a0_1, .int .i64 a0_2, .int .i64 a0_3]] rfl (by (try simp only [mA]); first | done | rfl) ?_; (with_reducible refine (amount_Shaped.calls a0_0 a0_1 a0_2 a0_3 true _ A3.out).mono ?_); rintro e w42 ⟨rfl, hb⟩; refine ⟨_, rfl, ?_⟩; replace BK283 := bK BK283 hb; replace BK284 := bK BK284 hb; replace HB := bB HB hb; (try clear hb); (try clear hk); obtain ⟨hcz43_0, hcz43_1, hcz43_2, hcz43_3, hfz43_0, hfz43_1, hfz43_2, hfz43_3⟩ := d4 BK283; have hcz44_0 : w42.cell? ⟨gb284, 0, none⟩ = some (.int .i64 a1_0) := bC BK284 0 rfl; have hcz44_1 : w42.cell? ⟨gb284, 1, none⟩ = some (.int .i64 a1_1) := bC BK284 1 rfl; have hfz44_0 := bF BK284 0; have hfz44_1 := bF BK284 1))
    go_ret
    exact ⟨by first | rfl | (simp [errW_none, errW_some] <;> rfl) | (simp [*, errW_none, errW_some] <;> rfl), (uS HB)⟩
 ·replace c4 := Bool.eq_false_iff.mpr c4
  subst c4
  rw [if_neg (show ¬ (false = true) by decide)] at H
  obtain rfl := Option.some.inj H
  go_enter Tryd.func45, Tryd.ntmps45
  go_wp2_with (first | ((with_reducible refine gate_dst (N := 2) rfl ?_); refine box_event ?hg (N := 2) ?hd (cs := #[.string a0_0, .int .i64 a0_1, .int .i64 a0_2, .int .i64 a0_3]) (t := 26) ?hr ?_; (case hd => rfl); (case hg => rfl); (case hr => first | (go_simp; done) | (go_simp; rfl)); intro gb283 hg w45 hbox hb; have BK283 := Aside0.mk hbox; have GW283 := gE HB hg; replace HB := bB HB hb; have GE283 := GW283; clear hb hbox hg) | ((with_reducible refine gate_dst (N := 3) rfl ?_); refine box_event ?hg (N := 3) ?hd (cs := #[.int .i64 a1_0, .int .i64 a1_1]) (t := 42) ?hr ?_; (case hd => rfl); (case hg => rfl); (case hr => first | (go_simp; done) | (go_simp; rfl)); intro gb284 hg w46 hbox hb; have BK284 := Aside0.mk hbox; have GW284 := gE HB hg; replace HB := bB HB hb; have GE284 := GW284; have NB283_284 := gN BK283 hg; replace BK283 := bK BK283 hb; have NB284_283 := Aside0.mk NB283_284.out.symm; clear hb hbox hg; have hnb47 := NB283_284.out; have hnc47 := NB284_283.out; have hcz48_0 : w46.cell? ⟨gb283, 0, none⟩ = some (.string a0_0) := bC BK283 0 rfl; have hcz48_1 : w46.cell? ⟨gb283, 1, none⟩ = some (.int .i64 a0_1) := bC BK283 1 rfl; have hcz48_2 : w46.cell? ⟨gb283, 2, none⟩ = some (.int .i64 a0_2) := bC BK283 2 rfl; have hcz48_3 : w46.cell? ⟨gb283, 3, none⟩ = some (.int .i64 a0_3) := bC BK283 3 rfl; have hfz48_0 := bF BK283 0; have hfz48_1 := bF BK283 1; have hfz48_2 := bF BK283 2; have hfz48_3 := bF BK283 3) | ((with_reducible refine gate_callee (f := 39) rfl ?_); refine goesL_ (some 6) rfl rfl Tryd.func39 (by kernel_rfl) rfl #[.agg #[.string a0_0, .int .i64 a0_1, .int .i64 a0_2, .int .i64 a0_3]] rfl (by (try simp only [mA]); first | done | rfl) ?_; (with_reducible refine (amount_Shaped.calls a0_0 a0_1 a0_2 a0_3 false _ A3.out).mono ?_); rintro e w49 ⟨rfl, hb⟩; refine ⟨_, rfl, ?_⟩; replace BK283 := bK BK283 hb; replace BK284 := bK BK284 hb; replace HB := bB HB hb; (try clear hb); (try clear hk)))
  go_ret
  exact ⟨by first | rfl | (simp [errW_none, errW_some] <;> rfl) | (simp [*, errW_none, errW_some] <;> rfl), (uS HB)⟩
/-! ### catalog_Resolve: function 30 -/
def catalog_Resolve.f (k : Nat) (l0 : List (S26)) (a1_0 : ByteArray) (a1_1 : Int) (a1_2 : Int) : Option (Int) := (catalog_Valid.f k l0).bind fun t288 => (if t288 = true then ((catalog_Find.f k l0 a1_0).bind fun bt289 => (if bt289.2.2.2.2 = true then ((amount_Fits.f bt289.1 bt289.2.1 bt289.2.2.1 bt289.2.2.2.1 a1_1 a1_2).bind fun t295 => (if t295 = true then (some 0) else (some 12))) else (some 10))) else (some 2))
theorem catalog_Resolve.mono : ∀ a0 a1 a2 a3 k, LeO (catalog_Resolve.f k a0 a1 a2 a3) (catalog_Resolve.f (k + 1) a0 a1 a2 a3) := by
 intro a0 a1 a2 a3 k
 unfold catalog_Resolve.f
 repeat' first
   | (with_reducible exact catalog_Find.mono _ _ _)
   | (with_reducible exact catalog_Valid.mono _ _)
   | (with_reducible exact LeO.refl _)
   | (with_reducible exact LeO.none _)
   | (with_reducible refine LeO.ite ?_ ?_)
   | (with_reducible refine LeO.bind ?_ (fun _ => ?_))
   | exact catalog_Find.mono _ _ _
   | exact catalog_Valid.mono _ _
   | exact LeO.none _
   | refine LeO.ite ?_ ?_
   | refine LeO.bind ?_ (fun _ => ?_)
set_option maxHeartbeats 8000000 in
set_option maxRecDepth 100000 in
theorem catalog_Resolve.calls (k : Nat) (A0 : Option Addr) (c0 : Nat) (l0 : List (S26)) (a1_0 : ByteArray) (a1_1 : Int) (a1_2 : Int) (r : Int) (w : World) (hr0 : Kd.C k26 w A0 l0.length l0) (hc0 : l0.length ≤ c0) (h : catalog_Resolve.f k l0 a1_0 a1_1 a1_2 = some r) :
  Calls Tryd.prog 30 #[.slice A0 l0.length c0, .agg #[.string a1_0, .int .i64 a1_1, .int .i64 a1_2]] w fun e w' => e = .returned (.int .i64 r) ∧ Below w.heap.size w w' := by
 have hu44 := Tryd.underlying44
 have hu26 := Tryd.underlying26
 have hu42 := Tryd.underlying42
 have HR0 := Aside0.mk hr0
 have HC0 := Aside0.mk hc0
 clear hr0 hc0
 have HB := Aside0.mk (Below.refl w.heap.size w)
 have H : ((catalog_Valid.f k l0).bind fun t288 => (if t288 = true then ((catalog_Find.f k l0 a1_0).bind fun bt289 => (if bt289.2.2.2.2 = true then ((amount_Fits.f bt289.1 bt289.2.1 bt289.2.2.1 bt289.2.2.2.1 a1_1 a1_2).bind fun t295 => (if t295 = true then (some 0) else (some 12))) else (some 10))) else (some 2))) = some r := h
 clear h
 obtain ⟨t288, A30, H⟩ := Option.bind_eq_some_iff.mp H
 have A3 := Aside0.mk A30; clear A30
 by_cases c4 : t288 = true
 ·subst c4
  rw [if_pos rfl] at H
  replace H := Option.bind_eq_some_iff.mp H
  obtain ⟨⟨t289, t290, t291, t292, t293⟩, A50, H⟩ := H
  replace H : (if t293 = true then ((amount_Fits.f t289 t290 t291 t292 a1_1 a1_2).bind fun t295 => (if t295 = true then (some 0) else (some 12))) else (some 10)) = some r := H
  have A5 := Aside0.mk A50; clear A50
  by_cases c6 : t293 = true
  ·subst c6
   rw [if_pos rfl] at H
   obtain ⟨t295, A70, H⟩ := Option.bind_eq_some_iff.mp H
   have A7 := Aside0.mk A70; clear A70
   by_cases c8 : t295 = true
   ·subst c8
    rw [if_pos rfl] at H
    obtain rfl := Option.some.inj H
    go_enter Tryd.func30, Tryd.ntmps30
    go_wp2_with (first | ((with_reducible refine gate_dst (N := 3) rfl ?_); refine box_event ?hg (N := 3) ?hd (cs := #[.string a1_0, .int .i64 a1_1, .int .i64 a1_2]) (t := 44) ?hr ?_; (case hd => rfl); (case hg => rfl); (case hr => first | (go_simp; done) | (go_simp; rfl)); intro gb287 hg w9 hbox hb; have BK287 := Aside0.mk hbox; have GW287 := gE HB hg; replace HB := bB HB hb; have GE287 := GW287; clear hb hbox hg) | ((with_reducible refine gate_callee (f := 20) rfl ?_); refine goesL_ (some 8) rfl rfl Tryd.func20 (by kernel_rfl) rfl #[.slice A0 l0.length c0] rfl (by (try simp only [mA]); first | done | rfl) ?_; (with_reducible refine (catalog_Valid.calls k _ _ l0 true _ ?side1 ?side2 A3.out).mono ?_); (case side1 => repeat (first | exact (Kd.C_below HR0.out HB.out) | (with_reducible refine Kd.C_alloc ?_ _) | (with_reducible refine Kd.C_drewN ?_ _) | (with_reducible refine Kd.C_drew ?_))); (case side2 => exact HC0.out); rintro e w10 ⟨rfl, hb⟩; refine ⟨_, rfl, ?_⟩; replace BK287 := bK BK287 hb; replace HB := bB HB hb; (try clear hb); (try clear hk); have hcz11_0 : w10.cell? ⟨gb287, 0, none⟩ = some (.string a1_0) := bC BK287 0 rfl; have hcz11_1 : w10.cell? ⟨gb287, 1, none⟩ = some (.int .i64 a1_1) := bC BK287 1 rfl; have hcz11_2 : w10.cell? ⟨gb287, 2, none⟩ = some (.int .i64 a1_2) := bC BK287 2 rfl; have hfz11_0 := bF BK287 0; have hfz11_1 := bF BK287 1; have hfz11_2 := bF BK287 2) | ((with_reducible refine gate_callee (f := 28) rfl ?_); refine goesL_ (some 14) rfl rfl Tryd.func28 (by kernel_rfl) rfl #[.slice A0 l0.length c0, .string a1_0] rfl (by (try simp only [mA]); first | done | rfl) ?_; (with_reducible refine (catalog_Find.calls k _ _ l0 a1_0 t289 t290 t291 t292 true _ ?side1 ?side2 A5.out).mono ?_); (case side1 => repeat (first | exact (Kd.C_below HR0.out HB.out) | (with_reducible refine Kd.C_alloc ?_ _) | (with_reducible refine Kd.C_drewN ?_ _) | (with_reducible refine Kd.C_drew ?_))); (case side2 => exact HC0.out); rintro e w12 ⟨rfl, hb⟩; refine ⟨_, rfl, ?_⟩; replace BK287 := bK BK287 hb; replace HB := bB HB hb; (try clear hb); (try clear hk)) | ((with_reducible refine gate_dst (N := 5) rfl ?_); refine box_event ?hg (N := 5) ?hd (cs := #[.string (⟨#[]⟩ : ByteArray), .int .i64 0, .int .i64 0, .int .i64 0]) (t := 26) ?hr ?_; (case hd => rfl); (case hg => rfl); (case hr => first | (go_simp; done) | (go_simp; rfl)); intro gb294 hg w13 hbox hb; have BK294 := Aside0.mk hbox; have GW294 := gE HB hg; replace HB := bB HB hb; have GE294 := GW294; have NB287_294 := gN BK287 hg; replace BK287 := bK BK287 hb; have NB294_287 := Aside0.mk NB287_294.out.symm; clear hb hbox hg; have hnb14 := NB294_287.out; have hnc14 := NB287_294.out; obtain ⟨hcz15_0, hcz15_1, hcz15_2, hcz15_3, hfz15_0, hfz15_1, hfz15_2, hfz15_3⟩ := d4 BK294; have hcz16_0 : w13.cell? ⟨gb287, 0, none⟩ = some (.string a1_0) := bC BK287 0 rfl; have hcz16_1 : w13.cell? ⟨gb287, 1, none⟩ = some (.int .i64 a1_1) := bC BK287 1 rfl; have hcz16_2 : w13.cell? ⟨gb287, 2, none⟩ = some (.int .i64 a1_2) := bC BK287 2 rfl; have hfz16_0 := bF BK287 0; have hfz16_1 := bF BK287 1; have hfz16_2 := bF BK287 2) | ((with_reducible refine gate_callee (f := 45) rfl ?_); refine goesL_ (some 22) rfl rfl Tryd.func45 (by kernel_rfl) rfl #[.agg #[.string t289, .int .i64 t290, .int .i64 t291, .int .i64 t292], .agg #[.int .i64 a1_1, .int .i64 a1_2]] rfl (by (try simp only [mA]); first | done | rfl) ?_; (with_reducible refine (amount_Fits.calls t289 t290 t291 t292 a1_1 a1_2 true _ A7.out).mono ?_); rintro e w17 ⟨rfl, hb⟩; refine ⟨_, rfl, ?_⟩; replace BK287 := (haveI := nI NB287_294; bG BK287 hb); replace BK294 := bP4 BK294 hb; replace HB := (haveI := gI GE294; bT HB hb); (try clear hb); (try clear hk)))
    go_ret
    exact ⟨by first | rfl | (simp [errW_none, errW_some] <;> rfl) | (simp [*, errW_none, errW_some] <;> rfl), (haveI := gI GE294; uS HB)⟩
   ·replace c8 := Bool.eq_false_iff.mpr c8
    subst c8
    rw [if_neg (show ¬ (false = true) by decide)] at H
    obtain rfl := Option.some.inj H
    go_enter Tryd.func30, Tryd.ntmps30
    go_wp2_with (first | ((with_reducible refine gate_dst (N := 3) rfl ?_); refine box_event ?hg (N := 3) ?hd (cs := #[.string a1_0, .int .i64 a1_1, .int .i64 a1_2]) (t := 44) ?hr ?_; (case hd => rfl); (case hg => rfl); (case hr => first | (go_simp; done) | (go_simp; rfl)); intro gb287 hg w18 hbox hb; have BK287 := Aside0.mk hbox; have GW287 := gE HB hg; replace HB := bB HB hb; have GE287 := GW287; clear hb hbox hg) | ((with_reducible refine gate_callee (f := 20) rfl ?_); refine goesL_ (some 8) rfl rfl Tryd.func20 (by kernel_rfl) rfl #[.slice A0 l0.length c0] rfl (by (try simp only [mA]); first | done | rfl) ?_; (with_reducible refine (catalog_Valid.calls k _ _ l0 true _ ?side1 ?side2 A3.out).mono ?_); (case side1 => repeat (first | exact (Kd.C_below HR0.out HB.out) | (with_reducible refine Kd.C_alloc ?_ _) | (with_reducible refine Kd.C_drewN ?_ _) | (with_reducible refine Kd.C_drew ?_))); (case side2 => exact HC0.out); rintro e w19 ⟨rfl, hb⟩; refine ⟨_, rfl, ?_⟩; replace BK287 := bK BK287 hb; replace HB := bB HB hb; (try clear hb); (try clear hk); have hcz20_0 : w19.cell? ⟨gb287, 0, none⟩ = some (.string a1_0) := bC BK287 0 rfl; have hcz20_1 : w19.cell? ⟨gb287, 1, none⟩ = some (.int .i64 a1_1) := bC BK287 1 rfl; have hcz20_2 : w19.cell? ⟨gb287, 2, none⟩ = some (.int .i64 a1_2) := bC BK287 2 rfl; have hfz20_0 := bF BK287 0; have hfz20_1 := bF BK287 1; have hfz20_2 := bF BK287 2) | ((with_reducible refine gate_callee (f := 28) rfl ?_); refine goesL_ (some 14) rfl rfl Tryd.func28 (by kernel_rfl) rfl #[.slice A0 l0.length c0, .string a1_0] rfl (by (try simp only [mA]); first | done | rfl) ?_; (with_reducible refine (catalog_Find.calls k _ _ l0 a1_0 t289 t290 t291 t292 true _ ?side1 ?side2 A5.out).mono ?_); (case side1 => repeat (first | exact (Kd.C_below HR0.out HB.out) | (with_reducible refine Kd.C_alloc ?_ _) | (with_reducible refine Kd.C_drewN ?_ _) | (with_reducible refine Kd.C_drew ?_))); (case side2 => exact HC0.out); rintro e w21 ⟨rfl, hb⟩; refine ⟨_, rfl, ?_⟩; replace BK287 := bK BK287 hb; replace HB := bB HB hb; (try clear hb); (try clear hk)) | ((with_reducible refine gate_dst (N := 5) rfl ?_); refine box_event ?hg (N := 5) ?hd (cs := #[.string (⟨#[]⟩ : ByteArray), .int .i64 0, .int .i64 0, .int .i64 0]) (t := 26) ?hr ?_; (case hd => rfl); (case hg => rfl); (case hr => first | (go_simp; done) | (go_simp; rfl)); intro gb294 hg w22 hbox hb; have BK294 := Aside0.mk hbox; have GW294 := gE HB hg; replace HB := bB HB hb; have GE294 := GW294; have NB287_294 := gN BK287 hg; replace BK287 := bK BK287 hb; have NB294_287 := Aside0.mk NB287_294.out.symm; clear hb hbox hg; have hnb23 := NB294_287.out; have hnc23 := NB287_294.out; obtain ⟨hcz24_0, hcz24_1, hcz24_2, hcz24_3, hfz24_0, hfz24_1, hfz24_2, hfz24_3⟩ := d4 BK294; have hcz25_0 : w22.cell? ⟨gb287, 0, none⟩ = some (.string a1_0) := bC BK287 0 rfl; have hcz25_1 : w22.cell? ⟨gb287, 1, none⟩ = some (.int .i64 a1_1) := bC BK287 1 rfl; have hcz25_2 : w22.cell? ⟨gb287, 2, none⟩ = some (.int .i64 a1_2) := bC BK287 2 rfl; have hfz25_0 := bF BK287 0; have hfz25_1 := bF BK287 1; have hfz25_2 := bF BK287 2) | ((with_reducible refine gate_callee (f := 45) rfl ?_); refine goesL_ (some 22) rfl rfl Tryd.func45 (by kernel_rfl) rfl #[.agg #[.string t289, .int .i64 t290, .int .i64 t291, .int .i64 t292], .agg #[.int .i64 a1_1, .int .i64 a1_2]] rfl (by (try simp only [mA]); first | done | rfl) ?_; (with_reducible refine (amount_Fits.calls t289 t290 t291 t292 a1_1 a1_2 false _ A7.out).mono ?_); rintro e w26 ⟨rfl, hb⟩; refine ⟨_, rfl, ?_⟩; replace BK287 := (haveI := nI NB287_294; bG BK287 hb); replace BK294 := bP4 BK294 hb; replace HB := (haveI := gI GE294; bT HB hb); (try clear hb); (try clear hk)))
    go_ret
    exact ⟨by first | rfl | (simp [errW_none, errW_some] <;> rfl) | (simp [*, errW_none, errW_some] <;> rfl), (haveI := gI GE294; uS HB)⟩
  ·replace c6 := Bool.eq_false_iff.mpr c6
   subst c6
   rw [if_neg (show ¬ (false = true) by decide)] at H
   obtain rfl := Option.some.inj H
   go_enter Tryd.func30, Tryd.ntmps30
   go_wp2_with (first | ((with_reducible refine gate_dst (N := 3) rfl ?_); refine box_event ?hg (N := 3) ?hd (cs := #[.string a1_0, .int .i64 a1_1, .int .i64 a1_2]) (t := 44) ?hr ?_; (case hd => rfl); (case hg => rfl); (case hr => first | (go_simp; done) | (go_simp; rfl)); intro gb287 hg w27 hbox hb; have BK287 := Aside0.mk hbox; have GW287 := gE HB hg; replace HB := bB HB hb; have GE287 := GW287; clear hb hbox hg) | ((with_reducible refine gate_callee (f := 20) rfl ?_); refine goesL_ (some 8) rfl rfl Tryd.func20 (by kernel_rfl) rfl #[.slice A0 l0.length c0] rfl (by (try simp only [mA]); first | done | rfl) ?_; (with_reducible refine (catalog_Valid.calls k _ _ l0 true _ ?side1 ?side2 A3.out).mono ?_); (case side1 => repeat (first | exact (Kd.C_below HR0.out HB.out) | (with_reducible refine Kd.C_alloc ?_ _) | (with_reducible refine Kd.C_drewN ?_ _) | (with_reducible refine Kd.C_drew ?_))); (case side2 => exact HC0.out); rintro e w28 ⟨rfl, hb⟩; refine ⟨_, rfl, ?_⟩; replace BK287 := bK BK287 hb; replace HB := bB HB hb; (try clear hb); (try clear hk); have hcz29_0 : w28.cell? ⟨gb287, 0, none⟩ = some (.string a1_0) := bC BK287 0 rfl; have hcz29_1 : w28.cell? ⟨gb287, 1, none⟩ = some (.int .i64 a1_1) := bC BK287 1 rfl; have hcz29_2 : w28.cell? ⟨gb287, 2, none⟩ = some (.int .i64 a1_2) := bC BK287 2 rfl; have hfz29_0 := bF BK287 0; have hfz29_1 := bF BK287 1; have hfz29_2 := bF BK287 2) | ((with_reducible refine gate_callee (f := 28) rfl ?_); refine goesL_ (some 14) rfl rfl Tryd.func28 (by kernel_rfl) rfl #[.slice A0 l0.length c0, .string a1_0] rfl (by (try simp only [mA]); first | done | rfl) ?_; (with_reducible refine (catalog_Find.calls k _ _ l0 a1_0 t289 t290 t291 t292 false _ ?side1 ?side2 A5.out).mono ?_); (case side1 => repeat (first | exact (Kd.C_below HR0.out HB.out) | (with_reducible refine Kd.C_alloc ?_ _) | (with_reducible refine Kd.C_drewN ?_ _) | (with_reducible refine Kd.C_drew ?_))); (case side2 => exact HC0.out); rintro e w30 ⟨rfl, hb⟩; refine ⟨_, rfl, ?_⟩; replace BK287 := bK BK287 hb; replace HB := bB HB hb; (try clear hb); (try clear hk)) | ((with_reducible refine gate_dst (N := 5) rfl ?_); refine box_event ?hg (N := 5) ?hd (cs := #[.string (⟨#[]⟩ : ByteArray), .int .i64 0, .int .i64 0, .int .i64 0]) (t := 26) ?hr ?_; (case hd => rfl); (case hg => rfl); (case hr => first | (go_simp; done) | (go_simp; rfl)); intro gb294 hg w31 hbox hb; have BK294 := Aside0.mk hbox; have GW294 := gE HB hg; replace HB := bB HB hb; have GE294 := GW294; have NB287_294 := gN BK287 hg; replace BK287 := bK BK287 hb; have NB294_287 := Aside0.mk NB287_294.out.symm; clear hb hbox hg; have hnb32 := NB294_287.out; have hnc32 := NB287_294.out; have hcz33_0 : w31.cell? ⟨gb294, 0, none⟩ = some (.string (⟨#[]⟩ : ByteArray)) := bC BK294 0 rfl; have hcz33_1 : w31.cell? ⟨gb294, 1, none⟩ = some (.int .i64 0) := bC BK294 1 rfl; have hcz33_2 : w31.cell? ⟨gb294, 2, none⟩ = some (.int .i64 0) := bC BK294 2 rfl; have hcz33_3 : w31.cell? ⟨gb294, 3, none⟩ = some (.int .i64 0) := bC BK294 3 rfl; have hfz33_0 := bF BK294 0; have hfz33_1 := bF BK294 1; have hfz33_2 := bF BK294 2; have hfz33_3 := bF BK294 3))
   go_ret
   exact ⟨by first | rfl | (simp [errW_none, errW_some] <;> rfl) | (simp [*, errW_none, errW_some] <;> rfl), (haveI := gI GE294; uS HB)⟩
 ·replace c4 := Bool.eq_false_iff.mpr c4
  subst c4
  rw [if_neg (show ¬ (false = true) by decide)] at H
  obtain rfl := Option.some.inj H
  go_enter Tryd.func30, Tryd.ntmps30
  go_wp2_with (first | ((with_reducible refine gate_dst (N := 3) rfl ?_); refine box_event ?hg (N := 3) ?hd (cs := #[.string a1_0, .int .i64 a1_1, .int .i64 a1_2]) (t := 44) ?hr ?_; (case hd => rfl); (case hg => rfl); (case hr => first | (go_simp; done) | (go_simp; rfl)); intro gb287 hg w34 hbox hb; have BK287 := Aside0.mk hbox; have GW287 := gE HB hg; replace HB := bB HB hb; have GE287 := GW287; clear hb hbox hg) | ((with_reducible refine gate_callee (f := 20) rfl ?_); refine goesL_ (some 8) rfl rfl Tryd.func20 (by kernel_rfl) rfl #[.slice A0 l0.length c0] rfl (by (try simp only [mA]); first | done | rfl) ?_; (with_reducible refine (catalog_Valid.calls k _ _ l0 false _ ?side1 ?side2 A3.out).mono ?_); (case side1 => repeat (first | exact (Kd.C_below HR0.out HB.out) | (with_reducible refine Kd.C_alloc ?_ _) | (with_reducible refine Kd.C_drewN ?_ _) | (with_reducible refine Kd.C_drew ?_))); (case side2 => exact HC0.out); rintro e w35 ⟨rfl, hb⟩; refine ⟨_, rfl, ?_⟩; replace BK287 := bK BK287 hb; replace HB := bB HB hb; (try clear hb); (try clear hk)))
  go_ret
  exact ⟨by first | rfl | (simp [errW_none, errW_some] <;> rfl) | (simp [*, errW_none, errW_some] <;> rfl), (uS HB)⟩
/-! ### clusterlocksref03_Valid: function 60 -/
def clusterlocksref03_Valid.f (a0 : Int) : Option (Bool) := if a0 ≥ 1 then (some (decide (a0 ≤ 5))) else (some false)
set_option maxHeartbeats 8000000 in
set_option maxRecDepth 100000 in
theorem clusterlocksref03_Valid.calls (a0 : Int) (r : Bool) (w : World) (h : clusterlocksref03_Valid.f a0 = some r) :
  Calls Tryd.prog 60 #[.int .i64 a0] w fun e w' => e = .returned (.bool r) ∧ Drawn0 w w' := by
 have H : (if a0 ≥ 1 then (some (decide (a0 ≤ 5))) else (some false)) = some r := h
 clear h
 by_cases c2 : a0 ≥ 1
 ·rw [if_pos c2] at H
  have c2b0 : decide (1 ≤ a0) = true := decide_eq_true c2
  clear c2
  obtain rfl := Option.some.inj H
  go_enter Tryd.func60, Tryd.ntmps60
  go_wp2
  go_ret
  exact ⟨by first | rfl | (simp; done) | (simp [*]; done), by repeat (first | exact Drawn0.refl _ | apply Drawn0.step)⟩
 ·rw [if_neg c2] at H
  have c2b0 : decide (1 ≤ a0) = false := decide_eq_false c2
  clear c2
  obtain rfl := Option.some.inj H
  go_enter Tryd.func60, Tryd.ntmps60
  go_wp2
  go_ret
  exact ⟨by first | rfl | (simp; done) | (simp [*]; done), by repeat (first | exact Drawn0.refl _ | apply Drawn0.step)⟩
/-! ### clusterlocksref04_Fits: function 46 -/
def clusterlocksref04_Fits.f (a0_0 : ByteArray) (a0_1 : Int) (a0_2 : Int) (a0_3 : Int) (a1_0 : Int) (a1_1 : Int) : Option (Bool) := (clusterlocksref04_Shaped.f a0_0 a0_1 a0_2 a0_3).bind fun t298 => (if t298 = true then (if a0_1 = 1 then ((clusterlocksref03_Valid.f a1_0).bind fun t299 => (if t299 = true then (some (a1_1 == 0)) else (some false))) else (if a1_0 = 0 then (if a1_1 ≥ 1 then (some (decide (a1_1 ≤ a0_2))) else (some false)) else (some false))) else (some false))
set_option maxHeartbeats 8000000 in
set_option maxRecDepth 100000 in
theorem clusterlocksref04_Fits.calls (a0_0 : ByteArray) (a0_1 : Int) (a0_2 : Int) (a0_3 : Int) (a1_0 : Int) (a1_1 : Int) (r : Bool) (w : World) (h : clusterlocksref04_Fits.f a0_0 a0_1 a0_2 a0_3 a1_0 a1_1 = some r) :
  Calls Tryd.prog 46 #[.agg #[.string a0_0, .int .i64 a0_1, .int .i64 a0_2, .int .i64 a0_3], .agg #[.int .i64 a1_0, .int .i64 a1_1]] w fun e w' => e = .returned (.bool r) ∧ Below w.heap.size w w' := by
 have hu26 := Tryd.underlying26
 have hu42 := Tryd.underlying42
 have HB := Aside0.mk (Below.refl w.heap.size w)
 have H : ((clusterlocksref04_Shaped.f a0_0 a0_1 a0_2 a0_3).bind fun t298 => (if t298 = true then (if a0_1 = 1 then ((clusterlocksref03_Valid.f a1_0).bind fun t299 => (if t299 = true then (some (a1_1 == 0)) else (some false))) else (if a1_0 = 0 then (if a1_1 ≥ 1 then (some (decide (a1_1 ≤ a0_2))) else (some false)) else (some false))) else (some false))) = some r := h
 clear h
 obtain ⟨t298, A30, H⟩ := Option.bind_eq_some_iff.mp H
 have A3 := Aside0.mk A30; clear A30
 by_cases c4 : t298 = true
 ·subst c4
  rw [if_pos rfl] at H
  by_cases c5 : a0_1 = 1
  ·rw [if_pos c5] at H
   have c5b0 : (a0_1 == 1) = true := beq_iff_eq.mpr c5
   have c5b1 : (a0_1 != 1) = false := bne_eq_false_iff_eq.mpr c5
   clear c5
   obtain ⟨t299, A60, H⟩ := Option.bind_eq_some_iff.mp H
   have A6 := Aside0.mk A60; clear A60
   by_cases c7 : t299 = true
   ·subst c7
    rw [if_pos rfl] at H
    obtain rfl := Option.some.inj H
    go_enter Tryd.func46, Tryd.ntmps46
    go_wp2_with (first | ((with_reducible refine gate_dst (N := 2) rfl ?_); refine box_event ?hg (N := 2) ?hd (cs := #[.string a0_0, .int .i64 a0_1, .int .i64 a0_2, .int .i64 a0_3]) (t := 26) ?hr ?_; (case hd => rfl); (case hg => rfl); (case hr => first | (go_simp; done) | (go_simp; rfl)); intro gb296 hg w8 hbox hb; have BK296 := Aside0.mk hbox; have GW296 := gE HB hg; replace HB := bB HB hb; have GE296 := GW296; clear hb hbox hg) | ((with_reducible refine gate_dst (N := 3) rfl ?_); refine box_event ?hg (N := 3) ?hd (cs := #[.int .i64 a1_0, .int .i64 a1_1]) (t := 42) ?hr ?_; (case hd => rfl); (case hg => rfl); (case hr => first | (go_simp; done) | (go_simp; rfl)); intro gb297 hg w9 hbox hb; have BK297 := Aside0.mk hbox; have GW297 := gE HB hg; replace HB := bB HB hb; have GE297 := GW297; have NB296_297 := gN BK296 hg; replace BK296 := bK BK296 hb; have NB297_296 := Aside0.mk NB296_297.out.symm; clear hb hbox hg; have hnb10 := NB296_297.out; have hnc10 := NB297_296.out; have hcz11_0 : w9.cell? ⟨gb296, 0, none⟩ = some (.string a0_0) := bC BK296 0 rfl; have hcz11_1 : w9.cell? ⟨gb296, 1, none⟩ = some (.int .i64 a0_1) := bC BK296 1 rfl; have hcz11_2 : w9.cell? ⟨gb296, 2, none⟩ = some (.int .i64 a0_2) := bC BK296 2 rfl; have hcz11_3 : w9.cell? ⟨gb296, 3, none⟩ = some (.int .i64 a0_3) := bC BK296 3 rfl; have hfz11_0 := bF BK296 0; have hfz11_1 := bF BK296 1; have hfz11_2 := bF BK296 2; have hfz11_3 := bF BK296 3) | ((with_reducible refine gate_callee (f := 40) rfl ?_); refine goesL_ (some 6) rfl rfl Tryd.func40 (by kernel_rfl) rfl #[.agg #[.string a0_0, .int .i64 a0_1, .int .i64 a0_2, .int .i64 a0_3]] rfl (by (try simp only [mA]); first | done | rfl) ?_; (with_reducible refine (clusterlocksref04_Shaped.calls a0_0 a0_1 a0_2 a0_3 true _ A3.out).mono ?_); rintro e w12 ⟨rfl, hb⟩; refine ⟨_, rfl, ?_⟩; replace BK296 := bK BK296 hb; replace BK297 := bK BK297 hb; replace HB := bB HB hb; (try clear hb); (try clear hk); obtain ⟨hcz13_0, hcz13_1, hcz13_2, hcz13_3, hfz13_0, hfz13_1, hfz13_2, hfz13_3⟩ := d4 BK296; have hcz14_0 : w12.cell? ⟨gb297, 0, none⟩ = some (.int .i64 a1_0) := bC BK297 0 rfl; have hcz14_1 : w12.cell? ⟨gb297, 1, none⟩ = some (.int .i64 a1_1) := bC BK297 1 rfl; have hfz14_0 := bF BK297 0; have hfz14_1 := bF BK297 1) | ((with_reducible refine gate_callee (f := 60) rfl ?_); refine goesL_ (some 13) rfl rfl Tryd.func60 (by kernel_rfl) rfl #[.int .i64 a1_0] rfl (by (try simp only [mA]); first | done | rfl) ?_; (with_reducible refine (clusterlocksref03_Valid.calls a1_0 true _ A6.out).mono ?_); rintro e w' ⟨rfl, ⟨nd, rfl⟩⟩; refine ⟨_, rfl, ?_⟩))
    go_ret
    exact ⟨by first | rfl | (simp [errW_none, errW_some] <;> rfl) | (simp [*, errW_none, errW_some] <;> rfl), (uS HB)⟩
   ·replace c7 := Bool.eq_false_iff.mpr c7
    subst c7
    rw [if_neg (show ¬ (false = true) by decide)] at H
    obtain rfl := Option.some.inj H
    go_enter Tryd.func46, Tryd.ntmps46
    go_wp2_with (first | ((with_reducible refine gate_dst (N := 2) rfl ?_); refine box_event ?hg (N := 2) ?hd (cs := #[.string a0_0, .int .i64 a0_1, .int .i64 a0_2, .int .i64 a0_3]) (t := 26) ?hr ?_; (case hd => rfl); (case hg => rfl); (case hr => first | (go_simp; done) | (go_simp; rfl)); intro gb296 hg w15 hbox hb; have BK296 := Aside0.mk hbox; have GW296 := gE HB hg; replace HB := bB HB hb; have GE296 := GW296; clear hb hbox hg) | ((with_reducible refine gate_dst (N := 3) rfl ?_); refine box_event ?hg (N := 3) ?hd (cs := #[.int .i64 a1_0, .int .i64 a1_1]) (t := 42) ?hr ?_; (case hd => rfl); (case hg => rfl); (case hr => first | (go_simp; done) | (go_simp; rfl)); intro gb297 hg w16 hbox hb; have BK297 := Aside0.mk hbox; have GW297 := gE HB hg; replace HB := bB HB hb; have GE297 := GW297; have NB296_297 := gN BK296 hg; replace BK296 := bK BK296 hb; have NB297_296 := Aside0.mk NB296_297.out.symm; clear hb hbox hg; have hnb17 := NB296_297.out; have hnc17 := NB297_296.out; have hcz18_0 : w16.cell? ⟨gb296, 0, none⟩ = some (.string a0_0) := bC BK296 0 rfl; have hcz18_1 : w16.cell? ⟨gb296, 1, none⟩ = some (.int .i64 a0_1) := bC BK296 1 rfl; have hcz18_2 : w16.cell? ⟨gb296, 2, none⟩ = some (.int .i64 a0_2) := bC BK296 2 rfl; have hcz18_3 : w16.cell? ⟨gb296, 3, none⟩ = some (.int .i64 a0_3) := bC BK296 3 rfl; have hfz18_0 := bF BK296 0; have hfz18_1 := bF BK296 1; have hfz18_2 := bF BK296 2; have hfz18_3 := bF BK296 3) | ((with_reducible refine gate_callee (f := 40) rfl ?_); refine goesL_ (some 6) rfl rfl Tryd.func40 (by kernel_rfl) rfl #[.agg #[.string a0_0, .int .i64 a0_1, .int .i64 a0_2, .int .i64 a0_3]] rfl (by (try simp only [mA]); first | done | rfl) ?_; (with_reducible refine (clusterlocksref04_Shaped.calls a0_0 a0_1 a0_2 a0_3 true _ A3.out).mono ?_); rintro e w19 ⟨rfl, hb⟩; refine ⟨_, rfl, ?_⟩; replace BK296 := bK BK296 hb; replace BK297 := bK BK297 hb; replace HB := bB HB hb; (try clear hb); (try clear hk); obtain ⟨hcz20_0, hcz20_1, hcz20_2, hcz20_3, hfz20_0, hfz20_1, hfz20_2, hfz20_3⟩ := d4 BK296; have hcz21_0 : w19.cell? ⟨gb297, 0, none⟩ = some (.int .i64 a1_0) := bC BK297 0 rfl; have hcz21_1 : w19.cell? ⟨gb297, 1, none⟩ = some (.int .i64 a1_1) := bC BK297 1 rfl; have hfz21_0 := bF BK297 0; have hfz21_1 := bF BK297 1) | ((with_reducible refine gate_callee (f := 60) rfl ?_); refine goesL_ (some 13) rfl rfl Tryd.func60 (by kernel_rfl) rfl #[.int .i64 a1_0] rfl (by (try simp only [mA]); first | done | rfl) ?_; (with_reducible refine (clusterlocksref03_Valid.calls a1_0 false _ A6.out).mono ?_); rintro e w' ⟨rfl, ⟨nd, rfl⟩⟩; refine ⟨_, rfl, ?_⟩))
    go_ret
    exact ⟨by first | rfl | (simp [errW_none, errW_some] <;> rfl) | (simp [*, errW_none, errW_some] <;> rfl), (uS HB)⟩
  ·rw [if_neg c5] at H
   have c5b0 : (a0_1 == 1) = false := beq_eq_false_iff_ne.mpr c5
   have c5b1 : (a0_1 != 1) = true := bne_iff_ne.mpr c5
   by_cases c22 : a1_0 = 0
   ·rw [if_pos c22] at H
    have c22b0 : (a1_0 == 0) = true := beq_iff_eq.mpr c22
    have c22b1 : (a1_0 != 0) = false := bne_eq_false_iff_eq.mpr c22
    clear c22
    by_cases c23 : a1_1 ≥ 1
    ·rw [if_pos c23] at H
     have c23b0 : decide (1 ≤ a1_1) = true := decide_eq_true c23
     clear c23
     obtain rfl := Option.some.inj H
     go_enter Tryd.func46, Tryd.ntmps46
     go_wp2_with (first | ((with_reducible refine gate_dst (N := 2) rfl ?_); refine box_event ?hg (N := 2) ?hd (cs := #[.string a0_0, .int .i64 a0_1, .int .i64 a0_2, .int .i64 a0_3]) (t := 26) ?hr ?_; (case hd => rfl); (case hg => rfl); (case hr => first | (go_simp; done) | (go_simp; rfl)); intro gb296 hg w24 hbox hb; have BK296 := Aside0.mk hbox; have GW296 := gE HB hg; replace HB := bB HB hb; have GE296 := GW296; clear hb hbox hg) | ((with_reducible refine gate_dst (N := 3) rfl ?_); refine box_event ?hg (N := 3) ?hd (cs := #[.int .i64 a1_0, .int .i64 a1_1]) (t := 42) ?hr ?_; (case hd => rfl); (case hg => rfl); (case hr => first | (go_simp; done) | (go_simp; rfl)); intro gb297 hg w25 hbox hb; have BK297 := Aside0.mk hbox; have GW297 := gE HB hg; replace HB := bB HB hb; have GE297 := GW297; have NB296_297 := gN BK296 hg; replace BK296 := bK BK296 hb; have NB297_296 := Aside0.mk NB296_297.out.symm; clear hb hbox hg; have hnb26 := NB296_297.out; have hnc26 := NB297_296.out; have hcz27_0 : w25.cell? ⟨gb296, 0, none⟩ = some (.string a0_0) := bC BK296 0 rfl; have hcz27_1 : w25.cell? ⟨gb296, 1, none⟩ = some (.int .i64 a0_1) := bC BK296 1 rfl; have hcz27_2 : w25.cell? ⟨gb296, 2, none⟩ = some (.int .i64 a0_2) := bC BK296 2 rfl; have hcz27_3 : w25.cell? ⟨gb296, 3, none⟩ = some (.int .i64 a0_3) := bC BK296 3 rfl; have hfz27_0 := bF BK296 0; have hfz27_1 := bF BK296 1; have hfz27_2 := bF BK296 2; have hfz27_3 := bF BK296 3) | ((with_reducible refine gate_callee (f := 40) rfl ?_); refine goesL_ (some 6) rfl rfl Tryd.func40 (by kernel_rfl) rfl #[.agg #[.string a0_0, .int .i64 a0_1, .int .i64 a0_2, .int .i64 a0_3]] rfl (by (try simp only [mA]); first | done | rfl) ?_; (with_reducible refine (clusterlocksref04_Shaped.calls a0_0 a0_1 a0_2 a0_3 true _ A3.out).mono ?_); rintro e w28 ⟨rfl, hb⟩; refine ⟨_, rfl, ?_⟩; replace BK296 := bK BK296 hb; replace BK297 := bK BK297 hb; replace HB := bB HB hb; (try clear hb); (try clear hk); obtain ⟨hcz29_0, hcz29_1, hcz29_2, hcz29_3, hfz29_0, hfz29_1, hfz29_2, hfz29_3⟩ := d4 BK296; have hcz30_0 : w28.cell? ⟨gb297, 0, none⟩ = some (.int .i64 a1_0) := bC BK297 0 rfl; have hcz30_1 : w28.cell? ⟨gb297, 1, none⟩ = some (.int .i64 a1_1) := bC BK297 1 rfl; have hfz30_0 := bF BK297 0; have hfz30_1 := bF BK297 1))
     go_ret
     exact ⟨by first | rfl | (simp [errW_none, errW_some] <;> rfl) | (simp [*, errW_none, errW_some] <;> rfl), (uS HB)⟩
    ·rw [if_neg c23] at H
     have c23b0 : decide (1 ≤ a1_1) = false := decide_eq_false c23
     clear c23
     obtain rfl := Option.some.inj H
     go_enter Tryd.func46, Tryd.ntmps46
     go_wp2_with (first | ((with_reducible refine gate_dst (N := 2) rfl ?_); refine box_event ?hg (N := 2) ?hd (cs := #[.string a0_0, .int .i64 a0_1, .int .i64 a0_2, .int .i64 a0_3]) (t := 26) ?hr ?_; (case hd => rfl); (case hg => rfl); (case hr => first | (go_simp; done) | (go_simp; rfl)); intro gb296 hg w31 hbox hb; have BK296 := Aside0.mk hbox; have GW296 := gE HB hg; replace HB := bB HB hb; have GE296 := GW296; clear hb hbox hg) | ((with_reducible refine gate_dst (N := 3) rfl ?_); refine box_event ?hg (N := 3) ?hd (cs := #[.int .i64 a1_0, .int .i64 a1_1]) (t := 42) ?hr ?_; (case hd => rfl); (case hg => rfl); (case hr => first | (go_simp; done) | (go_simp; rfl)); intro gb297 hg w32 hbox hb; have BK297 := Aside0.mk hbox; have GW297 := gE HB hg; replace HB := bB HB hb; have GE297 := GW297; have NB296_297 := gN BK296 hg; replace BK296 := bK BK296 hb; have NB297_296 := Aside0.mk NB296_297.out.symm; clear hb hbox hg; have hnb33 := NB296_297.out; have hnc33 := NB297_296.out; have hcz34_0 : w32.cell? ⟨gb296, 0, none⟩ = some (.string a0_0) := bC BK296 0 rfl; have hcz34_1 : w32.cell? ⟨gb296, 1, none⟩ = some (.int .i64 a0_1) := bC BK296 1 rfl; have hcz34_2 : w32.cell? ⟨gb296, 2, none⟩ = some (.int .i64 a0_2) := bC BK296 2 rfl; have hcz34_3 : w32.cell? ⟨gb296, 3, none⟩ = some (.int .i64 a0_3) := bC BK296 3 rfl; have hfz34_0 := bF BK296 0; have hfz34_1 := bF BK296 1; have hfz34_2 := bF BK296 2; have hfz34_3 := bF BK296 3) | ((with_reducible refine gate_callee (f := 40) rfl ?_); refine goesL_ (some 6) rfl rfl Tryd.func40 (by kernel_rfl) rfl #[.agg #[.string a0_0, .int .i64 a0_1, .int .i64 a0_2, .int .i64 a0_3]] rfl (by (try simp only [mA]); first | done | rfl) ?_; (with_reducible refine (clusterlocksref04_Shaped.calls a0_0 a0_1 a0_2 a0_3 true _ A3.out).mono ?_); rintro e w35 ⟨rfl, hb⟩; refine ⟨_, rfl, ?_⟩; replace BK296 := bK BK296 hb; replace BK297 := bK BK297 hb; replace HB := bB HB hb; (try clear hb); (try clear hk); obtain ⟨hcz36_0, hcz36_1, hcz36_2, hcz36_3, hfz36_0, hfz36_1, hfz36_2, hfz36_3⟩ := d4 BK296; have hcz37_0 : w35.cell? ⟨gb297, 0, none⟩ = some (.int .i64 a1_0) := bC BK297 0 rfl; have hcz37_1 : w35.cell? ⟨gb297, 1, none⟩ = some (.int .i64 a1_1) := bC BK297 1 rfl; have hfz37_0 := bF BK297 0; have hfz37_1 := bF BK297 1))
     go_ret
     exact ⟨by first | rfl | (simp [errW_none, errW_some] <;> rfl) | (simp [*, errW_none, errW_some] <;> rfl), (uS HB)⟩
   ·rw [if_neg c22] at H
    have c22b0 : (a1_0 == 0) = false := beq_eq_false_iff_ne.mpr c22
    have c22b1 : (a1_0 != 0) = true := bne_iff_ne.mpr c22
    obtain rfl := Option.some.inj H
    go_enter Tryd.func46, Tryd.ntmps46
    go_wp2_with (first | ((with_reducible refine gate_dst (N := 2) rfl ?_); refine box_event ?hg (N := 2) ?hd (cs := #[.string a0_0, .int .i64 a0_1, .int .i64 a0_2, .int .i64 a0_3]) (t := 26) ?hr ?_; (case hd => rfl); (case hg => rfl); (case hr => first | (go_simp; done) | (go_simp; rfl)); intro gb296 hg w38 hbox hb; have BK296 := Aside0.mk hbox; have GW296 := gE HB hg; replace HB := bB HB hb; have GE296 := GW296; clear hb hbox hg) | ((with_reducible refine gate_dst (N := 3) rfl ?_); refine box_event ?hg (N := 3) ?hd (cs := #[.int .i64 a1_0, .int .i64 a1_1]) (t := 42) ?hr ?_; (case hd => rfl); (case hg => rfl); (case hr => first | (go_simp; done) | (go_simp; rfl)); intro gb297 hg w39 hbox hb; have BK297 := Aside0.mk hbox; have GW297 := gE HB hg; replace HB := bB HB hb; have GE297 := GW297; have NB296_297 := gN BK296 hg; replace BK296 := bK BK296 hb; have NB297_296 := Aside0.mk NB296_297.out.symm; clear hb hbox hg; have hnb40 := NB296_297.out; have hnc40 := NB297_296.out; have hcz41_0 : w39.cell? ⟨gb296, 0, none⟩ = some (.string a0_0) := bC BK296 0 rfl; have hcz41_1 : w39.cell? ⟨gb296, 1, none⟩ = some (.int .i64 a0_1) := bC BK296 1 rfl; have hcz41_2 : w39.cell? ⟨gb296, 2, none⟩ = some (.int .i64 a0_2) := bC BK296 2 rfl; have hcz41_3 : w39.cell? ⟨gb296, 3, none⟩ = some (.int .i64 a0_3) := bC BK296 3 rfl; have hfz41_0 := bF BK296 0; have hfz41_1 := bF BK296 1; have hfz41_2 := bF BK296 2; have hfz41_3 := bF BK296 3) | ((with_reducible refine gate_callee (f := 40) rfl ?_); refine goesL_ (some 6) rfl rfl Tryd.func40 (by kernel_rfl) rfl #[.agg #[.string a0_0, .int .i64 a0_1, .int .i64 a0_2, .int .i64 a0_3]] rfl (by (try simp only [mA]); first | done | rfl) ?_; (with_reducible refine (clusterlocksref04_Shaped.calls a0_0 a0_1 a0_2 a0_3 true _ A3.out).mono ?_); rintro e w42 ⟨rfl, hb⟩; refine ⟨_, rfl, ?_⟩; replace BK296 := bK BK296 hb; replace BK297 := bK BK297 hb; replace HB := bB HB hb; (try clear hb); (try clear hk); obtain ⟨hcz43_0, hcz43_1, hcz43_2, hcz43_3, hfz43_0, hfz43_1, hfz43_2, hfz43_3⟩ := d4 BK296; have hcz44_0 : w42.cell? ⟨gb297, 0, none⟩ = some (.int .i64 a1_0) := bC BK297 0 rfl; have hcz44_1 : w42.cell? ⟨gb297, 1, none⟩ = some (.int .i64 a1_1) := bC BK297 1 rfl; have hfz44_0 := bF BK297 0; have hfz44_1 := bF BK297 1))
    go_ret
    exact ⟨by first | rfl | (simp [errW_none, errW_some] <;> rfl) | (simp [*, errW_none, errW_some] <;> rfl), (uS HB)⟩
 ·replace c4 := Bool.eq_false_iff.mpr c4
  subst c4
  rw [if_neg (show ¬ (false = true) by decide)] at H
  obtain rfl := Option.some.inj H
  go_enter Tryd.func46, Tryd.ntmps46
  go_wp2_with (first | ((with_reducible refine gate_dst (N := 2) rfl ?_); refine box_event ?hg (N := 2) ?hd (cs := #[.string a0_0, .int .i64 a0_1, .int .i64 a0_2, .int .i64 a0_3]) (t := 26) ?hr ?_; (case hd => rfl); (case hg => rfl); (case hr => first | (go_simp; done) | (go_simp; rfl)); intro gb296 hg w45 hbox hb; have BK296 := Aside0.mk hbox; have GW296 := gE HB hg; replace HB := bB HB hb; have GE296 := GW296; clear hb hbox hg) | ((with_reducible refine gate_dst (N := 3) rfl ?_); refine box_event ?hg (N := 3) ?hd (cs := #[.int .i64 a1_0, .int .i64 a1_1]) (t := 42) ?hr ?_; (case hd => rfl); (case hg => rfl); (case hr => first | (go_simp; done) | (go_simp; rfl)); intro gb297 hg w46 hbox hb; have BK297 := Aside0.mk hbox; have GW297 := gE HB hg; replace HB := bB HB hb; have GE297 := GW297; have NB296_297 := gN BK296 hg; replace BK296 := bK BK296 hb; have NB297_296 := Aside0.mk NB296_297.out.symm; clear hb hbox hg; have hnb47 := NB296_297.out; have hnc47 := NB297_296.out; have hcz48_0 : w46.cell? ⟨gb296, 0, none⟩ = some (.string a0_0) := bC BK296 0 rfl; have hcz48_1 : w46.cell? ⟨gb296, 1, none⟩ = some (.int .i64 a0_1) := bC BK296 1 rfl; have hcz48_2 : w46.cell? ⟨gb296, 2, none⟩ = some (.int .i64 a0_2) := bC BK296 2 rfl; have hcz48_3 : w46.cell? ⟨gb296, 3, none⟩ = some (.int .i64 a0_3) := bC BK296 3 rfl; have hfz48_0 := bF BK296 0; have hfz48_1 := bF BK296 1; have hfz48_2 := bF BK296 2; have hfz48_3 := bF BK296 3) | ((with_reducible refine gate_callee (f := 40) rfl ?_); refine goesL_ (some 6) rfl rfl Tryd.func40 (by kernel_rfl) rfl #[.agg #[.string a0_0, .int .i64 a0_1, .int .i64 a0_2, .int .i64 a0_3]] rfl (by (try simp only [mA]); first | done | rfl) ?_; (with_reducible refine (clusterlocksref04_Shaped.calls a0_0 a0_1 a0_2 a0_3 false _ A3.out).mono ?_); rintro e w49 ⟨rfl, hb⟩; refine ⟨_, rfl, ?_⟩; replace BK296 := bK BK296 hb; replace BK297 := bK BK297 hb; replace HB := bB HB hb; (try clear hb); (try clear hk)))
  go_ret
  exact ⟨by first | rfl | (simp [errW_none, errW_some] <;> rfl) | (simp [*, errW_none, errW_some] <;> rfl), (uS HB)⟩
/-! ### clusterlocksref05_Resolve: function 31 -/
def clusterlocksref05_Resolve.f (k : Nat) (l0 : List (S26)) (a1_0 : ByteArray) (a1_1 : Int) (a1_2 : Int) : Option (Int) := (clusterlocksref05_Valid.f k l0).bind fun t301 => (if t301 = true then ((clusterlocksref05_Find.f k l0 a1_0).bind fun bt302 => (if bt302.2.2.2.2 = true then ((clusterlocksref04_Fits.f bt302.1 bt302.2.1 bt302.2.2.1 bt302.2.2.2.1 a1_1 a1_2).bind fun t308 => (if t308 = true then (some 0) else (some 12))) else (some 10))) else (some 2))
theorem clusterlocksref05_Resolve.mono : ∀ a0 a1 a2 a3 k, LeO (clusterlocksref05_Resolve.f k a0 a1 a2 a3) (clusterlocksref05_Resolve.f (k + 1) a0 a1 a2 a3) := by
 intro a0 a1 a2 a3 k
 unfold clusterlocksref05_Resolve.f
 repeat' first
   | (with_reducible exact clusterlocksref05_Find.mono _ _ _)
   | (with_reducible exact clusterlocksref05_Valid.mono _ _)
   | (with_reducible exact LeO.refl _)
   | (with_reducible exact LeO.none _)
   | (with_reducible refine LeO.ite ?_ ?_)
   | (with_reducible refine LeO.bind ?_ (fun _ => ?_))
   | exact clusterlocksref05_Find.mono _ _ _
   | exact clusterlocksref05_Valid.mono _ _
   | exact LeO.none _
   | refine LeO.ite ?_ ?_
   | refine LeO.bind ?_ (fun _ => ?_)
set_option maxHeartbeats 8000000 in
set_option maxRecDepth 100000 in
theorem clusterlocksref05_Resolve.calls (k : Nat) (A0 : Option Addr) (c0 : Nat) (l0 : List (S26)) (a1_0 : ByteArray) (a1_1 : Int) (a1_2 : Int) (r : Int) (w : World) (hr0 : Kd.C k26 w A0 l0.length l0) (hc0 : l0.length ≤ c0) (h : clusterlocksref05_Resolve.f k l0 a1_0 a1_1 a1_2 = some r) :
  Calls Tryd.prog 31 #[.slice A0 l0.length c0, .agg #[.string a1_0, .int .i64 a1_1, .int .i64 a1_2]] w fun e w' => e = .returned (.int .i64 r) ∧ Below w.heap.size w w' := by
 have hu44 := Tryd.underlying44
 have hu26 := Tryd.underlying26
 have hu42 := Tryd.underlying42
 have HR0 := Aside0.mk hr0
 have HC0 := Aside0.mk hc0
 clear hr0 hc0
 have HB := Aside0.mk (Below.refl w.heap.size w)
 have H : ((clusterlocksref05_Valid.f k l0).bind fun t301 => (if t301 = true then ((clusterlocksref05_Find.f k l0 a1_0).bind fun bt302 => (if bt302.2.2.2.2 = true then ((clusterlocksref04_Fits.f bt302.1 bt302.2.1 bt302.2.2.1 bt302.2.2.2.1 a1_1 a1_2).bind fun t308 => (if t308 = true then (some 0) else (some 12))) else (some 10))) else (some 2))) = some r := h
 clear h
 obtain ⟨t301, A30, H⟩ := Option.bind_eq_some_iff.mp H
 have A3 := Aside0.mk A30; clear A30
 by_cases c4 : t301 = true
 ·subst c4
  rw [if_pos rfl] at H
  replace H := Option.bind_eq_some_iff.mp H
  obtain ⟨⟨t302, t303, t304, t305, t306⟩, A50, H⟩ := H
  replace H : (if t306 = true then ((clusterlocksref04_Fits.f t302 t303 t304 t305 a1_1 a1_2).bind fun t308 => (if t308 = true then (some 0) else (some 12))) else (some 10)) = some r := H
  have A5 := Aside0.mk A50; clear A50
  by_cases c6 : t306 = true
  ·subst c6
   rw [if_pos rfl] at H
   obtain ⟨t308, A70, H⟩ := Option.bind_eq_some_iff.mp H
   have A7 := Aside0.mk A70; clear A70
   by_cases c8 : t308 = true
   ·subst c8
    rw [if_pos rfl] at H
    obtain rfl := Option.some.inj H
    go_enter Tryd.func31, Tryd.ntmps31
    go_wp2_with (first | ((with_reducible refine gate_dst (N := 3) rfl ?_); refine box_event ?hg (N := 3) ?hd (cs := #[.string a1_0, .int .i64 a1_1, .int .i64 a1_2]) (t := 44) ?hr ?_; (case hd => rfl); (case hg => rfl); (case hr => first | (go_simp; done) | (go_simp; rfl)); intro gb300 hg w9 hbox hb; have BK300 := Aside0.mk hbox; have GW300 := gE HB hg; replace HB := bB HB hb; have GE300 := GW300; clear hb hbox hg) | ((with_reducible refine gate_callee (f := 21) rfl ?_); refine goesL_ (some 8) rfl rfl Tryd.func21 (by kernel_rfl) rfl #[.slice A0 l0.length c0] rfl (by (try simp only [mA]); first | done | rfl) ?_; (with_reducible refine (clusterlocksref05_Valid.calls k _ _ l0 true _ ?side1 ?side2 A3.out).mono ?_); (case side1 => repeat (first | exact (Kd.C_below HR0.out HB.out) | (with_reducible refine Kd.C_alloc ?_ _) | (with_reducible refine Kd.C_drewN ?_ _) | (with_reducible refine Kd.C_drew ?_))); (case side2 => exact HC0.out); rintro e w10 ⟨rfl, hb⟩; refine ⟨_, rfl, ?_⟩; replace BK300 := bK BK300 hb; replace HB := bB HB hb; (try clear hb); (try clear hk); have hcz11_0 : w10.cell? ⟨gb300, 0, none⟩ = some (.string a1_0) := bC BK300 0 rfl; have hcz11_1 : w10.cell? ⟨gb300, 1, none⟩ = some (.int .i64 a1_1) := bC BK300 1 rfl; have hcz11_2 : w10.cell? ⟨gb300, 2, none⟩ = some (.int .i64 a1_2) := bC BK300 2 rfl; have hfz11_0 := bF BK300 0; have hfz11_1 := bF BK300 1; have hfz11_2 := bF BK300 2) | ((with_reducible refine gate_callee (f := 29) rfl ?_); refine goesL_ (some 14) rfl rfl Tryd.func29 (by kernel_rfl) rfl #[.slice A0 l0.length c0, .string a1_0] rfl (by (try simp only [mA]); first | done | rfl) ?_; (with_reducible refine (clusterlocksref05_Find.calls k _ _ l0 a1_0 t302 t303 t304 t305 true _ ?side1 ?side2 A5.out).mono ?_); (case side1 => repeat (first | exact (Kd.C_below HR0.out HB.out) | (with_reducible refine Kd.C_alloc ?_ _) | (with_reducible refine Kd.C_drewN ?_ _) | (with_reducible refine Kd.C_drew ?_))); (case side2 => exact HC0.out); rintro e w12 ⟨rfl, hb⟩; refine ⟨_, rfl, ?_⟩; replace BK300 := bK BK300 hb; replace HB := bB HB hb; (try clear hb); (try clear hk)) | ((with_reducible refine gate_dst (N := 5) rfl ?_); refine box_event ?hg (N := 5) ?hd (cs := #[.string (⟨#[]⟩ : ByteArray), .int .i64 0, .int .i64 0, .int .i64 0]) (t := 26) ?hr ?_; (case hd => rfl); (case hg => rfl); (case hr => first | (go_simp; done) | (go_simp; rfl)); intro gb307 hg w13 hbox hb; have BK307 := Aside0.mk hbox; have GW307 := gE HB hg; replace HB := bB HB hb; have GE307 := GW307; have NB300_307 := gN BK300 hg; replace BK300 := bK BK300 hb; have NB307_300 := Aside0.mk NB300_307.out.symm; clear hb hbox hg; have hnb14 := NB307_300.out; have hnc14 := NB300_307.out; obtain ⟨hcz15_0, hcz15_1, hcz15_2, hcz15_3, hfz15_0, hfz15_1, hfz15_2, hfz15_3⟩ := d4 BK307; have hcz16_0 : w13.cell? ⟨gb300, 0, none⟩ = some (.string a1_0) := bC BK300 0 rfl; have hcz16_1 : w13.cell? ⟨gb300, 1, none⟩ = some (.int .i64 a1_1) := bC BK300 1 rfl; have hcz16_2 : w13.cell? ⟨gb300, 2, none⟩ = some (.int .i64 a1_2) := bC BK300 2 rfl; have hfz16_0 := bF BK300 0; have hfz16_1 := bF BK300 1; have hfz16_2 := bF BK300 2) | ((with_reducible refine gate_callee (f := 46) rfl ?_); refine goesL_ (some 22) rfl rfl Tryd.func46 (by kernel_rfl) rfl #[.agg #[.string t302, .int .i64 t303, .int .i64 t304, .int .i64 t305], .agg #[.int .i64 a1_1, .int .i64 a1_2]] rfl (by (try simp only [mA]); first | done | rfl) ?_; (with_reducible refine (clusterlocksref04_Fits.calls t302 t303 t304 t305 a1_1 a1_2 true _ A7.out).mono ?_); rintro e w17 ⟨rfl, hb⟩; refine ⟨_, rfl, ?_⟩; replace BK300 := (haveI := nI NB300_307; bG BK300 hb); replace BK307 := bP4 BK307 hb; replace HB := (haveI := gI GE307; bT HB hb); (try clear hb); (try clear hk)))
    go_ret
    exact ⟨by first | rfl | (simp [errW_none, errW_some] <;> rfl) | (simp [*, errW_none, errW_some] <;> rfl), (haveI := gI GE307; uS HB)⟩
   ·replace c8 := Bool.eq_false_iff.mpr c8
    subst c8
    rw [if_neg (show ¬ (false = true) by decide)] at H
    obtain rfl := Option.some.inj H
    go_enter Tryd.func31, Tryd.ntmps31
    go_wp2_with (first | ((with_reducible refine gate_dst (N := 3) rfl ?_); refine box_event ?hg (N := 3) ?hd (cs := #[.string a1_0, .int .i64 a1_1, .int .i64 a1_2]) (t := 44) ?hr ?_; (case hd => rfl); (case hg => rfl); (case hr => first | (go_simp; done) | (go_simp; rfl)); intro gb300 hg w18 hbox hb; have BK300 := Aside0.mk hbox; have GW300 := gE HB hg; replace HB := bB HB hb; have GE300 := GW300; clear hb hbox hg) | ((with_reducible refine gate_callee (f := 21) rfl ?_); refine goesL_ (some 8) rfl rfl Tryd.func21 (by kernel_rfl) rfl #[.slice A0 l0.length c0] rfl (by (try simp only [mA]); first | done | rfl) ?_; (with_reducible refine (clusterlocksref05_Valid.calls k _ _ l0 true _ ?side1 ?side2 A3.out).mono ?_); (case side1 => repeat (first | exact (Kd.C_below HR0.out HB.out) | (with_reducible refine Kd.C_alloc ?_ _) | (with_reducible refine Kd.C_drewN ?_ _) | (with_reducible refine Kd.C_drew ?_))); (case side2 => exact HC0.out); rintro e w19 ⟨rfl, hb⟩; refine ⟨_, rfl, ?_⟩; replace BK300 := bK BK300 hb; replace HB := bB HB hb; (try clear hb); (try clear hk); have hcz20_0 : w19.cell? ⟨gb300, 0, none⟩ = some (.string a1_0) := bC BK300 0 rfl; have hcz20_1 : w19.cell? ⟨gb300, 1, none⟩ = some (.int .i64 a1_1) := bC BK300 1 rfl; have hcz20_2 : w19.cell? ⟨gb300, 2, none⟩ = some (.int .i64 a1_2) := bC BK300 2 rfl; have hfz20_0 := bF BK300 0; have hfz20_1 := bF BK300 1; have hfz20_2 := bF BK300 2) | ((with_reducible refine gate_callee (f := 29) rfl ?_); refine goesL_ (some 14) rfl rfl Tryd.func29 (by kernel_rfl) rfl #[.slice A0 l0.length c0, .string a1_0] rfl (by (try simp only [mA]); first | done | rfl) ?_; (with_reducible refine (clusterlocksref05_Find.calls k _ _ l0 a1_0 t302 t303 t304 t305 true _ ?side1 ?side2 A5.out).mono ?_); (case side1 => repeat (first | exact (Kd.C_below HR0.out HB.out) | (with_reducible refine Kd.C_alloc ?_ _) | (with_reducible refine Kd.C_drewN ?_ _) | (with_reducible refine Kd.C_drew ?_))); (case side2 => exact HC0.out); rintro e w21 ⟨rfl, hb⟩; refine ⟨_, rfl, ?_⟩; replace BK300 := bK BK300 hb; replace HB := bB HB hb; (try clear hb); (try clear hk)) | ((with_reducible refine gate_dst (N := 5) rfl ?_); refine box_event ?hg (N := 5) ?hd (cs := #[.string (⟨#[]⟩ : ByteArray), .int .i64 0, .int .i64 0, .int .i64 0]) (t := 26) ?hr ?_; (case hd => rfl); (case hg => rfl); (case hr => first | (go_simp; done) | (go_simp; rfl)); intro gb307 hg w22 hbox hb; have BK307 := Aside0.mk hbox; have GW307 := gE HB hg; replace HB := bB HB hb; have GE307 := GW307; have NB300_307 := gN BK300 hg; replace BK300 := bK BK300 hb; have NB307_300 := Aside0.mk NB300_307.out.symm; clear hb hbox hg; have hnb23 := NB307_300.out; have hnc23 := NB300_307.out; obtain ⟨hcz24_0, hcz24_1, hcz24_2, hcz24_3, hfz24_0, hfz24_1, hfz24_2, hfz24_3⟩ := d4 BK307; have hcz25_0 : w22.cell? ⟨gb300, 0, none⟩ = some (.string a1_0) := bC BK300 0 rfl; have hcz25_1 : w22.cell? ⟨gb300, 1, none⟩ = some (.int .i64 a1_1) := bC BK300 1 rfl; have hcz25_2 : w22.cell? ⟨gb300, 2, none⟩ = some (.int .i64 a1_2) := bC BK300 2 rfl; have hfz25_0 := bF BK300 0; have hfz25_1 := bF BK300 1; have hfz25_2 := bF BK300 2) | ((with_reducible refine gate_callee (f := 46) rfl ?_); refine goesL_ (some 22) rfl rfl Tryd.func46 (by kernel_rfl) rfl #[.agg #[.string t302, .int .i64 t303, .int .i64 t304, .int .i64 t305], .agg #[.int .i64 a1_1, .int .i64 a1_2]] rfl (by (try simp only [mA]); first | done | rfl) ?_; (with_reducible refine (clusterlocksref04_Fits.calls t302 t303 t304 t305 a1_1 a1_2 false _ A7.out).mono ?_); rintro e w26 ⟨rfl, hb⟩; refine ⟨_, rfl, ?_⟩; replace BK300 := (haveI := nI NB300_307; bG BK300 hb); replace BK307 := bP4 BK307 hb; replace HB := (haveI := gI GE307; bT HB hb); (try clear hb); (try clear hk)))
    go_ret
    exact ⟨by first | rfl | (simp [errW_none, errW_some] <;> rfl) | (simp [*, errW_none, errW_some] <;> rfl), (haveI := gI GE307; uS HB)⟩
  ·replace c6 := Bool.eq_false_iff.mpr c6
   subst c6
   rw [if_neg (show ¬ (false = true) by decide)] at H
   obtain rfl := Option.some.inj H
   go_enter Tryd.func31, Tryd.ntmps31
   go_wp2_with (first | ((with_reducible refine gate_dst (N := 3) rfl ?_); refine box_event ?hg (N := 3) ?hd (cs := #[.string a1_0, .int .i64 a1_1, .int .i64 a1_2]) (t := 44) ?hr ?_; (case hd => rfl); (case hg => rfl); (case hr => first | (go_simp; done) | (go_simp; rfl)); intro gb300 hg w27 hbox hb; have BK300 := Aside0.mk hbox; have GW300 := gE HB hg; replace HB := bB HB hb; have GE300 := GW300; clear hb hbox hg) | ((with_reducible refine gate_callee (f := 21) rfl ?_); refine goesL_ (some 8) rfl rfl Tryd.func21 (by kernel_rfl) rfl #[.slice A0 l0.length c0] rfl (by (try simp only [mA]); first | done | rfl) ?_; (with_reducible refine (clusterlocksref05_Valid.calls k _ _ l0 true _ ?side1 ?side2 A3.out).mono ?_); (case side1 => repeat (first | exact (Kd.C_below HR0.out HB.out) | (with_reducible refine Kd.C_alloc ?_ _) | (with_reducible refine Kd.C_drewN ?_ _) | (with_reducible refine Kd.C_drew ?_))); (case side2 => exact HC0.out); rintro e w28 ⟨rfl, hb⟩; refine ⟨_, rfl, ?_⟩; replace BK300 := bK BK300 hb; replace HB := bB HB hb; (try clear hb); (try clear hk); have hcz29_0 : w28.cell? ⟨gb300, 0, none⟩ = some (.string a1_0) := bC BK300 0 rfl; have hcz29_1 : w28.cell? ⟨gb300, 1, none⟩ = some (.int .i64 a1_1) := bC BK300 1 rfl; have hcz29_2 : w28.cell? ⟨gb300, 2, none⟩ = some (.int .i64 a1_2) := bC BK300 2 rfl; have hfz29_0 := bF BK300 0; have hfz29_1 := bF BK300 1; have hfz29_2 := bF BK300 2) | ((with_reducible refine gate_callee (f := 29) rfl ?_); refine goesL_ (some 14) rfl rfl Tryd.func29 (by kernel_rfl) rfl #[.slice A0 l0.length c0, .string a1_0] rfl (by (try simp only [mA]); first | done | rfl) ?_; (with_reducible refine (clusterlocksref05_Find.calls k _ _ l0 a1_0 t302 t303 t304 t305 false _ ?side1 ?side2 A5.out).mono ?_); (case side1 => repeat (first | exact (Kd.C_below HR0.out HB.out) | (with_reducible refine Kd.C_alloc ?_ _) | (with_reducible refine Kd.C_drewN ?_ _) | (with_reducible refine Kd.C_drew ?_))); (case side2 => exact HC0.out); rintro e w30 ⟨rfl, hb⟩; refine ⟨_, rfl, ?_⟩; replace BK300 := bK BK300 hb; replace HB := bB HB hb; (try clear hb); (try clear hk)) | ((with_reducible refine gate_dst (N := 5) rfl ?_); refine box_event ?hg (N := 5) ?hd (cs := #[.string (⟨#[]⟩ : ByteArray), .int .i64 0, .int .i64 0, .int .i64 0]) (t := 26) ?hr ?_; (case hd => rfl); (case hg => rfl); (case hr => first | (go_simp; done) | (go_simp; rfl)); intro gb307 hg w31 hbox hb; have BK307 := Aside0.mk hbox; have GW307 := gE HB hg; replace HB := bB HB hb; have GE307 := GW307; have NB300_307 := gN BK300 hg; replace BK300 := bK BK300 hb; have NB307_300 := Aside0.mk NB300_307.out.symm; clear hb hbox hg; have hnb32 := NB307_300.out; have hnc32 := NB300_307.out; have hcz33_0 : w31.cell? ⟨gb307, 0, none⟩ = some (.string (⟨#[]⟩ : ByteArray)) := bC BK307 0 rfl; have hcz33_1 : w31.cell? ⟨gb307, 1, none⟩ = some (.int .i64 0) := bC BK307 1 rfl; have hcz33_2 : w31.cell? ⟨gb307, 2, none⟩ = some (.int .i64 0) := bC BK307 2 rfl; have hcz33_3 : w31.cell? ⟨gb307, 3, none⟩ = some (.int .i64 0) := bC BK307 3 rfl; have hfz33_0 := bF BK307 0; have hfz33_1 := bF BK307 1; have hfz33_2 := bF BK307 2; have hfz33_3 := bF BK307 3))
   go_ret
   exact ⟨by first | rfl | (simp [errW_none, errW_some] <;> rfl) | (simp [*, errW_none, errW_some] <;> rfl), (haveI := gI GE307; uS HB)⟩
 ·replace c4 := Bool.eq_false_iff.mpr c4
  subst c4
  rw [if_neg (show ¬ (false = true) by decide)] at H
  obtain rfl := Option.some.inj H
  go_enter Tryd.func31, Tryd.ntmps31
  go_wp2_with (first | ((with_reducible refine gate_dst (N := 3) rfl ?_); refine box_event ?hg (N := 3) ?hd (cs := #[.string a1_0, .int .i64 a1_1, .int .i64 a1_2]) (t := 44) ?hr ?_; (case hd => rfl); (case hg => rfl); (case hr => first | (go_simp; done) | (go_simp; rfl)); intro gb300 hg w34 hbox hb; have BK300 := Aside0.mk hbox; have GW300 := gE HB hg; replace HB := bB HB hb; have GE300 := GW300; clear hb hbox hg) | ((with_reducible refine gate_callee (f := 21) rfl ?_); refine goesL_ (some 8) rfl rfl Tryd.func21 (by kernel_rfl) rfl #[.slice A0 l0.length c0] rfl (by (try simp only [mA]); first | done | rfl) ?_; (with_reducible refine (clusterlocksref05_Valid.calls k _ _ l0 false _ ?side1 ?side2 A3.out).mono ?_); (case side1 => repeat (first | exact (Kd.C_below HR0.out HB.out) | (with_reducible refine Kd.C_alloc ?_ _) | (with_reducible refine Kd.C_drewN ?_ _) | (with_reducible refine Kd.C_drew ?_))); (case side2 => exact HC0.out); rintro e w35 ⟨rfl, hb⟩; refine ⟨_, rfl, ?_⟩; replace BK300 := bK BK300 hb; replace HB := bB HB hb; (try clear hb); (try clear hk)))
  go_ret
  exact ⟨by first | rfl | (simp [errW_none, errW_some] <;> rfl) | (simp [*, errW_none, errW_some] <;> rfl), (uS HB)⟩
/-! ### clusterlocksref05_At: function 32 -/
def clusterlocksref05_At.l0 : Nat → List (S26) → Int → List (S26) → Int → Option ((List (S26)))
 | 0, _, _, _, _ => none
 | k + 1, x0, x1, x5, x6 => if x6 < (x0.length : Int) then (if 0 ≤ x6 then (if ((rd_T26 x0 x6).f3) = x1 then (if x5.length < 3518437208883 then (clusterlocksref05_At.l0 k x0 x1 (x5 ++ [(⟨(rd_T26 x0 x6).f0, (rd_T26 x0 x6).f1, (rd_T26 x0 x6).f2, (rd_T26 x0 x6).f3⟩ : S26)]) (wrap64 (x6 + 1))) else (none)) else (clusterlocksref05_At.l0 k x0 x1 x5 (wrap64 (x6 + 1)))) else (none)) else (some x5)
def clusterlocksref05_At.f (k : Nat) (l0 : List (S26)) (a1 : Int) : Option ((List (S26))) := clusterlocksref05_At.l0 k l0 a1 ([] : List (S26)) 0
theorem clusterlocksref05_At.mono_l : ∀ k, (∀ y0 y1 y2 y3, LeO (clusterlocksref05_At.l0 k y0 y1 y2 y3) (clusterlocksref05_At.l0 (k + 1) y0 y1 y2 y3))
 | 0 => fun _ _ _ _ r h => by simp [clusterlocksref05_At.l0] at h
 | k + 1 => by
  have ih0 := clusterlocksref05_At.mono_l k
  ·intro y0 y1 y2 y3
   unfold clusterlocksref05_At.l0
   repeat' first
   | (with_reducible exact ih0 _ _ _ _)
   | (with_reducible exact LeO.refl _)
   | (with_reducible exact LeO.none _)
   | (with_reducible refine LeO.ite ?_ ?_)
   | (with_reducible refine LeO.bind ?_ (fun _ => ?_))
   | exact ih0 _ _ _ _
   | exact LeO.none _
   | refine LeO.ite ?_ ?_
   | refine LeO.bind ?_ (fun _ => ?_)
theorem clusterlocksref05_At.mono : ∀ a0 a1 k, LeO (clusterlocksref05_At.f k a0 a1) (clusterlocksref05_At.f (k + 1) a0 a1) := by
 intro a0 a1 k
 have ih0 := clusterlocksref05_At.mono_l k
 unfold clusterlocksref05_At.f
 repeat' first
   | (with_reducible exact ih0 _ _ _ _)
   | (with_reducible exact LeO.refl _)
   | (with_reducible exact LeO.none _)
   | (with_reducible refine LeO.ite ?_ ?_)
   | (with_reducible refine LeO.bind ?_ (fun _ => ?_))
   | exact ih0 _ _ _ _
   | exact LeO.none _
   | refine LeO.ite ?_ ?_
   | refine LeO.bind ?_ (fun _ => ?_)
set_option maxHeartbeats 8000000 in
set_option maxRecDepth 100000 in
theorem clusterlocksref05_At.calls (k : Nat) (A0 : Option Addr) (c0 : Nat) (l0 : List (S26)) (a1 : Int) (r : List (S26)) (w : World) (hr0 : Kd.C k26 w A0 l0.length l0) (hc0 : l0.length ≤ c0) (h : clusterlocksref05_At.f k l0 a1 = some r) :
  Calls Tryd.prog 32 #[.slice A0 l0.length c0, .int .i64 a1] w fun e w' => ∃ v0_ : Value, e = .returned (v0_) ∧ Kd.R k26 26 w' w.heap.size (fun _ => True) v0_ r ∧ Below w.heap.size w w' := by
 have hu26 := Tryd.underlying26
 have HR0 := Aside0.mk hr0
 have HC0 := Aside0.mk hc0
 clear hr0 hc0
 have HB := Aside0.mk (Below.refl w.heap.size w)
 have H : (clusterlocksref05_At.l0 k l0 a1 ([] : List (S26)) 0) = some r := h
 clear h
 have H' := Aside0.mk H
 clear H
 go_enter Tryd.func32, Tryd.ntmps32
 go_wp2
 go_loopg [5, 6] k (fun kq v5 v6 w' => ∃ (x5_1 : List (S26)) (x6_1 : Int), v6 = .int .i64 x6_1 ∧ Aside0 (clusterlocksref05_At.l0 kq l0 a1 x5_1 x6_1 = some r) ∧ Aside0 (kq ≤ k) ∧ Aside0 (Kd.R k26 26 w' w.heap.size (fun _ => True) v5 x5_1) ∧ Aside0 (Below w.heap.size w w'))
 case atStart => exact ⟨(([] : List (S26))), (0), (by first | rfl | (simp; done) | (simp [*]; done)), H', ⟨Nat.le_refl _⟩, ⟨by first | exact Kd.R_nil _ _ _ _ _ | exact Kd.N_nil _ _ _ _ _ | exact Kd.V_nil _ _ _ _ _ | exact Kd.Q_nil _ _ _ _ _ | exact Kd.S_nil _ _ _ _ _⟩, ⟨(uS HB)⟩⟩
 case round =>
  clear H'
  try clear p2
  obtain ⟨x5_1, x6_1, rfl, HA, HK1, HO_5, HB⟩ := hrel
  cases gk with
  | zero => exact absurd HA.out (by simp [clusterlocksref05_At.l0])
  | succ k1 =>
   have H := HA.out
   clear HA
   simp only [clusterlocksref05_At.l0] at H
   by_cases c3 : x6_1 < (l0.length : Int)
   ·rw [if_pos c3] at H
    have c3b0 : decide (x6_1 < (l0.length : Int)) = true := decide_eq_true c3
    clear c3
    by_cases c4 : 0 ≤ x6_1
    ·rw [if_pos c4] at H
     have c4b0 : decide (0 ≤ x6_1) = true := decide_eq_true c4
     clear c4
     by_cases c5 : ((rd_T26 l0 x6_1).f3) = a1
     ·rw [if_pos c5] at H
      have c5b0 : (((rd_T26 l0 x6_1).f3) == a1) = true := beq_iff_eq.mpr c5
      have c5b1 : (((rd_T26 l0 x6_1).f3) != a1) = false := bne_eq_false_iff_eq.mpr c5
      clear c5
      by_cases c6 : x5_1.length < 3518437208883
      ·rw [if_pos c6] at H
       have LMc6 := Aside0.mk c6
       clear c6
       obtain ⟨y311, hy311⟩ : ∃ y_ : List (S26), y_ = (x5_1 ++ [(⟨(rd_T26 l0 x6_1).f0, (rd_T26 l0 x6_1).f1, (rd_T26 l0 x6_1).f2, (rd_T26 l0 x6_1).f3⟩ : S26)]) := ⟨_, rfl⟩
       replace H : (clusterlocksref05_At.l0 k1 l0 a1 y311 (wrap64 (x6_1 + 1))) = some r := by first | (rw [hy311]; with_reducible exact H) | (have H2_ := (Option.bind_some _ _).symm.trans H; rw [hy311]; with_reducible exact H2_) | (have H2_ := (Option.bind_some _ _).symm.trans H; with_reducible exact H2_) | with_reducible exact H | (rw [hy311]; exact H) | exact H
       have Ny311 := Aside0.mk hy311
       clear hy311
       have H' := Aside0.mk H
       clear H
       have p309 : 0 ≤ (x6_1 : Int) := of_decide_eq_true (by first | (with_reducible assumption) | assumption)
       have q309 : x6_1 < (l0.length : Int) := of_decide_eq_true (by first | (with_reducible assumption) | assumption)
       obtain ⟨ad309, e309, hx309_0, hx309_1, hx309_2, hx309_3⟩ := at_T26 HR0.out x6_1 p309 q309
       cases e309
       replace hx309_0 := kC HB hx309_0
       replace hx309_1 := kC HB hx309_1
       replace hx309_2 := kC HB hx309_2
       replace hx309_3 := kC HB hx309_3
       replace p309 := eq_true p309
       replace q309 := eq_true q309
       have p310 : 0 ≤ (x6_1 : Int) := of_decide_eq_true (by first | (with_reducible assumption) | assumption)
       have q310 : x6_1 < (l0.length : Int) := of_decide_eq_true (by first | (with_reducible assumption) | assumption)
       obtain ⟨ad310, e310, hx310_0, hx310_1, hx310_2, hx310_3⟩ := at_T26 HR0.out x6_1 p310 q310
       obtain rfl : ad309 = ad310 := (by injection e310)
       replace hx310_0 := kC HB hx310_0
       replace hx310_1 := kC HB hx310_1
       replace hx310_2 := kC HB hx310_2
       replace hx310_3 := kC HB hx310_3
       replace p310 := eq_true p310
       replace q310 := eq_true q310
       go_wp2_with (first | ((with_reducible refine gate_builtin (b := .append) (xs := #[.tmp 20, .tmp 25]) rfl ?_); at_builtin; refine Kd.R_append k26 (w0 := w) w.heap.size rfl (.tmp 20) (.tmp 25) 24 26 (.agg #[(.string ⟨#[]⟩), (.int .i64 0), (.int .i64 0), (.int .i64 0)]) 40 rfl Tryd.underlying24 info26 rfl (by decide) (by omega) u5 x5_1 (⟨(rd_T26 l0 x6_1).f0, (rd_T26 l0 x6_1).f1, (rd_T26 l0 x6_1).f2, (rd_T26 l0 x6_1).f3⟩ : S26) [.string ((rd_T26 l0 x6_1).f0), .int .i64 ((rd_T26 l0 x6_1).f1), .int .i64 ((rd_T26 l0 x6_1).f2), .int .i64 ((rd_T26 l0 x6_1).f3)] (fun _ => True) (fun _ => False) rfl rfl ?aP (fun _ hk => hk.elim) ?aF ?aO ?aB ?aS ?aL ?_; (case aP => exact k26_mkM _ _ _ (⟨(rd_T26 l0 x6_1).f0, (rd_T26 l0 x6_1).f1, (rd_T26 l0 x6_1).f2, (rd_T26 l0 x6_1).f3⟩ : S26)); (case aB => exact (uB HB)); (case aF => exact (fun _ _ => trivial)); (case aO => exact (by (with_reducible repeat (first | apply Kd.R_alloc | apply Kd.R_drewN | apply Kd.R_drew)); exact HO_5.out)); (case aS => exact (below_size (uB HB))); (case aL => have := LMc6.out; omega); intro v312 w7 ho hb hg hat; rw [← Ny311.out] at ho; replace HB := Aside0.mk (hb); have HO313 := Aside0.mk (ho); clear HO_5; clear ho hb hg hat))
       go_roundg k1
       case measure => have := HK1.out; omega
       case rel => exact ⟨(y311), (wrap64 (x6_1 + 1)), (by first | rfl | (simp; done) | (simp [*]; done)), H', ⟨by have := HK1.out; omega⟩, ⟨by (with_reducible repeat (first | apply Kd.R_alloc | apply Kd.R_drewN | apply Kd.R_drew)); exact HO313.out⟩, ⟨(uS HB)⟩⟩
      ·rw [if_neg c6] at H
       exact absurd H (by simp)
     ·rw [if_neg c5] at H
      have c5b0 : (((rd_T26 l0 x6_1).f3) == a1) = false := beq_eq_false_iff_ne.mpr c5
      have c5b1 : (((rd_T26 l0 x6_1).f3) != a1) = true := bne_iff_ne.mpr c5
      have H' := Aside0.mk H
      clear H
      have p309 : 0 ≤ (x6_1 : Int) := of_decide_eq_true (by first | (with_reducible assumption) | assumption)
      have q309 : x6_1 < (l0.length : Int) := of_decide_eq_true (by first | (with_reducible assumption) | assumption)
      obtain ⟨ad309, e309, hx309_0, hx309_1, hx309_2, hx309_3⟩ := at_T26 HR0.out x6_1 p309 q309
      cases e309
      replace hx309_0 := kC HB hx309_0
      replace hx309_1 := kC HB hx309_1
      replace hx309_2 := kC HB hx309_2
      replace hx309_3 := kC HB hx309_3
      replace p309 := eq_true p309
      replace q309 := eq_true q309
      go_wp2
      go_roundg k1
      case measure => have := HK1.out; omega
      case rel => exact ⟨(x5_1), (wrap64 (x6_1 + 1)), (by first | rfl | (simp; done) | (simp [*]; done)), H', ⟨by have := HK1.out; omega⟩, ⟨by (with_reducible repeat (first | apply Kd.R_alloc | apply Kd.R_drewN | apply Kd.R_drew)); exact HO_5.out⟩, ⟨(uS HB)⟩⟩
    ·rw [if_neg c4] at H
     exact absurd H (by simp)
   ·rw [if_neg c3] at H
    have c3b0 : decide (x6_1 < (l0.length : Int)) = false := decide_eq_false c3
    clear c3
    obtain rfl := Option.some.inj H
    go_wp2
    go_ret
    exact ⟨_, by first | rfl | (simp [errW_none, errW_some] <;> rfl) | (simp [*, errW_none, errW_some] <;> rfl), by (with_reducible repeat (first | apply Kd.R_alloc | apply Kd.R_drewN | apply Kd.R_drew)); exact HO_5.out, (uS HB)⟩
end Go.Proofs.YtbiapfjhdggkpaaDoor.PA

