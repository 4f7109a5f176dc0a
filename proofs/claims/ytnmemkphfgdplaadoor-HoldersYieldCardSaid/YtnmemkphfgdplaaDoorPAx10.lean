-- Printed by wip/tool/myprint.py for this claim; Lean checks it.
import Derived.Test.YtnmemkphfgdplaaDoorPAx0
import Derived.Test.YtnmemkphfgdplaaDoorSlim
import Derived.Test.YtnmemkphfgdplaaDoorPAx1
namespace Go.Proofs.YtnmemkphfgdplaaDoor.PA
open Go.RowKit Go.Proofs.YtnmemkphfgdplaaDoorW.PrintWords Go.Proofs.YtnmemkphfgdplaaDoorW.PrintLast Go.Proofs.YtnmemkphfgdplaaDoorW.PrintMore
attribute [local go_sem] max2_int min2_int max_two min_two max_three min_three max_four min_four   -- for this text's walks alone
set_option linter.unusedVariables false
set_option linter.unusedSimpArgs false

attribute [local go_sem high] eqA26 eqA53
/-! ### clusterlocksref10_SameHolds: function 12 -/
def clusterlocksref10_SameHolds.l0 : Nat → List (S53) → List (S53) → Int → Option (Bool)
 | 0, _, _, _ => none
 | k + 1, x0, x1, x5 => if x5 < (x0.length : Int) then (if 0 ≤ x5 then (if x5 < (x1.length : Int) then (if ((!(((rd_T53 x0 x5).f0.f0) == ((rd_T53 x1 x5).f0.f0)) || (!(((rd_T53 x0 x5).f0.f1) == ((rd_T53 x1 x5).f0.f1)) || (!(((rd_T53 x0 x5).f0.f2) == ((rd_T53 x1 x5).f0.f2))))) || ((!(((rd_T53 x0 x5).f1.f0) == ((rd_T53 x1 x5).f1.f0)) || (!(((rd_T53 x0 x5).f1.f1) == ((rd_T53 x1 x5).f1.f1)))))) = true then (some false) else (clusterlocksref10_SameHolds.l0 k x0 x1 (wrap64 (x5 + 1)))) else (none)) else (none)) else (some true)
def clusterlocksref10_SameHolds.f (k : Nat) (l0 : List (S53)) (l1 : List (S53)) : Option (Bool) := if (l0.length : Int) = (l1.length : Int) then (clusterlocksref10_SameHolds.l0 k l0 l1 0) else (some false)
theorem clusterlocksref10_SameHolds.mono_l : ∀ k, (∀ y0 y1 y2, LeO (clusterlocksref10_SameHolds.l0 k y0 y1 y2) (clusterlocksref10_SameHolds.l0 (k + 1) y0 y1 y2))
 | 0 => fun _ _ _ r h => by simp [clusterlocksref10_SameHolds.l0] at h
 | k + 1 => by
  have ih0 := clusterlocksref10_SameHolds.mono_l k
  ·intro y0 y1 y2
   unfold clusterlocksref10_SameHolds.l0
   repeat' first
   | (with_reducible exact ih0 _ _ _)
   | (with_reducible exact LeO.refl _)
   | (with_reducible exact LeO.none _)
   | (with_reducible refine LeO.ite ?_ ?_)
   | (with_reducible refine LeO.bind ?_ (fun _ => ?_))
   | exact ih0 _ _ _
   | exact LeO.none _
   | refine LeO.ite ?_ ?_
   | refine LeO.bind ?_ (fun _ => ?_)
theorem clusterlocksref10_SameHolds.mono : ∀ a0 a1 k, LeO (clusterlocksref10_SameHolds.f k a0 a1) (clusterlocksref10_SameHolds.f (k + 1) a0 a1) := by
 intro a0 a1 k
 have ih0 := clusterlocksref10_SameHolds.mono_l k
 unfold clusterlocksref10_SameHolds.f
 repeat' first
   | (with_reducible exact ih0 _ _ _)
   | (with_reducible exact LeO.refl _)
   | (with_reducible exact LeO.none _)
   | (with_reducible refine LeO.ite ?_ ?_)
   | (with_reducible refine LeO.bind ?_ (fun _ => ?_))
   | exact ih0 _ _ _
   | exact LeO.none _
   | refine LeO.ite ?_ ?_
   | refine LeO.bind ?_ (fun _ => ?_)
set_option maxHeartbeats 8000000 in
set_option maxRecDepth 100000 in
theorem clusterlocksref10_SameHolds.calls (k : Nat) (A0 : Option Addr) (c0 : Nat) (l0 : List (S53)) (A1 : Option Addr) (c1 : Nat) (l1 : List (S53)) (r : Bool) (w : World) (hr0 : Kd.C k53 w A0 l0.length l0) (hc0 : l0.length ≤ c0) (hr1 : Kd.C k53 w A1 l1.length l1) (hc1 : l1.length ≤ c1) (h : clusterlocksref10_SameHolds.f k l0 l1 = some r) :
  Calls Tryd.prog 12 #[.slice A0 l0.length c0, .slice A1 l1.length c1] w fun e w' => e = .returned (.bool r) ∧ Drawn0 w w' := by
 have hu53 := Tryd.underlying53
 have HR0 := Aside0.mk hr0
 have HC0 := Aside0.mk hc0
 clear hr0 hc0
 have HR1 := Aside0.mk hr1
 have HC1 := Aside0.mk hc1
 clear hr1 hc1
 have H : (if (l0.length : Int) = (l1.length : Int) then (clusterlocksref10_SameHolds.l0 k l0 l1 0) else (some false)) = some r := h
 clear h
 by_cases c3 : (l0.length : Int) = (l1.length : Int)
 ·rw [if_pos c3] at H
  have c3b0 : ((l0.length : Int) == (l1.length : Int)) = true := beq_iff_eq.mpr c3
  have c3b1 : ((l0.length : Int) != (l1.length : Int)) = false := bne_eq_false_iff_eq.mpr c3
  have c3b2 : (l0.length == l1.length) = true := by first | simpa using c3 | (simp at c3 ⊢; omega)
  clear c3
  have H' := Aside0.mk H
  clear H
  go_enter Tryd.func12, Tryd.ntmps12
  go_wp2
  repeat (go_quiet (fail); try go_wp2)
  go_loopg [5] k (fun kq v5 w' => ∃ (x5_1 : Int), v5 = .int .i64 x5_1 ∧ Aside0 (clusterlocksref10_SameHolds.l0 kq l0 l1 x5_1 = some r) ∧ Aside0 (kq ≤ k) ∧ Drawn0 w w')
  case atStart => exact ⟨(0), (by first | rfl | (simp; done) | (simp [*]; done)), H', ⟨Nat.le_refl _⟩, by repeat (first | exact Drawn0.refl _ | apply Drawn0.step)⟩
  case round =>
   clear H'
   try clear c1
   try clear p2
   try clear c3
   try clear c3b0
   try clear c3b1
   try clear c3b2
   obtain ⟨x5_1, rfl, HA, HK1, ⟨m1, rfl⟩⟩ := hrel
   cases gk with
   | zero => exact absurd HA.out (by simp [clusterlocksref10_SameHolds.l0])
   | succ k1 =>
    have H := HA.out
    clear HA
    simp only [clusterlocksref10_SameHolds.l0] at H
    by_cases c4 : x5_1 < (l0.length : Int)
    ·rw [if_pos c4] at H
     have c4b0 : decide (x5_1 < (l0.length : Int)) = true := decide_eq_true c4
     clear c4
     by_cases c5 : 0 ≤ x5_1
     ·rw [if_pos c5] at H
      have c5b0 : decide (0 ≤ x5_1) = true := decide_eq_true c5
      clear c5
      have HH_ := Aside0.mk H
      clear H
      have p218 : 0 ≤ (x5_1 : Int) := of_decide_eq_true (by first | (with_reducible assumption) | assumption)
      have q218 : x5_1 < (l0.length : Int) := of_decide_eq_true (by first | (with_reducible assumption) | assumption)
      obtain ⟨ad218, e218, hx218_0, hx218_1, hx218_2, hx218_3, hx218_4⟩ := at_T53 HR0.out x5_1 p218 q218
      cases e218
      replace p218 := eq_true p218
      replace q218 := eq_true q218
      have p219 : 0 ≤ (x5_1 : Int) := of_decide_eq_true (by first | (with_reducible assumption) | assumption)
      have H := HH_.out
      clear HH_
      by_cases c6 : x5_1 < (l1.length : Int)
      ·rw [if_pos c6] at H
       have c6b0 : decide (x5_1 < (l1.length : Int)) = true := decide_eq_true c6
       clear c6
       have HH_ := Aside0.mk H
       clear H
       have q219 : x5_1 < (l1.length : Int) := of_decide_eq_true (by first | (with_reducible assumption) | assumption)
       obtain ⟨ad219, e219, hx219_0, hx219_1, hx219_2, hx219_3, hx219_4⟩ := at_T53 HR1.out x5_1 p219 q219
       cases e219
       replace p219 := eq_true p219
       replace q219 := eq_true q219
       have H := HH_.out
       clear HH_
       by_cases c7 : ((!(((rd_T53 l0 x5_1).f0.f0) == ((rd_T53 l1 x5_1).f0.f0)) || (!(((rd_T53 l0 x5_1).f0.f1) == ((rd_T53 l1 x5_1).f0.f1)) || (!(((rd_T53 l0 x5_1).f0.f2) == ((rd_T53 l1 x5_1).f0.f2))))) || ((!(((rd_T53 l0 x5_1).f1.f0) == ((rd_T53 l1 x5_1).f1.f0)) || (!(((rd_T53 l0 x5_1).f1.f1) == ((rd_T53 l1 x5_1).f1.f1)))))) = true
       ·rw [if_pos c7] at H
        have c7b0 : ((!(((rd_T53 l0 x5_1).f0.f0) == ((rd_T53 l1 x5_1).f0.f0)) || (!(((rd_T53 l0 x5_1).f0.f1) == ((rd_T53 l1 x5_1).f0.f1)) || (!(((rd_T53 l0 x5_1).f0.f2) == ((rd_T53 l1 x5_1).f0.f2))))) || ((!(((rd_T53 l0 x5_1).f1.f0) == ((rd_T53 l1 x5_1).f1.f0)) || (!(((rd_T53 l0 x5_1).f1.f1) == ((rd_T53 l1 x5_1).f1.f1)))))) = true := c7
        clear c7
        obtain rfl := Option.some.inj H
        (try simp only [c7b0])
        go_wp2
        repeat (go_quiet (fail); try go_wp2)
        go_ret
        exact ⟨by first | rfl | (simp; done) | (simp [*]; done), by repeat (first | exact Drawn0.refl _ | apply Drawn0.step)⟩
       ·rw [if_neg c7] at H
        have c7b0 : ((!(((rd_T53 l0 x5_1).f0.f0) == ((rd_T53 l1 x5_1).f0.f0)) || (!(((rd_T53 l0 x5_1).f0.f1) == ((rd_T53 l1 x5_1).f0.f1)) || (!(((rd_T53 l0 x5_1).f0.f2) == ((rd_T53 l1 x5_1).f0.f2))))) || ((!(((rd_T53 l0 x5_1).f1.f0) == ((rd_T53 l1 x5_1).f1.f0)) || (!(((rd_T53 l0 x5_1).f1.f1) == ((rd_T53 l1 x5_1).f1.f1)))))) = false := by simpa using c7
        clear c7
        have H' := Aside0.mk H
        clear H
        (try simp only [c7b0])
        go_wp2
        repeat (go_quiet (fail); try go_wp2)
        go_roundg k1
        case measure => have := HK1.out; omega
        case rel => exact ⟨(wrap64 (x5_1 + 1)), (by first | rfl | (simp; done) | (simp [*]; done)), H', ⟨by have := HK1.out; omega⟩, by repeat (first | exact Drawn0.refl _ | apply Drawn0.step)⟩
      ·rw [if_neg c6] at H
       exact absurd H (by simp)
     ·rw [if_neg c5] at H
      exact absurd H (by simp)
    ·rw [if_neg c4] at H
     have c4b0 : decide (x5_1 < (l0.length : Int)) = false := decide_eq_false c4
     clear c4
     obtain rfl := Option.some.inj H
     go_wp2
     repeat (go_quiet (fail); try go_wp2)
     go_ret
     exact ⟨by first | rfl | (simp; done) | (simp [*]; done), by repeat (first | exact Drawn0.refl _ | apply Drawn0.step)⟩
 ·rw [if_neg c3] at H
  have c3b0 : ((l0.length : Int) == (l1.length : Int)) = false := beq_eq_false_iff_ne.mpr c3
  have c3b1 : ((l0.length : Int) != (l1.length : Int)) = true := bne_iff_ne.mpr c3
  have c3b2 : (l0.length == l1.length) = false := by first | simpa using c3 | (simp at c3 ⊢; omega)
  obtain rfl := Option.some.inj H
  go_enter Tryd.func12, Tryd.ntmps12
  go_wp2
  repeat (go_quiet (fail); try go_wp2)
  go_ret
  exact ⟨by first | rfl | (simp; done) | (simp [*]; done), by repeat (first | exact Drawn0.refl _ | apply Drawn0.step)⟩
/-! ### clusterlocksref04_Zero: function 28 -/
def clusterlocksref04_Zero.f (a0_0 : Int) (a0_1 : Int) : Option (Bool) := some (a0_0 == 0 && (a0_1 == 0))
set_option maxHeartbeats 8000000 in
set_option maxRecDepth 100000 in
theorem clusterlocksref04_Zero.calls (a0_0 : Int) (a0_1 : Int) (r : Bool) (w : World) (h : clusterlocksref04_Zero.f a0_0 a0_1 = some r) :
  Calls Tryd.prog 28 #[.agg #[.int .i64 a0_0, .int .i64 a0_1]] w fun e w' => e = .returned (.bool r) ∧ Below w.heap.size w w' := by
 have hu26 := Tryd.underlying26
 have HB := Aside0.mk (Below.refl w.heap.size w)
 have H : (some (a0_0 == 0 && (a0_1 == 0))) = some r := h
 clear h
 obtain rfl := Option.some.inj H
 go_enter Tryd.func28, Tryd.ntmps28
 go_wp2_with (first | ((with_reducible refine gate_dst (N := 1) rfl ?_); refine box_event ?hg (N := 1) ?hd (cs := #[.int .i64 a0_0, .int .i64 a0_1]) (t := 26) ?hr ?_; (case hd => rfl); (case hg => rfl); (case hr => first | (go_simp; done) | (go_simp; rfl)); intro gb220 hg w2 hbox hb; have BK220 := Aside0.mk hbox; have GW220 := gE HB hg; replace HB := bB HB hb; have GE220 := GW220; clear hb hbox hg; have hcz3_0 : w2.cell? ⟨gb220, 0, none⟩ = some (.int .i64 a0_0) := bC BK220 0 rfl; have hcz3_1 : w2.cell? ⟨gb220, 1, none⟩ = some (.int .i64 a0_1) := bC BK220 1 rfl; have hfz3_0 := bF BK220 0; have hfz3_1 := bF BK220 1))
 go_ret
 exact ⟨by first | rfl | (simp [errW_none, errW_some] <;> rfl) | (simp [*, errW_none, errW_some] <;> rfl), by repeat (first | (with_reducible first | exact HB.out | apply bL | apply bM | apply bR) | exact HB.out)⟩

/-! ### clusterlocksref02_Order: function 53 -/
def clusterlocksref02_Order.f (a0 : Int) (a1 : Int) : Option (Int) := if a0 < a1 then (some (-1)) else (if a0 > a1 then (some 1) else (some 0))
set_option maxHeartbeats 8000000 in
set_option maxRecDepth 100000 in
theorem clusterlocksref02_Order.calls (a0 : Int) (a1 : Int) (r : Int) (w : World) (h : clusterlocksref02_Order.f a0 a1 = some r) :
  Calls Tryd.prog 53 #[.int .i64 a0, .int .i64 a1] w fun e w' => e = .returned (.int .i64 r) ∧ Drawn0 w w' := by
 have H : (if a0 < a1 then (some (-1)) else (if a0 > a1 then (some 1) else (some 0))) = some r := h
 clear h
 by_cases c3 : a0 < a1
 ·rw [if_pos c3] at H
  have c3b0 : decide (a0 < a1) = true := decide_eq_true c3
  clear c3
  obtain rfl := Option.some.inj H
  go_enter Tryd.func53, Tryd.ntmps53
  go_wp2
  go_ret
  exact ⟨by first | rfl | (simp; done) | (simp [*]; done), by repeat (first | exact Drawn0.refl _ | apply Drawn0.step)⟩
 ·rw [if_neg c3] at H
  have c3b0 : decide (a0 < a1) = false := decide_eq_false c3
  clear c3
  by_cases c4 : a0 > a1
  ·rw [if_pos c4] at H
   have c4b0 : decide (a1 < a0) = true := decide_eq_true c4
   clear c4
   obtain rfl := Option.some.inj H
   go_enter Tryd.func53, Tryd.ntmps53
   go_wp2
   go_ret
   exact ⟨by first | rfl | (simp; done) | (simp [*]; done), by repeat (first | exact Drawn0.refl _ | apply Drawn0.step)⟩
  ·rw [if_neg c4] at H
   have c4b0 : decide (a1 < a0) = false := decide_eq_false c4
   clear c4
   obtain rfl := Option.some.inj H
   go_enter Tryd.func53, Tryd.ntmps53
   go_wp2
   go_ret
   exact ⟨by first | rfl | (simp; done) | (simp [*]; done), by repeat (first | exact Drawn0.refl _ | apply Drawn0.step)⟩
/-! ### clusterlocksref02_CompareProc: function 34 -/
def clusterlocksref02_CompareProc.f (a0_0 : Int) (a0_1 : Int) (a0_2 : Int) (a1_0 : Int) (a1_1 : Int) (a1_2 : Int) : Option (Int) := (clusterlocksref02_Order.f a0_0 a1_0).bind fun t223 => (if t223 = 0 then ((clusterlocksref02_Order.f a0_1 a1_1).bind fun t224 => (if t224 = 0 then ((clusterlocksref02_Order.f a0_2 a1_2).bind fun t225 => (some t225)) else (some t224))) else (some t223))
set_option maxHeartbeats 8000000 in
set_option maxRecDepth 100000 in
theorem clusterlocksref02_CompareProc.calls (a0_0 : Int) (a0_1 : Int) (a0_2 : Int) (a1_0 : Int) (a1_1 : Int) (a1_2 : Int) (r : Int) (w : World) (h : clusterlocksref02_CompareProc.f a0_0 a0_1 a0_2 a1_0 a1_1 a1_2 = some r) :
  Calls Tryd.prog 34 #[.agg #[.int .i64 a0_0, .int .i64 a0_1, .int .i64 a0_2], .agg #[.int .i64 a1_0, .int .i64 a1_1, .int .i64 a1_2]] w fun e w' => e = .returned (.int .i64 r) ∧ Below w.heap.size w w' := by
 have hu24 := Tryd.underlying24
 have HB := Aside0.mk (Below.refl w.heap.size w)
 have H : ((clusterlocksref02_Order.f a0_0 a1_0).bind fun t223 => (if t223 = 0 then ((clusterlocksref02_Order.f a0_1 a1_1).bind fun t224 => (if t224 = 0 then ((clusterlocksref02_Order.f a0_2 a1_2).bind fun t225 => (some t225)) else (some t224))) else (some t223))) = some r := h
 clear h
 obtain ⟨t223, A30, H⟩ := Option.bind_eq_some_iff.mp H
 have A3 := Aside0.mk A30; clear A30
 by_cases c4 : t223 = 0
 ·rw [if_pos c4] at H
  have c4b0 : (t223 == 0) = true := beq_iff_eq.mpr c4
  have c4b1 : (t223 != 0) = false := bne_eq_false_iff_eq.mpr c4
  clear c4
  obtain ⟨t224, A50, H⟩ := Option.bind_eq_some_iff.mp H
  have A5 := Aside0.mk A50; clear A50
  by_cases c6 : t224 = 0
  ·rw [if_pos c6] at H
   have c6b0 : (t224 == 0) = true := beq_iff_eq.mpr c6
   have c6b1 : (t224 != 0) = false := bne_eq_false_iff_eq.mpr c6
   clear c6
   obtain ⟨t225, A70, H⟩ := Option.bind_eq_some_iff.mp H
   have A7 := Aside0.mk A70; clear A70
   obtain rfl := Option.some.inj H
   go_enter Tryd.func34, Tryd.ntmps34
   go_wp2_with (first | ((with_reducible refine gate_dst (N := 2) rfl ?_); refine box_event ?hg (N := 2) ?hd (cs := #[.int .i64 a0_0, .int .i64 a0_1, .int .i64 a0_2]) (t := 24) ?hr ?_; (case hd => rfl); (case hg => rfl); (case hr => first | (go_simp; done) | (go_simp; rfl)); intro gb221 hg w8 hbox hb; have BK221 := Aside0.mk hbox; have GW221 := gE HB hg; replace HB := bB HB hb; have GE221 := GW221; clear hb hbox hg) | ((with_reducible refine gate_dst (N := 3) rfl ?_); refine box_event ?hg (N := 3) ?hd (cs := #[.int .i64 a1_0, .int .i64 a1_1, .int .i64 a1_2]) (t := 24) ?hr ?_; (case hd => rfl); (case hg => rfl); (case hr => first | (go_simp; done) | (go_simp; rfl)); intro gb222 hg w9 hbox hb; have BK222 := Aside0.mk hbox; have GW222 := gE HB hg; replace HB := bB HB hb; have GE222 := GW222; have NB221_222 := gN BK221 hg; replace BK221 := bK BK221 hb; have NB222_221 := Aside0.mk NB221_222.out.symm; clear hb hbox hg; have hnb10 := NB221_222.out; have hnc10 := NB222_221.out; obtain ⟨hcz11_0, hcz11_1, hcz11_2, hfz11_0, hfz11_1, hfz11_2⟩ := d3 BK221; have hcz12_0 : w9.cell? ⟨gb222, 0, none⟩ = some (.int .i64 a1_0) := bC BK222 0 rfl; have hcz12_1 : w9.cell? ⟨gb222, 1, none⟩ = some (.int .i64 a1_1) := bC BK222 1 rfl; have hcz12_2 : w9.cell? ⟨gb222, 2, none⟩ = some (.int .i64 a1_2) := bC BK222 2 rfl; have hfz12_0 := bF BK222 0; have hfz12_1 := bF BK222 1; have hfz12_2 := bF BK222 2) | ((with_reducible refine gate_callee (f := 53) rfl ?_); refine goesL_ (some 11) rfl rfl Tryd.func53 (by kernel_rfl) rfl #[.int .i64 a0_0, .int .i64 a1_0] rfl (by (try simp only [mA]); first | done | rfl) ?_; (with_reducible refine (clusterlocksref02_Order.calls a0_0 a1_0 t223 _ A3.out).mono ?_); rintro e w' ⟨rfl, ⟨nd, rfl⟩⟩; refine ⟨_, rfl, ?_⟩) | ((with_reducible refine gate_callee (f := 53) rfl ?_); refine goesL_ (some 19) rfl rfl Tryd.func53 (by kernel_rfl) rfl #[.int .i64 a0_1, .int .i64 a1_1] rfl (by (try simp only [mA]); first | done | rfl) ?_; (with_reducible refine (clusterlocksref02_Order.calls a0_1 a1_1 t224 _ A5.out).mono ?_); rintro e w' ⟨rfl, ⟨nd, rfl⟩⟩; refine ⟨_, rfl, ?_⟩) | ((with_reducible refine gate_callee (f := 53) rfl ?_); refine goesL_ (some 27) rfl rfl Tryd.func53 (by kernel_rfl) rfl #[.int .i64 a0_2, .int .i64 a1_2] rfl (by (try simp only [mA]); first | done | rfl) ?_; (with_reducible refine (clusterlocksref02_Order.calls a0_2 a1_2 t225 _ A7.out).mono ?_); rintro e w' ⟨rfl, ⟨nd, rfl⟩⟩; refine ⟨_, rfl, ?_⟩))
   go_ret
   exact ⟨by first | rfl | (simp [errW_none, errW_some] <;> rfl) | (simp [*, errW_none, errW_some] <;> rfl), by repeat (first | (with_reducible first | exact HB.out | apply bL | apply bM | apply bR) | exact HB.out)⟩
  ·rw [if_neg c6] at H
   have c6b0 : (t224 == 0) = false := beq_eq_false_iff_ne.mpr c6
   have c6b1 : (t224 != 0) = true := bne_iff_ne.mpr c6
   obtain rfl := Option.some.inj H
   go_enter Tryd.func34, Tryd.ntmps34
   go_wp2_with (first | ((with_reducible refine gate_dst (N := 2) rfl ?_); refine box_event ?hg (N := 2) ?hd (cs := #[.int .i64 a0_0, .int .i64 a0_1, .int .i64 a0_2]) (t := 24) ?hr ?_; (case hd => rfl); (case hg => rfl); (case hr => first | (go_simp; done) | (go_simp; rfl)); intro gb221 hg w13 hbox hb; have BK221 := Aside0.mk hbox; have GW221 := gE HB hg; replace HB := bB HB hb; have GE221 := GW221; clear hb hbox hg) | ((with_reducible refine gate_dst (N := 3) rfl ?_); refine box_event ?hg (N := 3) ?hd (cs := #[.int .i64 a1_0, .int .i64 a1_1, .int .i64 a1_2]) (t := 24) ?hr ?_; (case hd => rfl); (case hg => rfl); (case hr => first | (go_simp; done) | (go_simp; rfl)); intro gb222 hg w14 hbox hb; have BK222 := Aside0.mk hbox; have GW222 := gE HB hg; replace HB := bB HB hb; have GE222 := GW222; have NB221_222 := gN BK221 hg; replace BK221 := bK BK221 hb; have NB222_221 := Aside0.mk NB221_222.out.symm; clear hb hbox hg; have hnb15 := NB221_222.out; have hnc15 := NB222_221.out; obtain ⟨hcz16_0, hcz16_1, hcz16_2, hfz16_0, hfz16_1, hfz16_2⟩ := d3 BK221; have hcz17_0 : w14.cell? ⟨gb222, 0, none⟩ = some (.int .i64 a1_0) := bC BK222 0 rfl; have hcz17_1 : w14.cell? ⟨gb222, 1, none⟩ = some (.int .i64 a1_1) := bC BK222 1 rfl; have hcz17_2 : w14.cell? ⟨gb222, 2, none⟩ = some (.int .i64 a1_2) := bC BK222 2 rfl; have hfz17_0 := bF BK222 0; have hfz17_1 := bF BK222 1; have hfz17_2 := bF BK222 2) | ((with_reducible refine gate_callee (f := 53) rfl ?_); refine goesL_ (some 11) rfl rfl Tryd.func53 (by kernel_rfl) rfl #[.int .i64 a0_0, .int .i64 a1_0] rfl (by (try simp only [mA]); first | done | rfl) ?_; (with_reducible refine (clusterlocksref02_Order.calls a0_0 a1_0 t223 _ A3.out).mono ?_); rintro e w' ⟨rfl, ⟨nd, rfl⟩⟩; refine ⟨_, rfl, ?_⟩) | ((with_reducible refine gate_callee (f := 53) rfl ?_); refine goesL_ (some 19) rfl rfl Tryd.func53 (by kernel_rfl) rfl #[.int .i64 a0_1, .int .i64 a1_1] rfl (by (try simp only [mA]); first | done | rfl) ?_; (with_reducible refine (clusterlocksref02_Order.calls a0_1 a1_1 t224 _ A5.out).mono ?_); rintro e w' ⟨rfl, ⟨nd, rfl⟩⟩; refine ⟨_, rfl, ?_⟩))
   go_ret
   exact ⟨by first | rfl | (simp [errW_none, errW_some] <;> rfl) | (simp [*, errW_none, errW_some] <;> rfl), by repeat (first | (with_reducible first | exact HB.out | apply bL | apply bM | apply bR) | exact HB.out)⟩
 ·rw [if_neg c4] at H
  have c4b0 : (t223 == 0) = false := beq_eq_false_iff_ne.mpr c4
  have c4b1 : (t223 != 0) = true := bne_iff_ne.mpr c4
  obtain rfl := Option.some.inj H
  go_enter Tryd.func34, Tryd.ntmps34
  go_wp2_with (first | ((with_reducible refine gate_dst (N := 2) rfl ?_); refine box_event ?hg (N := 2) ?hd (cs := #[.int .i64 a0_0, .int .i64 a0_1, .int .i64 a0_2]) (t := 24) ?hr ?_; (case hd => rfl); (case hg => rfl); (case hr => first | (go_simp; done) | (go_simp; rfl)); intro gb221 hg w18 hbox hb; have BK221 := Aside0.mk hbox; have GW221 := gE HB hg; replace HB := bB HB hb; have GE221 := GW221; clear hb hbox hg) | ((with_reducible refine gate_dst (N := 3) rfl ?_); refine box_event ?hg (N := 3) ?hd (cs := #[.int .i64 a1_0, .int .i64 a1_1, .int .i64 a1_2]) (t := 24) ?hr ?_; (case hd => rfl); (case hg => rfl); (case hr => first | (go_simp; done) | (go_simp; rfl)); intro gb222 hg w19 hbox hb; have BK222 := Aside0.mk hbox; have GW222 := gE HB hg; replace HB := bB HB hb; have GE222 := GW222; have NB221_222 := gN BK221 hg; replace BK221 := bK BK221 hb; have NB222_221 := Aside0.mk NB221_222.out.symm; clear hb hbox hg; have hnb20 := NB221_222.out; have hnc20 := NB222_221.out; obtain ⟨hcz21_0, hcz21_1, hcz21_2, hfz21_0, hfz21_1, hfz21_2⟩ := d3 BK221; have hcz22_0 : w19.cell? ⟨gb222, 0, none⟩ = some (.int .i64 a1_0) := bC BK222 0 rfl; have hcz22_1 : w19.cell? ⟨gb222, 1, none⟩ = some (.int .i64 a1_1) := bC BK222 1 rfl; have hcz22_2 : w19.cell? ⟨gb222, 2, none⟩ = some (.int .i64 a1_2) := bC BK222 2 rfl; have hfz22_0 := bF BK222 0; have hfz22_1 := bF BK222 1; have hfz22_2 := bF BK222 2) | ((with_reducible refine gate_callee (f := 53) rfl ?_); refine goesL_ (some 11) rfl rfl Tryd.func53 (by kernel_rfl) rfl #[.int .i64 a0_0, .int .i64 a1_0] rfl (by (try simp only [mA]); first | done | rfl) ?_; (with_reducible refine (clusterlocksref02_Order.calls a0_0 a1_0 t223 _ A3.out).mono ?_); rintro e w' ⟨rfl, ⟨nd, rfl⟩⟩; refine ⟨_, rfl, ?_⟩))
  go_ret
  exact ⟨by first | rfl | (simp [errW_none, errW_some] <;> rfl) | (simp [*, errW_none, errW_some] <;> rfl), by repeat (first | (with_reducible first | exact HB.out | apply bL | apply bM | apply bR) | exact HB.out)⟩
end Go.Proofs.YtnmemkphfgdplaaDoor.PA
