-- Printed by wip/tool/myprint.py for this claim; Lean checks it.
import Derived.Test.YtnmemkphfgdplaaDoorT1
import Derived.Test.YtnmemkphfgdplaaDoorPAx0
import Derived.Test.YtnmemkphfgdplaaDoorSlim
import Derived.Test.YtnmemkphfgdplaaDoorPAx4
namespace Go.Proofs.YtnmemkphfgdplaaDoor.PA
open Go.RowKit Go.Proofs.YtnmemkphfgdplaaDoorW.PrintWords Go.Proofs.YtnmemkphfgdplaaDoorW.PrintLast Go.Proofs.YtnmemkphfgdplaaDoorW.PrintMore
attribute [local go_sem] max2_int min2_int max_two min_two max_three min_three max_four min_four   -- for this text's walks alone
set_option linter.unusedVariables false
set_option linter.unusedSimpArgs false

/-! ### amount_Compatible: function 38 -/
mutual
def amount_Compatible.l0 : Nat → List (S26) → Int → Bool → List (S26) → Int → Int → ByteArray → Int → Int → Int → Option (Bool)
 | 0, _, _, _, _, _, _, _, _, _, _ => none
 | k + 1, x1, x5, x6, x13, x14, x15, x140000, x140001, x140002, x140003 => if x15 < x14 then (if 0 ≤ x15 then (if x15 < (x13.length : Int) then ((amount_permitted.f x140000 x140001 x140002 x140003 ((rd_T26 x13 x15).f0) ((rd_T26 x13 x15).f1)).bind fun t143 => (if t143 = true then (if x15 ≤ (x1.length : Int) then ((some (x1.take (x15 : Int).toNat : List (S26))).bind fun y144 => (amount_Compatible.l1 k x1 (wrap64 (x5 + ((rd_T26 x13 x15).f1))) x6 x13 x14 x15 y144 (y144.length : Int) 0 x140000 x140001 x140002 x140003 ((rd_T26 x13 x15).f0) ((rd_T26 x13 x15).f1))) else (none)) else (some false))) else (none)) else (none)) else (if x6 = true then (if x140001 = 2 then (some (decide (x5 ≤ x140002))) else (some true)) else (some false))
def amount_Compatible.l1 : Nat → List (S26) → Int → Bool → List (S26) → Int → Int → List (S26) → Int → Int → ByteArray → Int → Int → Int → Int → Int → Option (Bool)
 | 0, _, _, _, _, _, _, _, _, _, _, _, _, _, _, _ => none
 | k + 1, x1, x5, x6, x13, x14, x15, x30, x31, x32, x140000, x140001, x140002, x140003, x143000, x143001 => if x32 < x31 then (if 0 ≤ x32 then (if x32 < (x30.length : Int) then (if x140001 = 1 then ((amount_Zero.f x143000 x143001).bind fun t150 => (if t150 = true then (amount_Compatible.l1 k x1 x5 x6 x13 x14 x15 x30 x31 (wrap64 (x32 + 1)) x140000 x140001 x140002 x140003 x143000 x143001) else ((amount_Zero.f ((rd_T26 x30 x32).f0) ((rd_T26 x30 x32).f1)).bind fun t151 => (if t151 = true then (amount_Compatible.l1 k x1 x5 x6 x13 x14 x15 x30 x31 (wrap64 (x32 + 1)) x140000 x140001 x140002 x140003 x143000 x143001) else ((mode_Compatible.f x143000 ((rd_T26 x30 x32).f0)).bind fun t152 => (if t152 = true then (amount_Compatible.l1 k x1 x5 x6 x13 x14 x15 x30 x31 (wrap64 (x32 + 1)) x140000 x140001 x140002 x140003 x143000 x143001) else (some false))))))) else (amount_Compatible.l1 k x1 x5 x6 x13 x14 x15 x30 x31 (wrap64 (x32 + 1)) x140000 x140001 x140002 x140003 x143000 x143001)) else (none)) else (none)) else (amount_Compatible.l0 k x1 x5 x6 x13 x14 (wrap64 (x15 + 1)) x140000 x140001 x140002 x140003)
end
def amount_Compatible.f (k : Nat) (a0_0 : ByteArray) (a0_1 : Int) (a0_2 : Int) (a0_3 : Int) (l1 : List (S26)) : Option (Bool) := (amount_Shaped.f a0_0 a0_1 a0_2 a0_3).bind fun t140 => (amount_Compatible.l0 k l1 0 t140 l1 (l1.length : Int) 0 a0_0 a0_1 a0_2 a0_3)
theorem amount_Compatible.mono_l : ∀ k, (∀ y0 y1 y2 y3 y4 y5 y6 y7 y8 y9, LeO (amount_Compatible.l0 k y0 y1 y2 y3 y4 y5 y6 y7 y8 y9) (amount_Compatible.l0 (k + 1) y0 y1 y2 y3 y4 y5 y6 y7 y8 y9)) ∧ (∀ y0 y1 y2 y3 y4 y5 y6 y7 y8 y9 y10 y11 y12 y13 y14, LeO (amount_Compatible.l1 k y0 y1 y2 y3 y4 y5 y6 y7 y8 y9 y10 y11 y12 y13 y14) (amount_Compatible.l1 (k + 1) y0 y1 y2 y3 y4 y5 y6 y7 y8 y9 y10 y11 y12 y13 y14))
 | 0 => ⟨fun _ _ _ _ _ _ _ _ _ _ r h => by simp [amount_Compatible.l0] at h, fun _ _ _ _ _ _ _ _ _ _ _ _ _ _ _ r h => by simp [amount_Compatible.l1] at h⟩
 | k + 1 => by
  obtain ⟨ih0, ih1⟩ := amount_Compatible.mono_l k
  refine ⟨?_, ?_⟩
  ·intro y0 y1 y2 y3 y4 y5 y6 y7 y8 y9
   unfold amount_Compatible.l0
   repeat' first
   | (with_reducible exact ih0 _ _ _ _ _ _ _ _ _ _)
   | (with_reducible exact ih1 _ _ _ _ _ _ _ _ _ _ _ _ _ _ _)
   | (with_reducible exact LeO.refl _)
   | (with_reducible exact LeO.none _)
   | (with_reducible refine LeO.ite ?_ ?_)
   | (with_reducible refine LeO.bind ?_ (fun _ => ?_))
   | exact ih0 _ _ _ _ _ _ _ _ _ _
   | exact ih1 _ _ _ _ _ _ _ _ _ _ _ _ _ _ _
   | exact LeO.none _
   | refine LeO.ite ?_ ?_
   | refine LeO.bind ?_ (fun _ => ?_)
  ·intro y0 y1 y2 y3 y4 y5 y6 y7 y8 y9 y10 y11 y12 y13 y14
   unfold amount_Compatible.l1
   repeat' first
   | (with_reducible exact ih0 _ _ _ _ _ _ _ _ _ _)
   | (with_reducible exact ih1 _ _ _ _ _ _ _ _ _ _ _ _ _ _ _)
   | (with_reducible exact LeO.refl _)
   | (with_reducible exact LeO.none _)
   | (with_reducible refine LeO.ite ?_ ?_)
   | (with_reducible refine LeO.bind ?_ (fun _ => ?_))
   | exact ih0 _ _ _ _ _ _ _ _ _ _
   | exact ih1 _ _ _ _ _ _ _ _ _ _ _ _ _ _ _
   | exact LeO.none _
   | refine LeO.ite ?_ ?_
   | refine LeO.bind ?_ (fun _ => ?_)
theorem amount_Compatible.mono : ∀ a0 a1 a2 a3 a4 k, LeO (amount_Compatible.f k a0 a1 a2 a3 a4) (amount_Compatible.f (k + 1) a0 a1 a2 a3 a4) := by
 intro a0 a1 a2 a3 a4 k
 obtain ⟨ih0, ih1⟩ := amount_Compatible.mono_l k
 unfold amount_Compatible.f
 repeat' first
   | (with_reducible exact ih0 _ _ _ _ _ _ _ _ _ _)
   | (with_reducible exact ih1 _ _ _ _ _ _ _ _ _ _ _ _ _ _ _)
   | (with_reducible exact LeO.refl _)
   | (with_reducible exact LeO.none _)
   | (with_reducible refine LeO.ite ?_ ?_)
   | (with_reducible refine LeO.bind ?_ (fun _ => ?_))
   | exact ih0 _ _ _ _ _ _ _ _ _ _
   | exact ih1 _ _ _ _ _ _ _ _ _ _ _ _ _ _ _
   | exact LeO.none _
   | refine LeO.ite ?_ ?_
   | refine LeO.bind ?_ (fun _ => ?_)
set_option maxHeartbeats 8000000 in
set_option maxRecDepth 100000 in
theorem amount_Compatible.calls (k : Nat) (a0_0 : ByteArray) (a0_1 : Int) (a0_2 : Int) (a0_3 : Int) (A1 : Option Addr) (c1 : Nat) (l1 : List (S26)) (r : Bool) (w : World) (hr1 : Kd.C k26 w A1 l1.length l1) (hc1 : l1.length ≤ c1) (hG : GL w) (h : amount_Compatible.f k a0_0 a0_1 a0_2 a0_3 l1 = some r) :
  Calls Tryd.prog 38 #[.agg #[.string a0_0, .int .i64 a0_1, .int .i64 a0_2, .int .i64 a0_3], .slice A1 l1.length c1] w fun e w' => e = .returned (.bool r) ∧ Below w.heap.size w w' := by
 have hu32 := Tryd.underlying32
 have hu26 := Tryd.underlying26
 have HG := Aside0.mk hG
 clear hG
 have HR1 := Aside0.mk hr1
 have HC1 := Aside0.mk hc1
 clear hr1 hc1
 have HB := Aside0.mk (Below.refl w.heap.size w)
 have H : ((amount_Shaped.f a0_0 a0_1 a0_2 a0_3).bind fun t140 => (amount_Compatible.l0 k l1 0 t140 l1 (l1.length : Int) 0 a0_0 a0_1 a0_2 a0_3)) = some r := h
 clear h
 obtain ⟨t140, A30, H⟩ := Option.bind_eq_some_iff.mp H
 have A3 := Aside0.mk A30; clear A30
 have H' := Aside0.mk H
 clear H
 go_enter Tryd.func38, Tryd.ntmps38
 go_wp2_with (first | ((with_reducible refine gate_dst (N := 2) rfl ?_); refine box_event ?hg (N := 2) ?hd (cs := #[.string a0_0, .int .i64 a0_1, .int .i64 a0_2, .int .i64 a0_3]) (t := 32) ?hr ?_; (case hd => rfl); (case hg => rfl); (case hr => first | (go_simp; done) | (go_simp; rfl)); intro gb139 hg w4 hbox hb; have BK139 := Aside0.mk hbox; have GW139 := gE HB hg; replace HB := bB HB hb; have GE139 := GW139; clear hb hbox hg; have hcz5_0 : w4.cell? ⟨gb139, 0, none⟩ = some (.string a0_0) := bC BK139 0 rfl; have hcz5_1 : w4.cell? ⟨gb139, 1, none⟩ = some (.int .i64 a0_1) := bC BK139 1 rfl; have hcz5_2 : w4.cell? ⟨gb139, 2, none⟩ = some (.int .i64 a0_2) := bC BK139 2 rfl; have hcz5_3 : w4.cell? ⟨gb139, 3, none⟩ = some (.int .i64 a0_3) := bC BK139 3 rfl; have hfz5_0 := bF BK139 0; have hfz5_1 := bF BK139 1; have hfz5_2 := bF BK139 2; have hfz5_3 := bF BK139 3) | ((with_reducible refine gate_callee (f := 43) rfl ?_); refine goesL_ (some 12) rfl rfl Tryd.func43 (by kernel_rfl) rfl #[.agg #[.string a0_0, .int .i64 a0_1, .int .i64 a0_2, .int .i64 a0_3]] rfl (by (try simp only [mA]); first | done | rfl) ?_; (with_reducible refine (amount_Shaped.calls a0_0 a0_1 a0_2 a0_3 t140 _ A3.out).mono ?_); rintro e w6 ⟨rfl, hb⟩; refine ⟨_, rfl, ?_⟩; replace BK139 := bK BK139 hb; replace HB := bB HB hb; (try clear hb); (try clear hk)))
 repeat (go_step3; try (go_wp2_with (first | ((with_reducible refine gate_dst (N := 2) rfl ?_); refine box_event ?hg (N := 2) ?hd (cs := #[.string a0_0, .int .i64 a0_1, .int .i64 a0_2, .int .i64 a0_3]) (t := 32) ?hr ?_; (case hd => rfl); (case hg => rfl); (case hr => first | (go_simp; done) | (go_simp; rfl)); intro gb139 hg w4 hbox hb; have BK139 := Aside0.mk hbox; have GW139 := gE HB hg; replace HB := bB HB hb; have GE139 := GW139; clear hb hbox hg; have hcz5_0 : w4.cell? ⟨gb139, 0, none⟩ = some (.string a0_0) := bC BK139 0 rfl; have hcz5_1 : w4.cell? ⟨gb139, 1, none⟩ = some (.int .i64 a0_1) := bC BK139 1 rfl; have hcz5_2 : w4.cell? ⟨gb139, 2, none⟩ = some (.int .i64 a0_2) := bC BK139 2 rfl; have hcz5_3 : w4.cell? ⟨gb139, 3, none⟩ = some (.int .i64 a0_3) := bC BK139 3 rfl; have hfz5_0 := bF BK139 0; have hfz5_1 := bF BK139 1; have hfz5_2 := bF BK139 2; have hfz5_3 := bF BK139 3) | ((with_reducible refine gate_callee (f := 43) rfl ?_); refine goesL_ (some 12) rfl rfl Tryd.func43 (by kernel_rfl) rfl #[.agg #[.string a0_0, .int .i64 a0_1, .int .i64 a0_2, .int .i64 a0_3]] rfl (by (try simp only [mA]); first | done | rfl) ?_; (with_reducible refine (amount_Shaped.calls a0_0 a0_1 a0_2 a0_3 t140 _ A3.out).mono ?_); rintro e w6 ⟨rfl, hb⟩; refine ⟨_, rfl, ?_⟩; replace BK139 := bK BK139 hb; replace HB := bB HB hb; (try clear hb); (try clear hk)))))
 go_loopg [5, 6, 15] k (fun kq v5 v6 v15 w' => ∃ (x5_1 : Int) (x6_1 : Bool) (x15_1 : Int), v5 = .int .i64 x5_1 ∧ v6 = .bool x6_1 ∧ v15 = .int .i64 x15_1 ∧ Aside0 (amount_Compatible.l0 kq l1 x5_1 x6_1 l1 (l1.length : Int) x15_1 a0_0 a0_1 a0_2 a0_3 = some r) ∧ Aside0 (kq ≤ k) ∧ Aside0 (w'.heap[gb139]? = some (.cells #[.string a0_0, .int .i64 a0_1, .int .i64 a0_2, .int .i64 a0_3] 32 (0, 0))) ∧ Aside0 (Below w.heap.size w w'))
 case atStart => exact ⟨(0), (t140), (0), (by first | rfl | (simp; done) | (simp [*]; done)), (by first | rfl | (simp; done) | (simp [*]; done)), (by first | rfl | (simp; done) | (simp [*]; done)), H', ⟨Nat.le_refl _⟩, ⟨by (with_reducible repeat first | refine bN ?_ _ | refine bD ?_ | refine bA ?_ _); exact BK139.out⟩, ⟨by repeat (first | (with_reducible first | exact HB.out | apply bL | apply bM | apply bR) | exact HB.out)⟩⟩
 case round =>
  clear H'
  try clear c1
  try clear p2
  try clear c3
  try clear p3
  try clear c4
  try clear hcz5_0
  try clear hcz5_1
  try clear hcz5_2
  try clear hcz5_3
  try clear hfz5_0
  try clear hfz5_1
  try clear hfz5_2
  try clear hfz5_3
  obtain ⟨x5_1, x6_1, x15_1, rfl, rfl, rfl, HA, HK1, BK139, HB⟩ := hrel
  cases gk with
  | zero => exact absurd HA.out (by simp [amount_Compatible.l0])
  | succ k1 =>
   have H := HA.out
   clear HA
   simp only [amount_Compatible.l0] at H
   by_cases c7 : x15_1 < (l1.length : Int)
   ·rw [if_pos c7] at H
    have c7b0 : decide (x15_1 < (l1.length : Int)) = true := decide_eq_true c7
    clear c7
    by_cases c8 : 0 ≤ x15_1
    ·rw [if_pos c8] at H
     have c8b0 : decide (0 ≤ x15_1) = true := decide_eq_true c8
     clear c8
     have HH_ := Aside0.mk H
     clear H
     have p141 : 0 ≤ (x15_1 : Int) := of_decide_eq_true (by first | (with_reducible assumption) | assumption)
     have H := HH_.out
     clear HH_
     by_cases c9 : x15_1 < (l1.length : Int)
     ·rw [if_pos c9] at H
      have c9b0 : decide (x15_1 < (l1.length : Int)) = true := decide_eq_true c9
      clear c9
      obtain ⟨t143, A100, H⟩ := Option.bind_eq_some_iff.mp H
      have A10 := Aside0.mk A100; clear A100
      have HH_ := Aside0.mk H
      clear H
      have q141 : x15_1 < (l1.length : Int) := of_decide_eq_true (by first | (with_reducible assumption) | assumption)
      obtain ⟨ad141, e141, hx141_0, hx141_1⟩ := at_T26 HR1.out x15_1 p141 q141
      cases e141
      replace hx141_0 := kC HB hx141_0
      replace hx141_1 := kC HB hx141_1
      replace p141 := eq_true p141
      replace q141 := eq_true q141
      have H := HH_.out
      clear HH_
      by_cases c11 : t143 = true
      ·subst c11
       rw [if_pos rfl] at H
       have c12b0 := eq_true (of_decide_eq_true (by first | (with_reducible assumption) | assumption) : 0 ≤ x15_1)
       by_cases c13 : x15_1 ≤ (l1.length : Int)
       ·rw [if_pos c13] at H
        have c13b0 := eq_true c13
        have c13b1 : decide (x15_1 ≤ (l1.length : Int)) = true := decide_eq_true c13
        clear c13
        obtain ⟨y144, hy144⟩ : ∃ y_ : List (S26), y_ = (l1.take (x15_1 : Int).toNat) := ⟨_, rfl⟩
        replace H : (amount_Compatible.l1 k1 l1 (wrap64 (x5_1 + ((rd_T26 l1 x15_1).f1))) x6_1 l1 (l1.length : Int) x15_1 y144 (y144.length : Int) 0 a0_0 a0_1 a0_2 a0_3 ((rd_T26 l1 x15_1).f0) ((rd_T26 l1 x15_1).f1)) = some r := by first | (rw [hy144]; with_reducible exact H) | (have H2_ := (Option.bind_some _ _).symm.trans H; rw [hy144]; with_reducible exact H2_) | (have H2_ := (Option.bind_some _ _).symm.trans H; with_reducible exact H2_) | with_reducible exact H | (rw [hy144]; exact H) | exact H
        have Ny144 := Aside0.mk hy144
        clear hy144
        have H' := Aside0.mk H
        clear H
        go_wp2_with (first | ((with_reducible refine gate_dst (N := 8) rfl ?_); refine box_event ?hg (N := 8) ?hd (cs := #[.int .i64 0, .int .i64 0]) (t := 26) ?hr ?_; (case hd => rfl); (case hg => rfl); (case hr => first | (go_simp; done) | (go_simp; rfl)); intro gb142 hg w14 hbox hb; have BK142 := Aside0.mk hbox; have GW142 := gE HB hg; replace HB := bB HB hb; have GE142 := GW142; have NB139_142 := gN BK139 hg; replace BK139 := bK BK139 hb; have NB142_139 := Aside0.mk NB139_142.out.symm; clear hb hbox hg; have hnb15 := NB142_139.out; have hnc15 := NB139_142.out; obtain ⟨hcz16_0, hcz16_1, hfz16_0, hfz16_1⟩ := d2 BK142; have hcz17_0 : w14.cell? ⟨gb139, 0, none⟩ = some (.string a0_0) := bC BK139 0 rfl; have hcz17_1 : w14.cell? ⟨gb139, 1, none⟩ = some (.int .i64 a0_1) := bC BK139 1 rfl; have hcz17_2 : w14.cell? ⟨gb139, 2, none⟩ = some (.int .i64 a0_2) := bC BK139 2 rfl; have hcz17_3 : w14.cell? ⟨gb139, 3, none⟩ = some (.int .i64 a0_3) := bC BK139 3 rfl; have hfz17_0 := bF BK139 0; have hfz17_1 := bF BK139 1; have hfz17_2 := bF BK139 2; have hfz17_3 := bF BK139 3) | ((with_reducible refine gate_callee (f := 55) rfl ?_); refine goesL_ (some 22) rfl rfl Tryd.func55 (by kernel_rfl) rfl #[.agg #[.string a0_0, .int .i64 a0_1, .int .i64 a0_2, .int .i64 a0_3], .agg #[.int .i64 ((rd_T26 l1 x15_1).f0), .int .i64 ((rd_T26 l1 x15_1).f1)]] rfl (by (try simp only [mA]); first | done | rfl) ?_; (with_reducible refine (amount_permitted.calls a0_0 a0_1 a0_2 a0_3 ((rd_T26 l1 x15_1).f0) ((rd_T26 l1 x15_1).f1) true _ A10.out).mono ?_); rintro e w18 ⟨rfl, hb⟩; refine ⟨_, rfl, ?_⟩; replace BK139 := Aside0.mk (blk_below (g := gb139) (o := .cells #[.string a0_0, .int .i64 a0_1, .int .i64 a0_2, .int .i64 a0_3] 32 (0, 0)) (by (with_reducible repeat first | refine bN ?_ _ | refine bD ?_ | refine bA ?_ _); refine blk_far ?_ NB139_142.out _; (with_reducible repeat first | refine bN ?_ _ | refine bD ?_ | refine bA ?_ _); refine blk_far ?_ NB139_142.out _; (with_reducible repeat first | refine bN ?_ _ | refine bD ?_ | refine bA ?_ _); exact BK139.out) hb); replace BK142 := Aside0.mk (blk_below (g := gb142) (o := .cells #[.int .i64 ((rd_T26 l1 x15_1).f0), .int .i64 ((rd_T26 l1 x15_1).f1)] 26 (0, 0)) (by (with_reducible repeat first | refine bN ?_ _ | refine bD ?_ | refine bA ?_ _); refine blk_put (cs := #[.int .i64 ((rd_T26 l1 x15_1).f0), .int .i64 0]) ?_ 1 _ rfl; (with_reducible repeat first | refine bN ?_ _ | refine bD ?_ | refine bA ?_ _); refine blk_put (cs := #[.int .i64 0, .int .i64 0]) ?_ 0 _ rfl; (with_reducible repeat first | refine bN ?_ _ | refine bD ?_ | refine bA ?_ _); exact BK142.out) hb); replace HB := Aside0.mk (below_step (by repeat (first | (with_reducible first | exact HB.out | apply bL | apply bM | apply bR | refine bS ?_ GE142.out) | exact HB.out)) hb); (try clear hb); (try clear hk); obtain ⟨hcz19_0, hcz19_1, hfz19_0, hfz19_1⟩ := d2 BK142; have q20 : (x15_1 : Int) ≤ ((l1.length : Int) : Int) := of_decide_eq_true (by first | (with_reducible assumption) | assumption); obtain ⟨i020, hi020, _, hsz20, _⟩ := info_parts info26; have hroom20 : l1.length ≤ c1 := HC1.out; have hC20 : Kd.C k26 _ (some ad141) l1.length l1 := HR1.out; have hcut20 := cut_to (P := Tryd.prog) 59 26 .i64 Tryd.underlying59 hi020 (some ad141) l1.length c1 x15_1 (of_decide_eq_true (by first | (with_reducible assumption) | assumption)) q20 hroom20; have hr20 := Kd.C_take (m := (x15_1 : Int).toNat) hC20 (by omega); have hy20 : y144.length = (x15_1 : Int).toNat := (by rw [Ny144.out, List.length_take]; omega); rw [← Ny144.out] at hr20; rw [← hy20] at hcut20; have HR147 := Aside0.mk hr20; have HC147 := Aside0.mk (show y144.length ≤ c1 from by omega); clear hr20 hC20 hroom20 hi020 hsz20; have KY20 := Aside0.mk hy20; clear hy20; replace q20 := eq_true q20))
        repeat (go_step3; try (go_wp2_with (first | ((with_reducible refine gate_dst (N := 8) rfl ?_); refine box_event ?hg (N := 8) ?hd (cs := #[.int .i64 0, .int .i64 0]) (t := 26) ?hr ?_; (case hd => rfl); (case hg => rfl); (case hr => first | (go_simp; done) | (go_simp; rfl)); intro gb142 hg w14 hbox hb; have BK142 := Aside0.mk hbox; have GW142 := gE HB hg; replace HB := bB HB hb; have GE142 := GW142; have NB139_142 := gN BK139 hg; replace BK139 := bK BK139 hb; have NB142_139 := Aside0.mk NB139_142.out.symm; clear hb hbox hg; have hnb15 := NB142_139.out; have hnc15 := NB139_142.out; obtain ⟨hcz16_0, hcz16_1, hfz16_0, hfz16_1⟩ := d2 BK142; have hcz17_0 : w14.cell? ⟨gb139, 0, none⟩ = some (.string a0_0) := bC BK139 0 rfl; have hcz17_1 : w14.cell? ⟨gb139, 1, none⟩ = some (.int .i64 a0_1) := bC BK139 1 rfl; have hcz17_2 : w14.cell? ⟨gb139, 2, none⟩ = some (.int .i64 a0_2) := bC BK139 2 rfl; have hcz17_3 : w14.cell? ⟨gb139, 3, none⟩ = some (.int .i64 a0_3) := bC BK139 3 rfl; have hfz17_0 := bF BK139 0; have hfz17_1 := bF BK139 1; have hfz17_2 := bF BK139 2; have hfz17_3 := bF BK139 3) | ((with_reducible refine gate_callee (f := 55) rfl ?_); refine goesL_ (some 22) rfl rfl Tryd.func55 (by kernel_rfl) rfl #[.agg #[.string a0_0, .int .i64 a0_1, .int .i64 a0_2, .int .i64 a0_3], .agg #[.int .i64 ((rd_T26 l1 x15_1).f0), .int .i64 ((rd_T26 l1 x15_1).f1)]] rfl (by (try simp only [mA]); first | done | rfl) ?_; (with_reducible refine (amount_permitted.calls a0_0 a0_1 a0_2 a0_3 ((rd_T26 l1 x15_1).f0) ((rd_T26 l1 x15_1).f1) true _ A10.out).mono ?_); rintro e w18 ⟨rfl, hb⟩; refine ⟨_, rfl, ?_⟩; replace BK139 := Aside0.mk (blk_below (g := gb139) (o := .cells #[.string a0_0, .int .i64 a0_1, .int .i64 a0_2, .int .i64 a0_3] 32 (0, 0)) (by (with_reducible repeat first | refine bN ?_ _ | refine bD ?_ | refine bA ?_ _); refine blk_far ?_ NB139_142.out _; (with_reducible repeat first | refine bN ?_ _ | refine bD ?_ | refine bA ?_ _); refine blk_far ?_ NB139_142.out _; (with_reducible repeat first | refine bN ?_ _ | refine bD ?_ | refine bA ?_ _); exact BK139.out) hb); replace BK142 := Aside0.mk (blk_below (g := gb142) (o := .cells #[.int .i64 ((rd_T26 l1 x15_1).f0), .int .i64 ((rd_T26 l1 x15_1).f1)] 26 (0, 0)) (by (with_reducible repeat first | refine bN ?_ _ | refine bD ?_ | refine bA ?_ _); refine blk_put (cs := #[.int .i64 ((rd_T26 l1 x15_1).f0), .int .i64 0]) ?_ 1 _ rfl; (with_reducible repeat first | refine bN ?_ _ | refine bD ?_ | refine bA ?_ _); refine blk_put (cs := #[.int .i64 0, .int .i64 0]) ?_ 0 _ rfl; (with_reducible repeat first | refine bN ?_ _ | refine bD ?_ | refine bA ?_ _); exact BK142.out) hb); replace HB := Aside0.mk (below_step (by repeat (first | (with_reducible first | exact HB.out | apply bL | apply bM | apply bR | refine bS ?_ GE142.out) | exact HB.out)) hb); (try clear hb); (try clear hk); obtain ⟨hcz19_0, hcz19_1, hfz19_0, hfz19_1⟩ := d2 BK142; have q20 : (x15_1 : Int) ≤ ((l1.length : Int) : Int) := of_decide_eq_true (by first | (with_reducible assumption) | assumption); obtain ⟨i020, hi020, _, hsz20, _⟩ := info_parts info26; have hroom20 : l1.length ≤ c1 := HC1.out; have hC20 : Kd.C k26 _ (some ad141) l1.length l1 := HR1.out; have hcut20 := cut_to (P := Tryd.prog) 59 26 .i64 Tryd.underlying59 hi020 (some ad141) l1.length c1 x15_1 (of_decide_eq_true (by first | (with_reducible assumption) | assumption)) q20 hroom20; have hr20 := Kd.C_take (m := (x15_1 : Int).toNat) hC20 (by omega); have hy20 : y144.length = (x15_1 : Int).toNat := (by rw [Ny144.out, List.length_take]; omega); rw [← Ny144.out] at hr20; rw [← hy20] at hcut20; have HR147 := Aside0.mk hr20; have HC147 := Aside0.mk (show y144.length ≤ c1 from by omega); clear hr20 hC20 hroom20 hi020 hsz20; have KY20 := Aside0.mk hy20; clear hy20; replace q20 := eq_true q20))))
        go_loopg [6, 32] k1 (fun kq v6 v32 w' => ∃ (x6_2 : Bool) (x32_2 : Int), v6 = .bool x6_2 ∧ v32 = .int .i64 x32_2 ∧ Aside0 (amount_Compatible.l1 kq l1 (wrap64 (x5_1 + ((rd_T26 l1 x15_1).f1))) x6_2 l1 (l1.length : Int) x15_1 y144 (y144.length : Int) x32_2 a0_0 a0_1 a0_2 a0_3 ((rd_T26 l1 x15_1).f0) ((rd_T26 l1 x15_1).f1) = some r) ∧ Aside0 (kq ≤ k1) ∧ Aside0 (w'.heap[gb139]? = some (.cells #[.string a0_0, .int .i64 a0_1, .int .i64 a0_2, .int .i64 a0_3] 32 (0, 0))) ∧ Aside0 (w'.heap[gb142]? = some (.cells #[.int .i64 ((rd_T26 l1 x15_1).f0), .int .i64 ((rd_T26 l1 x15_1).f1)] 26 (0, 0))) ∧ Aside0 (Below w.heap.size w w'))
        case atStart => exact ⟨(x6_1), (0), (by first | rfl | (simp; done) | (simp [*]; done)), (by first | rfl | (simp; done) | (simp [*]; done)), H', ⟨Nat.le_refl _⟩, ⟨by (with_reducible repeat first | refine bN ?_ _ | refine bD ?_ | refine bA ?_ _); exact BK139.out⟩, ⟨by (with_reducible repeat first | refine bN ?_ _ | refine bD ?_ | refine bA ?_ _); exact BK142.out⟩, ⟨by repeat (first | (with_reducible first | exact HB.out | apply bL | apply bM | apply bR | refine bS ?_ GE142.out) | exact HB.out)⟩⟩
        case round =>
         clear H'
         try clear c1
         try clear p1
         try clear q1
         try clear hx1
         try clear p2
         try clear q2
         try clear c3
         try clear p3
         try clear c4
         try clear c5
         try clear p6
         try clear c7
         try clear c7b0
         try clear c8
         try clear c8b0
         try clear c9
         try clear c9b0
         try clear c11
         try clear c12
         try clear c12b0
         try clear c13
         try clear c13b0
         try clear c13b1
         try clear p14
         try clear q14
         try clear hx14
         try clear c15
         try clear q20
         try clear hcz16_0
         try clear hcz16_1
         try clear hcz17_0
         try clear hcz17_1
         try clear hcz17_2
         try clear hcz17_3
         try clear hcz19_0
         try clear hcz19_1
         try clear hcz5_0
         try clear hcz5_1
         try clear hcz5_2
         try clear hcz5_3
         try clear hfz16_0
         try clear hfz16_1
         try clear hfz17_0
         try clear hfz17_1
         try clear hfz17_2
         try clear hfz17_3
         try clear hfz19_0
         try clear hfz19_1
         try clear hfz5_0
         try clear hfz5_1
         try clear hfz5_2
         try clear hfz5_3
         try clear hx141_0
         try clear hx141_1
         try clear p141
         try clear p2
         try clear p3
         try clear q141
         try clear q20
         obtain ⟨x6_2, x32_2, rfl, rfl, HA, HK2, BK139, BK142, HB⟩ := hrel
         cases gk with
         | zero => exact absurd HA.out (by simp [amount_Compatible.l1])
         | succ k2 =>
          have H := HA.out
          clear HA
          simp only [amount_Compatible.l1] at H
          by_cases c21 : x32_2 < (y144.length : Int)
          ·rw [if_pos c21] at H
           have c21b0 : decide (x32_2 < (y144.length : Int)) = true := decide_eq_true c21
           clear c21
           by_cases c22 : 0 ≤ x32_2
           ·rw [if_pos c22] at H
            have c22b0 : decide (0 ≤ x32_2) = true := decide_eq_true c22
            clear c22
            have HH_ := Aside0.mk H
            clear H
            have p148 : 0 ≤ (x32_2 : Int) := of_decide_eq_true (by first | (with_reducible assumption) | assumption)
            have H := HH_.out
            clear HH_
            by_cases c23 : x32_2 < (y144.length : Int)
            ·rw [if_pos c23] at H
             have c23b0 : decide (x32_2 < (y144.length : Int)) = true := decide_eq_true c23
             clear c23
             have HH_ := Aside0.mk H
             clear H
             have q148 : x32_2 < (y144.length : Int) := of_decide_eq_true (by first | (with_reducible assumption) | assumption)
             obtain ⟨ad148, e148, hx148_0, hx148_1⟩ := at_T26 HR147.out x32_2 p148 q148
             obtain rfl : ad141 = ad148 := (by injection e148)
             replace hx148_0 := kC HB hx148_0
             replace hx148_1 := kC HB hx148_1
             replace p148 := eq_true p148
             replace q148 := eq_true q148
             have H := HH_.out
             clear HH_
             by_cases c24 : a0_1 = 1
             ·rw [if_pos c24] at H
              have c24b0 : (a0_1 == 1) = true := beq_iff_eq.mpr c24
              have c24b1 : (a0_1 != 1) = false := bne_eq_false_iff_eq.mpr c24
              clear c24
              obtain ⟨t150, A250, H⟩ := Option.bind_eq_some_iff.mp H
              have A25 := Aside0.mk A250; clear A250
              (try simp only [c24b0, c24b1])
              by_cases c26 : t150 = true
              ·subst c26
               rw [if_pos rfl] at H
               have H' := Aside0.mk H
               clear H
               go_wp2_with (first | ((with_reducible refine gate_dst (N := 10) rfl ?_); refine box_event ?hg (N := 10) ?hd (cs := #[.int .i64 0, .int .i64 0]) (t := 26) ?hr ?_; (case hd => rfl); (case hg => rfl); (case hr => first | (go_simp; done) | (go_simp; rfl)); intro gb149 hg w27 hbox hb; have BK149 := Aside0.mk hbox; have GW149 := Aside0.mk ((by rw [hg]; exact (below_size (by repeat (first | (with_reducible first | exact HB.out | apply bL | apply bM | apply bR | refine bS ?_ GE142.out) | exact HB.out))) : w.heap.size ≤ gb149)); replace HB := Aside0.mk (below_step (by repeat (first | (with_reducible first | exact HB.out | apply bL | apply bM | apply bR | refine bS ?_ GE142.out) | exact HB.out)) hb); have GE149 := GW149; have NB139_149 := gN BK139 hg; replace BK139 := bK BK139 hb; have NB149_139 := Aside0.mk NB139_149.out.symm; have NB142_149 := gN BK142 hg; replace BK142 := bK BK142 hb; have NB149_142 := Aside0.mk NB142_149.out.symm; clear hb hbox hg; have hnb28 := NB149_139.out; have hnc28 := NB139_149.out; have hnb29 := NB149_142.out; have hnc29 := NB142_149.out; obtain ⟨hcz30_0, hcz30_1, hfz30_0, hfz30_1⟩ := d2 BK149; have hnb31 := NB139_142.out; have hnc31 := NB142_139.out; obtain ⟨hcz32_0, hcz32_1, hcz32_2, hcz32_3, hfz32_0, hfz32_1, hfz32_2, hfz32_3⟩ := d4 BK139; have hcz33_0 : w27.cell? ⟨gb142, 0, none⟩ = some (.int .i64 ((rd_T26 l1 x15_1).f0)) := bC BK142 0 rfl; have hcz33_1 : w27.cell? ⟨gb142, 1, none⟩ = some (.int .i64 ((rd_T26 l1 x15_1).f1)) := bC BK142 1 rfl; have hfz33_0 := bF BK142 0; have hfz33_1 := bF BK142 1) | (go_at_call 32; (with_reducible refine (amount_Zero.calls ((rd_T26 l1 x15_1).f0) ((rd_T26 l1 x15_1).f1) true _ A25.out).mono ?_); rintro e w34 ⟨rfl, hb⟩; replace BK139 := Aside0.mk (blk_below (g := gb139) (o := .cells #[.string a0_0, .int .i64 a0_1, .int .i64 a0_2, .int .i64 a0_3] 32 (0, 0)) (by (with_reducible repeat first | refine bN ?_ _ | refine bD ?_ | refine bA ?_ _); refine blk_far ?_ NB139_149.out _; (with_reducible repeat first | refine bN ?_ _ | refine bD ?_ | refine bA ?_ _); refine blk_far ?_ NB139_149.out _; (with_reducible repeat first | refine bN ?_ _ | refine bD ?_ | refine bA ?_ _); exact BK139.out) hb); replace BK142 := Aside0.mk (blk_below (g := gb142) (o := .cells #[.int .i64 ((rd_T26 l1 x15_1).f0), .int .i64 ((rd_T26 l1 x15_1).f1)] 26 (0, 0)) (by (with_reducible repeat first | refine bN ?_ _ | refine bD ?_ | refine bA ?_ _); refine blk_far ?_ NB142_149.out _; (with_reducible repeat first | refine bN ?_ _ | refine bD ?_ | refine bA ?_ _); refine blk_far ?_ NB142_149.out _; (with_reducible repeat first | refine bN ?_ _ | refine bD ?_ | refine bA ?_ _); exact BK142.out) hb); replace BK149 := Aside0.mk (blk_below (g := gb149) (o := .cells #[.int .i64 ((rd_T26 y144 x32_2).f0), .int .i64 ((rd_T26 y144 x32_2).f1)] 26 (0, 0)) (by (with_reducible repeat first | refine bN ?_ _ | refine bD ?_ | refine bA ?_ _); refine blk_put (cs := #[.int .i64 ((rd_T26 y144 x32_2).f0), .int .i64 0]) ?_ 1 _ rfl; (with_reducible repeat first | refine bN ?_ _ | refine bD ?_ | refine bA ?_ _); refine blk_put (cs := #[.int .i64 0, .int .i64 0]) ?_ 0 _ rfl; (with_reducible repeat first | refine bN ?_ _ | refine bD ?_ | refine bA ?_ _); exact BK149.out) hb); replace HB := Aside0.mk (below_step (by repeat (first | (with_reducible first | exact HB.out | apply bL | apply bM | apply bR | refine bS ?_ GE142.out | refine bS ?_ GE149.out) | exact HB.out)) hb); (try clear hb); (try clear hk)))
               repeat (go_step3; try (go_wp2_with (first | ((with_reducible refine gate_dst (N := 10) rfl ?_); refine box_event ?hg (N := 10) ?hd (cs := #[.int .i64 0, .int .i64 0]) (t := 26) ?hr ?_; (case hd => rfl); (case hg => rfl); (case hr => first | (go_simp; done) | (go_simp; rfl)); intro gb149 hg w27 hbox hb; have BK149 := Aside0.mk hbox; have GW149 := Aside0.mk ((by rw [hg]; exact (below_size (by repeat (first | (with_reducible first | exact HB.out | apply bL | apply bM | apply bR | refine bS ?_ GE142.out) | exact HB.out))) : w.heap.size ≤ gb149)); replace HB := Aside0.mk (below_step (by repeat (first | (with_reducible first | exact HB.out | apply bL | apply bM | apply bR | refine bS ?_ GE142.out) | exact HB.out)) hb); have GE149 := GW149; have NB139_149 := gN BK139 hg; replace BK139 := bK BK139 hb; have NB149_139 := Aside0.mk NB139_149.out.symm; have NB142_149 := gN BK142 hg; replace BK142 := bK BK142 hb; have NB149_142 := Aside0.mk NB142_149.out.symm; clear hb hbox hg; have hnb28 := NB149_139.out; have hnc28 := NB139_149.out; have hnb29 := NB149_142.out; have hnc29 := NB142_149.out; obtain ⟨hcz30_0, hcz30_1, hfz30_0, hfz30_1⟩ := d2 BK149; have hnb31 := NB139_142.out; have hnc31 := NB142_139.out; obtain ⟨hcz32_0, hcz32_1, hcz32_2, hcz32_3, hfz32_0, hfz32_1, hfz32_2, hfz32_3⟩ := d4 BK139; have hcz33_0 : w27.cell? ⟨gb142, 0, none⟩ = some (.int .i64 ((rd_T26 l1 x15_1).f0)) := bC BK142 0 rfl; have hcz33_1 : w27.cell? ⟨gb142, 1, none⟩ = some (.int .i64 ((rd_T26 l1 x15_1).f1)) := bC BK142 1 rfl; have hfz33_0 := bF BK142 0; have hfz33_1 := bF BK142 1) | (go_at_call 32; (with_reducible refine (amount_Zero.calls ((rd_T26 l1 x15_1).f0) ((rd_T26 l1 x15_1).f1) true _ A25.out).mono ?_); rintro e w34 ⟨rfl, hb⟩; replace BK139 := Aside0.mk (blk_below (g := gb139) (o := .cells #[.string a0_0, .int .i64 a0_1, .int .i64 a0_2, .int .i64 a0_3] 32 (0, 0)) (by (with_reducible repeat first | refine bN ?_ _ | refine bD ?_ | refine bA ?_ _); refine blk_far ?_ NB139_149.out _; (with_reducible repeat first | refine bN ?_ _ | refine bD ?_ | refine bA ?_ _); refine blk_far ?_ NB139_149.out _; (with_reducible repeat first | refine bN ?_ _ | refine bD ?_ | refine bA ?_ _); exact BK139.out) hb); replace BK142 := Aside0.mk (blk_below (g := gb142) (o := .cells #[.int .i64 ((rd_T26 l1 x15_1).f0), .int .i64 ((rd_T26 l1 x15_1).f1)] 26 (0, 0)) (by (with_reducible repeat first | refine bN ?_ _ | refine bD ?_ | refine bA ?_ _); refine blk_far ?_ NB142_149.out _; (with_reducible repeat first | refine bN ?_ _ | refine bD ?_ | refine bA ?_ _); refine blk_far ?_ NB142_149.out _; (with_reducible repeat first | refine bN ?_ _ | refine bD ?_ | refine bA ?_ _); exact BK142.out) hb); replace BK149 := Aside0.mk (blk_below (g := gb149) (o := .cells #[.int .i64 ((rd_T26 y144 x32_2).f0), .int .i64 ((rd_T26 y144 x32_2).f1)] 26 (0, 0)) (by (with_reducible repeat first | refine bN ?_ _ | refine bD ?_ | refine bA ?_ _); refine blk_put (cs := #[.int .i64 ((rd_T26 y144 x32_2).f0), .int .i64 0]) ?_ 1 _ rfl; (with_reducible repeat first | refine bN ?_ _ | refine bD ?_ | refine bA ?_ _); refine blk_put (cs := #[.int .i64 0, .int .i64 0]) ?_ 0 _ rfl; (with_reducible repeat first | refine bN ?_ _ | refine bD ?_ | refine bA ?_ _); exact BK149.out) hb); replace HB := Aside0.mk (below_step (by repeat (first | (with_reducible first | exact HB.out | apply bL | apply bM | apply bR | refine bS ?_ GE142.out | refine bS ?_ GE149.out) | exact HB.out)) hb); (try clear hb); (try clear hk)))))
               go_roundg k2
               case measure => have := HK1.out; have := HK2.out; omega
               case rel => exact ⟨(x6_2), (wrap64 (x32_2 + 1)), (by first | rfl | (simp; done) | (simp [*]; done)), (by first | rfl | (simp; done) | (simp [*]; done)), H', ⟨by have := HK1.out; have := HK2.out; omega⟩, ⟨by (with_reducible repeat first | refine bN ?_ _ | refine bD ?_ | refine bA ?_ _); exact BK139.out⟩, ⟨by (with_reducible repeat first | refine bN ?_ _ | refine bD ?_ | refine bA ?_ _); exact BK142.out⟩, ⟨by repeat (first | (with_reducible first | exact HB.out | apply bL | apply bM | apply bR | refine bS ?_ GE142.out | refine bS ?_ GE149.out) | exact HB.out)⟩⟩
              ·replace c26 := Bool.eq_false_iff.mpr c26
               subst c26
               rw [if_neg (show ¬ (false = true) by decide)] at H
               obtain ⟨t151, A350, H⟩ := Option.bind_eq_some_iff.mp H
               have A35 := Aside0.mk A350; clear A350
               by_cases c36 : t151 = true
               ·subst c36
                rw [if_pos rfl] at H
                have H' := Aside0.mk H
                clear H
                go_wp2_with (first | ((with_reducible refine gate_dst (N := 10) rfl ?_); refine box_event ?hg (N := 10) ?hd (cs := #[.int .i64 0, .int .i64 0]) (t := 26) ?hr ?_; (case hd => rfl); (case hg => rfl); (case hr => first | (go_simp; done) | (go_simp; rfl)); intro gb149 hg w37 hbox hb; have BK149 := Aside0.mk hbox; have GW149 := Aside0.mk ((by rw [hg]; exact (below_size (by repeat (first | (with_reducible first | exact HB.out | apply bL | apply bM | apply bR | refine bS ?_ GE142.out) | exact HB.out))) : w.heap.size ≤ gb149)); replace HB := Aside0.mk (below_step (by repeat (first | (with_reducible first | exact HB.out | apply bL | apply bM | apply bR | refine bS ?_ GE142.out) | exact HB.out)) hb); have GE149 := GW149; have NB139_149 := gN BK139 hg; replace BK139 := bK BK139 hb; have NB149_139 := Aside0.mk NB139_149.out.symm; have NB142_149 := gN BK142 hg; replace BK142 := bK BK142 hb; have NB149_142 := Aside0.mk NB142_149.out.symm; clear hb hbox hg; have hnb38 := NB149_139.out; have hnc38 := NB139_149.out; have hnb39 := NB149_142.out; have hnc39 := NB142_149.out; obtain ⟨hcz40_0, hcz40_1, hfz40_0, hfz40_1⟩ := d2 BK149; have hnb41 := NB139_142.out; have hnc41 := NB142_139.out; obtain ⟨hcz42_0, hcz42_1, hcz42_2, hcz42_3, hfz42_0, hfz42_1, hfz42_2, hfz42_3⟩ := d4 BK139; have hcz43_0 : w37.cell? ⟨gb142, 0, none⟩ = some (.int .i64 ((rd_T26 l1 x15_1).f0)) := bC BK142 0 rfl; have hcz43_1 : w37.cell? ⟨gb142, 1, none⟩ = some (.int .i64 ((rd_T26 l1 x15_1).f1)) := bC BK142 1 rfl; have hfz43_0 := bF BK142 0; have hfz43_1 := bF BK142 1) | (go_at_call 32; (with_reducible refine (amount_Zero.calls ((rd_T26 l1 x15_1).f0) ((rd_T26 l1 x15_1).f1) false _ A25.out).mono ?_); rintro e w44 ⟨rfl, hb⟩; replace BK139 := Aside0.mk (blk_below (g := gb139) (o := .cells #[.string a0_0, .int .i64 a0_1, .int .i64 a0_2, .int .i64 a0_3] 32 (0, 0)) (by (with_reducible repeat first | refine bN ?_ _ | refine bD ?_ | refine bA ?_ _); refine blk_far ?_ NB139_149.out _; (with_reducible repeat first | refine bN ?_ _ | refine bD ?_ | refine bA ?_ _); refine blk_far ?_ NB139_149.out _; (with_reducible repeat first | refine bN ?_ _ | refine bD ?_ | refine bA ?_ _); exact BK139.out) hb); replace BK142 := Aside0.mk (blk_below (g := gb142) (o := .cells #[.int .i64 ((rd_T26 l1 x15_1).f0), .int .i64 ((rd_T26 l1 x15_1).f1)] 26 (0, 0)) (by (with_reducible repeat first | refine bN ?_ _ | refine bD ?_ | refine bA ?_ _); refine blk_far ?_ NB142_149.out _; (with_reducible repeat first | refine bN ?_ _ | refine bD ?_ | refine bA ?_ _); refine blk_far ?_ NB142_149.out _; (with_reducible repeat first | refine bN ?_ _ | refine bD ?_ | refine bA ?_ _); exact BK142.out) hb); replace BK149 := Aside0.mk (blk_below (g := gb149) (o := .cells #[.int .i64 ((rd_T26 y144 x32_2).f0), .int .i64 ((rd_T26 y144 x32_2).f1)] 26 (0, 0)) (by (with_reducible repeat first | refine bN ?_ _ | refine bD ?_ | refine bA ?_ _); refine blk_put (cs := #[.int .i64 ((rd_T26 y144 x32_2).f0), .int .i64 0]) ?_ 1 _ rfl; (with_reducible repeat first | refine bN ?_ _ | refine bD ?_ | refine bA ?_ _); refine blk_put (cs := #[.int .i64 0, .int .i64 0]) ?_ 0 _ rfl; (with_reducible repeat first | refine bN ?_ _ | refine bD ?_ | refine bA ?_ _); exact BK149.out) hb); replace HB := Aside0.mk (below_step (by repeat (first | (with_reducible first | exact HB.out | apply bL | apply bM | apply bR | refine bS ?_ GE142.out | refine bS ?_ GE149.out) | exact HB.out)) hb); (try clear hb); (try clear hk); have hcz45_0 : w44.cell? ⟨gb149, 0, none⟩ = some (.int .i64 ((rd_T26 y144 x32_2).f0)) := bC BK149 0 rfl; have hcz45_1 : w44.cell? ⟨gb149, 1, none⟩ = some (.int .i64 ((rd_T26 y144 x32_2).f1)) := bC BK149 1 rfl; have hfz45_0 := bF BK149 0; have hfz45_1 := bF BK149 1) | (go_at_call 32; (with_reducible refine (amount_Zero.calls ((rd_T26 y144 x32_2).f0) ((rd_T26 y144 x32_2).f1) true _ A35.out).mono ?_); rintro e w46 ⟨rfl, hb⟩; replace BK139 := bK BK139 hb; replace BK142 := bK BK142 hb; replace BK149 := bK BK149 hb; replace HB := Aside0.mk (below_step (by repeat (first | (with_reducible first | exact HB.out | apply bL | apply bM | apply bR | refine bS ?_ GE142.out | refine bS ?_ GE149.out) | exact HB.out)) hb); (try clear hb); (try clear hk)))
                repeat (go_step3; try (go_wp2_with (first | ((with_reducible refine gate_dst (N := 10) rfl ?_); refine box_event ?hg (N := 10) ?hd (cs := #[.int .i64 0, .int .i64 0]) (t := 26) ?hr ?_; (case hd => rfl); (case hg => rfl); (case hr => first | (go_simp; done) | (go_simp; rfl)); intro gb149 hg w37 hbox hb; have BK149 := Aside0.mk hbox; have GW149 := Aside0.mk ((by rw [hg]; exact (below_size (by repeat (first | (with_reducible first | exact HB.out | apply bL | apply bM | apply bR | refine bS ?_ GE142.out) | exact HB.out))) : w.heap.size ≤ gb149)); replace HB := Aside0.mk (below_step (by repeat (first | (with_reducible first | exact HB.out | apply bL | apply bM | apply bR | refine bS ?_ GE142.out) | exact HB.out)) hb); have GE149 := GW149; have NB139_149 := gN BK139 hg; replace BK139 := bK BK139 hb; have NB149_139 := Aside0.mk NB139_149.out.symm; have NB142_149 := gN BK142 hg; replace BK142 := bK BK142 hb; have NB149_142 := Aside0.mk NB142_149.out.symm; clear hb hbox hg; have hnb38 := NB149_139.out; have hnc38 := NB139_149.out; have hnb39 := NB149_142.out; have hnc39 := NB142_149.out; obtain ⟨hcz40_0, hcz40_1, hfz40_0, hfz40_1⟩ := d2 BK149; have hnb41 := NB139_142.out; have hnc41 := NB142_139.out; obtain ⟨hcz42_0, hcz42_1, hcz42_2, hcz42_3, hfz42_0, hfz42_1, hfz42_2, hfz42_3⟩ := d4 BK139; have hcz43_0 : w37.cell? ⟨gb142, 0, none⟩ = some (.int .i64 ((rd_T26 l1 x15_1).f0)) := bC BK142 0 rfl; have hcz43_1 : w37.cell? ⟨gb142, 1, none⟩ = some (.int .i64 ((rd_T26 l1 x15_1).f1)) := bC BK142 1 rfl; have hfz43_0 := bF BK142 0; have hfz43_1 := bF BK142 1) | (go_at_call 32; (with_reducible refine (amount_Zero.calls ((rd_T26 l1 x15_1).f0) ((rd_T26 l1 x15_1).f1) false _ A25.out).mono ?_); rintro e w44 ⟨rfl, hb⟩; replace BK139 := Aside0.mk (blk_below (g := gb139) (o := .cells #[.string a0_0, .int .i64 a0_1, .int .i64 a0_2, .int .i64 a0_3] 32 (0, 0)) (by (with_reducible repeat first | refine bN ?_ _ | refine bD ?_ | refine bA ?_ _); refine blk_far ?_ NB139_149.out _; (with_reducible repeat first | refine bN ?_ _ | refine bD ?_ | refine bA ?_ _); refine blk_far ?_ NB139_149.out _; (with_reducible repeat first | refine bN ?_ _ | refine bD ?_ | refine bA ?_ _); exact BK139.out) hb); replace BK142 := Aside0.mk (blk_below (g := gb142) (o := .cells #[.int .i64 ((rd_T26 l1 x15_1).f0), .int .i64 ((rd_T26 l1 x15_1).f1)] 26 (0, 0)) (by (with_reducible repeat first | refine bN ?_ _ | refine bD ?_ | refine bA ?_ _); refine blk_far ?_ NB142_149.out _; (with_reducible repeat first | refine bN ?_ _ | refine bD ?_ | refine bA ?_ _); refine blk_far ?_ NB142_149.out _; (with_reducible repeat first | refine bN ?_ _ | refine bD ?_ | refine bA ?_ _); exact BK142.out) hb); replace BK149 := Aside0.mk (blk_below (g := gb149) (o := .cells #[.int .i64 ((rd_T26 y144 x32_2).f0), .int .i64 ((rd_T26 y144 x32_2).f1)] 26 (0, 0)) (by (with_reducible repeat first | refine bN ?_ _ | refine bD ?_ | refine bA ?_ _); refine blk_put (cs := #[.int .i64 ((rd_T26 y144 x32_2).f0), .int .i64 0]) ?_ 1 _ rfl; (with_reducible repeat first | refine bN ?_ _ | refine bD ?_ | refine bA ?_ _); refine blk_put (cs := #[.int .i64 0, .int .i64 0]) ?_ 0 _ rfl; (with_reducible repeat first | refine bN ?_ _ | refine bD ?_ | refine bA ?_ _); exact BK149.out) hb); replace HB := Aside0.mk (below_step (by repeat (first | (with_reducible first | exact HB.out | apply bL | apply bM | apply bR | refine bS ?_ GE142.out | refine bS ?_ GE149.out) | exact HB.out)) hb); (try clear hb); (try clear hk); have hcz45_0 : w44.cell? ⟨gb149, 0, none⟩ = some (.int .i64 ((rd_T26 y144 x32_2).f0)) := bC BK149 0 rfl; have hcz45_1 : w44.cell? ⟨gb149, 1, none⟩ = some (.int .i64 ((rd_T26 y144 x32_2).f1)) := bC BK149 1 rfl; have hfz45_0 := bF BK149 0; have hfz45_1 := bF BK149 1) | (go_at_call 32; (with_reducible refine (amount_Zero.calls ((rd_T26 y144 x32_2).f0) ((rd_T26 y144 x32_2).f1) true _ A35.out).mono ?_); rintro e w46 ⟨rfl, hb⟩; replace BK139 := bK BK139 hb; replace BK142 := bK BK142 hb; replace BK149 := bK BK149 hb; replace HB := Aside0.mk (below_step (by repeat (first | (with_reducible first | exact HB.out | apply bL | apply bM | apply bR | refine bS ?_ GE142.out | refine bS ?_ GE149.out) | exact HB.out)) hb); (try clear hb); (try clear hk)))))
                go_roundg k2
                case measure => have := HK1.out; have := HK2.out; omega
                case rel => exact ⟨(x6_2), (wrap64 (x32_2 + 1)), (by first | rfl | (simp; done) | (simp [*]; done)), (by first | rfl | (simp; done) | (simp [*]; done)), H', ⟨by have := HK1.out; have := HK2.out; omega⟩, ⟨by (with_reducible repeat first | refine bN ?_ _ | refine bD ?_ | refine bA ?_ _); exact BK139.out⟩, ⟨by (with_reducible repeat first | refine bN ?_ _ | refine bD ?_ | refine bA ?_ _); exact BK142.out⟩, ⟨by repeat (first | (with_reducible first | exact HB.out | apply bL | apply bM | apply bR | refine bS ?_ GE142.out | refine bS ?_ GE149.out) | exact HB.out)⟩⟩
               ·replace c36 := Bool.eq_false_iff.mpr c36
                subst c36
                rw [if_neg (show ¬ (false = true) by decide)] at H
                obtain ⟨t152, A470, H⟩ := Option.bind_eq_some_iff.mp H
                have A47 := Aside0.mk A470; clear A470
                by_cases c48 : t152 = true
                ·subst c48
                 rw [if_pos rfl] at H
                 have H' := Aside0.mk H
                 clear H
                 go_wp2_with (first | ((with_reducible refine gate_dst (N := 10) rfl ?_); refine box_event ?hg (N := 10) ?hd (cs := #[.int .i64 0, .int .i64 0]) (t := 26) ?hr ?_; (case hd => rfl); (case hg => rfl); (case hr => first | (go_simp; done) | (go_simp; rfl)); intro gb149 hg w49 hbox hb; have BK149 := Aside0.mk hbox; have GW149 := Aside0.mk ((by rw [hg]; exact (below_size (by repeat (first | (with_reducible first | exact HB.out | apply bL | apply bM | apply bR | refine bS ?_ GE142.out) | exact HB.out))) : w.heap.size ≤ gb149)); replace HB := Aside0.mk (below_step (by repeat (first | (with_reducible first | exact HB.out | apply bL | apply bM | apply bR | refine bS ?_ GE142.out) | exact HB.out)) hb); have GE149 := GW149; have NB139_149 := gN BK139 hg; replace BK139 := bK BK139 hb; have NB149_139 := Aside0.mk NB139_149.out.symm; have NB142_149 := gN BK142 hg; replace BK142 := bK BK142 hb; have NB149_142 := Aside0.mk NB142_149.out.symm; clear hb hbox hg; have hnb50 := NB149_139.out; have hnc50 := NB139_149.out; have hnb51 := NB149_142.out; have hnc51 := NB142_149.out; obtain ⟨hcz52_0, hcz52_1, hfz52_0, hfz52_1⟩ := d2 BK149; have hnb53 := NB139_142.out; have hnc53 := NB142_139.out; obtain ⟨hcz54_0, hcz54_1, hcz54_2, hcz54_3, hfz54_0, hfz54_1, hfz54_2, hfz54_3⟩ := d4 BK139; have hcz55_0 : w49.cell? ⟨gb142, 0, none⟩ = some (.int .i64 ((rd_T26 l1 x15_1).f0)) := bC BK142 0 rfl; have hcz55_1 : w49.cell? ⟨gb142, 1, none⟩ = some (.int .i64 ((rd_T26 l1 x15_1).f1)) := bC BK142 1 rfl; have hfz55_0 := bF BK142 0; have hfz55_1 := bF BK142 1) | (go_at_call 32; (with_reducible refine (amount_Zero.calls ((rd_T26 l1 x15_1).f0) ((rd_T26 l1 x15_1).f1) false _ A25.out).mono ?_); rintro e w56 ⟨rfl, hb⟩; replace BK139 := Aside0.mk (blk_below (g := gb139) (o := .cells #[.string a0_0, .int .i64 a0_1, .int .i64 a0_2, .int .i64 a0_3] 32 (0, 0)) (by (with_reducible repeat first | refine bN ?_ _ | refine bD ?_ | refine bA ?_ _); refine blk_far ?_ NB139_149.out _; (with_reducible repeat first | refine bN ?_ _ | refine bD ?_ | refine bA ?_ _); refine blk_far ?_ NB139_149.out _; (with_reducible repeat first | refine bN ?_ _ | refine bD ?_ | refine bA ?_ _); exact BK139.out) hb); replace BK142 := Aside0.mk (blk_below (g := gb142) (o := .cells #[.int .i64 ((rd_T26 l1 x15_1).f0), .int .i64 ((rd_T26 l1 x15_1).f1)] 26 (0, 0)) (by (with_reducible repeat first | refine bN ?_ _ | refine bD ?_ | refine bA ?_ _); refine blk_far ?_ NB142_149.out _; (with_reducible repeat first | refine bN ?_ _ | refine bD ?_ | refine bA ?_ _); refine blk_far ?_ NB142_149.out _; (with_reducible repeat first | refine bN ?_ _ | refine bD ?_ | refine bA ?_ _); exact BK142.out) hb); replace BK149 := Aside0.mk (blk_below (g := gb149) (o := .cells #[.int .i64 ((rd_T26 y144 x32_2).f0), .int .i64 ((rd_T26 y144 x32_2).f1)] 26 (0, 0)) (by (with_reducible repeat first | refine bN ?_ _ | refine bD ?_ | refine bA ?_ _); refine blk_put (cs := #[.int .i64 ((rd_T26 y144 x32_2).f0), .int .i64 0]) ?_ 1 _ rfl; (with_reducible repeat first | refine bN ?_ _ | refine bD ?_ | refine bA ?_ _); refine blk_put (cs := #[.int .i64 0, .int .i64 0]) ?_ 0 _ rfl; (with_reducible repeat first | refine bN ?_ _ | refine bD ?_ | refine bA ?_ _); exact BK149.out) hb); replace HB := Aside0.mk (below_step (by repeat (first | (with_reducible first | exact HB.out | apply bL | apply bM | apply bR | refine bS ?_ GE142.out | refine bS ?_ GE149.out) | exact HB.out)) hb); (try clear hb); (try clear hk); have hcz57_0 : w56.cell? ⟨gb149, 0, none⟩ = some (.int .i64 ((rd_T26 y144 x32_2).f0)) := bC BK149 0 rfl; have hcz57_1 : w56.cell? ⟨gb149, 1, none⟩ = some (.int .i64 ((rd_T26 y144 x32_2).f1)) := bC BK149 1 rfl; have hfz57_0 := bF BK149 0; have hfz57_1 := bF BK149 1) | (go_at_call 32; (with_reducible refine (amount_Zero.calls ((rd_T26 y144 x32_2).f0) ((rd_T26 y144 x32_2).f1) false _ A35.out).mono ?_); rintro e w58 ⟨rfl, hb⟩; replace BK139 := bK BK139 hb; replace BK142 := bK BK142 hb; replace BK149 := bK BK149 hb; replace HB := Aside0.mk (below_step (by repeat (first | (with_reducible first | exact HB.out | apply bL | apply bM | apply bR | refine bS ?_ GE142.out | refine bS ?_ GE149.out) | exact HB.out)) hb); (try clear hb); (try clear hk); obtain ⟨hcz59_0, hcz59_1, hfz59_0, hfz59_1⟩ := d2 BK142; have hcz60_0 : w58.cell? ⟨gb149, 0, none⟩ = some (.int .i64 ((rd_T26 y144 x32_2).f0)) := bC BK149 0 rfl; have hcz60_1 : w58.cell? ⟨gb149, 1, none⟩ = some (.int .i64 ((rd_T26 y144 x32_2).f1)) := bC BK149 1 rfl; have hfz60_0 := bF BK149 0; have hfz60_1 := bF BK149 1) | (go_at_call 56; (with_reducible refine (mode_Compatible.calls ((rd_T26 l1 x15_1).f0) ((rd_T26 y144 x32_2).f0) true _ ?side1 A47.out).mono ?_); (case side1 => exact GL.below HG.out (by repeat (first | (with_reducible first | exact HB.out | apply bL | apply bM | apply bR | refine bS ?_ GE142.out | refine bS ?_ GE149.out) | exact HB.out))); rintro e w' ⟨rfl, ⟨nd, rfl⟩⟩))
                 repeat (go_step3; try (go_wp2_with (first | ((with_reducible refine gate_dst (N := 10) rfl ?_); refine box_event ?hg (N := 10) ?hd (cs := #[.int .i64 0, .int .i64 0]) (t := 26) ?hr ?_; (case hd => rfl); (case hg => rfl); (case hr => first | (go_simp; done) | (go_simp; rfl)); intro gb149 hg w49 hbox hb; have BK149 := Aside0.mk hbox; have GW149 := Aside0.mk ((by rw [hg]; exact (below_size (by repeat (first | (with_reducible first | exact HB.out | apply bL | apply bM | apply bR | refine bS ?_ GE142.out) | exact HB.out))) : w.heap.size ≤ gb149)); replace HB := Aside0.mk (below_step (by repeat (first | (with_reducible first | exact HB.out | apply bL | apply bM | apply bR | refine bS ?_ GE142.out) | exact HB.out)) hb); have GE149 := GW149; have NB139_149 := gN BK139 hg; replace BK139 := bK BK139 hb; have NB149_139 := Aside0.mk NB139_149.out.symm; have NB142_149 := gN BK142 hg; replace BK142 := bK BK142 hb; have NB149_142 := Aside0.mk NB142_149.out.symm; clear hb hbox hg; have hnb50 := NB149_139.out; have hnc50 := NB139_149.out; have hnb51 := NB149_142.out; have hnc51 := NB142_149.out; obtain ⟨hcz52_0, hcz52_1, hfz52_0, hfz52_1⟩ := d2 BK149; have hnb53 := NB139_142.out; have hnc53 := NB142_139.out; obtain ⟨hcz54_0, hcz54_1, hcz54_2, hcz54_3, hfz54_0, hfz54_1, hfz54_2, hfz54_3⟩ := d4 BK139; have hcz55_0 : w49.cell? ⟨gb142, 0, none⟩ = some (.int .i64 ((rd_T26 l1 x15_1).f0)) := bC BK142 0 rfl; have hcz55_1 : w49.cell? ⟨gb142, 1, none⟩ = some (.int .i64 ((rd_T26 l1 x15_1).f1)) := bC BK142 1 rfl; have hfz55_0 := bF BK142 0; have hfz55_1 := bF BK142 1) | (go_at_call 32; (with_reducible refine (amount_Zero.calls ((rd_T26 l1 x15_1).f0) ((rd_T26 l1 x15_1).f1) false _ A25.out).mono ?_); rintro e w56 ⟨rfl, hb⟩; replace BK139 := Aside0.mk (blk_below (g := gb139) (o := .cells #[.string a0_0, .int .i64 a0_1, .int .i64 a0_2, .int .i64 a0_3] 32 (0, 0)) (by (with_reducible repeat first | refine bN ?_ _ | refine bD ?_ | refine bA ?_ _); refine blk_far ?_ NB139_149.out _; (with_reducible repeat first | refine bN ?_ _ | refine bD ?_ | refine bA ?_ _); refine blk_far ?_ NB139_149.out _; (with_reducible repeat first | refine bN ?_ _ | refine bD ?_ | refine bA ?_ _); exact BK139.out) hb); replace BK142 := Aside0.mk (blk_below (g := gb142) (o := .cells #[.int .i64 ((rd_T26 l1 x15_1).f0), .int .i64 ((rd_T26 l1 x15_1).f1)] 26 (0, 0)) (by (with_reducible repeat first | refine bN ?_ _ | refine bD ?_ | refine bA ?_ _); refine blk_far ?_ NB142_149.out _; (with_reducible repeat first | refine bN ?_ _ | refine bD ?_ | refine bA ?_ _); refine blk_far ?_ NB142_149.out _; (with_reducible repeat first | refine bN ?_ _ | refine bD ?_ | refine bA ?_ _); exact BK142.out) hb); replace BK149 := Aside0.mk (blk_below (g := gb149) (o := .cells #[.int .i64 ((rd_T26 y144 x32_2).f0), .int .i64 ((rd_T26 y144 x32_2).f1)] 26 (0, 0)) (by (with_reducible repeat first | refine bN ?_ _ | refine bD ?_ | refine bA ?_ _); refine blk_put (cs := #[.int .i64 ((rd_T26 y144 x32_2).f0), .int .i64 0]) ?_ 1 _ rfl; (with_reducible repeat first | refine bN ?_ _ | refine bD ?_ | refine bA ?_ _); refine blk_put (cs := #[.int .i64 0, .int .i64 0]) ?_ 0 _ rfl; (with_reducible repeat first | refine bN ?_ _ | refine bD ?_ | refine bA ?_ _); exact BK149.out) hb); replace HB := Aside0.mk (below_step (by repeat (first | (with_reducible first | exact HB.out | apply bL | apply bM | apply bR | refine bS ?_ GE142.out | refine bS ?_ GE149.out) | exact HB.out)) hb); (try clear hb); (try clear hk); have hcz57_0 : w56.cell? ⟨gb149, 0, none⟩ = some (.int .i64 ((rd_T26 y144 x32_2).f0)) := bC BK149 0 rfl; have hcz57_1 : w56.cell? ⟨gb149, 1, none⟩ = some (.int .i64 ((rd_T26 y144 x32_2).f1)) := bC BK149 1 rfl; have hfz57_0 := bF BK149 0; have hfz57_1 := bF BK149 1) | (go_at_call 32; (with_reducible refine (amount_Zero.calls ((rd_T26 y144 x32_2).f0) ((rd_T26 y144 x32_2).f1) false _ A35.out).mono ?_); rintro e w58 ⟨rfl, hb⟩; replace BK139 := bK BK139 hb; replace BK142 := bK BK142 hb; replace BK149 := bK BK149 hb; replace HB := Aside0.mk (below_step (by repeat (first | (with_reducible first | exact HB.out | apply bL | apply bM | apply bR | refine bS ?_ GE142.out | refine bS ?_ GE149.out) | exact HB.out)) hb); (try clear hb); (try clear hk); obtain ⟨hcz59_0, hcz59_1, hfz59_0, hfz59_1⟩ := d2 BK142; have hcz60_0 : w58.cell? ⟨gb149, 0, none⟩ = some (.int .i64 ((rd_T26 y144 x32_2).f0)) := bC BK149 0 rfl; have hcz60_1 : w58.cell? ⟨gb149, 1, none⟩ = some (.int .i64 ((rd_T26 y144 x32_2).f1)) := bC BK149 1 rfl; have hfz60_0 := bF BK149 0; have hfz60_1 := bF BK149 1) | (go_at_call 56; (with_reducible refine (mode_Compatible.calls ((rd_T26 l1 x15_1).f0) ((rd_T26 y144 x32_2).f0) true _ ?side1 A47.out).mono ?_); (case side1 => exact GL.below HG.out (by repeat (first | (with_reducible first | exact HB.out | apply bL | apply bM | apply bR | refine bS ?_ GE142.out | refine bS ?_ GE149.out) | exact HB.out))); rintro e w' ⟨rfl, ⟨nd, rfl⟩⟩))))
                 go_roundg k2
                 case measure => have := HK1.out; have := HK2.out; omega
                 case rel => exact ⟨(x6_2), (wrap64 (x32_2 + 1)), (by first | rfl | (simp; done) | (simp [*]; done)), (by first | rfl | (simp; done) | (simp [*]; done)), H', ⟨by have := HK1.out; have := HK2.out; omega⟩, ⟨by (with_reducible repeat first | refine bN ?_ _ | refine bD ?_ | refine bA ?_ _); exact BK139.out⟩, ⟨by (with_reducible repeat first | refine bN ?_ _ | refine bD ?_ | refine bA ?_ _); exact BK142.out⟩, ⟨by repeat (first | (with_reducible first | exact HB.out | apply bL | apply bM | apply bR | refine bS ?_ GE142.out | refine bS ?_ GE149.out) | exact HB.out)⟩⟩
                ·replace c48 := Bool.eq_false_iff.mpr c48
                 subst c48
                 rw [if_neg (show ¬ (false = true) by decide)] at H
                 obtain rfl := Option.some.inj H
                 go_wp2_with (first | ((with_reducible refine gate_dst (N := 10) rfl ?_); refine box_event ?hg (N := 10) ?hd (cs := #[.int .i64 0, .int .i64 0]) (t := 26) ?hr ?_; (case hd => rfl); (case hg => rfl); (case hr => first | (go_simp; done) | (go_simp; rfl)); intro gb149 hg w61 hbox hb; have BK149 := Aside0.mk hbox; have GW149 := Aside0.mk ((by rw [hg]; exact (below_size (by repeat (first | (with_reducible first | exact HB.out | apply bL | apply bM | apply bR | refine bS ?_ GE142.out) | exact HB.out))) : w.heap.size ≤ gb149)); replace HB := Aside0.mk (below_step (by repeat (first | (with_reducible first | exact HB.out | apply bL | apply bM | apply bR | refine bS ?_ GE142.out) | exact HB.out)) hb); have GE149 := GW149; have NB139_149 := gN BK139 hg; replace BK139 := bK BK139 hb; have NB149_139 := Aside0.mk NB139_149.out.symm; have NB142_149 := gN BK142 hg; replace BK142 := bK BK142 hb; have NB149_142 := Aside0.mk NB142_149.out.symm; clear hb hbox hg; have hnb62 := NB149_139.out; have hnc62 := NB139_149.out; have hnb63 := NB149_142.out; have hnc63 := NB142_149.out; obtain ⟨hcz64_0, hcz64_1, hfz64_0, hfz64_1⟩ := d2 BK149; have hnb65 := NB139_142.out; have hnc65 := NB142_139.out; obtain ⟨hcz66_0, hcz66_1, hcz66_2, hcz66_3, hfz66_0, hfz66_1, hfz66_2, hfz66_3⟩ := d4 BK139; have hcz67_0 : w61.cell? ⟨gb142, 0, none⟩ = some (.int .i64 ((rd_T26 l1 x15_1).f0)) := bC BK142 0 rfl; have hcz67_1 : w61.cell? ⟨gb142, 1, none⟩ = some (.int .i64 ((rd_T26 l1 x15_1).f1)) := bC BK142 1 rfl; have hfz67_0 := bF BK142 0; have hfz67_1 := bF BK142 1) | (go_at_call 32; (with_reducible refine (amount_Zero.calls ((rd_T26 l1 x15_1).f0) ((rd_T26 l1 x15_1).f1) false _ A25.out).mono ?_); rintro e w68 ⟨rfl, hb⟩; replace BK139 := Aside0.mk (blk_below (g := gb139) (o := .cells #[.string a0_0, .int .i64 a0_1, .int .i64 a0_2, .int .i64 a0_3] 32 (0, 0)) (by (with_reducible repeat first | refine bN ?_ _ | refine bD ?_ | refine bA ?_ _); refine blk_far ?_ NB139_149.out _; (with_reducible repeat first | refine bN ?_ _ | refine bD ?_ | refine bA ?_ _); refine blk_far ?_ NB139_149.out _; (with_reducible repeat first | refine bN ?_ _ | refine bD ?_ | refine bA ?_ _); exact BK139.out) hb); replace BK142 := Aside0.mk (blk_below (g := gb142) (o := .cells #[.int .i64 ((rd_T26 l1 x15_1).f0), .int .i64 ((rd_T26 l1 x15_1).f1)] 26 (0, 0)) (by (with_reducible repeat first | refine bN ?_ _ | refine bD ?_ | refine bA ?_ _); refine blk_far ?_ NB142_149.out _; (with_reducible repeat first | refine bN ?_ _ | refine bD ?_ | refine bA ?_ _); refine blk_far ?_ NB142_149.out _; (with_reducible repeat first | refine bN ?_ _ | refine bD ?_ | refine bA ?_ _); exact BK142.out) hb); replace BK149 := Aside0.mk (blk_below (g := gb149) (o := .cells #[.int .i64 ((rd_T26 y144 x32_2).f0), .int .i64 ((rd_T26 y144 x32_2).f1)] 26 (0, 0)) (by (with_reducible repeat first | refine bN ?_ _ | refine bD ?_ | refine bA ?_ _); refine blk_put (cs := #[.int .i64 ((rd_T26 y144 x32_2).f0), .int .i64 0]) ?_ 1 _ rfl; (with_reducible repeat first | refine bN ?_ _ | refine bD ?_ | refine bA ?_ _); refine blk_put (cs := #[.int .i64 0, .int .i64 0]) ?_ 0 _ rfl; (with_reducible repeat first | refine bN ?_ _ | refine bD ?_ | refine bA ?_ _); exact BK149.out) hb); replace HB := Aside0.mk (below_step (by repeat (first | (with_reducible first | exact HB.out | apply bL | apply bM | apply bR | refine bS ?_ GE142.out | refine bS ?_ GE149.out) | exact HB.out)) hb); (try clear hb); (try clear hk); have hcz69_0 : w68.cell? ⟨gb149, 0, none⟩ = some (.int .i64 ((rd_T26 y144 x32_2).f0)) := bC BK149 0 rfl; have hcz69_1 : w68.cell? ⟨gb149, 1, none⟩ = some (.int .i64 ((rd_T26 y144 x32_2).f1)) := bC BK149 1 rfl; have hfz69_0 := bF BK149 0; have hfz69_1 := bF BK149 1) | (go_at_call 32; (with_reducible refine (amount_Zero.calls ((rd_T26 y144 x32_2).f0) ((rd_T26 y144 x32_2).f1) false _ A35.out).mono ?_); rintro e w70 ⟨rfl, hb⟩; replace BK139 := bK BK139 hb; replace BK142 := bK BK142 hb; replace BK149 := bK BK149 hb; replace HB := Aside0.mk (below_step (by repeat (first | (with_reducible first | exact HB.out | apply bL | apply bM | apply bR | refine bS ?_ GE142.out | refine bS ?_ GE149.out) | exact HB.out)) hb); (try clear hb); (try clear hk); obtain ⟨hcz71_0, hcz71_1, hfz71_0, hfz71_1⟩ := d2 BK142; have hcz72_0 : w70.cell? ⟨gb149, 0, none⟩ = some (.int .i64 ((rd_T26 y144 x32_2).f0)) := bC BK149 0 rfl; have hcz72_1 : w70.cell? ⟨gb149, 1, none⟩ = some (.int .i64 ((rd_T26 y144 x32_2).f1)) := bC BK149 1 rfl; have hfz72_0 := bF BK149 0; have hfz72_1 := bF BK149 1) | (go_at_call 56; (with_reducible refine (mode_Compatible.calls ((rd_T26 l1 x15_1).f0) ((rd_T26 y144 x32_2).f0) false _ ?side1 A47.out).mono ?_); (case side1 => exact GL.below HG.out (by repeat (first | (with_reducible first | exact HB.out | apply bL | apply bM | apply bR | refine bS ?_ GE142.out | refine bS ?_ GE149.out) | exact HB.out))); rintro e w' ⟨rfl, ⟨nd, rfl⟩⟩))
                 repeat (go_step3; try (go_wp2_with (first | ((with_reducible refine gate_dst (N := 10) rfl ?_); refine box_event ?hg (N := 10) ?hd (cs := #[.int .i64 0, .int .i64 0]) (t := 26) ?hr ?_; (case hd => rfl); (case hg => rfl); (case hr => first | (go_simp; done) | (go_simp; rfl)); intro gb149 hg w61 hbox hb; have BK149 := Aside0.mk hbox; have GW149 := Aside0.mk ((by rw [hg]; exact (below_size (by repeat (first | (with_reducible first | exact HB.out | apply bL | apply bM | apply bR | refine bS ?_ GE142.out) | exact HB.out))) : w.heap.size ≤ gb149)); replace HB := Aside0.mk (below_step (by repeat (first | (with_reducible first | exact HB.out | apply bL | apply bM | apply bR | refine bS ?_ GE142.out) | exact HB.out)) hb); have GE149 := GW149; have NB139_149 := gN BK139 hg; replace BK139 := bK BK139 hb; have NB149_139 := Aside0.mk NB139_149.out.symm; have NB142_149 := gN BK142 hg; replace BK142 := bK BK142 hb; have NB149_142 := Aside0.mk NB142_149.out.symm; clear hb hbox hg; have hnb62 := NB149_139.out; have hnc62 := NB139_149.out; have hnb63 := NB149_142.out; have hnc63 := NB142_149.out; obtain ⟨hcz64_0, hcz64_1, hfz64_0, hfz64_1⟩ := d2 BK149; have hnb65 := NB139_142.out; have hnc65 := NB142_139.out; obtain ⟨hcz66_0, hcz66_1, hcz66_2, hcz66_3, hfz66_0, hfz66_1, hfz66_2, hfz66_3⟩ := d4 BK139; have hcz67_0 : w61.cell? ⟨gb142, 0, none⟩ = some (.int .i64 ((rd_T26 l1 x15_1).f0)) := bC BK142 0 rfl; have hcz67_1 : w61.cell? ⟨gb142, 1, none⟩ = some (.int .i64 ((rd_T26 l1 x15_1).f1)) := bC BK142 1 rfl; have hfz67_0 := bF BK142 0; have hfz67_1 := bF BK142 1) | (go_at_call 32; (with_reducible refine (amount_Zero.calls ((rd_T26 l1 x15_1).f0) ((rd_T26 l1 x15_1).f1) false _ A25.out).mono ?_); rintro e w68 ⟨rfl, hb⟩; replace BK139 := Aside0.mk (blk_below (g := gb139) (o := .cells #[.string a0_0, .int .i64 a0_1, .int .i64 a0_2, .int .i64 a0_3] 32 (0, 0)) (by (with_reducible repeat first | refine bN ?_ _ | refine bD ?_ | refine bA ?_ _); refine blk_far ?_ NB139_149.out _; (with_reducible repeat first | refine bN ?_ _ | refine bD ?_ | refine bA ?_ _); refine blk_far ?_ NB139_149.out _; (with_reducible repeat first | refine bN ?_ _ | refine bD ?_ | refine bA ?_ _); exact BK139.out) hb); replace BK142 := Aside0.mk (blk_below (g := gb142) (o := .cells #[.int .i64 ((rd_T26 l1 x15_1).f0), .int .i64 ((rd_T26 l1 x15_1).f1)] 26 (0, 0)) (by (with_reducible repeat first | refine bN ?_ _ | refine bD ?_ | refine bA ?_ _); refine blk_far ?_ NB142_149.out _; (with_reducible repeat first | refine bN ?_ _ | refine bD ?_ | refine bA ?_ _); refine blk_far ?_ NB142_149.out _; (with_reducible repeat first | refine bN ?_ _ | refine bD ?_ | refine bA ?_ _); exact BK142.out) hb); replace BK149 := Aside0.mk (blk_below (g := gb149) (o := .cells #[.int .i64 ((rd_T26 y144 x32_2).f0), .int .i64 ((rd_T26 y144 x32_2).f1)] 26 (0, 0)) (by (with_reducible repeat first | refine bN ?_ _ | refine bD ?_ | refine bA ?_ _); refine blk_put (cs := #[.int .i64 ((rd_T26 y144 x32_2).f0), .int .i64 0]) ?_ 1 _ rfl; (with_reducible repeat first | refine bN ?_ _ | refine bD ?_ | refine bA ?_ _); refine blk_put (cs := #[.int .i64 0, .int .i64 0]) ?_ 0 _ rfl; (with_reducible repeat first | refine bN ?_ _ | refine bD ?_ | refine bA ?_ _); exact BK149.out) hb); replace HB := Aside0.mk (below_step (by repeat (first | (with_reducible first | exact HB.out | apply bL | apply bM | apply bR | refine bS ?_ GE142.out | refine bS ?_ GE149.out) | exact HB.out)) hb); (try clear hb); (try clear hk); have hcz69_0 : w68.cell? ⟨gb149, 0, none⟩ = some (.int .i64 ((rd_T26 y144 x32_2).f0)) := bC BK149 0 rfl; have hcz69_1 : w68.cell? ⟨gb149, 1, none⟩ = some (.int .i64 ((rd_T26 y144 x32_2).f1)) := bC BK149 1 rfl; have hfz69_0 := bF BK149 0; have hfz69_1 := bF BK149 1) | (go_at_call 32; (with_reducible refine (amount_Zero.calls ((rd_T26 y144 x32_2).f0) ((rd_T26 y144 x32_2).f1) false _ A35.out).mono ?_); rintro e w70 ⟨rfl, hb⟩; replace BK139 := bK BK139 hb; replace BK142 := bK BK142 hb; replace BK149 := bK BK149 hb; replace HB := Aside0.mk (below_step (by repeat (first | (with_reducible first | exact HB.out | apply bL | apply bM | apply bR | refine bS ?_ GE142.out | refine bS ?_ GE149.out) | exact HB.out)) hb); (try clear hb); (try clear hk); obtain ⟨hcz71_0, hcz71_1, hfz71_0, hfz71_1⟩ := d2 BK142; have hcz72_0 : w70.cell? ⟨gb149, 0, none⟩ = some (.int .i64 ((rd_T26 y144 x32_2).f0)) := bC BK149 0 rfl; have hcz72_1 : w70.cell? ⟨gb149, 1, none⟩ = some (.int .i64 ((rd_T26 y144 x32_2).f1)) := bC BK149 1 rfl; have hfz72_0 := bF BK149 0; have hfz72_1 := bF BK149 1) | (go_at_call 56; (with_reducible refine (mode_Compatible.calls ((rd_T26 l1 x15_1).f0) ((rd_T26 y144 x32_2).f0) false _ ?side1 A47.out).mono ?_); (case side1 => exact GL.below HG.out (by repeat (first | (with_reducible first | exact HB.out | apply bL | apply bM | apply bR | refine bS ?_ GE142.out | refine bS ?_ GE149.out) | exact HB.out))); rintro e w' ⟨rfl, ⟨nd, rfl⟩⟩))))
                 (try rw [Exit.noGoto_ret])
                 go_ret
                 exact ⟨by first | rfl | (simp [errW_none, errW_some] <;> rfl) | (simp [*, errW_none, errW_some] <;> rfl), by repeat (first | (with_reducible first | exact HB.out | apply bL | apply bM | apply bR | refine bS ?_ GE142.out | refine bS ?_ GE149.out) | exact HB.out)⟩
             ·rw [if_neg c24] at H
              have c24b0 : (a0_1 == 1) = false := beq_eq_false_iff_ne.mpr c24
              have c24b1 : (a0_1 != 1) = true := bne_iff_ne.mpr c24
              have H' := Aside0.mk H
              clear H
              (try simp only [c24b0, c24b1])
              go_wp2_with (first | ((with_reducible refine gate_dst (N := 10) rfl ?_); refine box_event ?hg (N := 10) ?hd (cs := #[.int .i64 0, .int .i64 0]) (t := 26) ?hr ?_; (case hd => rfl); (case hg => rfl); (case hr => first | (go_simp; done) | (go_simp; rfl)); intro gb149 hg w73 hbox hb; have BK149 := Aside0.mk hbox; have GW149 := Aside0.mk ((by rw [hg]; exact (below_size (by repeat (first | (with_reducible first | exact HB.out | apply bL | apply bM | apply bR | refine bS ?_ GE142.out) | exact HB.out))) : w.heap.size ≤ gb149)); replace HB := Aside0.mk (below_step (by repeat (first | (with_reducible first | exact HB.out | apply bL | apply bM | apply bR | refine bS ?_ GE142.out) | exact HB.out)) hb); have GE149 := GW149; have NB139_149 := gN BK139 hg; replace BK139 := bK BK139 hb; have NB149_139 := Aside0.mk NB139_149.out.symm; have NB142_149 := gN BK142 hg; replace BK142 := bK BK142 hb; have NB149_142 := Aside0.mk NB142_149.out.symm; clear hb hbox hg; have hnb74 := NB149_139.out; have hnc74 := NB139_149.out; have hnb75 := NB149_142.out; have hnc75 := NB142_149.out; obtain ⟨hcz76_0, hcz76_1, hfz76_0, hfz76_1⟩ := d2 BK149; have hnb77 := NB139_142.out; have hnc77 := NB142_139.out; have hcz78_0 : w73.cell? ⟨gb139, 0, none⟩ = some (.string a0_0) := bC BK139 0 rfl; have hcz78_1 : w73.cell? ⟨gb139, 1, none⟩ = some (.int .i64 a0_1) := bC BK139 1 rfl; have hcz78_2 : w73.cell? ⟨gb139, 2, none⟩ = some (.int .i64 a0_2) := bC BK139 2 rfl; have hcz78_3 : w73.cell? ⟨gb139, 3, none⟩ = some (.int .i64 a0_3) := bC BK139 3 rfl; have hfz78_0 := bF BK139 0; have hfz78_1 := bF BK139 1; have hfz78_2 := bF BK139 2; have hfz78_3 := bF BK139 3))
              repeat (go_step3; try (go_wp2_with (first | ((with_reducible refine gate_dst (N := 10) rfl ?_); refine box_event ?hg (N := 10) ?hd (cs := #[.int .i64 0, .int .i64 0]) (t := 26) ?hr ?_; (case hd => rfl); (case hg => rfl); (case hr => first | (go_simp; done) | (go_simp; rfl)); intro gb149 hg w73 hbox hb; have BK149 := Aside0.mk hbox; have GW149 := Aside0.mk ((by rw [hg]; exact (below_size (by repeat (first | (with_reducible first | exact HB.out | apply bL | apply bM | apply bR | refine bS ?_ GE142.out) | exact HB.out))) : w.heap.size ≤ gb149)); replace HB := Aside0.mk (below_step (by repeat (first | (with_reducible first | exact HB.out | apply bL | apply bM | apply bR | refine bS ?_ GE142.out) | exact HB.out)) hb); have GE149 := GW149; have NB139_149 := gN BK139 hg; replace BK139 := bK BK139 hb; have NB149_139 := Aside0.mk NB139_149.out.symm; have NB142_149 := gN BK142 hg; replace BK142 := bK BK142 hb; have NB149_142 := Aside0.mk NB142_149.out.symm; clear hb hbox hg; have hnb74 := NB149_139.out; have hnc74 := NB139_149.out; have hnb75 := NB149_142.out; have hnc75 := NB142_149.out; obtain ⟨hcz76_0, hcz76_1, hfz76_0, hfz76_1⟩ := d2 BK149; have hnb77 := NB139_142.out; have hnc77 := NB142_139.out; have hcz78_0 : w73.cell? ⟨gb139, 0, none⟩ = some (.string a0_0) := bC BK139 0 rfl; have hcz78_1 : w73.cell? ⟨gb139, 1, none⟩ = some (.int .i64 a0_1) := bC BK139 1 rfl; have hcz78_2 : w73.cell? ⟨gb139, 2, none⟩ = some (.int .i64 a0_2) := bC BK139 2 rfl; have hcz78_3 : w73.cell? ⟨gb139, 3, none⟩ = some (.int .i64 a0_3) := bC BK139 3 rfl; have hfz78_0 := bF BK139 0; have hfz78_1 := bF BK139 1; have hfz78_2 := bF BK139 2; have hfz78_3 := bF BK139 3))))
              go_roundg k2
              case measure => have := HK1.out; have := HK2.out; omega
              case rel => exact ⟨(x6_2), (wrap64 (x32_2 + 1)), (by first | rfl | (simp; done) | (simp [*]; done)), (by first | rfl | (simp; done) | (simp [*]; done)), H', ⟨by have := HK1.out; have := HK2.out; omega⟩, ⟨by (with_reducible repeat first | refine bN ?_ _ | refine bD ?_ | refine bA ?_ _); refine blk_far ?_ NB139_149.out _; (with_reducible repeat first | refine bN ?_ _ | refine bD ?_ | refine bA ?_ _); refine blk_far ?_ NB139_149.out _; (with_reducible repeat first | refine bN ?_ _ | refine bD ?_ | refine bA ?_ _); exact BK139.out⟩, ⟨by (with_reducible repeat first | refine bN ?_ _ | refine bD ?_ | refine bA ?_ _); refine blk_far ?_ NB142_149.out _; (with_reducible repeat first | refine bN ?_ _ | refine bD ?_ | refine bA ?_ _); refine blk_far ?_ NB142_149.out _; (with_reducible repeat first | refine bN ?_ _ | refine bD ?_ | refine bA ?_ _); exact BK142.out⟩, ⟨by repeat (first | (with_reducible first | exact HB.out | apply bL | apply bM | apply bR | refine bS ?_ GE142.out | refine bS ?_ GE149.out) | exact HB.out)⟩⟩
            ·rw [if_neg c23] at H
             exact absurd H (by simp)
           ·rw [if_neg c22] at H
            exact absurd H (by simp)
          ·rw [if_neg c21] at H
           have c21b0 : decide (x32_2 < (y144.length : Int)) = false := decide_eq_false c21
           clear c21
           have H' := Aside0.mk H
           clear H
           go_wp2
           repeat (go_step3; try (go_wp2))
           go_roundg k2
           case measure => have := HK1.out; have := HK2.out; omega
           case rel => exact ⟨((wrap64 (x5_1 + ((rd_T26 l1 x15_1).f1)))), (x6_2), (wrap64 (x15_1 + 1)), (by first | rfl | (simp; done) | (simp [*]; done)), (by first | rfl | (simp; done) | (simp [*]; done)), (by first | rfl | (simp; done) | (simp [*]; done)), H', ⟨by have := HK1.out; have := HK2.out; omega⟩, ⟨by (with_reducible repeat first | refine bN ?_ _ | refine bD ?_ | refine bA ?_ _); exact BK139.out⟩, ⟨by repeat (first | (with_reducible first | exact HB.out | apply bL | apply bM | apply bR | refine bS ?_ GE142.out) | exact HB.out)⟩⟩
       ·rw [if_neg c13] at H
        exact absurd H (by simp)
      ·replace c11 := Bool.eq_false_iff.mpr c11
       subst c11
       rw [if_neg (show ¬ (false = true) by decide)] at H
       obtain rfl := Option.some.inj H
       go_wp2_with (first | ((with_reducible refine gate_dst (N := 8) rfl ?_); refine box_event ?hg (N := 8) ?hd (cs := #[.int .i64 0, .int .i64 0]) (t := 26) ?hr ?_; (case hd => rfl); (case hg => rfl); (case hr => first | (go_simp; done) | (go_simp; rfl)); intro gb142 hg w79 hbox hb; have BK142 := Aside0.mk hbox; have GW142 := gE HB hg; replace HB := bB HB hb; have GE142 := GW142; have NB139_142 := gN BK139 hg; replace BK139 := bK BK139 hb; have NB142_139 := Aside0.mk NB139_142.out.symm; clear hb hbox hg; have hnb80 := NB142_139.out; have hnc80 := NB139_142.out; obtain ⟨hcz81_0, hcz81_1, hfz81_0, hfz81_1⟩ := d2 BK142; have hcz82_0 : w79.cell? ⟨gb139, 0, none⟩ = some (.string a0_0) := bC BK139 0 rfl; have hcz82_1 : w79.cell? ⟨gb139, 1, none⟩ = some (.int .i64 a0_1) := bC BK139 1 rfl; have hcz82_2 : w79.cell? ⟨gb139, 2, none⟩ = some (.int .i64 a0_2) := bC BK139 2 rfl; have hcz82_3 : w79.cell? ⟨gb139, 3, none⟩ = some (.int .i64 a0_3) := bC BK139 3 rfl; have hfz82_0 := bF BK139 0; have hfz82_1 := bF BK139 1; have hfz82_2 := bF BK139 2; have hfz82_3 := bF BK139 3) | ((with_reducible refine gate_callee (f := 55) rfl ?_); refine goesL_ (some 22) rfl rfl Tryd.func55 (by kernel_rfl) rfl #[.agg #[.string a0_0, .int .i64 a0_1, .int .i64 a0_2, .int .i64 a0_3], .agg #[.int .i64 ((rd_T26 l1 x15_1).f0), .int .i64 ((rd_T26 l1 x15_1).f1)]] rfl (by (try simp only [mA]); first | done | rfl) ?_; (with_reducible refine (amount_permitted.calls a0_0 a0_1 a0_2 a0_3 ((rd_T26 l1 x15_1).f0) ((rd_T26 l1 x15_1).f1) false _ A10.out).mono ?_); rintro e w83 ⟨rfl, hb⟩; refine ⟨_, rfl, ?_⟩; replace BK139 := Aside0.mk (blk_below (g := gb139) (o := .cells #[.string a0_0, .int .i64 a0_1, .int .i64 a0_2, .int .i64 a0_3] 32 (0, 0)) (by (with_reducible repeat first | refine bN ?_ _ | refine bD ?_ | refine bA ?_ _); refine blk_far ?_ NB139_142.out _; (with_reducible repeat first | refine bN ?_ _ | refine bD ?_ | refine bA ?_ _); refine blk_far ?_ NB139_142.out _; (with_reducible repeat first | refine bN ?_ _ | refine bD ?_ | refine bA ?_ _); exact BK139.out) hb); replace BK142 := Aside0.mk (blk_below (g := gb142) (o := .cells #[.int .i64 ((rd_T26 l1 x15_1).f0), .int .i64 ((rd_T26 l1 x15_1).f1)] 26 (0, 0)) (by (with_reducible repeat first | refine bN ?_ _ | refine bD ?_ | refine bA ?_ _); refine blk_put (cs := #[.int .i64 ((rd_T26 l1 x15_1).f0), .int .i64 0]) ?_ 1 _ rfl; (with_reducible repeat first | refine bN ?_ _ | refine bD ?_ | refine bA ?_ _); refine blk_put (cs := #[.int .i64 0, .int .i64 0]) ?_ 0 _ rfl; (with_reducible repeat first | refine bN ?_ _ | refine bD ?_ | refine bA ?_ _); exact BK142.out) hb); replace HB := Aside0.mk (below_step (by repeat (first | (with_reducible first | exact HB.out | apply bL | apply bM | apply bR | refine bS ?_ GE142.out) | exact HB.out)) hb); (try clear hb); (try clear hk)))
       repeat (go_step3; try (go_wp2_with (first | ((with_reducible refine gate_dst (N := 8) rfl ?_); refine box_event ?hg (N := 8) ?hd (cs := #[.int .i64 0, .int .i64 0]) (t := 26) ?hr ?_; (case hd => rfl); (case hg => rfl); (case hr => first | (go_simp; done) | (go_simp; rfl)); intro gb142 hg w79 hbox hb; have BK142 := Aside0.mk hbox; have GW142 := gE HB hg; replace HB := bB HB hb; have GE142 := GW142; have NB139_142 := gN BK139 hg; replace BK139 := bK BK139 hb; have NB142_139 := Aside0.mk NB139_142.out.symm; clear hb hbox hg; have hnb80 := NB142_139.out; have hnc80 := NB139_142.out; obtain ⟨hcz81_0, hcz81_1, hfz81_0, hfz81_1⟩ := d2 BK142; have hcz82_0 : w79.cell? ⟨gb139, 0, none⟩ = some (.string a0_0) := bC BK139 0 rfl; have hcz82_1 : w79.cell? ⟨gb139, 1, none⟩ = some (.int .i64 a0_1) := bC BK139 1 rfl; have hcz82_2 : w79.cell? ⟨gb139, 2, none⟩ = some (.int .i64 a0_2) := bC BK139 2 rfl; have hcz82_3 : w79.cell? ⟨gb139, 3, none⟩ = some (.int .i64 a0_3) := bC BK139 3 rfl; have hfz82_0 := bF BK139 0; have hfz82_1 := bF BK139 1; have hfz82_2 := bF BK139 2; have hfz82_3 := bF BK139 3) | ((with_reducible refine gate_callee (f := 55) rfl ?_); refine goesL_ (some 22) rfl rfl Tryd.func55 (by kernel_rfl) rfl #[.agg #[.string a0_0, .int .i64 a0_1, .int .i64 a0_2, .int .i64 a0_3], .agg #[.int .i64 ((rd_T26 l1 x15_1).f0), .int .i64 ((rd_T26 l1 x15_1).f1)]] rfl (by (try simp only [mA]); first | done | rfl) ?_; (with_reducible refine (amount_permitted.calls a0_0 a0_1 a0_2 a0_3 ((rd_T26 l1 x15_1).f0) ((rd_T26 l1 x15_1).f1) false _ A10.out).mono ?_); rintro e w83 ⟨rfl, hb⟩; refine ⟨_, rfl, ?_⟩; replace BK139 := Aside0.mk (blk_below (g := gb139) (o := .cells #[.string a0_0, .int .i64 a0_1, .int .i64 a0_2, .int .i64 a0_3] 32 (0, 0)) (by (with_reducible repeat first | refine bN ?_ _ | refine bD ?_ | refine bA ?_ _); refine blk_far ?_ NB139_142.out _; (with_reducible repeat first | refine bN ?_ _ | refine bD ?_ | refine bA ?_ _); refine blk_far ?_ NB139_142.out _; (with_reducible repeat first | refine bN ?_ _ | refine bD ?_ | refine bA ?_ _); exact BK139.out) hb); replace BK142 := Aside0.mk (blk_below (g := gb142) (o := .cells #[.int .i64 ((rd_T26 l1 x15_1).f0), .int .i64 ((rd_T26 l1 x15_1).f1)] 26 (0, 0)) (by (with_reducible repeat first | refine bN ?_ _ | refine bD ?_ | refine bA ?_ _); refine blk_put (cs := #[.int .i64 ((rd_T26 l1 x15_1).f0), .int .i64 0]) ?_ 1 _ rfl; (with_reducible repeat first | refine bN ?_ _ | refine bD ?_ | refine bA ?_ _); refine blk_put (cs := #[.int .i64 0, .int .i64 0]) ?_ 0 _ rfl; (with_reducible repeat first | refine bN ?_ _ | refine bD ?_ | refine bA ?_ _); exact BK142.out) hb); replace HB := Aside0.mk (below_step (by repeat (first | (with_reducible first | exact HB.out | apply bL | apply bM | apply bR | refine bS ?_ GE142.out) | exact HB.out)) hb); (try clear hb); (try clear hk)))))
       (try rw [Exit.noGoto_ret])
       go_ret
       exact ⟨by first | rfl | (simp [errW_none, errW_some] <;> rfl) | (simp [*, errW_none, errW_some] <;> rfl), by repeat (first | (with_reducible first | exact HB.out | apply bL | apply bM | apply bR | refine bS ?_ GE142.out) | exact HB.out)⟩
     ·rw [if_neg c9] at H
      exact absurd H (by simp)
    ·rw [if_neg c8] at H
     exact absurd H (by simp)
   ·rw [if_neg c7] at H
    have c7b0 : decide (x15_1 < (l1.length : Int)) = false := decide_eq_false c7
    clear c7
    by_cases c84 : x6_1 = true
    ·subst c84
     rw [if_pos rfl] at H
     by_cases c85 : a0_1 = 2
     ·rw [if_pos c85] at H
      have c85b0 : (a0_1 == 2) = true := beq_iff_eq.mpr c85
      have c85b1 : (a0_1 != 2) = false := bne_eq_false_iff_eq.mpr c85
      clear c85
      obtain rfl := Option.some.inj H
      obtain ⟨hcz86_0, hcz86_1, hcz86_2, hcz86_3, hfz86_0, hfz86_1, hfz86_2, hfz86_3⟩ := d4 BK139
      go_wp2
      repeat (go_step3; try (go_wp2))
      (try rw [Exit.noGoto_ret])
      go_ret
      exact ⟨by first | rfl | (simp [errW_none, errW_some] <;> rfl) | (simp [*, errW_none, errW_some] <;> rfl), by repeat (first | (with_reducible first | exact HB.out | apply bL | apply bM | apply bR) | exact HB.out)⟩
     ·rw [if_neg c85] at H
      have c85b0 : (a0_1 == 2) = false := beq_eq_false_iff_ne.mpr c85
      have c85b1 : (a0_1 != 2) = true := bne_iff_ne.mpr c85
      obtain rfl := Option.some.inj H
      obtain ⟨hcz87_0, hcz87_1, hcz87_2, hcz87_3, hfz87_0, hfz87_1, hfz87_2, hfz87_3⟩ := d4 BK139
      go_wp2
      repeat (go_step3; try (go_wp2))
      (try rw [Exit.noGoto_ret])
      go_ret
      exact ⟨by first | rfl | (simp [errW_none, errW_some] <;> rfl) | (simp [*, errW_none, errW_some] <;> rfl), by repeat (first | (with_reducible first | exact HB.out | apply bL | apply bM | apply bR) | exact HB.out)⟩
    ·replace c84 := Bool.eq_false_iff.mpr c84
     subst c84
     rw [if_neg (show ¬ (false = true) by decide)] at H
     obtain rfl := Option.some.inj H
     go_wp2
     repeat (go_step3; try (go_wp2))
     (try rw [Exit.noGoto_ret])
     go_ret
     exact ⟨by first | rfl | (simp [errW_none, errW_some] <;> rfl) | (simp [*, errW_none, errW_some] <;> rfl), by repeat (first | (with_reducible first | exact HB.out | apply bL | apply bM | apply bR) | exact HB.out)⟩
/-! ### ident_ValidProc: function 44 -/
def ident_ValidProc.f (a0_0 : Int) (a0_1 : Int) (a0_2 : Int) : Option (Bool) := if a0_0 ≥ 0 then (if a0_0 < 4 then (if a0_1 ≥ 1 then (if a0_1 ≤ 99 then (if a0_2 ≥ 1 then (some (decide (a0_2 ≤ 999))) else (some false)) else (some false)) else (some false)) else (some false)) else (some false)
set_option maxHeartbeats 8000000 in
set_option maxRecDepth 100000 in
theorem ident_ValidProc.calls (a0_0 : Int) (a0_1 : Int) (a0_2 : Int) (r : Bool) (w : World) (h : ident_ValidProc.f a0_0 a0_1 a0_2 = some r) :
  Calls Tryd.prog 44 #[.agg #[.int .i64 a0_0, .int .i64 a0_1, .int .i64 a0_2]] w fun e w' => e = .returned (.bool r) ∧ Below w.heap.size w w' := by
 have hu24 := Tryd.underlying24
 have HB := Aside0.mk (Below.refl w.heap.size w)
 have H : (if a0_0 ≥ 0 then (if a0_0 < 4 then (if a0_1 ≥ 1 then (if a0_1 ≤ 99 then (if a0_2 ≥ 1 then (some (decide (a0_2 ≤ 999))) else (some false)) else (some false)) else (some false)) else (some false)) else (some false)) = some r := h
 clear h
 by_cases c2 : a0_0 ≥ 0
 ·rw [if_pos c2] at H
  have c2b0 : decide (0 ≤ a0_0) = true := decide_eq_true c2
  clear c2
  by_cases c3 : a0_0 < 4
  ·rw [if_pos c3] at H
   have c3b0 : decide (a0_0 < 4) = true := decide_eq_true c3
   clear c3
   by_cases c4 : a0_1 ≥ 1
   ·rw [if_pos c4] at H
    have c4b0 : decide (1 ≤ a0_1) = true := decide_eq_true c4
    clear c4
    by_cases c5 : a0_1 ≤ 99
    ·rw [if_pos c5] at H
     have c5b0 : decide (a0_1 ≤ 99) = true := decide_eq_true c5
     clear c5
     by_cases c6 : a0_2 ≥ 1
     ·rw [if_pos c6] at H
      have c6b0 : decide (1 ≤ a0_2) = true := decide_eq_true c6
      clear c6
      obtain rfl := Option.some.inj H
      go_enter Tryd.func44, Tryd.ntmps44
      go_wp2_with (first | ((with_reducible refine gate_dst (N := 1) rfl ?_); refine box_event ?hg (N := 1) ?hd (cs := #[.int .i64 a0_0, .int .i64 a0_1, .int .i64 a0_2]) (t := 24) ?hr ?_; (case hd => rfl); (case hg => rfl); (case hr => first | (go_simp; done) | (go_simp; rfl)); intro gb153 hg w7 hbox hb; have BK153 := Aside0.mk hbox; have GW153 := gE HB hg; replace HB := bB HB hb; have GE153 := GW153; clear hb hbox hg; have hcz8_0 : w7.cell? ⟨gb153, 0, none⟩ = some (.int .i64 a0_0) := bC BK153 0 rfl; have hcz8_1 : w7.cell? ⟨gb153, 1, none⟩ = some (.int .i64 a0_1) := bC BK153 1 rfl; have hcz8_2 : w7.cell? ⟨gb153, 2, none⟩ = some (.int .i64 a0_2) := bC BK153 2 rfl; have hfz8_0 := bF BK153 0; have hfz8_1 := bF BK153 1; have hfz8_2 := bF BK153 2))
      go_ret
      exact ⟨by first | rfl | (simp [errW_none, errW_some] <;> rfl) | (simp [*, errW_none, errW_some] <;> rfl), by repeat (first | (with_reducible first | exact HB.out | apply bL | apply bM | apply bR) | exact HB.out)⟩
     ·rw [if_neg c6] at H
      have c6b0 : decide (1 ≤ a0_2) = false := decide_eq_false c6
      clear c6
      obtain rfl := Option.some.inj H
      go_enter Tryd.func44, Tryd.ntmps44
      go_wp2_with (first | ((with_reducible refine gate_dst (N := 1) rfl ?_); refine box_event ?hg (N := 1) ?hd (cs := #[.int .i64 a0_0, .int .i64 a0_1, .int .i64 a0_2]) (t := 24) ?hr ?_; (case hd => rfl); (case hg => rfl); (case hr => first | (go_simp; done) | (go_simp; rfl)); intro gb153 hg w9 hbox hb; have BK153 := Aside0.mk hbox; have GW153 := gE HB hg; replace HB := bB HB hb; have GE153 := GW153; clear hb hbox hg; have hcz10_0 : w9.cell? ⟨gb153, 0, none⟩ = some (.int .i64 a0_0) := bC BK153 0 rfl; have hcz10_1 : w9.cell? ⟨gb153, 1, none⟩ = some (.int .i64 a0_1) := bC BK153 1 rfl; have hcz10_2 : w9.cell? ⟨gb153, 2, none⟩ = some (.int .i64 a0_2) := bC BK153 2 rfl; have hfz10_0 := bF BK153 0; have hfz10_1 := bF BK153 1; have hfz10_2 := bF BK153 2))
      go_ret
      exact ⟨by first | rfl | (simp [errW_none, errW_some] <;> rfl) | (simp [*, errW_none, errW_some] <;> rfl), by repeat (first | (with_reducible first | exact HB.out | apply bL | apply bM | apply bR) | exact HB.out)⟩
    ·rw [if_neg c5] at H
     have c5b0 : decide (a0_1 ≤ 99) = false := decide_eq_false c5
     clear c5
     obtain rfl := Option.some.inj H
     go_enter Tryd.func44, Tryd.ntmps44
     go_wp2_with (first | ((with_reducible refine gate_dst (N := 1) rfl ?_); refine box_event ?hg (N := 1) ?hd (cs := #[.int .i64 a0_0, .int .i64 a0_1, .int .i64 a0_2]) (t := 24) ?hr ?_; (case hd => rfl); (case hg => rfl); (case hr => first | (go_simp; done) | (go_simp; rfl)); intro gb153 hg w11 hbox hb; have BK153 := Aside0.mk hbox; have GW153 := gE HB hg; replace HB := bB HB hb; have GE153 := GW153; clear hb hbox hg; have hcz12_0 : w11.cell? ⟨gb153, 0, none⟩ = some (.int .i64 a0_0) := bC BK153 0 rfl; have hcz12_1 : w11.cell? ⟨gb153, 1, none⟩ = some (.int .i64 a0_1) := bC BK153 1 rfl; have hcz12_2 : w11.cell? ⟨gb153, 2, none⟩ = some (.int .i64 a0_2) := bC BK153 2 rfl; have hfz12_0 := bF BK153 0; have hfz12_1 := bF BK153 1; have hfz12_2 := bF BK153 2))
     go_ret
     exact ⟨by first | rfl | (simp [errW_none, errW_some] <;> rfl) | (simp [*, errW_none, errW_some] <;> rfl), by repeat (first | (with_reducible first | exact HB.out | apply bL | apply bM | apply bR) | exact HB.out)⟩
   ·rw [if_neg c4] at H
    have c4b0 : decide (1 ≤ a0_1) = false := decide_eq_false c4
    clear c4
    obtain rfl := Option.some.inj H
    go_enter Tryd.func44, Tryd.ntmps44
    go_wp2_with (first | ((with_reducible refine gate_dst (N := 1) rfl ?_); refine box_event ?hg (N := 1) ?hd (cs := #[.int .i64 a0_0, .int .i64 a0_1, .int .i64 a0_2]) (t := 24) ?hr ?_; (case hd => rfl); (case hg => rfl); (case hr => first | (go_simp; done) | (go_simp; rfl)); intro gb153 hg w13 hbox hb; have BK153 := Aside0.mk hbox; have GW153 := gE HB hg; replace HB := bB HB hb; have GE153 := GW153; clear hb hbox hg; have hcz14_0 : w13.cell? ⟨gb153, 0, none⟩ = some (.int .i64 a0_0) := bC BK153 0 rfl; have hcz14_1 : w13.cell? ⟨gb153, 1, none⟩ = some (.int .i64 a0_1) := bC BK153 1 rfl; have hcz14_2 : w13.cell? ⟨gb153, 2, none⟩ = some (.int .i64 a0_2) := bC BK153 2 rfl; have hfz14_0 := bF BK153 0; have hfz14_1 := bF BK153 1; have hfz14_2 := bF BK153 2))
    go_ret
    exact ⟨by first | rfl | (simp [errW_none, errW_some] <;> rfl) | (simp [*, errW_none, errW_some] <;> rfl), by repeat (first | (with_reducible first | exact HB.out | apply bL | apply bM | apply bR) | exact HB.out)⟩
  ·rw [if_neg c3] at H
   have c3b0 : decide (a0_0 < 4) = false := decide_eq_false c3
   clear c3
   obtain rfl := Option.some.inj H
   go_enter Tryd.func44, Tryd.ntmps44
   go_wp2_with (first | ((with_reducible refine gate_dst (N := 1) rfl ?_); refine box_event ?hg (N := 1) ?hd (cs := #[.int .i64 a0_0, .int .i64 a0_1, .int .i64 a0_2]) (t := 24) ?hr ?_; (case hd => rfl); (case hg => rfl); (case hr => first | (go_simp; done) | (go_simp; rfl)); intro gb153 hg w15 hbox hb; have BK153 := Aside0.mk hbox; have GW153 := gE HB hg; replace HB := bB HB hb; have GE153 := GW153; clear hb hbox hg; have hcz16_0 : w15.cell? ⟨gb153, 0, none⟩ = some (.int .i64 a0_0) := bC BK153 0 rfl; have hcz16_1 : w15.cell? ⟨gb153, 1, none⟩ = some (.int .i64 a0_1) := bC BK153 1 rfl; have hcz16_2 : w15.cell? ⟨gb153, 2, none⟩ = some (.int .i64 a0_2) := bC BK153 2 rfl; have hfz16_0 := bF BK153 0; have hfz16_1 := bF BK153 1; have hfz16_2 := bF BK153 2))
   go_ret
   exact ⟨by first | rfl | (simp [errW_none, errW_some] <;> rfl) | (simp [*, errW_none, errW_some] <;> rfl), by repeat (first | (with_reducible first | exact HB.out | apply bL | apply bM | apply bR) | exact HB.out)⟩
 ·rw [if_neg c2] at H
  have c2b0 : decide (0 ≤ a0_0) = false := decide_eq_false c2
  clear c2
  obtain rfl := Option.some.inj H
  go_enter Tryd.func44, Tryd.ntmps44
  go_wp2_with (first | ((with_reducible refine gate_dst (N := 1) rfl ?_); refine box_event ?hg (N := 1) ?hd (cs := #[.int .i64 a0_0, .int .i64 a0_1, .int .i64 a0_2]) (t := 24) ?hr ?_; (case hd => rfl); (case hg => rfl); (case hr => first | (go_simp; done) | (go_simp; rfl)); intro gb153 hg w17 hbox hb; have BK153 := Aside0.mk hbox; have GW153 := gE HB hg; replace HB := bB HB hb; have GE153 := GW153; clear hb hbox hg; have hcz18_0 : w17.cell? ⟨gb153, 0, none⟩ = some (.int .i64 a0_0) := bC BK153 0 rfl; have hcz18_1 : w17.cell? ⟨gb153, 1, none⟩ = some (.int .i64 a0_1) := bC BK153 1 rfl; have hcz18_2 : w17.cell? ⟨gb153, 2, none⟩ = some (.int .i64 a0_2) := bC BK153 2 rfl; have hfz18_0 := bF BK153 0; have hfz18_1 := bF BK153 1; have hfz18_2 := bF BK153 2))
  go_ret
  exact ⟨by first | rfl | (simp [errW_none, errW_some] <;> rfl) | (simp [*, errW_none, errW_some] <;> rfl), by repeat (first | (with_reducible first | exact HB.out | apply bL | apply bM | apply bR) | exact HB.out)⟩
/-! ### ident_CompareProc: function 46 -/
-- @import T3
def ident_CompareProc.f (a0_0 : Int) (a0_1 : Int) (a0_2 : Int) (a1_0 : Int) (a1_1 : Int) (a1_2 : Int) : Option Int := some (cmp3 a0_0 a0_1 a0_2 a1_0 a1_1 a1_2)
theorem ident_CompareProc.calls (a0_0 : Int) (a0_1 : Int) (a0_2 : Int) (a1_0 : Int) (a1_1 : Int) (a1_2 : Int) (r : Int) (w : World) (h : ident_CompareProc.f a0_0 a0_1 a0_2 a1_0 a1_1 a1_2 = some r) :
  Calls Tryd.prog 46 #[.agg #[.int .i64 a0_0, .int .i64 a0_1, .int .i64 a0_2], .agg #[.int .i64 a1_0, .int .i64 a1_1, .int .i64 a1_2]] w fun e w' => e = .returned (.int .i64 r) ∧ Below w.heap.size w w' := by
 obtain rfl := Option.some.inj h
 exact ident_CompareProc.calls3 _ _ _ _ _ _ w

/-! ### holders_amounts: function 47 -/
def holders_amounts.l0 : Nat → List (S26) → List (S53) → Int → Int → Option ((List (S26)))
 | 0, _, _, _, _ => none
 | k + 1, x3, x6, x7, x8 => if x8 < x7 then (if 0 ≤ x8 then (if x8 < (x6.length : Int) then (if x3.length < 8796093022208 then (holders_amounts.l0 k (x3 ++ [(⟨(rd_T53 x6 x8).f1.f0, (rd_T53 x6 x8).f1.f1⟩ : S26)]) x6 x7 (wrap64 (x8 + 1))) else (none)) else (none)) else (none)) else (some x3)
def holders_amounts.f (k : Nat) (l0 : List (S53)) : Option ((List (S26))) := holders_amounts.l0 k ([] : List (S26)) l0 (l0.length : Int) 0
theorem holders_amounts.mono_l : ∀ k, (∀ y0 y1 y2 y3, LeO (holders_amounts.l0 k y0 y1 y2 y3) (holders_amounts.l0 (k + 1) y0 y1 y2 y3))
 | 0 => fun _ _ _ _ r h => by simp [holders_amounts.l0] at h
 | k + 1 => by
  have ih0 := holders_amounts.mono_l k
  ·intro y0 y1 y2 y3
   unfold holders_amounts.l0
   repeat' first
   | (with_reducible exact ih0 _ _ _ _)
   | (with_reducible exact LeO.refl _)
   | (with_reducible exact LeO.none _)
   | (with_reducible refine LeO.ite ?_ ?_)
   | (with_reducible refine LeO.bind ?_ (fun _ => ?_))
   | exact ih0 _ _ _ _
   | exact LeO.none _
   | refine LeO.ite ?_ ?_
   | refine LeO.bind ?_ (fun _ => ?_)
theorem holders_amounts.mono : ∀ a0 k, LeO (holders_amounts.f k a0) (holders_amounts.f (k + 1) a0) := by
 intro a0 k
 have ih0 := holders_amounts.mono_l k
 unfold holders_amounts.f
 repeat' first
   | (with_reducible exact ih0 _ _ _ _)
   | (with_reducible exact LeO.refl _)
   | (with_reducible exact LeO.none _)
   | (with_reducible refine LeO.ite ?_ ?_)
   | (with_reducible refine LeO.bind ?_ (fun _ => ?_))
   | exact ih0 _ _ _ _
   | exact LeO.none _
   | refine LeO.ite ?_ ?_
   | refine LeO.bind ?_ (fun _ => ?_)
set_option maxHeartbeats 8000000 in
set_option maxRecDepth 100000 in
theorem holders_amounts.calls (k : Nat) (A0 : Option Addr) (c0 : Nat) (l0 : List (S53)) (r : List (S26)) (w : World) (hr0 : Kd.C k53 w A0 l0.length l0) (hc0 : l0.length ≤ c0) (h : holders_amounts.f k l0 = some r) :
  Calls Tryd.prog 47 #[.slice A0 l0.length c0] w fun e w' => ∃ v0_ : Value, e = .returned (v0_) ∧ Kd.R k26 26 w' w.heap.size (fun _ => True) v0_ r ∧ Below w.heap.size w w' := by
 have hu53 := Tryd.underlying53
 have hu26 := Tryd.underlying26
 have HR0 := Aside0.mk hr0
 have HC0 := Aside0.mk hc0
 clear hr0 hc0
 have HB := Aside0.mk (Below.refl w.heap.size w)
 have H : (holders_amounts.l0 k ([] : List (S26)) l0 (l0.length : Int) 0) = some r := h
 clear h
 have H' := Aside0.mk H
 clear H
 go_enter Tryd.func47, Tryd.ntmps47
 go_wp2
 go_loopg [3, 8] k (fun kq v3 v8 w' => ∃ (x3_1 : List (S26)) (x8_1 : Int), v8 = .int .i64 x8_1 ∧ Aside0 (holders_amounts.l0 kq x3_1 l0 (l0.length : Int) x8_1 = some r) ∧ Aside0 (kq ≤ k) ∧ Aside0 (Kd.R k26 26 w' w.heap.size (fun _ => True) v3 x3_1) ∧ Aside0 (Below w.heap.size w w'))
 case atStart => exact ⟨(([] : List (S26))), (0), (by first | rfl | (simp; done) | (simp [*]; done)), H', ⟨Nat.le_refl _⟩, ⟨by first | exact Kd.R_nil _ _ _ _ _ | exact Kd.N_nil _ _ _ _ _ | exact Kd.V_nil _ _ _ _ _ | exact Kd.Q_nil _ _ _ _ _ | exact Kd.S_nil _ _ _ _ _⟩, ⟨by repeat (first | (with_reducible first | exact HB.out | apply bL | apply bM | apply bR) | exact HB.out)⟩⟩
 case round =>
  clear H'
  obtain ⟨x3_1, x8_1, rfl, HA, HK1, HO_3, HB⟩ := hrel
  cases gk with
  | zero => exact absurd HA.out (by simp [holders_amounts.l0])
  | succ k1 =>
   have H := HA.out
   clear HA
   simp only [holders_amounts.l0] at H
   by_cases c2 : x8_1 < (l0.length : Int)
   ·rw [if_pos c2] at H
    have c2b0 : decide (x8_1 < (l0.length : Int)) = true := decide_eq_true c2
    clear c2
    by_cases c3 : 0 ≤ x8_1
    ·rw [if_pos c3] at H
     have c3b0 : decide (0 ≤ x8_1) = true := decide_eq_true c3
     clear c3
     by_cases c4 : x8_1 < (l0.length : Int)
     ·rw [if_pos c4] at H
      have c4b0 : decide (x8_1 < (l0.length : Int)) = true := decide_eq_true c4
      clear c4
      by_cases c5 : x3_1.length < 8796093022208
      ·rw [if_pos c5] at H
       have LMc5 := Aside0.mk c5
       clear c5
       obtain ⟨y156, hy156⟩ : ∃ y_ : List (S26), y_ = (x3_1 ++ [(⟨(rd_T53 l0 x8_1).f1.f0, (rd_T53 l0 x8_1).f1.f1⟩ : S26)]) := ⟨_, rfl⟩
       replace H : (holders_amounts.l0 k1 y156 l0 (l0.length : Int) (wrap64 (x8_1 + 1))) = some r := by first | (rw [hy156]; with_reducible exact H) | (have H2_ := (Option.bind_some _ _).symm.trans H; rw [hy156]; with_reducible exact H2_) | (have H2_ := (Option.bind_some _ _).symm.trans H; with_reducible exact H2_) | with_reducible exact H | (rw [hy156]; exact H) | exact H
       have Ny156 := Aside0.mk hy156
       clear hy156
       have H' := Aside0.mk H
       clear H
       have p154 : 0 ≤ (x8_1 : Int) := of_decide_eq_true (by first | (with_reducible assumption) | assumption)
       have q154 : x8_1 < (l0.length : Int) := of_decide_eq_true (by first | (with_reducible assumption) | assumption)
       obtain ⟨ad154, e154, hx154_0, hx154_1, hx154_2, hx154_3, hx154_4⟩ := at_T53 HR0.out x8_1 p154 q154
       cases e154
       replace hx154_0 := kC HB hx154_0
       replace hx154_1 := kC HB hx154_1
       replace hx154_2 := kC HB hx154_2
       replace hx154_3 := kC HB hx154_3
       replace hx154_4 := kC HB hx154_4
       replace p154 := eq_true p154
       replace q154 := eq_true q154
       go_wp2_with (first | ((with_reducible refine gate_dst (N := 5) rfl ?_); refine box_event ?hg (N := 5) ?hd (cs := #[.int .i64 0, .int .i64 0, .int .i64 0, .int .i64 0, .int .i64 0]) (t := 53) ?hr ?_; (case hd => rfl); (case hg => rfl); (case hr => first | (go_simp; done) | (go_simp; rfl)); intro gb155 hg w6 hbox hb; replace HO_3 := Aside0.mk (Kd.R_below (by (with_reducible repeat (first | apply Kd.R_alloc | apply Kd.R_drewN | apply Kd.R_drew)); exact HO_3.out) hb); have BK155 := Aside0.mk hbox; have GW155 := gE HB hg; replace HB := bB HB hb; have GE155 := GW155; clear hb hbox hg; have hcz7_0 : w6.cell? ⟨gb155, 0, none⟩ = some (.int .i64 0) := bC BK155 0 rfl; have hcz7_1 : w6.cell? ⟨gb155, 1, none⟩ = some (.int .i64 0) := bC BK155 1 rfl; have hcz7_2 : w6.cell? ⟨gb155, 2, none⟩ = some (.int .i64 0) := bC BK155 2 rfl; have hcz7_3 : w6.cell? ⟨gb155, 3, none⟩ = some (.int .i64 0) := bC BK155 3 rfl; have hcz7_4 : w6.cell? ⟨gb155, 4, none⟩ = some (.int .i64 0) := bC BK155 4 rfl; have hfz7_0 := bF BK155 0; have hfz7_1 := bF BK155 1; have hfz7_2 := bF BK155 2; have hfz7_3 := bF BK155 3; have hfz7_4 := bF BK155 4) | ((with_reducible refine gate_builtin (b := .append) (xs := #[.tmp 12, .tmp 15]) rfl ?_); at_builtin; refine Kd.R_append k26 (w0 := w) w.heap.size rfl (.tmp 12) (.tmp 15) 59 26 (.agg #[(.int .i64 0), (.int .i64 0)]) 16 rfl Tryd.underlying59 info26 rfl (by decide) (by omega) u3 x3_1 (⟨(rd_T53 l0 x8_1).f1.f0, (rd_T53 l0 x8_1).f1.f1⟩ : S26) [.int .i64 ((rd_T53 l0 x8_1).f1.f0), .int .i64 ((rd_T53 l0 x8_1).f1.f1)] (fun _ => True) (fun _ => False) rfl (by first | (go_simp; done) | (go_simp; rfl)) ?aP (fun _ hk => hk.elim) ?aF ?aO ?aB ?aS ?aL ?_; (case aP => exact k26_mkM _ _ _ (⟨(rd_T53 l0 x8_1).f1.f0, (rd_T53 l0 x8_1).f1.f1⟩ : S26)); (case aB => exact (by repeat (first | (with_reducible first | exact HB.out | apply bL | apply bM | apply bR | refine bS ?_ GE155.out) | exact HB.out))); (case aF => exact (fun _ _ => trivial)); (case aO => exact (by (with_reducible repeat (first | apply Kd.R_alloc | apply Kd.R_drewN | apply Kd.R_drew)); exact Kd.R_mono (Kd.R_far (p := ⟨gb155, 4, none⟩) (Kd.R_far (p := ⟨gb155, 3, none⟩) (Kd.R_far (p := ⟨gb155, 2, none⟩) (Kd.R_far (p := ⟨gb155, 1, none⟩) (Kd.R_far (p := ⟨gb155, 0, none⟩) (Kd.R_types HO_3.out BK155.out (by decide)) (fun _ hk => hk.2) (.int .i64 ((rd_T53 l0 x8_1).f0.f0))) (fun _ hk => hk.2) (.int .i64 ((rd_T53 l0 x8_1).f0.f1))) (fun _ hk => hk.2) (.int .i64 ((rd_T53 l0 x8_1).f0.f2))) (fun _ hk => hk.2) (.int .i64 ((rd_T53 l0 x8_1).f1.f0))) (fun _ hk => hk.2) (.int .i64 ((rd_T53 l0 x8_1).f1.f1))) (fun _ hk => trivial))); (case aS => exact (below_size (by repeat (first | (with_reducible first | exact HB.out | apply bL | apply bM | apply bR | refine bS ?_ GE155.out) | exact HB.out)))); (case aL => have := LMc5.out; omega); intro v157 w8 ho hb hg hat; rw [← Ny156.out] at ho; replace BK155 := Aside0.mk (blk_grown (g := gb155) (o := .cells #[.int .i64 ((rd_T53 l0 x8_1).f0.f0), .int .i64 ((rd_T53 l0 x8_1).f0.f1), .int .i64 ((rd_T53 l0 x8_1).f0.f2), .int .i64 ((rd_T53 l0 x8_1).f1.f0), .int .i64 ((rd_T53 l0 x8_1).f1.f1)] 53 (0, 0)) (by (with_reducible repeat first | refine bN ?_ _ | refine bD ?_ | refine bA ?_ _); refine blk_put (cs := #[.int .i64 ((rd_T53 l0 x8_1).f0.f0), .int .i64 ((rd_T53 l0 x8_1).f0.f1), .int .i64 ((rd_T53 l0 x8_1).f0.f2), .int .i64 ((rd_T53 l0 x8_1).f1.f0), .int .i64 0]) ?_ 4 _ rfl; (with_reducible repeat first | refine bN ?_ _ | refine bD ?_ | refine bA ?_ _); refine blk_put (cs := #[.int .i64 ((rd_T53 l0 x8_1).f0.f0), .int .i64 ((rd_T53 l0 x8_1).f0.f1), .int .i64 ((rd_T53 l0 x8_1).f0.f2), .int .i64 0, .int .i64 0]) ?_ 3 _ rfl; (with_reducible repeat first | refine bN ?_ _ | refine bD ?_ | refine bA ?_ _); refine blk_put (cs := #[.int .i64 ((rd_T53 l0 x8_1).f0.f0), .int .i64 ((rd_T53 l0 x8_1).f0.f1), .int .i64 0, .int .i64 0, .int .i64 0]) ?_ 2 _ rfl; (with_reducible repeat first | refine bN ?_ _ | refine bD ?_ | refine bA ?_ _); refine blk_put (cs := #[.int .i64 ((rd_T53 l0 x8_1).f0.f0), .int .i64 0, .int .i64 0, .int .i64 0, .int .i64 0]) ?_ 1 _ rfl; (with_reducible repeat first | refine bN ?_ _ | refine bD ?_ | refine bA ?_ _); refine blk_put (cs := #[.int .i64 0, .int .i64 0, .int .i64 0, .int .i64 0, .int .i64 0]) ?_ 0 _ rfl; (with_reducible repeat first | refine bN ?_ _ | refine bD ?_ | refine bA ?_ _); exact BK155.out) hg (Kd.R_ne HO_3.out BK155.out (by decide))); replace HB := Aside0.mk (hb); have HO158 := Aside0.mk (ho); clear HO_3; clear ho hb hg hat))
       go_roundg k1
       case measure => have := HK1.out; omega
       case rel => exact ⟨(y156), (wrap64 (x8_1 + 1)), (by first | rfl | (simp; done) | (simp [*]; done)), H', ⟨by have := HK1.out; omega⟩, ⟨by (with_reducible repeat (first | apply Kd.R_alloc | apply Kd.R_drewN | apply Kd.R_drew)); exact HO158.out⟩, ⟨by repeat (first | (with_reducible first | exact HB.out | apply bL | apply bM | apply bR | refine bS ?_ GE155.out) | exact HB.out)⟩⟩
      ·rw [if_neg c5] at H
       exact absurd H (by simp)
     ·rw [if_neg c4] at H
      exact absurd H (by simp)
    ·rw [if_neg c3] at H
     exact absurd H (by simp)
   ·rw [if_neg c2] at H
    have c2b0 : decide (x8_1 < (l0.length : Int)) = false := decide_eq_false c2
    clear c2
    obtain rfl := Option.some.inj H
    go_wp2
    go_ret
    exact ⟨_, by first | rfl | (simp [errW_none, errW_some] <;> rfl) | (simp [*, errW_none, errW_some] <;> rfl), by (with_reducible repeat (first | apply Kd.R_alloc | apply Kd.R_drewN | apply Kd.R_drew)); exact HO_3.out, by repeat (first | (with_reducible first | exact HB.out | apply bL | apply bM | apply bR) | exact HB.out)⟩
end Go.Proofs.YtnmemkphfgdplaaDoor.PA
