-- Printed by wip/tool/myprint.py for this claim; Lean checks it.
import Derived.Test.YtbiapfjhdggkpaaDoorPAx0
import Derived.Test.YtbiapfjhdggkpaaDoorPAx4
import Derived.Test.YtbiapfjhdggkpaaDoorPAx5
import Derived.Test.YtbiapfjhdggkpaaDoorPAx7
import Derived.Test.YtbiapfjhdggkpaaDoorSlim
namespace Go.Proofs.YtbiapfjhdggkpaaDoor.PA
open Go.RowKit Go.Proofs.YtbiapfjhdggkpaaDoorW.PrintWords Go.Proofs.YtbiapfjhdggkpaaDoorW.PrintLast Go.Proofs.YtbiapfjhdggkpaaDoorW.PrintMore
attribute [local go_sem] max2_int min2_int max_two min_two max_three min_three max_four min_four   -- for this text's walks alone
set_option linter.unusedVariables false
set_option linter.unusedSimpArgs false

/-! ### clusterlockslaw05_CatalogSites: function 6 -/
mutual
def clusterlockslaw05_CatalogSites.l0 : Nat → List (S26) → List (S26) → Int → Int → Option (Bool)
 | 0, _, _, _, _ => none
 | k + 1, x0, x3, x4, x5 => if x5 < 4 then ((catalog_At.f k x0 x5).bind fun t194 => (clusterlockslaw05_CatalogSites.l1 k x0 x3 (wrap64 (x4 + (t194.length : Int))) x5 t194 0)) else ((clusterlockslaw05_awake.f k).bind fun t192 => (if t192 = true then (if x4 = (x0.length : Int) then ((clusterlocksref05_Same.f k x3 x0).bind fun t193 => (some t193)) else (some false)) else (some false)))
def clusterlockslaw05_CatalogSites.l1 : Nat → List (S26) → List (S26) → Int → Int → List (S26) → Int → Option (Bool)
 | 0, _, _, _, _, _, _ => none
 | k + 1, x0, x3, x4, x5, x6, x7 => if x7 < (x6.length : Int) then (if 0 ≤ x7 then ((catalog_Insert.f k x3 ((rd_T26 x6 x7).f0) ((rd_T26 x6 x7).f1) ((rd_T26 x6 x7).f2) ((rd_T26 x6 x7).f3)).bind fun bt198 => (if bt198.2 = 0 then (clusterlockslaw05_CatalogSites.l1 k x0 bt198.1 x4 x5 x6 (wrap64 (x7 + 1))) else (clusterlockslaw05_CatalogSites.l1 k x0 x3 x4 x5 x6 (wrap64 (x7 + 1))))) else (none)) else (clusterlockslaw05_CatalogSites.l0 k x0 x3 x4 (wrap64 (x5 + 1)))
end
def clusterlockslaw05_CatalogSites.f (k : Nat) (l0 : List (S26)) : Option (Bool) := (clusterlocksref05_Valid.f k l0).bind fun t190 => (if t190 = true then (clusterlockslaw05_CatalogSites.l0 k l0 ([] : List (S26)) 0 0) else ((clusterlockslaw05_awake.f k).bind fun t191 => (some t191)))
theorem clusterlockslaw05_CatalogSites.mono_l : ∀ k, (∀ y0 y1 y2 y3, LeO (clusterlockslaw05_CatalogSites.l0 k y0 y1 y2 y3) (clusterlockslaw05_CatalogSites.l0 (k + 1) y0 y1 y2 y3)) ∧ (∀ y0 y1 y2 y3 y4 y5, LeO (clusterlockslaw05_CatalogSites.l1 k y0 y1 y2 y3 y4 y5) (clusterlockslaw05_CatalogSites.l1 (k + 1) y0 y1 y2 y3 y4 y5))
 | 0 => ⟨fun _ _ _ _ r h => by simp [clusterlockslaw05_CatalogSites.l0] at h, fun _ _ _ _ _ _ r h => by simp [clusterlockslaw05_CatalogSites.l1] at h⟩
 | k + 1 => by
  obtain ⟨ih0, ih1⟩ := clusterlockslaw05_CatalogSites.mono_l k
  refine ⟨?_, ?_⟩
  ·intro y0 y1 y2 y3
   unfold clusterlockslaw05_CatalogSites.l0
   repeat' first
   | (with_reducible exact ih0 _ _ _ _)
   | (with_reducible exact ih1 _ _ _ _ _ _)
   | (with_reducible exact catalog_At.mono _ _ _)
   | (with_reducible exact catalog_Insert.mono _ _ _ _ _ _)
   | (with_reducible exact clusterlockslaw05_awake.mono _)
   | (with_reducible exact clusterlocksref05_Same.mono _ _ _)
   | (with_reducible exact clusterlocksref05_Valid.mono _ _)
   | (with_reducible exact LeO.refl _)
   | (with_reducible exact LeO.none _)
   | (with_reducible refine LeO.ite ?_ ?_)
   | (with_reducible refine LeO.bind ?_ (fun _ => ?_))
   | exact ih0 _ _ _ _
   | exact ih1 _ _ _ _ _ _
   | exact catalog_At.mono _ _ _
   | exact catalog_Insert.mono _ _ _ _ _ _
   | exact clusterlockslaw05_awake.mono _
   | exact clusterlocksref05_Same.mono _ _ _
   | exact clusterlocksref05_Valid.mono _ _
   | exact LeO.none _
   | refine LeO.ite ?_ ?_
   | refine LeO.bind ?_ (fun _ => ?_)
  ·intro y0 y1 y2 y3 y4 y5
   unfold clusterlockslaw05_CatalogSites.l1
   repeat' first
   | (with_reducible exact ih0 _ _ _ _)
   | (with_reducible exact ih1 _ _ _ _ _ _)
   | (with_reducible exact catalog_At.mono _ _ _)
   | (with_reducible exact catalog_Insert.mono _ _ _ _ _ _)
   | (with_reducible exact clusterlockslaw05_awake.mono _)
   | (with_reducible exact clusterlocksref05_Same.mono _ _ _)
   | (with_reducible exact clusterlocksref05_Valid.mono _ _)
   | (with_reducible exact LeO.refl _)
   | (with_reducible exact LeO.none _)
   | (with_reducible refine LeO.ite ?_ ?_)
   | (with_reducible refine LeO.bind ?_ (fun _ => ?_))
   | exact ih0 _ _ _ _
   | exact ih1 _ _ _ _ _ _
   | exact catalog_At.mono _ _ _
   | exact catalog_Insert.mono _ _ _ _ _ _
   | exact clusterlockslaw05_awake.mono _
   | exact clusterlocksref05_Same.mono _ _ _
   | exact clusterlocksref05_Valid.mono _ _
   | exact LeO.none _
   | refine LeO.ite ?_ ?_
   | refine LeO.bind ?_ (fun _ => ?_)
theorem clusterlockslaw05_CatalogSites.mono : ∀ a0 k, LeO (clusterlockslaw05_CatalogSites.f k a0) (clusterlockslaw05_CatalogSites.f (k + 1) a0) := by
 intro a0 k
 obtain ⟨ih0, ih1⟩ := clusterlockslaw05_CatalogSites.mono_l k
 unfold clusterlockslaw05_CatalogSites.f
 repeat' first
   | (with_reducible exact ih0 _ _ _ _)
   | (with_reducible exact ih1 _ _ _ _ _ _)
   | (with_reducible exact catalog_At.mono _ _ _)
   | (with_reducible exact catalog_Insert.mono _ _ _ _ _ _)
   | (with_reducible exact clusterlockslaw05_awake.mono _)
   | (with_reducible exact clusterlocksref05_Same.mono _ _ _)
   | (with_reducible exact clusterlocksref05_Valid.mono _ _)
   | (with_reducible exact LeO.refl _)
   | (with_reducible exact LeO.none _)
   | (with_reducible refine LeO.ite ?_ ?_)
   | (with_reducible refine LeO.bind ?_ (fun _ => ?_))
   | exact ih0 _ _ _ _
   | exact ih1 _ _ _ _ _ _
   | exact catalog_At.mono _ _ _
   | exact catalog_Insert.mono _ _ _ _ _ _
   | exact clusterlockslaw05_awake.mono _
   | exact clusterlocksref05_Same.mono _ _ _
   | exact clusterlocksref05_Valid.mono _ _
   | exact LeO.none _
   | refine LeO.ite ?_ ?_
   | refine LeO.bind ?_ (fun _ => ?_)
set_option maxHeartbeats 8000000 in
set_option maxRecDepth 100000 in
theorem clusterlockslaw05_CatalogSites.calls (k : Nat) (A0 : Option Addr) (c0 : Nat) (l0 : List (S26)) (r : Bool) (w : World) (hr0 : Kd.C k26 w A0 l0.length l0) (hc0 : l0.length ≤ c0) (h : clusterlockslaw05_CatalogSites.f k l0 = some r) (hT : r = true) :
  Calls Tryd.prog 6 #[.slice A0 l0.length c0] w fun e w' => e = .returned (.bool r) ∧ Below w.heap.size w w' := by
 have hu26 := Tryd.underlying26
 have HR0 := Aside0.mk hr0
 have HC0 := Aside0.mk hc0
 clear hr0 hc0
 have HB := Aside0.mk (Below.refl w.heap.size w)
 have H : ((clusterlocksref05_Valid.f k l0).bind fun t190 => (if t190 = true then (clusterlockslaw05_CatalogSites.l0 k l0 ([] : List (S26)) 0 0) else ((clusterlockslaw05_awake.f k).bind fun t191 => (some t191)))) = some r := h
 have HRT := Aside0.mk hT
 clear h
 obtain ⟨t190, A20, H⟩ := Option.bind_eq_some_iff.mp H
 have A2 := Aside0.mk A20; clear A20
 by_cases c3 : t190 = true
 ·subst c3
  rw [if_pos rfl] at H
  have H' := Aside0.mk H
  clear H
  go_enter Tryd.func6, Tryd.ntmps6
  go_wp2_with (first | ((with_reducible refine gate_callee (f := 21) rfl ?_); refine goesL_ (some 11) rfl rfl Tryd.func21 (by kernel_rfl) rfl #[.slice A0 l0.length c0] rfl (by (try simp only [mA]); first | done | rfl) ?_; (with_reducible refine (clusterlocksref05_Valid.calls k _ _ l0 true _ ?side1 ?side2 A2.out).mono ?_); (case side1 => repeat (first | exact HR0.out | (with_reducible refine Kd.C_alloc ?_ _) | (with_reducible refine Kd.C_drewN ?_ _) | (with_reducible refine Kd.C_drew ?_))); (case side2 => exact HC0.out); rintro e w4 ⟨rfl, hb⟩; refine ⟨_, rfl, ?_⟩; replace HB := bB HB hb; (try clear hb); (try clear hk)))
  go_loopg [3, 4, 5] k (fun kq v3 v4 v5 w' => ∃ (x3_1 : List (S26)) (x4_1 : Int) (x5_1 : Int), v4 = .int .i64 x4_1 ∧ v5 = .int .i64 x5_1 ∧ Aside0 (clusterlockslaw05_CatalogSites.l0 kq l0 x3_1 x4_1 x5_1 = some r) ∧ Aside0 (kq ≤ k) ∧ Aside0 (Kd.R k26 26 w' w.heap.size (fun _ => True) v3 x3_1) ∧ Aside0 (Below w.heap.size w w'))
  case atStart => exact ⟨(([] : List (S26))), (0), (0), (by first | rfl | (simp; done) | (simp [*]; done)), (by first | rfl | (simp; done) | (simp [*]; done)), H', ⟨Nat.le_refl _⟩, ⟨by first | exact Kd.R_nil _ _ _ _ _ | exact Kd.N_nil _ _ _ _ _ | exact Kd.V_nil _ _ _ _ _ | exact Kd.Q_nil _ _ _ _ _ | exact Kd.S_nil _ _ _ _ _⟩, ⟨(uS HB)⟩⟩
  case round =>
   clear H'
   try clear c2
   try clear p2
   try clear c3
   obtain ⟨x3_1, x4_1, x5_1, rfl, rfl, HA, HK1, HO_3, HB⟩ := hrel
   cases gk with
   | zero => exact absurd HA.out (by simp [clusterlockslaw05_CatalogSites.l0])
   | succ k1 =>
    have H := HA.out
    clear HA
    simp only [clusterlockslaw05_CatalogSites.l0] at H
    by_cases c5 : x5_1 < 4
    ·rw [if_pos c5] at H
     have c5b0 : decide (x5_1 < 4) = true := decide_eq_true c5
     clear c5
     obtain ⟨t194, A60, H⟩ := Option.bind_eq_some_iff.mp H
     have A6 := Aside0.mk A60; clear A60
     have H' := Aside0.mk H
     clear H
     go_wp2_with (first | ((with_reducible refine gate_callee (f := 25) rfl ?_); refine goesL_ (some 20) rfl rfl Tryd.func25 (by kernel_rfl) rfl #[.slice A0 l0.length c0, .int .i64 x5_1] rfl (by (try simp only [mA]); first | done | rfl) ?_; (with_reducible refine (catalog_At.calls k1 _ _ l0 x5_1 t194 _ ?side1 ?side2 A6.out).mono ?_); (case side1 => repeat (first | exact (Kd.C_below HR0.out HB.out) | (with_reducible refine Kd.C_alloc ?_ _) | (with_reducible refine Kd.C_drewN ?_ _) | (with_reducible refine Kd.C_drew ?_))); (case side2 => exact HC0.out); rintro e w7 ⟨v195, rfl, ho0, hb⟩; refine ⟨_, rfl, ?_⟩; have HO196 := Aside0.mk (Kd.R_lower (Kd.R_new' ho0 (Kd.R_lt (by (with_reducible repeat (first | apply Kd.R_alloc | apply Kd.R_drewN | apply Kd.R_drew)); exact HO_3.out))) (below_size (uB HB))); replace HO_3 := Aside0.mk (Kd.R_elder' (by (with_reducible repeat (first | apply Kd.R_alloc | apply Kd.R_drewN | apply Kd.R_drew)); exact HO_3.out) (Kd.R_base ho0) hb); replace HB := bB HB hb; (try clear hb); (try clear hk); (try clear ho0); obtain ⟨Ao8, co8, eo8⟩ := Kd.R_slice HO196.out; subst eo8))
     go_loopg [3, 7] k1 (fun kq v3 v7 w' => ∃ (x3_2 : List (S26)) (x7_2 : Int), v7 = .int .i64 x7_2 ∧ Aside0 (clusterlockslaw05_CatalogSites.l1 kq l0 x3_2 (wrap64 (x4_1 + (t194.length : Int))) x5_1 t194 x7_2 = some r) ∧ Aside0 (kq ≤ k1) ∧ Aside0 (Kd.R k26 26 w' w.heap.size (fun k_ => some k_ ≠ ((.slice Ao8 t194.length co8) : Value).ownBlock) v3 x3_2) ∧ Aside0 (Kd.R k26 26 w' w.heap.size (fun k_ => some k_ ≠ (v3 : Value).ownBlock) (.slice Ao8 t194.length co8) t194) ∧ Aside0 (Below w.heap.size w w'))
     case atStart => exact ⟨(x3_1), (0), (by first | rfl | (simp; done) | (simp [*]; done)), H', ⟨Nat.le_refl _⟩, ⟨by (with_reducible repeat (first | apply Kd.R_alloc | apply Kd.R_drewN | apply Kd.R_drew)); exact Kd.R_mono HO_3.out (fun _ hk => hk.2)⟩, ⟨by (with_reducible repeat (first | apply Kd.R_alloc | apply Kd.R_drewN | apply Kd.R_drew)); exact Kd.R_mono HO196.out (fun _ hk => hk.2)⟩, ⟨(uS HB)⟩⟩
     case round =>
      clear H'
      try clear c2
      try clear p2
      try clear c3
      try clear c5
      try clear c5b0
      try clear c6
      try clear p6
      try clear p2
      obtain ⟨x3_2, x7_2, rfl, HA, HK2, HO_3, HO_6, HB⟩ := hrel
      cases gk with
      | zero => exact absurd HA.out (by simp [clusterlockslaw05_CatalogSites.l1])
      | succ k2 =>
       have H := HA.out
       clear HA
       simp only [clusterlockslaw05_CatalogSites.l1] at H
       by_cases c9 : x7_2 < (t194.length : Int)
       ·rw [if_pos c9] at H
        have c9b0 : decide (x7_2 < (t194.length : Int)) = true := decide_eq_true c9
        clear c9
        by_cases c10 : 0 ≤ x7_2
        ·rw [if_pos c10] at H
         have c10b0 : decide (0 ≤ x7_2) = true := decide_eq_true c10
         clear c10
         replace H := Option.bind_eq_some_iff.mp H
         obtain ⟨⟨t198, t201⟩, A110, H⟩ := H
         replace H : (if t201 = 0 then (clusterlockslaw05_CatalogSites.l1 k2 l0 t198 (wrap64 (x4_1 + (t194.length : Int))) x5_1 t194 (wrap64 (x7_2 + 1))) else (clusterlockslaw05_CatalogSites.l1 k2 l0 x3_2 (wrap64 (x4_1 + (t194.length : Int))) x5_1 t194 (wrap64 (x7_2 + 1)))) = some r := H
         have A11 := Aside0.mk A110; clear A110
         have HH_ := Aside0.mk H
         clear H
         have p197 : 0 ≤ (x7_2 : Int) := of_decide_eq_true (by first | (with_reducible assumption) | assumption)
         have q197 : x7_2 < (t194.length : Int) := of_decide_eq_true (by first | (with_reducible assumption) | assumption)
         obtain ⟨ad197, e197, hx197_0, hx197_1, hx197_2, hx197_3⟩ := at_T26 (Kd.R_reads' HO_6.out).2.2 x7_2 p197 q197
         cases e197
         replace p197 := eq_true p197
         replace q197 := eq_true q197
         obtain ⟨Ao13, co13, eo13⟩ := Kd.R_slice HO_3.out
         subst eo13
         have H := HH_.out
         clear HH_
         by_cases c12 : t201 = 0
         ·rw [if_pos c12] at H
          have c12b0 : (t201 == 0) = true := beq_iff_eq.mpr c12
          have c12b1 : (t201 != 0) = false := bne_eq_false_iff_eq.mpr c12
          clear c12
          have H' := Aside0.mk H
          clear H
          (try simp only [c12b0, c12b1])
          go_wp2_with (first | ((with_reducible refine gate_callee (f := 22) rfl ?_); refine goesL_ (some 37) rfl rfl Tryd.func22 (by kernel_rfl) rfl #[.slice Ao13 x3_2.length co13, .agg #[.string ((rd_T26 t194 x7_2).f0), .int .i64 ((rd_T26 t194 x7_2).f1), .int .i64 ((rd_T26 t194 x7_2).f2), .int .i64 ((rd_T26 t194 x7_2).f3)]] rfl (by (try simp only [mA]); first | done | rfl) ?_; (with_reducible refine (catalog_Insert.calls k2 _ _ x3_2 ((rd_T26 t194 x7_2).f0) ((rd_T26 t194 x7_2).f1) ((rd_T26 t194 x7_2).f2) ((rd_T26 t194 x7_2).f3) t198 t201 _ ?side1 ?side2 A11.out).mono ?_); (case side1 => repeat (first | exact (Kd.R_reads' HO_3.out).2.2 | (with_reducible refine Kd.C_alloc ?_ _) | (with_reducible refine Kd.C_drewN ?_ _) | (with_reducible refine Kd.C_drew ?_))); (case side2 => exact (Kd.R_reads' HO_3.out).2.1); rintro e w14 ⟨v199, rfl, ho0, hb⟩; refine ⟨_, rfl, ?_⟩; have HO200 := Aside0.mk (Kd.R_lower (Kd.R_new' (Kd.R_new' ho0 (Kd.R_lt (by (with_reducible repeat (first | apply Kd.R_alloc | apply Kd.R_drewN | apply Kd.R_drew)); exact HO_3.out))) (Kd.R_lt (by (with_reducible repeat (first | apply Kd.R_alloc | apply Kd.R_drewN | apply Kd.R_drew)); exact HO_6.out))) (below_size (uB HB))); replace HO_3 := Aside0.mk (Kd.R_elder' (by (with_reducible repeat (first | apply Kd.R_alloc | apply Kd.R_drewN | apply Kd.R_drew)); exact HO_3.out) (Kd.R_base ho0) hb); replace HO_6 := Aside0.mk (Kd.R_elder' (by (with_reducible repeat (first | apply Kd.R_alloc | apply Kd.R_drewN | apply Kd.R_drew)); exact HO_6.out) (Kd.R_base ho0) hb); replace HB := bB HB hb; (try clear hb); (try clear hk); (try clear ho0)))
          go_roundg k2
          case measure => have := HK1.out; have := HK2.out; omega
          case rel => exact ⟨(t198), (wrap64 (x7_2 + 1)), (by first | rfl | (simp; done) | (simp [*]; done)), H', ⟨by have := HK1.out; have := HK2.out; omega⟩, ⟨by (with_reducible repeat (first | apply Kd.R_alloc | apply Kd.R_drewN | apply Kd.R_drew)); exact Kd.R_mono HO200.out (fun _ hk => hk.2)⟩, ⟨by (with_reducible repeat (first | apply Kd.R_alloc | apply Kd.R_drewN | apply Kd.R_drew)); exact Kd.R_mono HO_6.out (fun _ hk => hk.2)⟩, ⟨(uS HB)⟩⟩
         ·rw [if_neg c12] at H
          have c12b0 : (t201 == 0) = false := beq_eq_false_iff_ne.mpr c12
          have c12b1 : (t201 != 0) = true := bne_iff_ne.mpr c12
          have H' := Aside0.mk H
          clear H
          (try simp only [c12b0, c12b1])
          go_wp2_with (first | ((with_reducible refine gate_callee (f := 22) rfl ?_); refine goesL_ (some 37) rfl rfl Tryd.func22 (by kernel_rfl) rfl #[.slice Ao13 x3_2.length co13, .agg #[.string ((rd_T26 t194 x7_2).f0), .int .i64 ((rd_T26 t194 x7_2).f1), .int .i64 ((rd_T26 t194 x7_2).f2), .int .i64 ((rd_T26 t194 x7_2).f3)]] rfl (by (try simp only [mA]); first | done | rfl) ?_; (with_reducible refine (catalog_Insert.calls k2 _ _ x3_2 ((rd_T26 t194 x7_2).f0) ((rd_T26 t194 x7_2).f1) ((rd_T26 t194 x7_2).f2) ((rd_T26 t194 x7_2).f3) t198 t201 _ ?side1 ?side2 A11.out).mono ?_); (case side1 => repeat (first | exact (Kd.R_reads' HO_3.out).2.2 | (with_reducible refine Kd.C_alloc ?_ _) | (with_reducible refine Kd.C_drewN ?_ _) | (with_reducible refine Kd.C_drew ?_))); (case side2 => exact (Kd.R_reads' HO_3.out).2.1); rintro e w14 ⟨v199, rfl, ho0, hb⟩; refine ⟨_, rfl, ?_⟩; have HO200 := Aside0.mk (Kd.R_lower (Kd.R_new' (Kd.R_new' ho0 (Kd.R_lt (by (with_reducible repeat (first | apply Kd.R_alloc | apply Kd.R_drewN | apply Kd.R_drew)); exact HO_3.out))) (Kd.R_lt (by (with_reducible repeat (first | apply Kd.R_alloc | apply Kd.R_drewN | apply Kd.R_drew)); exact HO_6.out))) (below_size (uB HB))); replace HO_3 := Aside0.mk (Kd.R_elder' (by (with_reducible repeat (first | apply Kd.R_alloc | apply Kd.R_drewN | apply Kd.R_drew)); exact HO_3.out) (Kd.R_base ho0) hb); replace HO_6 := Aside0.mk (Kd.R_elder' (by (with_reducible repeat (first | apply Kd.R_alloc | apply Kd.R_drewN | apply Kd.R_drew)); exact HO_6.out) (Kd.R_base ho0) hb); replace HB := bB HB hb; (try clear hb); (try clear hk); (try clear ho0)))
          go_roundg k2
          case measure => have := HK1.out; have := HK2.out; omega
          case rel => exact ⟨(x3_2), (wrap64 (x7_2 + 1)), (by first | rfl | (simp; done) | (simp [*]; done)), H', ⟨by have := HK1.out; have := HK2.out; omega⟩, ⟨by (with_reducible repeat (first | apply Kd.R_alloc | apply Kd.R_drewN | apply Kd.R_drew)); exact Kd.R_mono HO_3.out (fun _ hk => hk.1)⟩, ⟨by (with_reducible repeat (first | apply Kd.R_alloc | apply Kd.R_drewN | apply Kd.R_drew)); exact Kd.R_mono HO_6.out (fun _ hk => hk.1)⟩, ⟨(uS HB)⟩⟩
        ·rw [if_neg c10] at H
         exact absurd H (by simp)
       ·rw [if_neg c9] at H
        have c9b0 : decide (x7_2 < (t194.length : Int)) = false := decide_eq_false c9
        clear c9
        have H' := Aside0.mk H
        clear H
        go_wp2
        go_roundg k2
        case measure => have := HK1.out; have := HK2.out; omega
        case rel => exact ⟨(x3_2), ((wrap64 (x4_1 + (t194.length : Int)))), (wrap64 (x5_1 + 1)), (by first | rfl | (simp; done) | (simp [*]; done)), (by first | rfl | (simp; done) | (simp [*]; done)), H', ⟨by have := HK1.out; have := HK2.out; omega⟩, ⟨by (with_reducible repeat (first | apply Kd.R_alloc | apply Kd.R_drewN | apply Kd.R_drew)); exact Kd.R_mono HO_3.out (fun _ hk => trivial)⟩, ⟨(uS HB)⟩⟩
    ·rw [if_neg c5] at H
     have c5b0 : decide (x5_1 < 4) = false := decide_eq_false c5
     clear c5
     obtain ⟨t192, A170, H⟩ := Option.bind_eq_some_iff.mp H
     have A17 := Aside0.mk A170; clear A170
     by_cases c18 : t192 = true
     ·subst c18
      rw [if_pos rfl] at H
      by_cases c19 : x4_1 = (l0.length : Int)
      ·rw [if_pos c19] at H
       have c19b0 : (x4_1 == (l0.length : Int)) = true := beq_iff_eq.mpr c19
       have c19b1 : (x4_1 != (l0.length : Int)) = false := bne_eq_false_iff_eq.mpr c19
       clear c19
       obtain ⟨t193, A200, H⟩ := Option.bind_eq_some_iff.mp H
       have A20 := Aside0.mk A200; clear A200
       obtain rfl := Option.some.inj H
       go_wp2_with (first | ((with_reducible refine gate_callee (f := 13) rfl ?_); refine goesL_ (some 43) rfl rfl Tryd.func13 (by kernel_rfl) rfl #[] rfl (by (try simp only [mA]); first | done | rfl) ?_; (with_reducible refine (clusterlockslaw05_awake.calls k1  true _ A17.out).mono ?_); rintro e w21 ⟨rfl, hb⟩; refine ⟨_, rfl, ?_⟩; replace HO_3 := Aside0.mk (Kd.R_below (by (with_reducible repeat (first | apply Kd.R_alloc | apply Kd.R_drewN | apply Kd.R_drew)); exact HO_3.out) hb); replace HB := bB HB hb; (try clear hb); (try clear hk); obtain ⟨Ao22, co22, eo22⟩ := Kd.R_slice HO_3.out; subst eo22) | (go_at_call 24; (with_reducible refine (clusterlocksref05_Same.calls k1 _ _ x3_1 _ _ l0 t193 _ ?side1 ?side2 ?side3 ?side4 A20.out).mono ?_); (case side1 => repeat (first | exact (Kd.R_reads' HO_3.out).2.2 | (with_reducible refine Kd.C_alloc ?_ _) | (with_reducible refine Kd.C_drewN ?_ _) | (with_reducible refine Kd.C_drew ?_))); (case side2 => exact (Kd.R_reads' HO_3.out).2.1); (case side3 => repeat (first | exact (Kd.C_below HR0.out HB.out) | (with_reducible refine Kd.C_alloc ?_ _) | (with_reducible refine Kd.C_drewN ?_ _) | (with_reducible refine Kd.C_drew ?_))); (case side4 => exact HC0.out); rintro e w' ⟨rfl, ⟨nd, rfl⟩⟩))
       go_ret
       exact ⟨by first | rfl | (simp [errW_none, errW_some] <;> rfl) | (simp [*, errW_none, errW_some] <;> rfl), (uS HB)⟩
      ·rw [if_neg c19] at H
       have c19b0 : (x4_1 == (l0.length : Int)) = false := beq_eq_false_iff_ne.mpr c19
       have c19b1 : (x4_1 != (l0.length : Int)) = true := bne_iff_ne.mpr c19
       exact absurd (Option.some.inj H) (by rw [HRT.out]; decide)
     ·replace c18 := Bool.eq_false_iff.mpr c18
      subst c18
      rw [if_neg (show ¬ (false = true) by decide)] at H
      exact absurd (Option.some.inj H) (by rw [HRT.out]; decide)
 ·replace c3 := Bool.eq_false_iff.mpr c3
  subst c3
  rw [if_neg (show ¬ (false = true) by decide)] at H
  obtain ⟨t191, A250, H⟩ := Option.bind_eq_some_iff.mp H
  have A25 := Aside0.mk A250; clear A250
  obtain rfl := Option.some.inj H
  go_enter Tryd.func6, Tryd.ntmps6
  go_wp2_with (first | ((with_reducible refine gate_callee (f := 21) rfl ?_); refine goesL_ (some 11) rfl rfl Tryd.func21 (by kernel_rfl) rfl #[.slice A0 l0.length c0] rfl (by (try simp only [mA]); first | done | rfl) ?_; (with_reducible refine (clusterlocksref05_Valid.calls k _ _ l0 false _ ?side1 ?side2 A2.out).mono ?_); (case side1 => repeat (first | exact HR0.out | (with_reducible refine Kd.C_alloc ?_ _) | (with_reducible refine Kd.C_drewN ?_ _) | (with_reducible refine Kd.C_drew ?_))); (case side2 => exact HC0.out); rintro e w26 ⟨rfl, hb⟩; refine ⟨_, rfl, ?_⟩; replace HB := bB HB hb; (try clear hb); (try clear hk)) | ((with_reducible refine gate_callee (f := 13) rfl ?_); refine goesL_ (some 13) rfl rfl Tryd.func13 (by kernel_rfl) rfl #[] rfl (by (try simp only [mA]); first | done | rfl) ?_; (with_reducible refine (clusterlockslaw05_awake.calls k  t191 _ A25.out).mono ?_); rintro e w27 ⟨rfl, hb⟩; refine ⟨_, rfl, ?_⟩; replace HB := bB HB hb; (try clear hb); (try clear hk)))
  go_ret
  exact ⟨by first | rfl | (simp [errW_none, errW_some] <;> rfl) | (simp [*, errW_none, errW_some] <;> rfl), (uS HB)⟩
end Go.Proofs.YtbiapfjhdggkpaaDoor.PA
