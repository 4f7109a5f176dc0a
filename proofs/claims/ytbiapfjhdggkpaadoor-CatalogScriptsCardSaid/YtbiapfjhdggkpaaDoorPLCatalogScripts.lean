-- Printed by wip/tool/myprint.py for this claim; Lean checks it.
import Derived.Test.YtbiapfjhdggkpaaDoorPAx0
import Derived.Test.YtbiapfjhdggkpaaDoorPAx3
import Derived.Test.YtbiapfjhdggkpaaDoorPAx4
import Derived.Test.YtbiapfjhdggkpaaDoorPAx7
import Derived.Test.YtbiapfjhdggkpaaDoorPAx8
import Derived.Test.YtbiapfjhdggkpaaDoorSlim
import Derived.Test.YtbiapfjhdggkpaaDoorT17
namespace Go.Proofs.YtbiapfjhdggkpaaDoor.PA
open Go.RowKit Go.Proofs.YtbiapfjhdggkpaaDoorW.PrintWords Go.Proofs.YtbiapfjhdggkpaaDoorW.PrintLast Go.Proofs.YtbiapfjhdggkpaaDoorW.PrintMore
attribute [local go_sem] max2_int min2_int max_two min_two max_three min_three max_four min_four   -- for this text's walks alone
set_option linter.unusedVariables false
set_option linter.unusedSimpArgs false

attribute [local go_sem high] eqA26
/-! ### clusterlockslaw05_CatalogScripts: function 7 -/
mutual
def clusterlockslaw05_CatalogScripts.l0 : Nat → List (S26) → List Bool → List (S26) → List (S26) → Int → Option (Bool)
 | 0, _, _, _, _, _ => none
 | k + 1, x0, x1, x5, x6, x7 => if x7 < (x0.length : Int) then (if x7 < (x1.length : Int) then (if 0 ≤ x7 then (clusterlockslaw05_CatalogScripts.j1 k x0 x1 x5 x6 x7 (rdOf false x1 x7)) else (none)) else (clusterlockslaw05_CatalogScripts.j1 k x0 x1 x5 x6 x7 false)) else ((clusterlockslaw05_awake.f k).bind fun t215 => (some t215))
def clusterlockslaw05_CatalogScripts.j1 : Nat → List (S26) → List Bool → List (S26) → List (S26) → Int → Bool → Option (Bool)
 | 0, _, _, _, _, _, _ => none
 | k + 1, x0, x1, x5, x6, x7, x35 => if x35 = true then (if 0 ≤ x7 then (if x7 < (x0.length : Int) then ((catalog_Remove.f k x5 ((rd_T26 x0 x7).f0)).bind fun bt218 => ((clusterlocksref05_Remove.f k x6 ((rd_T26 x0 x7).f0)).bind fun bt223 => (if bt218.2 = bt223.2 then (if bt218.2 = 0 then (clusterlockslaw05_CatalogScripts.j2 k x0 x1 bt218.1 bt223.1 x7) else (clusterlockslaw05_CatalogScripts.j2 k x0 x1 x5 x6 x7)) else (some false)))) else (none)) else (none)) else (if 0 ≤ x7 then (if x7 < (x0.length : Int) then ((catalog_Insert.f k x5 ((rd_T26 x0 x7).f0) ((rd_T26 x0 x7).f1) ((rd_T26 x0 x7).f2) ((rd_T26 x0 x7).f3)).bind fun bt228 => ((clusterlocksref05_Insert.f k x6 ((rd_T26 x0 x7).f0) ((rd_T26 x0 x7).f1) ((rd_T26 x0 x7).f2) ((rd_T26 x0 x7).f3)).bind fun bt233 => (if bt228.2 = bt233.2 then (if bt228.2 = 0 then (clusterlockslaw05_CatalogScripts.j2 k x0 x1 bt228.1 bt233.1 x7) else (clusterlockslaw05_CatalogScripts.j2 k x0 x1 x5 x6 x7)) else (some false)))) else (none)) else (none))
def clusterlockslaw05_CatalogScripts.j2 : Nat → List (S26) → List Bool → List (S26) → List (S26) → Int → Option (Bool)
 | 0, _, _, _, _, _ => none
 | k + 1, x0, x1, x5, x6, x7 => (clusterlocksref05_Same.f k x5 x6).bind fun t237 => (if t237 = true then ((catalog_Valid.f k x5).bind fun t238 => (if t238 = true then (clusterlockslaw05_CatalogScripts.l0 k x0 x1 x5 x6 (wrap64 (x7 + 1))) else (some false))) else (some false))
end
def clusterlockslaw05_CatalogScripts.f (k : Nat) (l0 : List (S26)) (l1 : List Bool) : Option (Bool) := if (l0.length : Int) > 40 then ((clusterlockslaw05_awake.f k).bind fun t214 => (some t214)) else (clusterlockslaw05_CatalogScripts.l0 k l0 l1 ([] : List (S26)) ([] : List (S26)) 0)
theorem clusterlockslaw05_CatalogScripts.mono_l : ∀ k, (∀ y0 y1 y2 y3 y4, LeO (clusterlockslaw05_CatalogScripts.l0 k y0 y1 y2 y3 y4) (clusterlockslaw05_CatalogScripts.l0 (k + 1) y0 y1 y2 y3 y4)) ∧ (∀ y0 y1 y2 y3 y4 y5, LeO (clusterlockslaw05_CatalogScripts.j1 k y0 y1 y2 y3 y4 y5) (clusterlockslaw05_CatalogScripts.j1 (k + 1) y0 y1 y2 y3 y4 y5)) ∧ (∀ y0 y1 y2 y3 y4, LeO (clusterlockslaw05_CatalogScripts.j2 k y0 y1 y2 y3 y4) (clusterlockslaw05_CatalogScripts.j2 (k + 1) y0 y1 y2 y3 y4))
 | 0 => ⟨fun _ _ _ _ _ r h => by simp [clusterlockslaw05_CatalogScripts.l0] at h, fun _ _ _ _ _ _ r h => by simp [clusterlockslaw05_CatalogScripts.j1] at h, fun _ _ _ _ _ r h => by simp [clusterlockslaw05_CatalogScripts.j2] at h⟩
 | k + 1 => by
  obtain ⟨ih0, ih1, ih2⟩ := clusterlockslaw05_CatalogScripts.mono_l k
  refine ⟨?_, ?_, ?_⟩
  ·intro y0 y1 y2 y3 y4
   unfold clusterlockslaw05_CatalogScripts.l0
   repeat' first
   | (with_reducible exact ih0 _ _ _ _ _)
   | (with_reducible exact ih1 _ _ _ _ _ _)
   | (with_reducible exact ih2 _ _ _ _ _)
   | (with_reducible exact catalog_Insert.mono _ _ _ _ _ _)
   | (with_reducible exact catalog_Remove.mono _ _ _)
   | (with_reducible exact catalog_Valid.mono _ _)
   | (with_reducible exact clusterlockslaw05_awake.mono _)
   | (with_reducible exact clusterlocksref05_Insert.mono _ _ _ _ _ _)
   | (with_reducible exact clusterlocksref05_Remove.mono _ _ _)
   | (with_reducible exact clusterlocksref05_Same.mono _ _ _)
   | (with_reducible exact LeO.refl _)
   | (with_reducible exact LeO.none _)
   | (with_reducible refine LeO.ite ?_ ?_)
   | (with_reducible refine LeO.bind ?_ (fun _ => ?_))
   | exact ih0 _ _ _ _ _
   | exact ih1 _ _ _ _ _ _
   | exact ih2 _ _ _ _ _
   | exact catalog_Insert.mono _ _ _ _ _ _
   | exact catalog_Remove.mono _ _ _
   | exact catalog_Valid.mono _ _
   | exact clusterlockslaw05_awake.mono _
   | exact clusterlocksref05_Insert.mono _ _ _ _ _ _
   | exact clusterlocksref05_Remove.mono _ _ _
   | exact clusterlocksref05_Same.mono _ _ _
   | exact LeO.none _
   | refine LeO.ite ?_ ?_
   | refine LeO.bind ?_ (fun _ => ?_)
  ·intro y0 y1 y2 y3 y4 y5
   unfold clusterlockslaw05_CatalogScripts.j1
   repeat' first
   | (with_reducible exact ih0 _ _ _ _ _)
   | (with_reducible exact ih1 _ _ _ _ _ _)
   | (with_reducible exact ih2 _ _ _ _ _)
   | (with_reducible exact catalog_Insert.mono _ _ _ _ _ _)
   | (with_reducible exact catalog_Remove.mono _ _ _)
   | (with_reducible exact catalog_Valid.mono _ _)
   | (with_reducible exact clusterlockslaw05_awake.mono _)
   | (with_reducible exact clusterlocksref05_Insert.mono _ _ _ _ _ _)
   | (with_reducible exact clusterlocksref05_Remove.mono _ _ _)
   | (with_reducible exact clusterlocksref05_Same.mono _ _ _)
   | (with_reducible exact LeO.refl _)
   | (with_reducible exact LeO.none _)
   | (with_reducible refine LeO.ite ?_ ?_)
   | (with_reducible refine LeO.bind ?_ (fun _ => ?_))
   | exact ih0 _ _ _ _ _
   | exact ih1 _ _ _ _ _ _
   | exact ih2 _ _ _ _ _
   | exact catalog_Insert.mono _ _ _ _ _ _
   | exact catalog_Remove.mono _ _ _
   | exact catalog_Valid.mono _ _
   | exact clusterlockslaw05_awake.mono _
   | exact clusterlocksref05_Insert.mono _ _ _ _ _ _
   | exact clusterlocksref05_Remove.mono _ _ _
   | exact clusterlocksref05_Same.mono _ _ _
   | exact LeO.none _
   | refine LeO.ite ?_ ?_
   | refine LeO.bind ?_ (fun _ => ?_)
  ·intro y0 y1 y2 y3 y4
   unfold clusterlockslaw05_CatalogScripts.j2
   repeat' first
   | (with_reducible exact ih0 _ _ _ _ _)
   | (with_reducible exact ih1 _ _ _ _ _ _)
   | (with_reducible exact ih2 _ _ _ _ _)
   | (with_reducible exact catalog_Insert.mono _ _ _ _ _ _)
   | (with_reducible exact catalog_Remove.mono _ _ _)
   | (with_reducible exact catalog_Valid.mono _ _)
   | (with_reducible exact clusterlockslaw05_awake.mono _)
   | (with_reducible exact clusterlocksref05_Insert.mono _ _ _ _ _ _)
   | (with_reducible exact clusterlocksref05_Remove.mono _ _ _)
   | (with_reducible exact clusterlocksref05_Same.mono _ _ _)
   | (with_reducible exact LeO.refl _)
   | (with_reducible exact LeO.none _)
   | (with_reducible refine LeO.ite ?_ ?_)
   | (with_reducible refine LeO.bind ?_ (fun _ => ?_))
   | exact ih0 _ _ _ _ _
   | exact ih1 _ _ _ _ _ _
   | exact ih2 _ _ _ _ _
   | exact catalog_Insert.mono _ _ _ _ _ _
   | exact catalog_Remove.mono _ _ _
   | exact catalog_Valid.mono _ _
   | exact clusterlockslaw05_awake.mono _
   | exact clusterlocksref05_Insert.mono _ _ _ _ _ _
   | exact clusterlocksref05_Remove.mono _ _ _
   | exact clusterlocksref05_Same.mono _ _ _
   | exact LeO.none _
   | refine LeO.ite ?_ ?_
   | refine LeO.bind ?_ (fun _ => ?_)
theorem clusterlockslaw05_CatalogScripts.mono : ∀ a0 a1 k, LeO (clusterlockslaw05_CatalogScripts.f k a0 a1) (clusterlockslaw05_CatalogScripts.f (k + 1) a0 a1) := by
 intro a0 a1 k
 obtain ⟨ih0, ih1, ih2⟩ := clusterlockslaw05_CatalogScripts.mono_l k
 unfold clusterlockslaw05_CatalogScripts.f
 repeat' first
   | (with_reducible exact ih0 _ _ _ _ _)
   | (with_reducible exact ih1 _ _ _ _ _ _)
   | (with_reducible exact ih2 _ _ _ _ _)
   | (with_reducible exact catalog_Insert.mono _ _ _ _ _ _)
   | (with_reducible exact catalog_Remove.mono _ _ _)
   | (with_reducible exact catalog_Valid.mono _ _)
   | (with_reducible exact clusterlockslaw05_awake.mono _)
   | (with_reducible exact clusterlocksref05_Insert.mono _ _ _ _ _ _)
   | (with_reducible exact clusterlocksref05_Remove.mono _ _ _)
   | (with_reducible exact clusterlocksref05_Same.mono _ _ _)
   | (with_reducible exact LeO.refl _)
   | (with_reducible exact LeO.none _)
   | (with_reducible refine LeO.ite ?_ ?_)
   | (with_reducible refine LeO.bind ?_ (fun _ => ?_))
   | exact ih0 _ _ _ _ _
   | exact ih1 _ _ _ _ _ _
   | exact ih2 _ _ _ _ _
   | exact catalog_Insert.mono _ _ _ _ _ _
   | exact catalog_Remove.mono _ _ _
   | exact catalog_Valid.mono _ _
   | exact clusterlockslaw05_awake.mono _
   | exact clusterlocksref05_Insert.mono _ _ _ _ _ _
   | exact clusterlocksref05_Remove.mono _ _ _
   | exact clusterlocksref05_Same.mono _ _ _
   | exact LeO.none _
   | refine LeO.ite ?_ ?_
   | refine LeO.bind ?_ (fun _ => ?_)
set_option maxHeartbeats 8000000 in
set_option maxRecDepth 100000 in
theorem clusterlockslaw05_CatalogScripts.calls (k : Nat) (A0 : Option Addr) (c0 : Nat) (l0 : List (S26)) (A1 : Option Addr) (c1 : Nat) (l1 : List Bool) (r : Bool) (w : World) (hr0 : Kd.C k26 w A0 l0.length l0) (hc0 : l0.length ≤ c0) (hr1 : Kd.C Kd.bool w A1 l1.length l1) (hc1 : l1.length ≤ c1) (h : clusterlockslaw05_CatalogScripts.f k l0 l1 = some r) (hT : r = true) :
  Calls Tryd.prog 7 #[.slice A0 l0.length c0, .slice A1 l1.length c1] w fun e w' => e = .returned (.bool r) ∧ Below w.heap.size w w' := by
 have hu26 := Tryd.underlying26
 have HR0 := Aside0.mk hr0
 have HC0 := Aside0.mk hc0
 clear hr0 hc0
 have HR1 := Aside0.mk hr1
 have HC1 := Aside0.mk hc1
 clear hr1 hc1
 have HB := Aside0.mk (Below.refl w.heap.size w)
 have H : (if (l0.length : Int) > 40 then ((clusterlockslaw05_awake.f k).bind fun t214 => (some t214)) else (clusterlockslaw05_CatalogScripts.l0 k l0 l1 ([] : List (S26)) ([] : List (S26)) 0)) = some r := h
 have HRT := Aside0.mk hT
 clear h
 by_cases c3 : (l0.length : Int) > 40
 ·rw [if_pos c3] at H
  have c3b0 : decide (40 < (l0.length : Int)) = true := decide_eq_true c3
  have c3b1 : decide (40 < l0.length) = true := decide_eq_true (by omega)
  clear c3
  obtain ⟨t214, A40, H⟩ := Option.bind_eq_some_iff.mp H
  have A4 := Aside0.mk A40; clear A40
  obtain rfl := Option.some.inj H
  go_enter Tryd.func7, Tryd.ntmps7
  go_wp2_with (first | ((with_reducible refine gate_callee (f := 13) rfl ?_); refine goesL_ (some 19) rfl rfl Tryd.func13 (by kernel_rfl) rfl #[] rfl (by (try simp only [mA]); first | done | rfl) ?_; (with_reducible refine (clusterlockslaw05_awake.calls k  t214 _ A4.out).mono ?_); rintro e w5 ⟨rfl, hb⟩; refine ⟨_, rfl, ?_⟩; replace HB := bB HB hb; (try clear hb); (try clear hk)))
  go_ret
  exact ⟨by first | rfl | (simp [errW_none, errW_some] <;> rfl) | (simp [*, errW_none, errW_some] <;> rfl), (uS HB)⟩
 ·rw [if_neg c3] at H
  have c3b0 : decide (40 < (l0.length : Int)) = false := decide_eq_false c3
  have c3b1 : decide (40 < l0.length) = false := decide_eq_false (by omega)
  clear c3
  have H' := Aside0.mk H
  clear H
  go_enter Tryd.func7, Tryd.ntmps7
  go_wp2
  go_loopg [5, 6, 7] k (fun kq v5 v6 v7 w' => ∃ (x5_1 : List (S26)) (x6_1 : List (S26)) (x7_1 : Int), v7 = .int .i64 x7_1 ∧ Aside0 (clusterlockslaw05_CatalogScripts.l0 kq l0 l1 x5_1 x6_1 x7_1 = some r) ∧ Aside0 (kq ≤ k) ∧ Aside0 (Kd.R k26 26 w' w.heap.size (fun k_ => some k_ ≠ (v6 : Value).ownBlock) v5 x5_1) ∧ Aside0 (Kd.R k26 26 w' w.heap.size (fun k_ => some k_ ≠ (v5 : Value).ownBlock) v6 x6_1) ∧ Aside0 (Below w.heap.size w w'))
  case atStart => exact ⟨(([] : List (S26))), (([] : List (S26))), (0), (by first | rfl | (simp; done) | (simp [*]; done)), H', ⟨Nat.le_refl _⟩, ⟨by first | exact Kd.R_nil _ _ _ _ _ | exact Kd.N_nil _ _ _ _ _ | exact Kd.V_nil _ _ _ _ _ | exact Kd.Q_nil _ _ _ _ _ | exact Kd.S_nil _ _ _ _ _⟩, ⟨by first | exact Kd.R_nil _ _ _ _ _ | exact Kd.N_nil _ _ _ _ _ | exact Kd.V_nil _ _ _ _ _ | exact Kd.Q_nil _ _ _ _ _ | exact Kd.S_nil _ _ _ _ _⟩, ⟨(uS HB)⟩⟩
  case round =>
   clear H'
   try clear c1
   try clear p2
   try clear c3
   try clear c3b0
   try clear c3b1
   obtain ⟨x5_1, x6_1, x7_1, rfl, HA, HK1, HO_5, HO_6, HB⟩ := hrel
   cases gk with
   | zero => exact absurd HA.out (by simp [clusterlockslaw05_CatalogScripts.l0])
   | succ k1 =>
    have H := HA.out
    clear HA
    simp only [clusterlockslaw05_CatalogScripts.l0] at H
    by_cases c6 : x7_1 < (l0.length : Int)
    ·rw [if_pos c6] at H
     have c6b0 : decide (x7_1 < (l0.length : Int)) = true := decide_eq_true c6
     clear c6
     have HC7 := Aside0.mk H
     clear H
     go_upto_region 7 with (fail)
     go_cut [35] (fun v35 wc => ∃ (kq : Nat) (x35_6 : Bool), v35 = .bool x35_6 ∧ Aside0 (clusterlockslaw05_CatalogScripts.j1 kq l0 l1 x5_1 x6_1 x7_1 x35_6 = some r) ∧ Aside0 (kq ≤ k1) ∧ Aside0 (Kd.R k26 26 wc w.heap.size (fun k_ => some k_ ≠ (u6 : Value).ownBlock) u5 x5_1) ∧ Aside0 (Kd.R k26 26 wc w.heap.size (fun k_ => some k_ ≠ (u5 : Value).ownBlock) u6 x6_1) ∧ Aside0 (Below w.heap.size w wc))
     case first =>
      have H := HC7.out
      clear HC7
      by_cases c8 : x7_1 < (l1.length : Int)
      ·rw [if_pos c8] at H
       have c8b0 : decide (x7_1 < (l1.length : Int)) = true := decide_eq_true c8
       clear c8
       (first | rw [c8b0] | (simp only [i64_w, i32_w]; rw [c8b0]) | skip)
       by_cases c9 : 0 ≤ x7_1
       ·rw [if_pos c9] at H
        have c9b0 : decide (0 ≤ x7_1) = true := decide_eq_true c9
        clear c9
        have H' := Aside0.mk H
        clear H
        have p216 : 0 ≤ (x7_1 : Int) := of_decide_eq_true (by first | (with_reducible assumption) | assumption)
        have q216 : x7_1 < (l1.length : Int) := of_decide_eq_true (by first | (with_reducible assumption) | assumption)
        obtain ⟨ad216, e216, hx216_0⟩ := Kd.at_bool HR1.out x7_1 p216 q216
        cases e216
        replace hx216_0 := kC HB hx216_0
        replace p216 := eq_true p216
        replace q216 := eq_true q216
        go_wp2
        go_meet
        case rel => exact ⟨_, (rdOf false l1 x7_1), (by first | rfl | (simp; done) | (simp [*]; done)), H', ⟨by have := HK1.out; first | omega | exact Nat.le_refl _⟩, ⟨by (with_reducible repeat (first | apply Kd.R_alloc | apply Kd.R_drewN | apply Kd.R_drew)); exact HO_5.out⟩, ⟨by (with_reducible repeat (first | apply Kd.R_alloc | apply Kd.R_drewN | apply Kd.R_drew)); exact HO_6.out⟩, ⟨(uS HB)⟩⟩
       ·rw [if_neg c9] at H
        exact absurd H (by simp)
      ·rw [if_neg c8] at H
       have c8b0 : decide (x7_1 < (l1.length : Int)) = false := decide_eq_false c8
       clear c8
       (first | rw [c8b0] | (simp only [i64_w, i32_w]; rw [c8b0]) | skip)
       have H' := Aside0.mk H
       clear H
       go_wp2
       go_meet
       case rel => exact ⟨_, (false), (by first | rfl | (simp; done) | (simp [*]; done)), H', ⟨by have := HK1.out; first | omega | exact Nat.le_refl _⟩, ⟨by (with_reducible repeat (first | apply Kd.R_alloc | apply Kd.R_drewN | apply Kd.R_drew)); exact HO_5.out⟩, ⟨by (with_reducible repeat (first | apply Kd.R_alloc | apply Kd.R_drewN | apply Kd.R_drew)); exact HO_6.out⟩, ⟨(uS HB)⟩⟩
     case rest =>
      clear HC7
      try clear c1
      try clear p2
      try clear q2
      try clear hx2
      try clear c3
      try clear c3b0
      try clear c3b1
      try clear c6
      try clear c6b0
      try clear c7
      try clear c8
      try clear c8b0
      try clear c9
      try clear c9b0
      try clear hx216_0
      try clear p2
      try clear p216
      try clear q216
      obtain ⟨kq, x35_6, rfl, HA, HJ6, HO_5, HO_6, HB⟩ := hcut
      cases kq with
      | zero => exact absurd HA.out (by simp [clusterlockslaw05_CatalogScripts.j1])
      | succ kj6 =>
       have H := HA.out
       clear HA
       simp only [clusterlockslaw05_CatalogScripts.j1] at H
       have HC10 := Aside0.mk H
       clear H
       go_upto_if 35 with (fail)
       go_cut [5, 6] (fun v5 v6 wc => ∃ (kq : Nat) (x5_9 : List (S26)) (x6_9 : List (S26)), Aside0 (clusterlockslaw05_CatalogScripts.j2 kq l0 l1 x5_9 x6_9 x7_1 = some r) ∧ Aside0 (kq ≤ kj6) ∧ Aside0 (Kd.R k26 26 wc w.heap.size (fun k_ => some k_ ≠ (v6 : Value).ownBlock) v5 x5_9) ∧ Aside0 (Kd.R k26 26 wc w.heap.size (fun k_ => some k_ ≠ (v5 : Value).ownBlock) v6 x6_9) ∧ Aside0 (Below w.heap.size w wc))
       case first =>
        have H := HC10.out
        clear HC10
        by_cases c11 : x35_6 = true
        ·subst c11
         rw [if_pos rfl] at H
         by_cases c12 : 0 ≤ x7_1
         ·rw [if_pos c12] at H
          have c12b0 : decide (0 ≤ x7_1) = true := decide_eq_true c12
          clear c12
          (first | rw [c12b0] | (simp only [i64_w, i32_w]; rw [c12b0]) | skip)
          have HH_ := Aside0.mk H
          clear H
          have p217 : 0 ≤ (x7_1 : Int) := of_decide_eq_true (by first | (with_reducible assumption) | assumption)
          have H := HH_.out
          clear HH_
          by_cases c13 : x7_1 < (l0.length : Int)
          ·rw [if_pos c13] at H
           have c13b0 : decide (x7_1 < (l0.length : Int)) = true := decide_eq_true c13
           clear c13
           replace H := Option.bind_eq_some_iff.mp H
           obtain ⟨⟨t218, t219⟩, A140, H⟩ := H
           replace H : ((clusterlocksref05_Remove.f kj6 x6_1 ((rd_T26 l0 x7_1).f0)).bind fun bt223 => (if t219 = bt223.2 then (if t219 = 0 then (clusterlockslaw05_CatalogScripts.j2 kj6 l0 l1 t218 bt223.1 x7_1) else (clusterlockslaw05_CatalogScripts.j2 kj6 l0 l1 x5_1 x6_1 x7_1)) else (some false))) = some r := H
           have A14 := Aside0.mk A140; clear A140
           replace H := Option.bind_eq_some_iff.mp H
           obtain ⟨⟨t223, t224⟩, A150, H⟩ := H
           replace H : (if t219 = t224 then (if t219 = 0 then (clusterlockslaw05_CatalogScripts.j2 kj6 l0 l1 t218 t223 x7_1) else (clusterlockslaw05_CatalogScripts.j2 kj6 l0 l1 x5_1 x6_1 x7_1)) else (some false)) = some r := H
           have A15 := Aside0.mk A150; clear A150
           (try simp only [c13b0])
           have HH_ := Aside0.mk H
           clear H
           have q217 : x7_1 < (l0.length : Int) := of_decide_eq_true (by first | (with_reducible assumption) | assumption)
           obtain ⟨ad217, e217, hx217_0, hx217_1, hx217_2, hx217_3⟩ := at_T26 HR0.out x7_1 p217 q217
           cases e217
           replace hx217_0 := kC HB hx217_0
           replace hx217_1 := kC HB hx217_1
           replace hx217_2 := kC HB hx217_2
           replace hx217_3 := kC HB hx217_3
           replace p217 := eq_true p217
           replace q217 := eq_true q217
           obtain ⟨Ao18, co18, eo18⟩ := Kd.R_slice HO_5.out
           subst eo18
           have H := HH_.out
           clear HH_
           by_cases c16 : t219 = t224
           ·rw [if_pos c16] at H
            have c16b0 : (t219 == t224) = true := beq_iff_eq.mpr c16
            have c16b1 : (t219 != t224) = false := bne_eq_false_iff_eq.mpr c16
            clear c16
            (try simp only [c16b0, c16b1])
            by_cases c17 : t219 = 0
            ·rw [if_pos c17] at H
             have c17b0 : (t219 == 0) = true := beq_iff_eq.mpr c17
             have c17b1 : (t219 != 0) = false := bne_eq_false_iff_eq.mpr c17
             clear c17
             have H' := Aside0.mk H
             clear H
             (try simp only [c17b0, c17b1])
             go_wp2_with (first | ((with_reducible refine gate_callee (f := 26) rfl ?_); refine goesL_ (some 43) rfl rfl Tryd.func26 (by kernel_rfl) rfl #[.slice Ao18 x5_1.length co18, .string ((rd_T26 l0 x7_1).f0)] rfl (by (try simp only [mA]); first | done | rfl) ?_; (with_reducible refine (catalog_Remove.calls kj6 _ _ x5_1 ((rd_T26 l0 x7_1).f0) t218 t219 _ ?side1 ?side2 A14.out).mono ?_); (case side1 => repeat (first | exact (Kd.R_reads' HO_5.out).2.2 | (with_reducible refine Kd.C_alloc ?_ _) | (with_reducible refine Kd.C_drewN ?_ _) | (with_reducible refine Kd.C_drew ?_))); (case side2 => exact (Kd.R_reads' HO_5.out).2.1); rintro e w19 ⟨v220, rfl, ho0, hb⟩; refine ⟨_, rfl, ?_⟩; have HO221 := Aside0.mk (Kd.R_lower (Kd.R_new' (Kd.R_new' ho0 (Kd.R_lt (by (with_reducible repeat (first | apply Kd.R_alloc | apply Kd.R_drewN | apply Kd.R_drew)); exact HO_5.out))) (Kd.R_lt (by (with_reducible repeat (first | apply Kd.R_alloc | apply Kd.R_drewN | apply Kd.R_drew)); exact HO_6.out))) (below_size (uB HB))); replace HO_5 := Aside0.mk (Kd.R_elder' (by (with_reducible repeat (first | apply Kd.R_alloc | apply Kd.R_drewN | apply Kd.R_drew)); exact HO_5.out) (Kd.R_base ho0) hb); replace HO_6 := Aside0.mk (Kd.R_elder' (by (with_reducible repeat (first | apply Kd.R_alloc | apply Kd.R_drewN | apply Kd.R_drew)); exact HO_6.out) (Kd.R_base ho0) hb); replace HB := bB HB hb; (try clear hb); (try clear hk); (try clear ho0); have p222 : 0 ≤ (x7_1 : Int) := of_decide_eq_true (by first | (with_reducible assumption) | assumption); have q222 : x7_1 < (l0.length : Int) := of_decide_eq_true (by first | (with_reducible assumption) | assumption); obtain ⟨ad222, e222, hx222_0, hx222_1, hx222_2, hx222_3⟩ := at_T26 HR0.out x7_1 p222 q222; obtain rfl : ad217 = ad222 := (by injection e222); replace hx222_0 := kC HB hx222_0; replace hx222_1 := kC HB hx222_1; replace hx222_2 := kC HB hx222_2; replace hx222_3 := kC HB hx222_3; replace p222 := eq_true p222; replace q222 := eq_true q222; obtain ⟨Ao20, co20, eo20⟩ := Kd.R_slice HO_6.out; subst eo20) | ((with_reducible refine gate_callee (f := 27) rfl ?_); refine goesL_ (some 53) rfl rfl Tryd.func27 (by kernel_rfl) rfl #[.slice Ao20 x6_1.length co20, .string ((rd_T26 l0 x7_1).f0)] rfl (by (try simp only [mA]); first | done | rfl) ?_; (with_reducible refine (clusterlocksref05_Remove.calls kj6 _ _ x6_1 ((rd_T26 l0 x7_1).f0) t223 t224 _ ?side1 ?side2 A15.out).mono ?_); (case side1 => repeat (first | exact (Kd.R_reads' HO_6.out).2.2 | (with_reducible refine Kd.C_alloc ?_ _) | (with_reducible refine Kd.C_drewN ?_ _) | (with_reducible refine Kd.C_drew ?_))); (case side2 => exact (Kd.R_reads' HO_6.out).2.1); rintro e w21 ⟨v225, rfl, ho0, hb⟩; refine ⟨_, rfl, ?_⟩; have HO226 := Aside0.mk (Kd.R_lower (Kd.R_new' (Kd.R_new' (Kd.R_new' ho0 (Kd.R_lt (by (with_reducible repeat (first | apply Kd.R_alloc | apply Kd.R_drewN | apply Kd.R_drew)); exact HO_5.out))) (Kd.R_lt (by (with_reducible repeat (first | apply Kd.R_alloc | apply Kd.R_drewN | apply Kd.R_drew)); exact HO_6.out))) (Kd.R_lt (by (with_reducible repeat (first | apply Kd.R_alloc | apply Kd.R_drewN | apply Kd.R_drew)); exact HO221.out))) (below_size (uB HB))); replace HO_5 := Aside0.mk (Kd.R_elder' (by (with_reducible repeat (first | apply Kd.R_alloc | apply Kd.R_drewN | apply Kd.R_drew)); exact HO_5.out) (Kd.R_base ho0) hb); replace HO_6 := Aside0.mk (Kd.R_elder' (by (with_reducible repeat (first | apply Kd.R_alloc | apply Kd.R_drewN | apply Kd.R_drew)); exact HO_6.out) (Kd.R_base ho0) hb); replace HO221 := Aside0.mk (Kd.R_elder' (by (with_reducible repeat (first | apply Kd.R_alloc | apply Kd.R_drewN | apply Kd.R_drew)); exact HO221.out) (Kd.R_base ho0) hb); replace HB := bB HB hb; (try clear hb); (try clear hk); (try clear ho0)))
             go_meet
             case rel => exact ⟨_, (t218), (t223), H', ⟨by have := HK1.out; have := HJ6.out; first | omega | exact Nat.le_refl _⟩, ⟨by (with_reducible repeat (first | apply Kd.R_alloc | apply Kd.R_drewN | apply Kd.R_drew)); exact Kd.R_mono HO221.out (fun _ hk => hk.2)⟩, ⟨by (with_reducible repeat (first | apply Kd.R_alloc | apply Kd.R_drewN | apply Kd.R_drew)); exact Kd.R_mono HO226.out (fun _ hk => hk.2)⟩, ⟨(uS HB)⟩⟩
            ·rw [if_neg c17] at H
             have c17b0 : (t219 == 0) = false := beq_eq_false_iff_ne.mpr c17
             have c17b1 : (t219 != 0) = true := bne_iff_ne.mpr c17
             have H' := Aside0.mk H
             clear H
             (try simp only [c17b0, c17b1])
             go_wp2_with (first | ((with_reducible refine gate_callee (f := 26) rfl ?_); refine goesL_ (some 43) rfl rfl Tryd.func26 (by kernel_rfl) rfl #[.slice Ao18 x5_1.length co18, .string ((rd_T26 l0 x7_1).f0)] rfl (by (try simp only [mA]); first | done | rfl) ?_; (with_reducible refine (catalog_Remove.calls kj6 _ _ x5_1 ((rd_T26 l0 x7_1).f0) t218 t219 _ ?side1 ?side2 A14.out).mono ?_); (case side1 => repeat (first | exact (Kd.R_reads' HO_5.out).2.2 | (with_reducible refine Kd.C_alloc ?_ _) | (with_reducible refine Kd.C_drewN ?_ _) | (with_reducible refine Kd.C_drew ?_))); (case side2 => exact (Kd.R_reads' HO_5.out).2.1); rintro e w23 ⟨v220, rfl, ho0, hb⟩; refine ⟨_, rfl, ?_⟩; have HO221 := Aside0.mk (Kd.R_lower (Kd.R_new' (Kd.R_new' ho0 (Kd.R_lt (by (with_reducible repeat (first | apply Kd.R_alloc | apply Kd.R_drewN | apply Kd.R_drew)); exact HO_5.out))) (Kd.R_lt (by (with_reducible repeat (first | apply Kd.R_alloc | apply Kd.R_drewN | apply Kd.R_drew)); exact HO_6.out))) (below_size (uB HB))); replace HO_5 := Aside0.mk (Kd.R_elder' (by (with_reducible repeat (first | apply Kd.R_alloc | apply Kd.R_drewN | apply Kd.R_drew)); exact HO_5.out) (Kd.R_base ho0) hb); replace HO_6 := Aside0.mk (Kd.R_elder' (by (with_reducible repeat (first | apply Kd.R_alloc | apply Kd.R_drewN | apply Kd.R_drew)); exact HO_6.out) (Kd.R_base ho0) hb); replace HB := bB HB hb; (try clear hb); (try clear hk); (try clear ho0); have p222 : 0 ≤ (x7_1 : Int) := of_decide_eq_true (by first | (with_reducible assumption) | assumption); have q222 : x7_1 < (l0.length : Int) := of_decide_eq_true (by first | (with_reducible assumption) | assumption); obtain ⟨ad222, e222, hx222_0, hx222_1, hx222_2, hx222_3⟩ := at_T26 HR0.out x7_1 p222 q222; obtain rfl : ad217 = ad222 := (by injection e222); replace hx222_0 := kC HB hx222_0; replace hx222_1 := kC HB hx222_1; replace hx222_2 := kC HB hx222_2; replace hx222_3 := kC HB hx222_3; replace p222 := eq_true p222; replace q222 := eq_true q222; obtain ⟨Ao24, co24, eo24⟩ := Kd.R_slice HO_6.out; subst eo24) | ((with_reducible refine gate_callee (f := 27) rfl ?_); refine goesL_ (some 53) rfl rfl Tryd.func27 (by kernel_rfl) rfl #[.slice Ao24 x6_1.length co24, .string ((rd_T26 l0 x7_1).f0)] rfl (by (try simp only [mA]); first | done | rfl) ?_; (with_reducible refine (clusterlocksref05_Remove.calls kj6 _ _ x6_1 ((rd_T26 l0 x7_1).f0) t223 t224 _ ?side1 ?side2 A15.out).mono ?_); (case side1 => repeat (first | exact (Kd.R_reads' HO_6.out).2.2 | (with_reducible refine Kd.C_alloc ?_ _) | (with_reducible refine Kd.C_drewN ?_ _) | (with_reducible refine Kd.C_drew ?_))); (case side2 => exact (Kd.R_reads' HO_6.out).2.1); rintro e w25 ⟨v225, rfl, ho0, hb⟩; refine ⟨_, rfl, ?_⟩; have HO226 := Aside0.mk (Kd.R_lower (Kd.R_new' (Kd.R_new' (Kd.R_new' ho0 (Kd.R_lt (by (with_reducible repeat (first | apply Kd.R_alloc | apply Kd.R_drewN | apply Kd.R_drew)); exact HO_5.out))) (Kd.R_lt (by (with_reducible repeat (first | apply Kd.R_alloc | apply Kd.R_drewN | apply Kd.R_drew)); exact HO_6.out))) (Kd.R_lt (by (with_reducible repeat (first | apply Kd.R_alloc | apply Kd.R_drewN | apply Kd.R_drew)); exact HO221.out))) (below_size (uB HB))); replace HO_5 := Aside0.mk (Kd.R_elder' (by (with_reducible repeat (first | apply Kd.R_alloc | apply Kd.R_drewN | apply Kd.R_drew)); exact HO_5.out) (Kd.R_base ho0) hb); replace HO_6 := Aside0.mk (Kd.R_elder' (by (with_reducible repeat (first | apply Kd.R_alloc | apply Kd.R_drewN | apply Kd.R_drew)); exact HO_6.out) (Kd.R_base ho0) hb); replace HO221 := Aside0.mk (Kd.R_elder' (by (with_reducible repeat (first | apply Kd.R_alloc | apply Kd.R_drewN | apply Kd.R_drew)); exact HO221.out) (Kd.R_base ho0) hb); replace HB := bB HB hb; (try clear hb); (try clear hk); (try clear ho0)))
             go_meet
             case rel => exact ⟨_, (x5_1), (x6_1), H', ⟨by have := HK1.out; have := HJ6.out; first | omega | exact Nat.le_refl _⟩, ⟨by (with_reducible repeat (first | apply Kd.R_alloc | apply Kd.R_drewN | apply Kd.R_drew)); exact Kd.R_mono HO_5.out (fun _ hk => hk.1.1)⟩, ⟨by (with_reducible repeat (first | apply Kd.R_alloc | apply Kd.R_drewN | apply Kd.R_drew)); exact Kd.R_mono HO_6.out (fun _ hk => hk.1.1)⟩, ⟨(uS HB)⟩⟩
           ·rw [if_neg c16] at H
            have c16b0 : (t219 == t224) = false := beq_eq_false_iff_ne.mpr c16
            have c16b1 : (t219 != t224) = true := bne_iff_ne.mpr c16
            exact absurd (Option.some.inj H) (by rw [HRT.out]; decide)
          ·rw [if_neg c13] at H
           exact absurd H (by simp)
         ·rw [if_neg c12] at H
          exact absurd H (by simp)
        ·replace c11 := Bool.eq_false_iff.mpr c11
         subst c11
         rw [if_neg (show ¬ (false = true) by decide)] at H
         by_cases c30 : 0 ≤ x7_1
         ·rw [if_pos c30] at H
          have c30b0 : decide (0 ≤ x7_1) = true := decide_eq_true c30
          clear c30
          have HH_ := Aside0.mk H
          clear H
          have p227 : 0 ≤ (x7_1 : Int) := of_decide_eq_true (by first | (with_reducible assumption) | assumption)
          have H := HH_.out
          clear HH_
          by_cases c31 : x7_1 < (l0.length : Int)
          ·rw [if_pos c31] at H
           have c31b0 : decide (x7_1 < (l0.length : Int)) = true := decide_eq_true c31
           clear c31
           replace H := Option.bind_eq_some_iff.mp H
           obtain ⟨⟨t228, t231⟩, A320, H⟩ := H
           replace H : ((clusterlocksref05_Insert.f kj6 x6_1 ((rd_T26 l0 x7_1).f0) ((rd_T26 l0 x7_1).f1) ((rd_T26 l0 x7_1).f2) ((rd_T26 l0 x7_1).f3)).bind fun bt233 => (if t231 = bt233.2 then (if t231 = 0 then (clusterlockslaw05_CatalogScripts.j2 kj6 l0 l1 t228 bt233.1 x7_1) else (clusterlockslaw05_CatalogScripts.j2 kj6 l0 l1 x5_1 x6_1 x7_1)) else (some false))) = some r := H
           have A32 := Aside0.mk A320; clear A320
           replace H := Option.bind_eq_some_iff.mp H
           obtain ⟨⟨t233, t236⟩, A330, H⟩ := H
           replace H : (if t231 = t236 then (if t231 = 0 then (clusterlockslaw05_CatalogScripts.j2 kj6 l0 l1 t228 t233 x7_1) else (clusterlockslaw05_CatalogScripts.j2 kj6 l0 l1 x5_1 x6_1 x7_1)) else (some false)) = some r := H
           have A33 := Aside0.mk A330; clear A330
           (try simp only [c31b0])
           have HH_ := Aside0.mk H
           clear H
           have q227 : x7_1 < (l0.length : Int) := of_decide_eq_true (by first | (with_reducible assumption) | assumption)
           obtain ⟨ad227, e227, hx227_0, hx227_1, hx227_2, hx227_3⟩ := at_T26 HR0.out x7_1 p227 q227
           cases e227
           replace hx227_0 := kC HB hx227_0
           replace hx227_1 := kC HB hx227_1
           replace hx227_2 := kC HB hx227_2
           replace hx227_3 := kC HB hx227_3
           replace p227 := eq_true p227
           replace q227 := eq_true q227
           obtain ⟨Ao36, co36, eo36⟩ := Kd.R_slice HO_5.out
           subst eo36
           have H := HH_.out
           clear HH_
           by_cases c34 : t231 = t236
           ·rw [if_pos c34] at H
            have c34b0 : (t231 == t236) = true := beq_iff_eq.mpr c34
            have c34b1 : (t231 != t236) = false := bne_eq_false_iff_eq.mpr c34
            clear c34
            (try simp only [c34b0, c34b1])
            by_cases c35 : t231 = 0
            ·rw [if_pos c35] at H
             have c35b0 : (t231 == 0) = true := beq_iff_eq.mpr c35
             have c35b1 : (t231 != 0) = false := bne_eq_false_iff_eq.mpr c35
             clear c35
             have H' := Aside0.mk H
             clear H
             (try simp only [c35b0, c35b1])
             go_wp2_with (first | ((with_reducible refine gate_callee (f := 22) rfl ?_); refine goesL_ (some 69) rfl rfl Tryd.func22 (by kernel_rfl) rfl #[.slice Ao36 x5_1.length co36, .agg #[.string ((rd_T26 l0 x7_1).f0), .int .i64 ((rd_T26 l0 x7_1).f1), .int .i64 ((rd_T26 l0 x7_1).f2), .int .i64 ((rd_T26 l0 x7_1).f3)]] rfl (by (try simp only [mA]); first | done | rfl) ?_; (with_reducible refine (catalog_Insert.calls kj6 _ _ x5_1 ((rd_T26 l0 x7_1).f0) ((rd_T26 l0 x7_1).f1) ((rd_T26 l0 x7_1).f2) ((rd_T26 l0 x7_1).f3) t228 t231 _ ?side1 ?side2 A32.out).mono ?_); (case side1 => repeat (first | exact (Kd.R_reads' HO_5.out).2.2 | (with_reducible refine Kd.C_alloc ?_ _) | (with_reducible refine Kd.C_drewN ?_ _) | (with_reducible refine Kd.C_drew ?_))); (case side2 => exact (Kd.R_reads' HO_5.out).2.1); rintro e w37 ⟨v229, rfl, ho0, hb⟩; refine ⟨_, rfl, ?_⟩; have HO230 := Aside0.mk (Kd.R_lower (Kd.R_new' (Kd.R_new' ho0 (Kd.R_lt (by (with_reducible repeat (first | apply Kd.R_alloc | apply Kd.R_drewN | apply Kd.R_drew)); exact HO_5.out))) (Kd.R_lt (by (with_reducible repeat (first | apply Kd.R_alloc | apply Kd.R_drewN | apply Kd.R_drew)); exact HO_6.out))) (below_size (uB HB))); replace HO_5 := Aside0.mk (Kd.R_elder' (by (with_reducible repeat (first | apply Kd.R_alloc | apply Kd.R_drewN | apply Kd.R_drew)); exact HO_5.out) (Kd.R_base ho0) hb); replace HO_6 := Aside0.mk (Kd.R_elder' (by (with_reducible repeat (first | apply Kd.R_alloc | apply Kd.R_drewN | apply Kd.R_drew)); exact HO_6.out) (Kd.R_base ho0) hb); replace HB := bB HB hb; (try clear hb); (try clear hk); (try clear ho0); have p232 : 0 ≤ (x7_1 : Int) := of_decide_eq_true (by first | (with_reducible assumption) | assumption); have q232 : x7_1 < (l0.length : Int) := of_decide_eq_true (by first | (with_reducible assumption) | assumption); obtain ⟨ad232, e232, hx232_0, hx232_1, hx232_2, hx232_3⟩ := at_T26 HR0.out x7_1 p232 q232; obtain rfl : ad227 = ad232 := (by injection e232); replace hx232_0 := kC HB hx232_0; replace hx232_1 := kC HB hx232_1; replace hx232_2 := kC HB hx232_2; replace hx232_3 := kC HB hx232_3; replace p232 := eq_true p232; replace q232 := eq_true q232; obtain ⟨Ao38, co38, eo38⟩ := Kd.R_slice HO_6.out; subst eo38) | ((with_reducible refine gate_callee (f := 23) rfl ?_); refine goesL_ (some 78) rfl rfl Tryd.func23 (by kernel_rfl) rfl #[.slice Ao38 x6_1.length co38, .agg #[.string ((rd_T26 l0 x7_1).f0), .int .i64 ((rd_T26 l0 x7_1).f1), .int .i64 ((rd_T26 l0 x7_1).f2), .int .i64 ((rd_T26 l0 x7_1).f3)]] rfl (by (try simp only [mA]); first | done | rfl) ?_; (with_reducible refine (clusterlocksref05_Insert.calls kj6 _ _ x6_1 ((rd_T26 l0 x7_1).f0) ((rd_T26 l0 x7_1).f1) ((rd_T26 l0 x7_1).f2) ((rd_T26 l0 x7_1).f3) t233 t236 _ ?side1 ?side2 A33.out).mono ?_); (case side1 => repeat (first | exact (Kd.R_reads' HO_6.out).2.2 | (with_reducible refine Kd.C_alloc ?_ _) | (with_reducible refine Kd.C_drewN ?_ _) | (with_reducible refine Kd.C_drew ?_))); (case side2 => exact (Kd.R_reads' HO_6.out).2.1); rintro e w39 ⟨v234, rfl, ho0, hb⟩; refine ⟨_, rfl, ?_⟩; have HO235 := Aside0.mk (Kd.R_lower (Kd.R_new' (Kd.R_new' (Kd.R_new' ho0 (Kd.R_lt (by (with_reducible repeat (first | apply Kd.R_alloc | apply Kd.R_drewN | apply Kd.R_drew)); exact HO_5.out))) (Kd.R_lt (by (with_reducible repeat (first | apply Kd.R_alloc | apply Kd.R_drewN | apply Kd.R_drew)); exact HO_6.out))) (Kd.R_lt (by (with_reducible repeat (first | apply Kd.R_alloc | apply Kd.R_drewN | apply Kd.R_drew)); exact HO230.out))) (below_size (uB HB))); replace HO_5 := Aside0.mk (Kd.R_elder' (by (with_reducible repeat (first | apply Kd.R_alloc | apply Kd.R_drewN | apply Kd.R_drew)); exact HO_5.out) (Kd.R_base ho0) hb); replace HO_6 := Aside0.mk (Kd.R_elder' (by (with_reducible repeat (first | apply Kd.R_alloc | apply Kd.R_drewN | apply Kd.R_drew)); exact HO_6.out) (Kd.R_base ho0) hb); replace HO230 := Aside0.mk (Kd.R_elder' (by (with_reducible repeat (first | apply Kd.R_alloc | apply Kd.R_drewN | apply Kd.R_drew)); exact HO230.out) (Kd.R_base ho0) hb); replace HB := bB HB hb; (try clear hb); (try clear hk); (try clear ho0)))
             go_meet
             case rel => exact ⟨_, (t228), (t233), H', ⟨by have := HK1.out; have := HJ6.out; first | omega | exact Nat.le_refl _⟩, ⟨by (with_reducible repeat (first | apply Kd.R_alloc | apply Kd.R_drewN | apply Kd.R_drew)); exact Kd.R_mono HO230.out (fun _ hk => hk.2)⟩, ⟨by (with_reducible repeat (first | apply Kd.R_alloc | apply Kd.R_drewN | apply Kd.R_drew)); exact Kd.R_mono HO235.out (fun _ hk => hk.2)⟩, ⟨(uS HB)⟩⟩
            ·rw [if_neg c35] at H
             have c35b0 : (t231 == 0) = false := beq_eq_false_iff_ne.mpr c35
             have c35b1 : (t231 != 0) = true := bne_iff_ne.mpr c35
             have H' := Aside0.mk H
             clear H
             (try simp only [c35b0, c35b1])
             go_wp2_with (first | ((with_reducible refine gate_callee (f := 22) rfl ?_); refine goesL_ (some 69) rfl rfl Tryd.func22 (by kernel_rfl) rfl #[.slice Ao36 x5_1.length co36, .agg #[.string ((rd_T26 l0 x7_1).f0), .int .i64 ((rd_T26 l0 x7_1).f1), .int .i64 ((rd_T26 l0 x7_1).f2), .int .i64 ((rd_T26 l0 x7_1).f3)]] rfl (by (try simp only [mA]); first | done | rfl) ?_; (with_reducible refine (catalog_Insert.calls kj6 _ _ x5_1 ((rd_T26 l0 x7_1).f0) ((rd_T26 l0 x7_1).f1) ((rd_T26 l0 x7_1).f2) ((rd_T26 l0 x7_1).f3) t228 t231 _ ?side1 ?side2 A32.out).mono ?_); (case side1 => repeat (first | exact (Kd.R_reads' HO_5.out).2.2 | (with_reducible refine Kd.C_alloc ?_ _) | (with_reducible refine Kd.C_drewN ?_ _) | (with_reducible refine Kd.C_drew ?_))); (case side2 => exact (Kd.R_reads' HO_5.out).2.1); rintro e w41 ⟨v229, rfl, ho0, hb⟩; refine ⟨_, rfl, ?_⟩; have HO230 := Aside0.mk (Kd.R_lower (Kd.R_new' (Kd.R_new' ho0 (Kd.R_lt (by (with_reducible repeat (first | apply Kd.R_alloc | apply Kd.R_drewN | apply Kd.R_drew)); exact HO_5.out))) (Kd.R_lt (by (with_reducible repeat (first | apply Kd.R_alloc | apply Kd.R_drewN | apply Kd.R_drew)); exact HO_6.out))) (below_size (uB HB))); replace HO_5 := Aside0.mk (Kd.R_elder' (by (with_reducible repeat (first | apply Kd.R_alloc | apply Kd.R_drewN | apply Kd.R_drew)); exact HO_5.out) (Kd.R_base ho0) hb); replace HO_6 := Aside0.mk (Kd.R_elder' (by (with_reducible repeat (first | apply Kd.R_alloc | apply Kd.R_drewN | apply Kd.R_drew)); exact HO_6.out) (Kd.R_base ho0) hb); replace HB := bB HB hb; (try clear hb); (try clear hk); (try clear ho0); have p232 : 0 ≤ (x7_1 : Int) := of_decide_eq_true (by first | (with_reducible assumption) | assumption); have q232 : x7_1 < (l0.length : Int) := of_decide_eq_true (by first | (with_reducible assumption) | assumption); obtain ⟨ad232, e232, hx232_0, hx232_1, hx232_2, hx232_3⟩ := at_T26 HR0.out x7_1 p232 q232; obtain rfl : ad227 = ad232 := (by injection e232); replace hx232_0 := kC HB hx232_0; replace hx232_1 := kC HB hx232_1; replace hx232_2 := kC HB hx232_2; replace hx232_3 := kC HB hx232_3; replace p232 := eq_true p232; replace q232 := eq_true q232; obtain ⟨Ao42, co42, eo42⟩ := Kd.R_slice HO_6.out; subst eo42) | ((with_reducible refine gate_callee (f := 23) rfl ?_); refine goesL_ (some 78) rfl rfl Tryd.func23 (by kernel_rfl) rfl #[.slice Ao42 x6_1.length co42, .agg #[.string ((rd_T26 l0 x7_1).f0), .int .i64 ((rd_T26 l0 x7_1).f1), .int .i64 ((rd_T26 l0 x7_1).f2), .int .i64 ((rd_T26 l0 x7_1).f3)]] rfl (by (try simp only [mA]); first | done | rfl) ?_; (with_reducible refine (clusterlocksref05_Insert.calls kj6 _ _ x6_1 ((rd_T26 l0 x7_1).f0) ((rd_T26 l0 x7_1).f1) ((rd_T26 l0 x7_1).f2) ((rd_T26 l0 x7_1).f3) t233 t236 _ ?side1 ?side2 A33.out).mono ?_); (case side1 => repeat (first | exact (Kd.R_reads' HO_6.out).2.2 | (with_reducible refine Kd.C_alloc ?_ _) | (with_reducible refine Kd.C_drewN ?_ _) | (with_reducible refine Kd.C_drew ?_))); (case side2 => exact (Kd.R_reads' HO_6.out).2.1); rintro e w43 ⟨v234, rfl, ho0, hb⟩; refine ⟨_, rfl, ?_⟩; have HO235 := Aside0.mk (Kd.R_lower (Kd.R_new' (Kd.R_new' (Kd.R_new' ho0 (Kd.R_lt (by (with_reducible repeat (first | apply Kd.R_alloc | apply Kd.R_drewN | apply Kd.R_drew)); exact HO_5.out))) (Kd.R_lt (by (with_reducible repeat (first | apply Kd.R_alloc | apply Kd.R_drewN | apply Kd.R_drew)); exact HO_6.out))) (Kd.R_lt (by (with_reducible repeat (first | apply Kd.R_alloc | apply Kd.R_drewN | apply Kd.R_drew)); exact HO230.out))) (below_size (uB HB))); replace HO_5 := Aside0.mk (Kd.R_elder' (by (with_reducible repeat (first | apply Kd.R_alloc | apply Kd.R_drewN | apply Kd.R_drew)); exact HO_5.out) (Kd.R_base ho0) hb); replace HO_6 := Aside0.mk (Kd.R_elder' (by (with_reducible repeat (first | apply Kd.R_alloc | apply Kd.R_drewN | apply Kd.R_drew)); exact HO_6.out) (Kd.R_base ho0) hb); replace HO230 := Aside0.mk (Kd.R_elder' (by (with_reducible repeat (first | apply Kd.R_alloc | apply Kd.R_drewN | apply Kd.R_drew)); exact HO230.out) (Kd.R_base ho0) hb); replace HB := bB HB hb; (try clear hb); (try clear hk); (try clear ho0)))
             go_meet
             case rel => exact ⟨_, (x5_1), (x6_1), H', ⟨by have := HK1.out; have := HJ6.out; first | omega | exact Nat.le_refl _⟩, ⟨by (with_reducible repeat (first | apply Kd.R_alloc | apply Kd.R_drewN | apply Kd.R_drew)); exact Kd.R_mono HO_5.out (fun _ hk => hk.1.1)⟩, ⟨by (with_reducible repeat (first | apply Kd.R_alloc | apply Kd.R_drewN | apply Kd.R_drew)); exact Kd.R_mono HO_6.out (fun _ hk => hk.1.1)⟩, ⟨(uS HB)⟩⟩
           ·rw [if_neg c34] at H
            have c34b0 : (t231 == t236) = false := beq_eq_false_iff_ne.mpr c34
            have c34b1 : (t231 != t236) = true := bne_iff_ne.mpr c34
            exact absurd (Option.some.inj H) (by rw [HRT.out]; decide)
          ·rw [if_neg c31] at H
           exact absurd H (by simp)
         ·rw [if_neg c30] at H
          exact absurd H (by simp)
       case rest =>
        clear HC10
        try clear c1
        try clear c2
        try clear p2
        try clear q2
        try clear hx2
        try clear c3
        try clear c3b0
        try clear c3b1
        try clear c6
        try clear c6b0
        try clear c7
        try clear c8
        try clear c8b0
        try clear c9
        try clear c9b0
        try clear c11
        try clear c12
        try clear c12b0
        try clear c13
        try clear c13b0
        try clear c16
        try clear c16b0
        try clear c16b1
        try clear c17
        try clear c17b0
        try clear c17b1
        try clear p21
        try clear q21
        try clear hx21
        try clear c22
        try clear p22
        try clear q22
        try clear hx22
        try clear c23
        try clear p23
        try clear q23
        try clear hx23
        try clear c26
        try clear c27
        try clear c30
        try clear c30b0
        try clear c31
        try clear c31b0
        try clear c34
        try clear c34b0
        try clear c34b1
        try clear c35
        try clear c35b0
        try clear c35b1
        try clear hx216_0
        try clear hx217_0
        try clear hx217_1
        try clear hx217_2
        try clear hx217_3
        try clear hx222_0
        try clear hx222_1
        try clear hx222_2
        try clear hx222_3
        try clear hx227_0
        try clear hx227_1
        try clear hx227_2
        try clear hx227_3
        try clear hx232_0
        try clear hx232_1
        try clear hx232_2
        try clear hx232_3
        try clear p2
        try clear p216
        try clear p217
        try clear p222
        try clear p227
        try clear p232
        try clear q2
        try clear q216
        try clear q217
        try clear q222
        try clear q227
        try clear q232
        obtain ⟨kq, x5_9, x6_9, HA, HJ9, HO_5, HO_6, HB⟩ := hcut
        cases kq with
        | zero => exact absurd HA.out (by simp [clusterlockslaw05_CatalogScripts.j2])
        | succ kj9 =>
         have H := HA.out
         clear HA
         simp only [clusterlockslaw05_CatalogScripts.j2] at H
         obtain ⟨t237, A480, H⟩ := Option.bind_eq_some_iff.mp H
         have A48 := Aside0.mk A480; clear A480
         have HH_ := Aside0.mk H
         clear H
         obtain ⟨Ao52, co52, eo52⟩ := Kd.R_slice HO_5.out
         subst eo52
         obtain ⟨Ao53, co53, eo53⟩ := Kd.R_slice HO_6.out
         subst eo53
         have H := HH_.out
         clear HH_
         by_cases c49 : t237 = true
         ·subst c49
          rw [if_pos rfl] at H
          obtain ⟨t238, A500, H⟩ := Option.bind_eq_some_iff.mp H
          have A50 := Aside0.mk A500; clear A500
          by_cases c51 : t238 = true
          ·subst c51
           rw [if_pos rfl] at H
           have H' := Aside0.mk H
           clear H
           go_wp2_with (first | ((with_reducible refine gate_callee (f := 24) rfl ?_); refine goesL_ (some 90) rfl rfl Tryd.func24 (by kernel_rfl) rfl #[.slice Ao52 x5_9.length co52, .slice Ao53 x6_9.length co53] rfl (by (try simp only [mA]); first | done | rfl) ?_; (with_reducible refine (clusterlocksref05_Same.calls kj9 _ _ x5_9 _ _ x6_9 true _ ?side1 ?side2 ?side3 ?side4 A48.out).mono ?_); (case side1 => repeat (first | exact (Kd.R_reads' HO_5.out).2.2 | (with_reducible refine Kd.C_alloc ?_ _) | (with_reducible refine Kd.C_drewN ?_ _) | (with_reducible refine Kd.C_drew ?_))); (case side2 => exact (Kd.R_reads' HO_5.out).2.1); (case side3 => repeat (first | exact (Kd.R_reads' HO_6.out).2.2 | (with_reducible refine Kd.C_alloc ?_ _) | (with_reducible refine Kd.C_drewN ?_ _) | (with_reducible refine Kd.C_drew ?_))); (case side4 => exact (Kd.R_reads' HO_6.out).2.1); rintro e w' ⟨rfl, ⟨nd, rfl⟩⟩; refine ⟨_, rfl, ?_⟩) | (go_at_call 20; (with_reducible refine (catalog_Valid.calls kj9 _ _ x5_9 true _ ?side1 ?side2 A50.out).mono ?_); (case side1 => repeat (first | exact (Kd.R_reads' HO_5.out).2.2 | (with_reducible refine Kd.C_alloc ?_ _) | (with_reducible refine Kd.C_drewN ?_ _) | (with_reducible refine Kd.C_drew ?_))); (case side2 => exact (Kd.R_reads' HO_5.out).2.1); rintro e w54 ⟨rfl, hb⟩; replace HO_5 := Aside0.mk (Kd.R_below (by (with_reducible repeat (first | apply Kd.R_alloc | apply Kd.R_drewN | apply Kd.R_drew)); exact HO_5.out) hb); replace HO_6 := Aside0.mk (Kd.R_below (by (with_reducible repeat (first | apply Kd.R_alloc | apply Kd.R_drewN | apply Kd.R_drew)); exact HO_6.out) hb); replace HB := bB HB hb; (try clear hb); (try clear hk)))
           go_roundg kj9
           case measure => have := HK1.out; have := HJ6.out; have := HJ9.out; omega
           case rel => exact ⟨(x5_9), (x6_9), (wrap64 (x7_1 + 1)), (by first | rfl | (simp; done) | (simp [*]; done)), H', ⟨by have := HK1.out; have := HJ6.out; have := HJ9.out; omega⟩, ⟨by (with_reducible repeat (first | apply Kd.R_alloc | apply Kd.R_drewN | apply Kd.R_drew)); exact HO_5.out⟩, ⟨by (with_reducible repeat (first | apply Kd.R_alloc | apply Kd.R_drewN | apply Kd.R_drew)); exact HO_6.out⟩, ⟨(uS HB)⟩⟩
          ·replace c51 := Bool.eq_false_iff.mpr c51
           subst c51
           rw [if_neg (show ¬ (false = true) by decide)] at H
           exact absurd (Option.some.inj H) (by rw [HRT.out]; decide)
         ·replace c49 := Bool.eq_false_iff.mpr c49
          subst c49
          rw [if_neg (show ¬ (false = true) by decide)] at H
          exact absurd (Option.some.inj H) (by rw [HRT.out]; decide)
    ·rw [if_neg c6] at H
     have c6b0 : decide (x7_1 < (l0.length : Int)) = false := decide_eq_false c6
     clear c6
     obtain ⟨t215, A600, H⟩ := Option.bind_eq_some_iff.mp H
     have A60 := Aside0.mk A600; clear A600
     obtain rfl := Option.some.inj H
     go_wp2_with (first | ((with_reducible refine gate_callee (f := 13) rfl ?_); refine goesL_ (some 97) rfl rfl Tryd.func13 (by kernel_rfl) rfl #[] rfl (by (try simp only [mA]); first | done | rfl) ?_; (with_reducible refine (clusterlockslaw05_awake.calls k1  t215 _ A60.out).mono ?_); rintro e w61 ⟨rfl, hb⟩; refine ⟨_, rfl, ?_⟩; replace HO_5 := Aside0.mk (Kd.R_below (by (with_reducible repeat (first | apply Kd.R_alloc | apply Kd.R_drewN | apply Kd.R_drew)); exact HO_5.out) hb); replace HO_6 := Aside0.mk (Kd.R_below (by (with_reducible repeat (first | apply Kd.R_alloc | apply Kd.R_drewN | apply Kd.R_drew)); exact HO_6.out) hb); replace HB := bB HB hb; (try clear hb); (try clear hk)))
     go_ret
     exact ⟨by first | rfl | (simp [errW_none, errW_some] <;> rfl) | (simp [*, errW_none, errW_some] <;> rfl), (uS HB)⟩
end Go.Proofs.YtbiapfjhdggkpaaDoor.PA
