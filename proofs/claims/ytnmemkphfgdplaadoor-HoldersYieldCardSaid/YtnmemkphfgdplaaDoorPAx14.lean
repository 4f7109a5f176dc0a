-- Printed by wip/tool/myprint.py for this claim; Lean checks it.
import Derived.Test.YtnmemkphfgdplaaDoorPAx0
import Derived.Test.YtnmemkphfgdplaaDoorSlim
import Derived.Test.YtnmemkphfgdplaaDoorPAx10
import Derived.Test.YtnmemkphfgdplaaDoorPAx12
namespace Go.Proofs.YtnmemkphfgdplaaDoor.PA
open Go.RowKit Go.Proofs.YtnmemkphfgdplaaDoorW.PrintWords Go.Proofs.YtnmemkphfgdplaaDoorW.PrintLast Go.Proofs.YtnmemkphfgdplaaDoorW.PrintMore
attribute [local go_sem] max2_int min2_int max_two min_two max_three min_three max_four min_four   -- for this text's walks alone
set_option linter.unusedVariables false
set_option linter.unusedSimpArgs false

/-! ### clusterlocksref10_Amounts: function 49 -/
def clusterlocksref10_Amounts.l0 : Nat → List (S53) → List (S26) → Int → Option ((List (S26)))
 | 0, _, _, _ => none
 | k + 1, x0, x3, x4 => if x4 < (x0.length : Int) then (if 0 ≤ x4 then (if x3.length < 8796093022208 then (clusterlocksref10_Amounts.l0 k x0 (x3 ++ [(⟨(rd_T53 x0 x4).f1.f0, (rd_T53 x0 x4).f1.f1⟩ : S26)]) (wrap64 (x4 + 1))) else (none)) else (none)) else (some x3)
def clusterlocksref10_Amounts.f (k : Nat) (l0 : List (S53)) : Option ((List (S26))) := clusterlocksref10_Amounts.l0 k l0 ([] : List (S26)) 0
theorem clusterlocksref10_Amounts.mono_l : ∀ k, (∀ y0 y1 y2, LeO (clusterlocksref10_Amounts.l0 k y0 y1 y2) (clusterlocksref10_Amounts.l0 (k + 1) y0 y1 y2))
 | 0 => fun _ _ _ r h => by simp [clusterlocksref10_Amounts.l0] at h
 | k + 1 => by
  have ih0 := clusterlocksref10_Amounts.mono_l k
  ·intro y0 y1 y2
   unfold clusterlocksref10_Amounts.l0
   repeat' first
   | (with_reducible exact ih0 _ _ _)
   | (with_reducible exact LeO.refl _)
   | (with_reducible exact LeO.none _)
   | (with_reducible refine LeO.ite ?_ ?_)
   | (with_reducible refine LeO.bind ?_ (fun _ => ?_))
   | exact ih0 _ _ _
   | exact LeO.none _
   | refine LeO.ite ?_ ?_
   | refine LeO.bind ?_ (fun _ => ?_)
theorem clusterlocksref10_Amounts.mono : ∀ a0 k, LeO (clusterlocksref10_Amounts.f k a0) (clusterlocksref10_Amounts.f (k + 1) a0) := by
 intro a0 k
 have ih0 := clusterlocksref10_Amounts.mono_l k
 unfold clusterlocksref10_Amounts.f
 repeat' first
   | (with_reducible exact ih0 _ _ _)
   | (with_reducible exact LeO.refl _)
   | (with_reducible exact LeO.none _)
   | (with_reducible refine LeO.ite ?_ ?_)
   | (with_reducible refine LeO.bind ?_ (fun _ => ?_))
   | exact ih0 _ _ _
   | exact LeO.none _
   | refine LeO.ite ?_ ?_
   | refine LeO.bind ?_ (fun _ => ?_)
set_option maxHeartbeats 8000000 in
set_option maxRecDepth 100000 in
theorem clusterlocksref10_Amounts.calls (k : Nat) (A0 : Option Addr) (c0 : Nat) (l0 : List (S53)) (r : List (S26)) (w : World) (hr0 : Kd.C k53 w A0 l0.length l0) (hc0 : l0.length ≤ c0) (h : clusterlocksref10_Amounts.f k l0 = some r) :
  Calls Tryd.prog 49 #[.slice A0 l0.length c0] w fun e w' => ∃ v0_ : Value, e = .returned (v0_) ∧ Kd.R k26 26 w' w.heap.size (fun _ => True) v0_ r ∧ Below w.heap.size w w' := by
 have hu26 := Tryd.underlying26
 have HR0 := Aside0.mk hr0
 have HC0 := Aside0.mk hc0
 clear hr0 hc0
 have HB := Aside0.mk (Below.refl w.heap.size w)
 have H : (clusterlocksref10_Amounts.l0 k l0 ([] : List (S26)) 0) = some r := h
 clear h
 have H' := Aside0.mk H
 clear H
 go_enter Tryd.func49, Tryd.ntmps49
 go_wp2
 go_loopg [3, 4] k (fun kq v3 v4 w' => ∃ (x3_1 : List (S26)) (x4_1 : Int), v4 = .int .i64 x4_1 ∧ Aside0 (clusterlocksref10_Amounts.l0 kq l0 x3_1 x4_1 = some r) ∧ Aside0 (kq ≤ k) ∧ Aside0 (Kd.R k26 26 w' w.heap.size (fun _ => True) v3 x3_1) ∧ Aside0 (Below w.heap.size w w'))
 case atStart => exact ⟨(([] : List (S26))), (0), (by first | rfl | (simp; done) | (simp [*]; done)), H', ⟨Nat.le_refl _⟩, ⟨by first | exact Kd.R_nil _ _ _ _ _ | exact Kd.N_nil _ _ _ _ _ | exact Kd.V_nil _ _ _ _ _ | exact Kd.Q_nil _ _ _ _ _ | exact Kd.S_nil _ _ _ _ _⟩, ⟨by repeat (first | (with_reducible first | exact HB.out | apply bL | apply bM | apply bR) | exact HB.out)⟩⟩
 case round =>
  clear H'
  obtain ⟨x3_1, x4_1, rfl, HA, HK1, HO_3, HB⟩ := hrel
  cases gk with
  | zero => exact absurd HA.out (by simp [clusterlocksref10_Amounts.l0])
  | succ k1 =>
   have H := HA.out
   clear HA
   simp only [clusterlocksref10_Amounts.l0] at H
   by_cases c2 : x4_1 < (l0.length : Int)
   ·rw [if_pos c2] at H
    have c2b0 : decide (x4_1 < (l0.length : Int)) = true := decide_eq_true c2
    clear c2
    by_cases c3 : 0 ≤ x4_1
    ·rw [if_pos c3] at H
     have c3b0 : decide (0 ≤ x4_1) = true := decide_eq_true c3
     clear c3
     by_cases c4 : x3_1.length < 8796093022208
     ·rw [if_pos c4] at H
      have LMc4 := Aside0.mk c4
      clear c4
      obtain ⟨y287, hy287⟩ : ∃ y_ : List (S26), y_ = (x3_1 ++ [(⟨(rd_T53 l0 x4_1).f1.f0, (rd_T53 l0 x4_1).f1.f1⟩ : S26)]) := ⟨_, rfl⟩
      replace H : (clusterlocksref10_Amounts.l0 k1 l0 y287 (wrap64 (x4_1 + 1))) = some r := by first | (rw [hy287]; with_reducible exact H) | (have H2_ := (Option.bind_some _ _).symm.trans H; rw [hy287]; with_reducible exact H2_) | (have H2_ := (Option.bind_some _ _).symm.trans H; with_reducible exact H2_) | with_reducible exact H | (rw [hy287]; exact H) | exact H
      have Ny287 := Aside0.mk hy287
      clear hy287
      have H' := Aside0.mk H
      clear H
      have p286 : 0 ≤ (x4_1 : Int) := of_decide_eq_true (by first | (with_reducible assumption) | assumption)
      have q286 : x4_1 < (l0.length : Int) := of_decide_eq_true (by first | (with_reducible assumption) | assumption)
      obtain ⟨ad286, e286, hx286_0, hx286_1, hx286_2, hx286_3, hx286_4⟩ := at_T53 HR0.out x4_1 p286 q286
      cases e286
      replace hx286_0 := kC HB hx286_0
      replace hx286_1 := kC HB hx286_1
      replace hx286_2 := kC HB hx286_2
      replace hx286_3 := kC HB hx286_3
      replace hx286_4 := kC HB hx286_4
      replace p286 := eq_true p286
      replace q286 := eq_true q286
      go_wp2_with (first | ((with_reducible refine gate_builtin (b := .append) (xs := #[.tmp 11, .tmp 17]) rfl ?_); at_builtin; refine Kd.R_append k26 (w0 := w) w.heap.size rfl (.tmp 11) (.tmp 17) 59 26 (.agg #[(.int .i64 0), (.int .i64 0)]) 16 rfl Tryd.underlying59 info26 rfl (by decide) (by omega) u3 x3_1 (⟨(rd_T53 l0 x4_1).f1.f0, (rd_T53 l0 x4_1).f1.f1⟩ : S26) [.int .i64 ((rd_T53 l0 x4_1).f1.f0), .int .i64 ((rd_T53 l0 x4_1).f1.f1)] (fun _ => True) (fun _ => False) rfl rfl ?aP (fun _ hk => hk.elim) ?aF ?aO ?aB ?aS ?aL ?_; (case aP => exact k26_mkM _ _ _ (⟨(rd_T53 l0 x4_1).f1.f0, (rd_T53 l0 x4_1).f1.f1⟩ : S26)); (case aB => exact (uB HB)); (case aF => exact (fun _ _ => trivial)); (case aO => exact (by (with_reducible repeat (first | apply Kd.R_alloc | apply Kd.R_drewN | apply Kd.R_drew)); exact HO_3.out)); (case aS => exact (below_size (uB HB))); (case aL => have := LMc4.out; omega); intro v288 w5 ho hb hg hat; rw [← Ny287.out] at ho; replace HB := Aside0.mk (hb); have HO289 := Aside0.mk (ho); clear HO_3; clear ho hb hg hat))
      go_roundg k1
      case measure => have := HK1.out; omega
      case rel => exact ⟨(y287), (wrap64 (x4_1 + 1)), (by first | rfl | (simp; done) | (simp [*]; done)), H', ⟨by have := HK1.out; omega⟩, ⟨by (with_reducible repeat (first | apply Kd.R_alloc | apply Kd.R_drewN | apply Kd.R_drew)); exact HO289.out⟩, ⟨by repeat (first | (with_reducible first | exact HB.out | apply bL | apply bM | apply bR) | exact HB.out)⟩⟩
     ·rw [if_neg c4] at H
      exact absurd H (by simp)
    ·rw [if_neg c3] at H
     exact absurd H (by simp)
   ·rw [if_neg c2] at H
    have c2b0 : decide (x4_1 < (l0.length : Int)) = false := decide_eq_false c2
    clear c2
    obtain rfl := Option.some.inj H
    go_wp2
    go_ret
    exact ⟨_, by first | rfl | (simp [errW_none, errW_some] <;> rfl) | (simp [*, errW_none, errW_some] <;> rfl), by (with_reducible repeat (first | apply Kd.R_alloc | apply Kd.R_drewN | apply Kd.R_drew)); exact HO_3.out, by repeat (first | (with_reducible first | exact HB.out | apply bL | apply bM | apply bR) | exact HB.out)⟩
end Go.Proofs.YtnmemkphfgdplaaDoor.PA
namespace Go.Proofs.YtnmemkphfgdplaaDoor.PA
open Go.RowKit Go.Proofs.YtnmemkphfgdplaaDoorW.PrintWords Go.Proofs.YtnmemkphfgdplaaDoorW.PrintLast Go.Proofs.YtnmemkphfgdplaaDoorW.PrintMore
attribute [local go_sem] max2_int min2_int max_two min_two max_three min_three max_four min_four   -- for this text's walks alone
set_option linter.unusedVariables false
set_option linter.unusedSimpArgs false
abbrev q15_0 : Array Bool := #[F,F,F,F,F,F,F,F,F,F,F,F,F,F,F,F,F,F,F,F,F,F,F,F,F,F,F,F,F,F,F,F,F,F,F,F]
abbrev q15_1 : Array Bool := #[T,F,F,F,F,F,F,F,F,F,F,F,F,F,F,F,F,F,F,F,F,F,F,F,F,F,F,F,F,F,F,F,F,F,F,F]
abbrev q15_2 : Array Bool := #[T,T,F,F,F,F,F,F,F,F,F,F,F,F,F,F,F,F,F,F,F,F,F,F,F,F,F,F,F,F,F,F,F,F,F,F]
abbrev q15_3 : Array Bool := #[T,T,T,F,F,F,F,F,F,F,F,F,F,F,F,F,F,F,F,F,F,F,F,F,F,F,F,F,F,F,F,F,F,F,F,F]
abbrev q15_4 : Array Bool := #[T,T,T,T,F,F,F,F,F,F,F,F,F,F,F,F,F,F,F,F,F,F,F,F,F,F,F,F,F,F,F,F,F,F,F,F]
abbrev q15_5 : Array Bool := #[T,T,T,T,T,F,F,F,F,F,F,F,F,F,F,F,F,F,F,F,F,F,F,F,F,F,F,F,F,F,F,F,F,F,F,F]
abbrev q15_6 : Array Bool := #[T,T,T,T,T,T,F,F,F,F,F,F,F,F,F,F,F,F,F,F,F,F,F,F,F,F,F,F,F,F,F,F,F,F,F,F]
abbrev q15_7 : Array Bool := #[T,T,T,T,T,T,T,F,F,F,F,F,F,F,F,F,F,F,F,F,F,F,F,F,F,F,F,F,F,F,F,F,F,F,F,F]
abbrev q15_8 : Array Bool := #[T,T,T,T,T,T,T,T,F,F,F,F,F,F,F,F,F,F,F,F,F,F,F,F,F,F,F,F,F,F,F,F,F,F,F,F]
abbrev q15_9 : Array Bool := #[T,T,T,T,T,T,T,T,T,T,T,T,T,F,F,F,F,F,F,F,F,F,F,F,F,F,F,F,F,F,F,F,F,F,F,F]
abbrev q15_10 : Array Bool := #[T,T,T,T,T,T,T,T,T,T,T,T,T,T,F,F,F,F,F,F,F,F,F,F,F,F,F,F,F,F,F,F,F,F,F,F]
abbrev q15_11 : Array Bool := #[T,T,T,T,T,T,T,T,T,T,T,T,T,T,T,F,F,F,F,F,F,F,F,F,F,F,F,F,F,F,F,F,F,F,F,F]
abbrev q15_12 : Array Bool := #[T,T,T,T,T,T,T,T,T,T,T,T,T,T,T,T,F,F,F,F,F,F,F,F,F,F,F,F,F,F,F,F,F,F,F,F]
abbrev q15_13 : Array Bool := #[T,T,T,T,T,T,T,T,T,T,T,T,T,T,T,T,T,F,F,F,F,F,F,F,F,F,F,F,F,F,F,F,F,F,F,F]
abbrev q15_14 : Array Bool := #[T,T,T,T,T,T,T,T,T,T,T,T,T,T,T,T,T,T,F,F,F,F,F,F,F,F,F,F,F,F,F,F,F,F,F,F]
abbrev q15_15 : Array Bool := #[T,T,T,T,T,T,T,T,T,T,T,T,T,T,T,T,T,T,T,F,F,F,F,F,F,F,F,F,F,F,F,F,F,F,F,F]
abbrev q15_16 : Array Bool := #[T,T,T,T,T,T,T,T,T,T,T,T,T,T,T,T,T,T,T,T,F,F,F,F,F,F,F,F,F,F,F,F,F,F,F,F]
abbrev q15_17 : Array Bool := #[T,T,T,T,T,T,T,T,T,T,T,T,T,T,T,T,T,T,T,T,T,F,F,F,F,F,F,F,F,F,F,F,F,F,F,F]
abbrev q15_18 : Array Bool := #[T,T,T,T,T,T,T,T,T,T,T,T,T,T,T,T,T,T,T,T,T,T,F,F,F,F,F,F,F,F,F,F,F,F,F,F]
abbrev q15_19 : Array Bool := #[T,T,T,T,T,T,T,T,T,T,T,T,T,T,T,T,T,T,T,T,T,T,T,F,F,F,F,F,F,F,F,F,F,F,F,F]
abbrev q15_20 : Array Bool := #[T,T,T,T,T,T,T,T,T,T,T,T,T,T,T,T,T,T,T,T,T,T,T,T,F,F,F,F,F,F,F,F,F,F,F,F]
abbrev q15_21 : Array Bool := #[T,T,T,T,T,T,T,T,T,T,T,T,T,T,T,T,T,T,T,T,T,T,T,T,T,F,F,F,F,F,F,F,F,F,F,F]
abbrev q15_22 : Array Bool := #[T,T,T,T,T,T,T,T,T,T,T,T,T,T,T,T,T,T,T,T,T,T,T,T,T,T,F,F,F,F,F,F,F,F,F,F]
abbrev q15_23 : Array Bool := #[T,T,T,T,T,T,T,T,T,T,T,T,T,T,T,T,T,T,T,T,T,T,T,T,T,T,T,T,T,T,T,F,F,F,F,F]
abbrev q15_24 : Array Bool := #[T,T,T,T,T,T,T,T,T,T,T,T,T,T,T,T,T,T,T,T,T,T,T,T,T,T,T,T,T,T,T,T,F,F,F,F]
abbrev q15_25 : Array Bool := #[T,T,T,T,T,T,T,T,T,T,T,T,T,T,T,T,T,T,T,T,T,T,T,T,T,T,T,T,T,T,T,T,T,F,F,F]
abbrev q15_26 : Array Bool := #[T,T,T,T,T,T,T,T,T,T,T,T,T,T,T,T,T,T,T,T,T,T,T,T,T,T,T,T,T,T,T,T,T,T,F,F]
abbrev q15_27 : Array Bool := #[T,T,T,T,T,T,T,T,T,T,T,T,T,T,T,T,T,T,T,T,T,T,T,T,T,T,T,T,T,T,T,T,T,T,T,F]
abbrev q15_28 : Array Bool := #[T,T,T,T,T,T,T,T,T,T,T,T,T,T,T,T,T,T,T,T,T,T,T,T,T,T,T,T,T,T,T,T,T,T,T,T]
abbrev q15_29 : Array Bool := #[T,T,T,T,T,T,T,T,F,T,F,F,F,F,F,F,F,F,F,F,F,F,F,F,F,F,F,F,F,F,F,F,F,F,F,F]
abbrev q15_30 : Array Bool := #[T,T,T,T,T,T,T,T,F,T,T,F,F,F,F,F,F,F,F,F,F,F,F,F,F,F,F,F,F,F,F,F,F,F,F,F]
abbrev q15_31 : Array Bool := #[T,T,T,T,T,T,T,T,F,T,T,T,F,F,F,F,F,F,F,F,F,F,F,F,F,F,F,F,F,F,F,F,F,F,F,F]
abbrev q15_32 : Array Bool := #[T,T,T,T,T,T,T,T,F,T,T,T,T,F,F,F,F,F,F,F,F,F,F,F,F,F,F,F,F,F,F,F,F,F,F,F]
abbrev q15_33 : Array Bool := #[T,T,T,T,T,T,T,T,T,T,T,T,T,T,T,T,T,T,T,T,T,T,T,T,T,T,T,F,F,F,F,F,F,F,F,F]
abbrev q15_34 : Array Bool := #[T,T,T,T,T,T,T,T,T,T,T,T,T,T,T,T,T,T,T,T,T,T,T,T,T,T,T,T,F,F,F,F,F,F,F,F]
abbrev q15_35 : Array Bool := #[T,T,T,T,T,T,T,T,T,T,T,T,T,T,T,T,T,T,T,T,T,T,T,T,T,T,T,T,T,F,F,F,F,F,F,F]
abbrev q15_36 : Array Bool := #[T,T,T,T,T,T,T,T,T,T,T,T,T,T,T,T,T,T,T,T,T,T,T,T,T,T,T,T,T,T,F,F,F,F,F,F]
abbrev q15_37 : Array Bool := #[T,T,T,T,T,T,T,T,T,T,T,T,T,T,T,T,T,T,T,T,T,T,T,T,T,T,F,T,F,F,F,F,F,F,F,F]
abbrev q15_38 : Array Bool := #[T,T,T,T,T,T,T,T,T,T,T,T,T,T,T,T,T,T,T,T,T,T,T,T,T,T,F,T,T,F,F,F,F,F,F,F]
abbrev q15_39 : Array Bool := #[T,T,T,T,T,T,T,T,T,T,T,T,T,T,T,T,T,T,T,T,T,T,T,T,T,T,F,T,T,T,F,F,F,F,F,F]
abbrev q15_40 : Array Bool := #[T,T,T,T,T,T,T,T,T,T,T,T,T,T,T,T,T,T,T,T,T,T,T,T,T,T,F,T,T,T,T,F,F,F,F,F]

/-! ### clusterlocksref10_Valid: function 26 -/
mutual
def clusterlocksref10_Valid.j0 : Nat → List (S53) → Bool → ByteArray → Int → Int → Int → Option (Bool)
 | 0, _, _, _, _, _, _ => none
 | k + 1, x1, x13, x291000, x291001, x291002, x291003 => if x13 = true then (some false) else (clusterlocksref10_Valid.l0 k x1 0 x291000 x291001 x291002 x291003)
def clusterlocksref10_Valid.l0 : Nat → List (S53) → Int → ByteArray → Int → Int → Int → Option (Bool)
 | 0, _, _, _, _, _, _ => none
 | k + 1, x1, x5, x291000, x291001, x291002, x291003 => if x5 < (x1.length : Int) then (if 0 ≤ x5 then ((clusterlocksref02_ValidProc.f ((rd_T53 x1 x5).f0.f0) ((rd_T53 x1 x5).f0.f1) ((rd_T53 x1 x5).f0.f2)).bind fun t297 => (if t297 = true then ((clusterlocksref04_Fits.f x291000 x291001 x291002 x291003 ((rd_T53 x1 x5).f1.f0) ((rd_T53 x1 x5).f1.f1)).bind fun t299 => (if t299 = true then (if x5 > 0 then (if 0 ≤ (wrap64 (x5 - 1)) then (if (wrap64 (x5 - 1)) < (x1.length : Int) then ((clusterlocksref02_CompareProc.f ((rd_T53 x1 (wrap64 (x5 - 1))).f0.f0) ((rd_T53 x1 (wrap64 (x5 - 1))).f0.f1) ((rd_T53 x1 (wrap64 (x5 - 1))).f0.f2) ((rd_T53 x1 x5).f0.f0) ((rd_T53 x1 x5).f0.f1) ((rd_T53 x1 x5).f0.f2)).bind fun t302 => (if t302 ≥ 0 then (some false) else (clusterlocksref10_Valid.l0 k x1 (wrap64 (x5 + 1)) x291000 x291001 x291002 x291003))) else (none)) else (none)) else (clusterlocksref10_Valid.l0 k x1 (wrap64 (x5 + 1)) x291000 x291001 x291002 x291003)) else (some false))) else (some false))) else (none)) else ((clusterlocksref10_Amounts.f k x1).bind fun t292 => ((clusterlocksref04_Compatible.f k x291000 x291001 x291002 x291003 t292).bind fun t295 => (some t295)))
end
def clusterlocksref10_Valid.f (k : Nat) (a0_0 : ByteArray) (a0_1 : Int) (a0_2 : Int) (a0_3 : Int) (l1 : List (S53)) : Option (Bool) := (clusterlocksref04_Shaped.f a0_0 a0_1 a0_2 a0_3).bind fun t291 => (if t291 = true then (clusterlocksref10_Valid.j0 k l1 (decide ((l1.length : Int) > 8)) a0_0 a0_1 a0_2 a0_3) else (clusterlocksref10_Valid.j0 k l1 true a0_0 a0_1 a0_2 a0_3))
theorem clusterlocksref10_Valid.mono_l : ∀ k, (∀ y0 y1 y2 y3 y4 y5, LeO (clusterlocksref10_Valid.j0 k y0 y1 y2 y3 y4 y5) (clusterlocksref10_Valid.j0 (k + 1) y0 y1 y2 y3 y4 y5)) ∧ (∀ y0 y1 y2 y3 y4 y5, LeO (clusterlocksref10_Valid.l0 k y0 y1 y2 y3 y4 y5) (clusterlocksref10_Valid.l0 (k + 1) y0 y1 y2 y3 y4 y5))
 | 0 => ⟨fun _ _ _ _ _ _ r h => by simp [clusterlocksref10_Valid.j0] at h, fun _ _ _ _ _ _ r h => by simp [clusterlocksref10_Valid.l0] at h⟩
 | k + 1 => by
  obtain ⟨ih0, ih1⟩ := clusterlocksref10_Valid.mono_l k
  refine ⟨?_, ?_⟩
  ·intro y0 y1 y2 y3 y4 y5
   unfold clusterlocksref10_Valid.j0
   repeat' first
   | (with_reducible exact ih0 _ _ _ _ _ _)
   | (with_reducible exact ih1 _ _ _ _ _ _)
   | (with_reducible exact clusterlocksref04_Compatible.mono _ _ _ _ _ _)
   | (with_reducible exact clusterlocksref10_Amounts.mono _ _)
   | (with_reducible exact LeO.refl _)
   | (with_reducible exact LeO.none _)
   | (with_reducible refine LeO.ite ?_ ?_)
   | (with_reducible refine LeO.bind ?_ (fun _ => ?_))
   | exact ih0 _ _ _ _ _ _
   | exact ih1 _ _ _ _ _ _
   | exact clusterlocksref04_Compatible.mono _ _ _ _ _ _
   | exact clusterlocksref10_Amounts.mono _ _
   | exact LeO.none _
   | refine LeO.ite ?_ ?_
   | refine LeO.bind ?_ (fun _ => ?_)
  ·intro y0 y1 y2 y3 y4 y5
   unfold clusterlocksref10_Valid.l0
   repeat' first
   | (with_reducible exact ih0 _ _ _ _ _ _)
   | (with_reducible exact ih1 _ _ _ _ _ _)
   | (with_reducible exact clusterlocksref04_Compatible.mono _ _ _ _ _ _)
   | (with_reducible exact clusterlocksref10_Amounts.mono _ _)
   | (with_reducible exact LeO.refl _)
   | (with_reducible exact LeO.none _)
   | (with_reducible refine LeO.ite ?_ ?_)
   | (with_reducible refine LeO.bind ?_ (fun _ => ?_))
   | exact ih0 _ _ _ _ _ _
   | exact ih1 _ _ _ _ _ _
   | exact clusterlocksref04_Compatible.mono _ _ _ _ _ _
   | exact clusterlocksref10_Amounts.mono _ _
   | exact LeO.none _
   | refine LeO.ite ?_ ?_
   | refine LeO.bind ?_ (fun _ => ?_)
theorem clusterlocksref10_Valid.mono : ∀ a0 a1 a2 a3 a4 k, LeO (clusterlocksref10_Valid.f k a0 a1 a2 a3 a4) (clusterlocksref10_Valid.f (k + 1) a0 a1 a2 a3 a4) := by
 intro a0 a1 a2 a3 a4 k
 obtain ⟨ih0, ih1⟩ := clusterlocksref10_Valid.mono_l k
 unfold clusterlocksref10_Valid.f
 repeat' first
   | (with_reducible exact ih0 _ _ _ _ _ _)
   | (with_reducible exact ih1 _ _ _ _ _ _)
   | (with_reducible exact clusterlocksref04_Compatible.mono _ _ _ _ _ _)
   | (with_reducible exact clusterlocksref10_Amounts.mono _ _)
   | (with_reducible exact LeO.refl _)
   | (with_reducible exact LeO.none _)
   | (with_reducible refine LeO.ite ?_ ?_)
   | (with_reducible refine LeO.bind ?_ (fun _ => ?_))
   | exact ih0 _ _ _ _ _ _
   | exact ih1 _ _ _ _ _ _
   | exact clusterlocksref04_Compatible.mono _ _ _ _ _ _
   | exact clusterlocksref10_Amounts.mono _ _
   | exact LeO.none _
   | refine LeO.ite ?_ ?_
   | refine LeO.bind ?_ (fun _ => ?_)
def clusterlocksref10_Valid.T6 : Bool × List (List Nat × List Nat) := (true, [([], []), ([], []), ([0, 1], [0, 1]), ([2], [2]), ([3], [3]), ([4], [4]), ([5], [5]), ([6, 5], [6]), ([7], [7]), ([7], [7]), ([7], [7]), ([9, 10, 7], [7, 9, 10]), ([11, 7], [7, 11]), ([12, 7], [7, 12]), ([8, 13, 7, 7], [7, 8, 13]), ([14, 7], [7, 14]), ([7, 15], [7, 15]), ([16, 14], [16]), ([17], [17]), ([18, 17], [17, 18]), ([19, 17, 17], [17, 19]), ([20], [20]), ([20], [20]), ([22, 20], [20, 22]), ([21, 23, 20], [20, 21, 23]), ([24, 20], [20, 24]), ([25, 20], [20, 25]), ([20], [20]), ([20], [20]), ([27, 28, 20], [20, 27, 28]), ([29, 20], [20, 29]), ([30, 20], [20, 30]), ([26, 31, 20, 20], [20, 26, 31]), ([32, 20], [20, 32]), ([20, 33, 17], [17, 20, 33]), ([17, 34], [17, 34])])
def clusterlocksref10_Valid.B6 : List Nat := [0, 0, 3, 7, 15, 31, 63, 127, 255, 255, 255, 1791, 3839, 7935, 16383, 32767, 65535, 131071, 262143, 524287, 1048575, 2097151, 2097151, 6291455, 16777215, 33554431, 67108863, 2097151, 2097151, 404750335, 941621247, 2015363071, 4294967295, 8589934591, 17179869183, 34359738367]
theorem clusterlocksref10_Valid.tab6 : rtab .any (opsOf Tryd.f26 6) = clusterlocksref10_Valid.T6 := by kernel_rfl
theorem clusterlocksref10_Valid.bits6 : waitsOk clusterlocksref10_Valid.T6.2 clusterlocksref10_Valid.B6 = true := by kernel_rfl
set_option maxHeartbeats 8000000 in
set_option maxRecDepth 100000 in
theorem clusterlocksref10_Valid.calls (k : Nat) (a0_0 : ByteArray) (a0_1 : Int) (a0_2 : Int) (a0_3 : Int) (A1 : Option Addr) (c1 : Nat) (l1 : List (S53)) (r : Bool) (w : World) (hr1 : Kd.C k53 w A1 l1.length l1) (hc1 : l1.length ≤ c1) (h : clusterlocksref10_Valid.f k a0_0 a0_1 a0_2 a0_3 l1 = some r) :
  Calls Tryd.prog 26 #[.agg #[.string a0_0, .int .i64 a0_1, .int .i64 a0_2, .int .i64 a0_3], .slice A1 l1.length c1] w fun e w' => e = .returned (.bool r) ∧ Below w.heap.size w w' := by
 have hu32 := Tryd.underlying32
 have hu24 := Tryd.underlying24
 have hu26 := Tryd.underlying26
 have HR1 := Aside0.mk hr1
 have HC1 := Aside0.mk hc1
 clear hr1 hc1
 have HB := Aside0.mk (Below.refl w.heap.size w)
 have H : ((clusterlocksref04_Shaped.f a0_0 a0_1 a0_2 a0_3).bind fun t291 => (if t291 = true then (clusterlocksref10_Valid.j0 k l1 (decide ((l1.length : Int) > 8)) a0_0 a0_1 a0_2 a0_3) else (clusterlocksref10_Valid.j0 k l1 true a0_0 a0_1 a0_2 a0_3))) = some r := h
 clear h
 have HC3 := Aside0.mk H
 clear H
 go_enter Tryd.func26, Tryd.ntmps26
 go_upto_region 1 with (first | ((with_reducible refine gate_dst (N := 2) rfl ?_); (try (refine gate_guard (by rfl) ?_; dsimp only)); refine box_event ?hg (N := 2) ?hd (cs := #[.string a0_0, .int .i64 a0_1, .int .i64 a0_2, .int .i64 a0_3]) (t := 32) ?hr ?_; (case hd => rfl); (case hg => rfl); (case hr => first | (go_simp; done) | (go_simp; rfl)); intro gb290 hg w4 hbox hb; have BK290 := Aside0.mk hbox; have GW290 := gE HB hg; replace HB := bB HB hb; have GE290 := GW290; clear hb hbox hg))
 (try simp only [Act.put, List.setIfInBounds_toArray, List.set_cons_zero, List.set_cons_succ])
 go_cut [13] (fun v13 wc => ∃ (kq : Nat) (x13_2 : Bool), v13 = .bool x13_2 ∧ Aside0 (clusterlocksref10_Valid.j0 kq l1 x13_2 a0_0 a0_1 a0_2 a0_3 = some r) ∧ Aside0 (kq ≤ k) ∧ Aside0 (wc.heap[gb290]? = some (.cells #[.string a0_0, .int .i64 a0_1, .int .i64 a0_2, .int .i64 a0_3] 32 (0, 0))) ∧ Aside0 (Below w.heap.size w wc))
 case first =>
  have H := HC3.out
  clear HC3
  obtain ⟨t291, A50, H⟩ := Option.bind_eq_some_iff.mp H
  have A5 := Aside0.mk A50; clear A50
  by_cases c6 : t291 = true
  ·subst c6
   rw [if_pos rfl] at H
   have H' := Aside0.mk H
   clear H
   obtain ⟨hcz7_0, hcz7_1, hcz7_2, hcz7_3, hfz7_0, hfz7_1, hfz7_2, hfz7_3⟩ := d4 BK290
   go_wp2_with (first | ((with_reducible refine gate_callee (f := 48) rfl ?_); refine goesL_ (some 7) rfl rfl Tryd.func48 (by kernel_rfl) rfl #[.agg #[.string a0_0, .int .i64 a0_1, .int .i64 a0_2, .int .i64 a0_3]] rfl (by (try simp only [mA]); first | done | rfl) ?_; (with_reducible refine (clusterlocksref04_Shaped.calls a0_0 a0_1 a0_2 a0_3 true _ A5.out).mono ?_); rintro e w8 ⟨rfl, hb⟩; refine ⟨_, rfl, ?_⟩; replace BK290 := bK BK290 hb; replace HB := bB HB hb; (try clear hb)))
   go_meet
   case rel => exact ⟨_, (decide ((l1.length : Int) > 8)), (by first | rfl | (simp; done) | (simp [*]; done)), H', ⟨by first | omega | exact Nat.le_refl _⟩, ⟨by (with_reducible repeat first | refine bN ?_ _ | refine bD ?_ | refine bA ?_ _); exact BK290.out⟩, ⟨by repeat (first | (with_reducible first | exact HB.out | apply bL | apply bM | apply bR) | exact HB.out)⟩⟩
  ·replace c6 := Bool.eq_false_iff.mpr c6
   subst c6
   rw [if_neg (show ¬ (false = true) by decide)] at H
   have H' := Aside0.mk H
   clear H
   obtain ⟨hcz9_0, hcz9_1, hcz9_2, hcz9_3, hfz9_0, hfz9_1, hfz9_2, hfz9_3⟩ := d4 BK290
   go_wp2_with (first | ((with_reducible refine gate_callee (f := 48) rfl ?_); refine goesL_ (some 7) rfl rfl Tryd.func48 (by kernel_rfl) rfl #[.agg #[.string a0_0, .int .i64 a0_1, .int .i64 a0_2, .int .i64 a0_3]] rfl (by (try simp only [mA]); first | done | rfl) ?_; (with_reducible refine (clusterlocksref04_Shaped.calls a0_0 a0_1 a0_2 a0_3 false _ A5.out).mono ?_); rintro e w10 ⟨rfl, hb⟩; refine ⟨_, rfl, ?_⟩; replace BK290 := bK BK290 hb; replace HB := bB HB hb; (try clear hb)))
   go_meet
   case rel => exact ⟨_, (true), (by first | rfl | (simp; done) | (simp [*]; done)), H', ⟨by first | omega | exact Nat.le_refl _⟩, ⟨by (with_reducible repeat first | refine bN ?_ _ | refine bD ?_ | refine bA ?_ _); exact BK290.out⟩, ⟨by repeat (first | (with_reducible first | exact HB.out | apply bL | apply bM | apply bR) | exact HB.out)⟩⟩
 case rest =>
  clear HC3
  try clear c1
  try clear c2
  try clear p2
  try clear c4
  try clear c6
  try clear hcz7_0
  try clear hcz7_1
  try clear hcz7_2
  try clear hcz7_3
  try clear hcz9_0
  try clear hcz9_1
  try clear hcz9_2
  try clear hcz9_3
  try clear hfz7_0
  try clear hfz7_1
  try clear hfz7_2
  try clear hfz7_3
  try clear hfz9_0
  try clear hfz9_1
  try clear hfz9_2
  try clear hfz9_3
  obtain ⟨kq, x13_2, rfl, HA, HJ2, BK290, HB⟩ := hcut
  cases kq with
  | zero => exact absurd HA.out (by simp [clusterlocksref10_Valid.j0])
  | succ kj2 =>
   have H := HA.out
   clear HA
   simp only [clusterlocksref10_Valid.j0] at H
   by_cases c11 : x13_2 = true
   ·subst c11
    rw [if_pos rfl] at H
    obtain rfl := Option.some.inj H
    go_wp2
    go_ret
    exact ⟨by first | rfl | (simp [errW_none, errW_some] <;> rfl) | (simp [*, errW_none, errW_some] <;> rfl), by repeat (first | (with_reducible first | exact HB.out | apply bL | apply bM | apply bR) | exact HB.out)⟩
   ·replace c11 := Bool.eq_false_iff.mpr c11
    subst c11
    rw [if_neg (show ¬ (false = true) by decide)] at H
    have H' := Aside0.mk H
    clear H
    go_wp2
    go_loopg [5] kj2 (fun kq v5 w' => ∃ (x5_2 : Int), v5 = .int .i64 x5_2 ∧ Aside0 (clusterlocksref10_Valid.l0 kq l1 x5_2 a0_0 a0_1 a0_2 a0_3 = some r) ∧ Aside0 (kq ≤ kj2) ∧ Aside0 (w'.heap[gb290]? = some (.cells #[.string a0_0, .int .i64 a0_1, .int .i64 a0_2, .int .i64 a0_3] 32 (0, 0))) ∧ Aside0 (Below w.heap.size w w'))
    case atStart => exact ⟨(0), (by first | rfl | (simp; done) | (simp [*]; done)), H', ⟨Nat.le_refl _⟩, ⟨by (with_reducible repeat first | refine bN ?_ _ | refine bD ?_ | refine bA ?_ _); exact BK290.out⟩, ⟨by repeat (first | (with_reducible first | exact HB.out | apply bL | apply bM | apply bR) | exact HB.out)⟩⟩
    case round =>
     clear H'
     try clear c1
     try clear c2
     try clear p2
     try clear c4
     try clear c6
     try clear c11
     try clear hcz7_0
     try clear hcz7_1
     try clear hcz7_2
     try clear hcz7_3
     try clear hcz9_0
     try clear hcz9_1
     try clear hcz9_2
     try clear hcz9_3
     try clear hfz7_0
     try clear hfz7_1
     try clear hfz7_2
     try clear hfz7_3
     try clear hfz9_0
     try clear hfz9_1
     try clear hfz9_2
     try clear hfz9_3
     try clear p2
     obtain ⟨x5_2, rfl, HA, HK2, BK290, HB⟩ := hrel
     cases gk with
     | zero => exact absurd HA.out (by simp [clusterlocksref10_Valid.l0])
     | succ k2 =>
      have H := HA.out
      clear HA
      simp only [clusterlocksref10_Valid.l0] at H
      by_cases c12 : x5_2 < (l1.length : Int)
      ·rw [if_pos c12] at H
       have c12b0 : decide (x5_2 < (l1.length : Int)) = true := decide_eq_true c12
       clear c12
       by_cases c13 : 0 ≤ x5_2
       ·rw [if_pos c13] at H
        have c13b0 : decide (0 ≤ x5_2) = true := decide_eq_true c13
        clear c13
        obtain ⟨t297, A140, H⟩ := Option.bind_eq_some_iff.mp H
        have A14 := Aside0.mk A140; clear A140
        by_cases c15 : t297 = true
        ·subst c15
         rw [if_pos rfl] at H
         obtain ⟨t299, A160, H⟩ := Option.bind_eq_some_iff.mp H
         have A16 := Aside0.mk A160; clear A160
         by_cases c17 : t299 = true
         ·subst c17
          rw [if_pos rfl] at H
          by_cases c18 : x5_2 > 0
          ·rw [if_pos c18] at H
           have c18b0 : decide (0 < x5_2) = true := decide_eq_true c18
           clear c18
           obtain ⟨ji19, hji19⟩ : ∃ j_ : Int, (wrap64 (x5_2 - 1)) = j_ := ⟨_, rfl⟩
           replace H : (if 0 ≤ (ji19) then (if (ji19) < (l1.length : Int) then ((clusterlocksref02_CompareProc.f ((rd_T53 l1 (ji19)).f0.f0) ((rd_T53 l1 (ji19)).f0.f1) ((rd_T53 l1 (ji19)).f0.f2) ((rd_T53 l1 x5_2).f0.f0) ((rd_T53 l1 x5_2).f0.f1) ((rd_T53 l1 x5_2).f0.f2)).bind fun t302 => (if t302 ≥ 0 then (some false) else (clusterlocksref10_Valid.l0 k2 l1 (wrap64 (x5_2 + 1)) a0_0 a0_1 a0_2 a0_3))) else (none)) else (none)) = some r := by first | (rw [hji19] at H; exact H) | (simp only [hji19] at H ⊢; exact H)
           (try rw [hji19] at A14)
           (try rw [hji19] at A16)
           have hji19w : (IntKind.i64.wrap (x5_2 - 1)) = ji19 := (i64_w _).trans hji19
           by_cases c20 : 0 ≤ (ji19)
           ·rw [if_pos c20] at H
            have c20b0 : decide (0 ≤ (ji19)) = true := decide_eq_true c20
            clear c20
            by_cases c21 : (ji19) < (l1.length : Int)
            ·rw [if_pos c21] at H
             have c21b0 : decide ((ji19) < (l1.length : Int)) = true := decide_eq_true c21
             clear c21
             obtain ⟨t302, A220, H⟩ := Option.bind_eq_some_iff.mp H
             have A22 := Aside0.mk A220; clear A220
             have HH_ := Aside0.mk H
             clear H
             try go_wp2
             replace BK290 := Aside0.mk (blk_drew BK290.out)
             replace HB := Aside0.mk (below_drew1 HB.out)
             have p296 : 0 ≤ (x5_2 : Int) := of_decide_eq_true (by first | (with_reducible assumption) | assumption)
             have q296 : x5_2 < (l1.length : Int) := of_decide_eq_true (by first | (with_reducible assumption) | assumption)
             obtain ⟨ad296, e296, hx296_0, hx296_1, hx296_2, hx296_3, hx296_4⟩ := at_T53 HR1.out x5_2 p296 q296
             have hw296_4 := hx296_4
             have hw296_3 := hx296_3
             have hw296_2 := hx296_2
             have hw296_1 := hx296_1
             have hw296_0 := hx296_0
             cases e296
             replace hx296_0 := kC HB hx296_0
             replace hx296_1 := kC HB hx296_1
             replace hx296_2 := kC HB hx296_2
             replace hx296_3 := kC HB hx296_3
             replace hx296_4 := kC HB hx296_4
             replace p296 := eq_true p296
             replace q296 := eq_true q296
             have p298 : 0 ≤ (x5_2 : Int) := of_decide_eq_true (by first | (with_reducible assumption) | assumption)
             have q298 : x5_2 < (l1.length : Int) := of_decide_eq_true (by first | (with_reducible assumption) | assumption)
             obtain ⟨ad298, e298, hx298_0, hx298_1, hx298_2, hx298_3, hx298_4⟩ := at_T53 HR1.out x5_2 p298 q298
             have hw298_4 := hx298_4
             have hw298_3 := hx298_3
             have hw298_2 := hx298_2
             have hw298_1 := hx298_1
             have hw298_0 := hx298_0
             obtain rfl : ad296 = ad298 := (by injection e298)
             replace hx298_0 := kC HB hx298_0
             replace hx298_1 := kC HB hx298_1
             replace hx298_2 := kC HB hx298_2
             replace hx298_3 := kC HB hx298_3
             replace hx298_4 := kC HB hx298_4
             replace p298 := eq_true p298
             replace q298 := eq_true q298
             have p300 : 0 ≤ ((ji19) : Int) := of_decide_eq_true (by first | (with_reducible assumption) | assumption)
             have q300 : (ji19) < (l1.length : Int) := of_decide_eq_true (by first | (with_reducible assumption) | assumption)
             obtain ⟨ad300, e300, hx300_0, hx300_1, hx300_2, hx300_3, hx300_4⟩ := at_T53 HR1.out (ji19) p300 q300
             have hw300_4 := hx300_4
             have hw300_3 := hx300_3
             have hw300_2 := hx300_2
             have hw300_1 := hx300_1
             have hw300_0 := hx300_0
             obtain rfl : ad296 = ad300 := (by injection e300)
             replace hx300_0 := kC HB hx300_0
             replace hx300_1 := kC HB hx300_1
             replace hx300_2 := kC HB hx300_2
             replace hx300_3 := kC HB hx300_3
             replace hx300_4 := kC HB hx300_4
             replace p300 := eq_true p300
             replace q300 := eq_true q300
             have p301 : 0 ≤ (x5_2 : Int) := of_decide_eq_true (by first | (with_reducible assumption) | assumption)
             have q301 : x5_2 < (l1.length : Int) := of_decide_eq_true (by first | (with_reducible assumption) | assumption)
             obtain ⟨ad301, e301, hx301_0, hx301_1, hx301_2, hx301_3, hx301_4⟩ := at_T53 HR1.out x5_2 p301 q301
             have hw301_4 := hx301_4
             have hw301_3 := hx301_3
             have hw301_2 := hx301_2
             have hw301_1 := hx301_1
             have hw301_0 := hx301_0
             obtain rfl : ad296 = ad301 := (by injection e301)
             replace hx301_0 := kC HB hx301_0
             replace hx301_1 := kC HB hx301_1
             replace hx301_2 := kC HB hx301_2
             replace hx301_3 := kC HB hx301_3
             replace hx301_4 := kC HB hx301_4
             replace p301 := eq_true p301
             replace q301 := eq_true q301
             refine start_ (n := 36) (S := fun w' => w'.cell? ⟨gb290, 0, none⟩ = some (.string a0_0) ∧ w'.cell? ⟨gb290, 1, none⟩ = some (.int .i64 a0_1) ∧ w'.cell? ⟨gb290, 2, none⟩ = some (.int .i64 a0_2) ∧ w'.cell? ⟨gb290, 3, none⟩ = some (.int .i64 a0_3) ∧ w'.cell? (ad296.add ((x5_2).toNat * 5)) = some (.int .i64 ((rd_T53 l1 x5_2).f0.f0)) ∧ w'.cell? ⟨(ad296.add ((x5_2).toNat * 5)).block, (ad296.add ((x5_2).toNat * 5)).off + 1, none⟩ = some (.int .i64 ((rd_T53 l1 x5_2).f0.f1)) ∧ w'.cell? ⟨(ad296.add ((x5_2).toNat * 5)).block, (ad296.add ((x5_2).toNat * 5)).off + 2, none⟩ = some (.int .i64 ((rd_T53 l1 x5_2).f0.f2)) ∧ w'.cell? ⟨(ad296.add ((x5_2).toNat * 5)).block, (ad296.add ((x5_2).toNat * 5)).off + 3, none⟩ = some (.int .i64 ((rd_T53 l1 x5_2).f1.f0)) ∧ w'.cell? ⟨(ad296.add ((x5_2).toNat * 5)).block, (ad296.add ((x5_2).toNat * 5)).off + 4, none⟩ = some (.int .i64 ((rd_T53 l1 x5_2).f1.f1)) ∧ w'.cell? (ad296.add ((x5_2).toNat * 5)) = some (.int .i64 ((rd_T53 l1 x5_2).f0.f0)) ∧ w'.cell? ⟨(ad296.add ((x5_2).toNat * 5)).block, (ad296.add ((x5_2).toNat * 5)).off + 1, none⟩ = some (.int .i64 ((rd_T53 l1 x5_2).f0.f1)) ∧ w'.cell? ⟨(ad296.add ((x5_2).toNat * 5)).block, (ad296.add ((x5_2).toNat * 5)).off + 2, none⟩ = some (.int .i64 ((rd_T53 l1 x5_2).f0.f2)) ∧ w'.cell? ⟨(ad296.add ((x5_2).toNat * 5)).block, (ad296.add ((x5_2).toNat * 5)).off + 3, none⟩ = some (.int .i64 ((rd_T53 l1 x5_2).f1.f0)) ∧ w'.cell? ⟨(ad296.add ((x5_2).toNat * 5)).block, (ad296.add ((x5_2).toNat * 5)).off + 4, none⟩ = some (.int .i64 ((rd_T53 l1 x5_2).f1.f1)) ∧ w'.cell? (ad296.add (((ji19)).toNat * 5)) = some (.int .i64 ((rd_T53 l1 (ji19)).f0.f0)) ∧ w'.cell? ⟨(ad296.add (((ji19)).toNat * 5)).block, (ad296.add (((ji19)).toNat * 5)).off + 1, none⟩ = some (.int .i64 ((rd_T53 l1 (ji19)).f0.f1)) ∧ w'.cell? ⟨(ad296.add (((ji19)).toNat * 5)).block, (ad296.add (((ji19)).toNat * 5)).off + 2, none⟩ = some (.int .i64 ((rd_T53 l1 (ji19)).f0.f2)) ∧ w'.cell? ⟨(ad296.add (((ji19)).toNat * 5)).block, (ad296.add (((ji19)).toNat * 5)).off + 3, none⟩ = some (.int .i64 ((rd_T53 l1 (ji19)).f1.f0)) ∧ w'.cell? ⟨(ad296.add (((ji19)).toNat * 5)).block, (ad296.add (((ji19)).toNat * 5)).off + 4, none⟩ = some (.int .i64 ((rd_T53 l1 (ji19)).f1.f1)) ∧ w'.cell? (ad296.add ((x5_2).toNat * 5)) = some (.int .i64 ((rd_T53 l1 x5_2).f0.f0)) ∧ w'.cell? ⟨(ad296.add ((x5_2).toNat * 5)).block, (ad296.add ((x5_2).toNat * 5)).off + 1, none⟩ = some (.int .i64 ((rd_T53 l1 x5_2).f0.f1)) ∧ w'.cell? ⟨(ad296.add ((x5_2).toNat * 5)).block, (ad296.add ((x5_2).toNat * 5)).off + 2, none⟩ = some (.int .i64 ((rd_T53 l1 x5_2).f0.f2)) ∧ w'.cell? ⟨(ad296.add ((x5_2).toNat * 5)).block, (ad296.add ((x5_2).toNat * 5)).off + 3, none⟩ = some (.int .i64 ((rd_T53 l1 x5_2).f1.f0)) ∧ w'.cell? ⟨(ad296.add ((x5_2).toNat * 5)).block, (ad296.add ((x5_2).toNat * 5)).off + 4, none⟩ = some (.int .i64 ((rd_T53 l1 x5_2).f1.f1))) (ds := []) q15_0 (by kernel_rfl) rfl rfl ⟨bC BK290 0 rfl, bC BK290 1 rfl, bC BK290 2 rfl, bC BK290 3 rfl, (kC HB hw296_0), (kC HB hw296_1), (kC HB hw296_2), (kC HB hw296_3), (kC HB hw296_4), (kC HB hw298_0), (kC HB hw298_1), (kC HB hw298_2), (kC HB hw298_3), (kC HB hw298_4), (kC HB hw300_0), (kC HB hw300_1), (kC HB hw300_2), (kC HB hw300_3), (kC HB hw300_4), (kC HB hw301_0), (kC HB hw301_1), (kC HB hw301_2), (kC HB hw301_3), (kC HB hw301_4)⟩ (fun hHeld => ?_); refine with_tabW clusterlocksref10_Valid.tab6 clusterlocksref10_Valid.bits6 (fun HT_ HW_ => ?_)
             generalize wr.drew = w24 at BK290 HB hx296_0 hx296_1 hx296_2 hx296_3 hx296_4 hx298_0 hx298_1 hx298_2 hx298_3 hx298_4 hx300_0 hx300_1 hx300_2 hx300_3 hx300_4 hx301_0 hx301_1 hx301_2 hx301_3 hx301_4 hHeld ⊢
             refine pu HT_ 0 20 q15_1 rfl rfl (by kernel_rfl) (fun _ _ _ => id) (.inl ⟨by rfl, by intro w'; go_simp; with_reducible rfl⟩) (by simp only [sP]; rfl) ?_
             refine pu HT_ 1 21 q15_2 rfl rfl (by kernel_rfl) (fun _ _ _ => id) (.inl ⟨by rfl, by intro w'; go_simp; with_reducible rfl⟩) (by simp only [sP]; rfl) ?_
             refine pu HT_ 2 22 q15_3 rfl rfl (by kernel_rfl) (fun _ _ _ => id) (.inl ⟨by rfl, by intro w'; go_simp; with_reducible rfl⟩) (by simp only [sP]; rfl) ?_
             refine pu HT_ 3 23 q15_4 rfl rfl (by kernel_rfl) (fun _ _ _ => id) (.inl ⟨by rfl, by intro w'; go_simp; with_reducible rfl⟩) (by simp only [sP]; rfl) ?_
             refine tk HT_ HW_ 4 24 q15_5 rfl rfl (by kernel_rfl) (fun _ _ _ => id) (.inl ⟨by rfl, by rintro w' ⟨s0, s1, s2, s3, s4, s5, s6, s7, s8, s9, s10, s11, s12, s13, s14, s15, s16, s17, s18, s19, s20, s21, s22, s23⟩; go_simp; with_reducible rfl⟩) hHeld (by simp only [sP]; rfl) ?_
             refine one_ (i := 5) (N := some 25) q15_6 rfl rfl (one_of HT_.out (by kernel_rfl)) (by decide) (fun K hK => ?_)
             refine goes_ Tryd.func36 (by kernel_rfl) rfl #[.agg #[.int .i64 ((rd_T53 l1 x5_2).f0.f0), .int .i64 ((rd_T53 l1 x5_2).f0.f1), .int .i64 ((rd_T53 l1 x5_2).f0.f2)]] (by rfl) rfl rfl (by (try simp only [mA]); first | done | rfl) ?_
             with_reducible refine (clusterlocksref02_ValidProc.calls ((rd_T53 l1 x5_2).f0.f0) ((rd_T53 l1 x5_2).f0.f1) ((rd_T53 l1 x5_2).f0.f2) true _ A14.out).mono ?_
             rintro e w25 ⟨rfl, hb⟩
             refine ⟨_, rfl, ?_⟩
             replace BK290 := bK BK290 hb
             replace HB := bB HB hb
             (try clear hb)
             refine hK.out _ _ ⟨bC BK290 0 rfl, bC BK290 1 rfl, bC BK290 2 rfl, bC BK290 3 rfl, (kC HB hw296_0), (kC HB hw296_1), (kC HB hw296_2), (kC HB hw296_3), (kC HB hw296_4), (kC HB hw298_0), (kC HB hw298_1), (kC HB hw298_2), (kC HB hw298_3), (kC HB hw298_4), (kC HB hw300_0), (kC HB hw300_1), (kC HB hw300_2), (kC HB hw300_3), (kC HB hw300_4), (kC HB hw301_0), (kC HB hw301_1), (kC HB hw301_2), (kC HB hw301_3), (kC HB hw301_4)⟩ (fun hHeld => ?_)
             clear hK K
             refine norm_ (a' := ?_) ?_ ?_
             rotate_left
             ·show Act.put _ (some 25) _ = _
              simp only [sP]
              rfl
             refine pu HT_ 6 26 q15_7 rfl rfl (by kernel_rfl) (fun _ _ _ => id) (.inl ⟨by rfl, by intro w'; go_simp; with_reducible rfl⟩) (by simp only [sP]; rfl) ?_
             refine pu HT_ 7 27 q15_8 rfl rfl (by kernel_rfl) (fun _ _ _ => id) (.inl ⟨by rfl, by intro w'; go_simp; with_reducible rfl⟩) (by simp only [sP]; rfl) ?_
             refine pu HT_ 9 29 q15_29 rfl rfl (by kernel_rfl) (fun _ _ _ => id) (.inl ⟨by rfl, by intro w'; go_simp; with_reducible rfl⟩) (by simp only [sP]; rfl) ?_
             refine pu HT_ 10 30 q15_30 rfl rfl (by kernel_rfl) (fun _ _ _ => id) (.inl ⟨by rfl, by intro w'; go_simp; with_reducible rfl⟩) (by simp only [sP]; rfl) ?_
             refine pu HT_ 11 31 q15_31 rfl rfl (by kernel_rfl) (fun _ _ _ => id) (.inl ⟨by rfl, by intro w'; go_simp; with_reducible rfl⟩) (by simp only [sP]; rfl) ?_
             refine pu HT_ 12 32 q15_32 rfl rfl (by kernel_rfl) (fun _ _ _ => id) (.inl ⟨by rfl, by intro w'; go_simp; with_reducible rfl⟩) (by simp only [sP]; rfl) ?_
             refine tk HT_ HW_ 8 28 q15_9 rfl rfl (by kernel_rfl) (fun _ _ _ => id) (.inl ⟨by rfl, by rintro w' ⟨s0, s1, s2, s3, s4, s5, s6, s7, s8, s9, s10, s11, s12, s13, s14, s15, s16, s17, s18, s19, s20, s21, s22, s23⟩; go_simp; with_reducible rfl⟩) hHeld (by simp only [sP]; rfl) ?_
             refine tk HT_ HW_ 13 33 q15_10 rfl rfl (by kernel_rfl) (fun _ _ _ => id) (.inl ⟨by rfl, by rintro w' ⟨s0, s1, s2, s3, s4, s5, s6, s7, s8, s9, s10, s11, s12, s13, s14, s15, s16, s17, s18, s19, s20, s21, s22, s23⟩; go_simp; with_reducible rfl⟩) hHeld (by simp only [sP]; rfl) ?_
             refine one_ (i := 14) (N := some 34) q15_11 rfl rfl (one_of HT_.out (by kernel_rfl)) (by decide) (fun K hK => ?_)
             refine goes_ Tryd.func37 (by kernel_rfl) rfl #[.agg #[.string a0_0, .int .i64 a0_1, .int .i64 a0_2, .int .i64 a0_3], .agg #[.int .i64 ((rd_T53 l1 x5_2).f1.f0), .int .i64 ((rd_T53 l1 x5_2).f1.f1)]] (by rfl) rfl rfl (by (try simp only [mA]); first | done | rfl) ?_
             with_reducible refine (clusterlocksref04_Fits.calls a0_0 a0_1 a0_2 a0_3 ((rd_T53 l1 x5_2).f1.f0) ((rd_T53 l1 x5_2).f1.f1) true _ A16.out).mono ?_
             rintro e w26 ⟨rfl, hb⟩
             refine ⟨_, rfl, ?_⟩
             replace BK290 := bK BK290 hb
             replace HB := bB HB hb
             (try clear hb)
             refine hK.out _ _ ⟨bC BK290 0 rfl, bC BK290 1 rfl, bC BK290 2 rfl, bC BK290 3 rfl, (kC HB hw296_0), (kC HB hw296_1), (kC HB hw296_2), (kC HB hw296_3), (kC HB hw296_4), (kC HB hw298_0), (kC HB hw298_1), (kC HB hw298_2), (kC HB hw298_3), (kC HB hw298_4), (kC HB hw300_0), (kC HB hw300_1), (kC HB hw300_2), (kC HB hw300_3), (kC HB hw300_4), (kC HB hw301_0), (kC HB hw301_1), (kC HB hw301_2), (kC HB hw301_3), (kC HB hw301_4)⟩ (fun hHeld => ?_)
             clear hK K
             refine norm_ (a' := ?_) ?_ ?_
             rotate_left
             ·show Act.put _ (some 34) _ = _
              simp only [sP]
              rfl
             refine pu HT_ 15 35 q15_12 rfl rfl (by kernel_rfl) (fun _ _ _ => id) (.inl ⟨by rfl, by intro w'; go_simp; with_reducible rfl⟩) (by simp only [sP]; rfl) ?_
             refine pu HT_ 16 36 q15_13 rfl rfl (by kernel_rfl) (fun _ _ _ => id) (.inl ⟨by rfl, by intro w'; go_simp; with_reducible rfl⟩) (by simp only [sP]; rfl) ?_
             refine pu HT_ 17 37 q15_14 rfl rfl (by kernel_rfl) (fun _ _ _ => id) (.inl ⟨by rfl, by intro w'; go_simp; with_reducible rfl⟩) (by simp only [sP]; rfl) ?_
             refine pu HT_ 18 38 q15_15 rfl rfl (by kernel_rfl) (fun _ _ _ => id) (.inl ⟨by rfl, by intro w'; go_simp; with_reducible rfl⟩) (by simp only [sP]; rfl) ?_
             refine pu HT_ 19 39 q15_16 rfl rfl (by kernel_rfl) (fun _ _ _ => id) (.inl ⟨by rfl, by intro w'; go_simp; with_reducible rfl⟩) (by simp only [sP]; rfl) ?_
             refine pu HT_ 20 40 q15_17 rfl rfl (by kernel_rfl) (fun _ _ _ => id) (.inl ⟨by rfl, by intro w'; go_simp; with_reducible rfl⟩) (by simp only [sP]; rfl) ?_
             refine pu HT_ 21 41 q15_18 rfl rfl (by kernel_rfl) (fun _ _ _ => id) (.inl ⟨by rfl, by intro w'; go_simp; with_reducible rfl⟩) (by simp only [sP]; rfl) ?_
             refine pu HT_ 22 42 q15_19 rfl rfl (by kernel_rfl) (fun _ _ _ => id) (.inl ⟨by rfl, by intro w'; go_simp; with_reducible rfl⟩) (by simp only [sP]; rfl) ?_
             refine pu HT_ 23 43 q15_20 rfl rfl (by kernel_rfl) (fun _ _ _ => id) (.inl ⟨by rfl, by intro w'; go_simp; with_reducible rfl⟩) (by simp only [sP]; rfl) ?_
             refine pu HT_ 24 44 q15_21 rfl rfl (by kernel_rfl) (fun _ _ _ => id) (.inl ⟨by rfl, by intro w'; go_simp; with_reducible rfl⟩) (by simp only [sP]; rfl) ?_
             refine pu HT_ 25 45 q15_22 rfl rfl (by kernel_rfl) (fun _ _ _ => id) (.inl ⟨by rfl, by intro w'; go_simp; with_reducible rfl⟩) (by simp only [sP]; rfl) ?_
             refine pu HT_ 27 47 q15_37 rfl rfl (by kernel_rfl) (fun _ _ _ => id) (.inl ⟨by rfl, by intro w'; go_simp; with_reducible rfl⟩) (by simp only [sP]; rfl) ?_
             refine pu HT_ 28 48 q15_38 rfl rfl (by kernel_rfl) (fun _ _ _ => id) (.inl ⟨by rfl, by intro w'; go_simp; with_reducible rfl⟩) (by simp only [sP]; rfl) ?_
             refine pu HT_ 29 49 q15_39 rfl rfl (by kernel_rfl) (fun _ _ _ => id) (.inl ⟨by rfl, by intro w'; go_simp; with_reducible rfl⟩) (by simp only [sP]; rfl) ?_
             refine pu HT_ 30 50 q15_40 rfl rfl (by kernel_rfl) (fun _ _ _ => id) (.inl ⟨by rfl, by intro w'; go_simp; with_reducible rfl⟩) (by simp only [sP]; rfl) ?_
             refine tk HT_ HW_ 26 46 q15_23 rfl rfl (by kernel_rfl) (fun _ _ _ => id) (.inl ⟨by rfl, by rintro w' ⟨s0, s1, s2, s3, s4, s5, s6, s7, s8, s9, s10, s11, s12, s13, s14, s15, s16, s17, s18, s19, s20, s21, s22, s23⟩; go_simp; with_reducible rfl⟩) hHeld (by simp only [sP]; rfl) ?_
             refine tk HT_ HW_ 31 51 q15_24 rfl rfl (by kernel_rfl) (fun _ _ _ => id) (.inl ⟨by rfl, by rintro w' ⟨s0, s1, s2, s3, s4, s5, s6, s7, s8, s9, s10, s11, s12, s13, s14, s15, s16, s17, s18, s19, s20, s21, s22, s23⟩; go_simp; with_reducible rfl⟩) hHeld (by simp only [sP]; rfl) ?_
             refine one_ (i := 32) (N := some 52) q15_25 rfl rfl (one_of HT_.out (by kernel_rfl)) (by decide) (fun K hK => ?_)
             refine goes_ Tryd.func34 (by kernel_rfl) rfl #[.agg #[.int .i64 ((rd_T53 l1 (ji19)).f0.f0), .int .i64 ((rd_T53 l1 (ji19)).f0.f1), .int .i64 ((rd_T53 l1 (ji19)).f0.f2)], .agg #[.int .i64 ((rd_T53 l1 x5_2).f0.f0), .int .i64 ((rd_T53 l1 x5_2).f0.f1), .int .i64 ((rd_T53 l1 x5_2).f0.f2)]] (by rfl) rfl rfl (by (try simp only [List.map_toArray, List.map_cons, List.map_nil]); first | done | (simp only [hji19]; rfl) | rfl | (simp only [List.length_drop, List.length_take]; rfl)) ?_
             with_reducible refine (clusterlocksref02_CompareProc.calls ((rd_T53 l1 (ji19)).f0.f0) ((rd_T53 l1 (ji19)).f0.f1) ((rd_T53 l1 (ji19)).f0.f2) ((rd_T53 l1 x5_2).f0.f0) ((rd_T53 l1 x5_2).f0.f1) ((rd_T53 l1 x5_2).f0.f2) t302 _ A22.out).mono ?_
             rintro e w27 ⟨rfl, hb⟩
             refine ⟨_, rfl, ?_⟩
             replace BK290 := bK BK290 hb
             replace HB := bB HB hb
             (try clear hb)
             refine hK.out _ _ ⟨bC BK290 0 rfl, bC BK290 1 rfl, bC BK290 2 rfl, bC BK290 3 rfl, (kC HB hw296_0), (kC HB hw296_1), (kC HB hw296_2), (kC HB hw296_3), (kC HB hw296_4), (kC HB hw298_0), (kC HB hw298_1), (kC HB hw298_2), (kC HB hw298_3), (kC HB hw298_4), (kC HB hw300_0), (kC HB hw300_1), (kC HB hw300_2), (kC HB hw300_3), (kC HB hw300_4), (kC HB hw301_0), (kC HB hw301_1), (kC HB hw301_2), (kC HB hw301_3), (kC HB hw301_4)⟩ (fun hHeld => ?_)
             clear hK K
             refine norm_ (a' := ?_) ?_ ?_
             rotate_left
             ·show Act.put _ (some 52) _ = _
              simp only [sP]
              rfl
             refine pu HT_ 33 53 q15_26 rfl rfl (by kernel_rfl) (fun _ _ _ => id) (.inl ⟨by rfl, by intro w'; go_simp; with_reducible rfl⟩) (by simp only [sP]; rfl) ?_
             refine pu HT_ 34 54 q15_27 rfl rfl (by kernel_rfl) (fun _ _ _ => id) (.inl ⟨by rfl, by intro w'; go_simp; with_reducible rfl⟩) (by simp only [sP]; rfl) ?_
             refine pu HT_ 35 55 q15_28 rfl rfl (by kernel_rfl) (fun _ _ _ => id) (.inl ⟨by rfl, by intro w'; go_simp; with_reducible rfl⟩) (by simp only [sP]; rfl) ?_
             refine done_ (done_of HT_.out (by kernel_rfl)) ?_
             have H := HH_.out
             clear HH_
             by_cases c23 : t302 ≥ 0
             ·rw [if_pos c23] at H
              have c23b0 : decide (0 ≤ t302) = true := decide_eq_true c23
              clear c23
              obtain rfl := Option.some.inj H
              (try simp only [c23b0])
              try go_wp2
              go_ret
              exact ⟨by first | rfl | (simp [errW_none, errW_some] <;> rfl) | (simp only [← hji19]; first | rfl | (simp [errW_none, errW_some] <;> rfl)) | (simp [*, errW_none, errW_some] <;> rfl), by repeat (first | (with_reducible first | exact HB.out | apply bL | apply bM | apply bR) | exact HB.out)⟩
             ·rw [if_neg c23] at H
              have c23b0 : decide (0 ≤ t302) = false := decide_eq_false c23
              clear c23
              have H' := Aside0.mk H
              clear H
              (try simp only [c23b0])
              try go_wp2
              go_roundg k2
              case measure => have := HJ2.out; have := HK2.out; omega
              case rel => exact ⟨(wrap64 (x5_2 + 1)), (by first | rfl | (simp; done) | (simp [*]; done)), H', ⟨by have := HJ2.out; have := HK2.out; omega⟩, ⟨by (with_reducible repeat first | refine bN ?_ _ | refine bD ?_ | refine bA ?_ _); exact BK290.out⟩, ⟨by repeat (first | (with_reducible first | exact HB.out | apply bL | apply bM | apply bR) | exact HB.out)⟩⟩
            ·rw [if_neg c21] at H
             exact absurd H (by simp)
           ·rw [if_neg c20] at H
            exact absurd H (by simp)
          ·rw [if_neg c18] at H
           have c18b0 : decide (0 < x5_2) = false := decide_eq_false c18
           clear c18
           have H' := Aside0.mk H
           clear H
           try go_wp2
           replace BK290 := Aside0.mk (blk_drew BK290.out)
           replace HB := Aside0.mk (below_drew1 HB.out)
           have p296 : 0 ≤ (x5_2 : Int) := of_decide_eq_true (by first | (with_reducible assumption) | assumption)
           have q296 : x5_2 < (l1.length : Int) := of_decide_eq_true (by first | (with_reducible assumption) | assumption)
           obtain ⟨ad296, e296, hx296_0, hx296_1, hx296_2, hx296_3, hx296_4⟩ := at_T53 HR1.out x5_2 p296 q296
           have hw296_4 := hx296_4
           have hw296_3 := hx296_3
           have hw296_2 := hx296_2
           have hw296_1 := hx296_1
           have hw296_0 := hx296_0
           cases e296
           replace hx296_0 := kC HB hx296_0
           replace hx296_1 := kC HB hx296_1
           replace hx296_2 := kC HB hx296_2
           replace hx296_3 := kC HB hx296_3
           replace hx296_4 := kC HB hx296_4
           replace p296 := eq_true p296
           replace q296 := eq_true q296
           have p298 : 0 ≤ (x5_2 : Int) := of_decide_eq_true (by first | (with_reducible assumption) | assumption)
           have q298 : x5_2 < (l1.length : Int) := of_decide_eq_true (by first | (with_reducible assumption) | assumption)
           obtain ⟨ad298, e298, hx298_0, hx298_1, hx298_2, hx298_3, hx298_4⟩ := at_T53 HR1.out x5_2 p298 q298
           have hw298_4 := hx298_4
           have hw298_3 := hx298_3
           have hw298_2 := hx298_2
           have hw298_1 := hx298_1
           have hw298_0 := hx298_0
           obtain rfl : ad296 = ad298 := (by injection e298)
           replace hx298_0 := kC HB hx298_0
           replace hx298_1 := kC HB hx298_1
           replace hx298_2 := kC HB hx298_2
           replace hx298_3 := kC HB hx298_3
           replace hx298_4 := kC HB hx298_4
           replace p298 := eq_true p298
           replace q298 := eq_true q298
           refine start_ (n := 36) (S := fun w' => w'.cell? ⟨gb290, 0, none⟩ = some (.string a0_0) ∧ w'.cell? ⟨gb290, 1, none⟩ = some (.int .i64 a0_1) ∧ w'.cell? ⟨gb290, 2, none⟩ = some (.int .i64 a0_2) ∧ w'.cell? ⟨gb290, 3, none⟩ = some (.int .i64 a0_3) ∧ w'.cell? (ad296.add ((x5_2).toNat * 5)) = some (.int .i64 ((rd_T53 l1 x5_2).f0.f0)) ∧ w'.cell? ⟨(ad296.add ((x5_2).toNat * 5)).block, (ad296.add ((x5_2).toNat * 5)).off + 1, none⟩ = some (.int .i64 ((rd_T53 l1 x5_2).f0.f1)) ∧ w'.cell? ⟨(ad296.add ((x5_2).toNat * 5)).block, (ad296.add ((x5_2).toNat * 5)).off + 2, none⟩ = some (.int .i64 ((rd_T53 l1 x5_2).f0.f2)) ∧ w'.cell? ⟨(ad296.add ((x5_2).toNat * 5)).block, (ad296.add ((x5_2).toNat * 5)).off + 3, none⟩ = some (.int .i64 ((rd_T53 l1 x5_2).f1.f0)) ∧ w'.cell? ⟨(ad296.add ((x5_2).toNat * 5)).block, (ad296.add ((x5_2).toNat * 5)).off + 4, none⟩ = some (.int .i64 ((rd_T53 l1 x5_2).f1.f1)) ∧ w'.cell? (ad296.add ((x5_2).toNat * 5)) = some (.int .i64 ((rd_T53 l1 x5_2).f0.f0)) ∧ w'.cell? ⟨(ad296.add ((x5_2).toNat * 5)).block, (ad296.add ((x5_2).toNat * 5)).off + 1, none⟩ = some (.int .i64 ((rd_T53 l1 x5_2).f0.f1)) ∧ w'.cell? ⟨(ad296.add ((x5_2).toNat * 5)).block, (ad296.add ((x5_2).toNat * 5)).off + 2, none⟩ = some (.int .i64 ((rd_T53 l1 x5_2).f0.f2)) ∧ w'.cell? ⟨(ad296.add ((x5_2).toNat * 5)).block, (ad296.add ((x5_2).toNat * 5)).off + 3, none⟩ = some (.int .i64 ((rd_T53 l1 x5_2).f1.f0)) ∧ w'.cell? ⟨(ad296.add ((x5_2).toNat * 5)).block, (ad296.add ((x5_2).toNat * 5)).off + 4, none⟩ = some (.int .i64 ((rd_T53 l1 x5_2).f1.f1))) (ds := []) q15_0 (by kernel_rfl) rfl rfl ⟨bC BK290 0 rfl, bC BK290 1 rfl, bC BK290 2 rfl, bC BK290 3 rfl, (kC HB hw296_0), (kC HB hw296_1), (kC HB hw296_2), (kC HB hw296_3), (kC HB hw296_4), (kC HB hw298_0), (kC HB hw298_1), (kC HB hw298_2), (kC HB hw298_3), (kC HB hw298_4)⟩ (fun hHeld => ?_); refine with_tabW clusterlocksref10_Valid.tab6 clusterlocksref10_Valid.bits6 (fun HT_ HW_ => ?_)
           generalize wr.drew = w32 at BK290 HB hx296_0 hx296_1 hx296_2 hx296_3 hx296_4 hx298_0 hx298_1 hx298_2 hx298_3 hx298_4 hHeld ⊢
           refine pu HT_ 0 20 q15_1 rfl rfl (by kernel_rfl) (fun _ _ _ => id) (.inl ⟨by rfl, by intro w'; go_simp; with_reducible rfl⟩) (by simp only [sP]; rfl) ?_
           refine pu HT_ 1 21 q15_2 rfl rfl (by kernel_rfl) (fun _ _ _ => id) (.inl ⟨by rfl, by intro w'; go_simp; with_reducible rfl⟩) (by simp only [sP]; rfl) ?_
           refine pu HT_ 2 22 q15_3 rfl rfl (by kernel_rfl) (fun _ _ _ => id) (.inl ⟨by rfl, by intro w'; go_simp; with_reducible rfl⟩) (by simp only [sP]; rfl) ?_
           refine pu HT_ 3 23 q15_4 rfl rfl (by kernel_rfl) (fun _ _ _ => id) (.inl ⟨by rfl, by intro w'; go_simp; with_reducible rfl⟩) (by simp only [sP]; rfl) ?_
           refine tk HT_ HW_ 4 24 q15_5 rfl rfl (by kernel_rfl) (fun _ _ _ => id) (.inl ⟨by rfl, by rintro w' ⟨s0, s1, s2, s3, s4, s5, s6, s7, s8, s9, s10, s11, s12, s13⟩; go_simp; with_reducible rfl⟩) hHeld (by simp only [sP]; rfl) ?_
           refine one_ (i := 5) (N := some 25) q15_6 rfl rfl (one_of HT_.out (by kernel_rfl)) (by decide) (fun K hK => ?_)
           refine goes_ Tryd.func36 (by kernel_rfl) rfl #[.agg #[.int .i64 ((rd_T53 l1 x5_2).f0.f0), .int .i64 ((rd_T53 l1 x5_2).f0.f1), .int .i64 ((rd_T53 l1 x5_2).f0.f2)]] (by rfl) rfl rfl (by (try simp only [mA]); first | done | rfl) ?_
           with_reducible refine (clusterlocksref02_ValidProc.calls ((rd_T53 l1 x5_2).f0.f0) ((rd_T53 l1 x5_2).f0.f1) ((rd_T53 l1 x5_2).f0.f2) true _ A14.out).mono ?_
           rintro e w33 ⟨rfl, hb⟩
           refine ⟨_, rfl, ?_⟩
           replace BK290 := bK BK290 hb
           replace HB := bB HB hb
           (try clear hb)
           refine hK.out _ _ ⟨bC BK290 0 rfl, bC BK290 1 rfl, bC BK290 2 rfl, bC BK290 3 rfl, (kC HB hw296_0), (kC HB hw296_1), (kC HB hw296_2), (kC HB hw296_3), (kC HB hw296_4), (kC HB hw298_0), (kC HB hw298_1), (kC HB hw298_2), (kC HB hw298_3), (kC HB hw298_4)⟩ (fun hHeld => ?_)
           clear hK K
           refine norm_ (a' := ?_) ?_ ?_
           rotate_left
           ·show Act.put _ (some 25) _ = _
            simp only [sP]
            rfl
           refine pu HT_ 6 26 q15_7 rfl rfl (by kernel_rfl) (fun _ _ _ => id) (.inl ⟨by rfl, by intro w'; go_simp; with_reducible rfl⟩) (by simp only [sP]; rfl) ?_
           refine pu HT_ 7 27 q15_8 rfl rfl (by kernel_rfl) (fun _ _ _ => id) (.inl ⟨by rfl, by intro w'; go_simp; with_reducible rfl⟩) (by simp only [sP]; rfl) ?_
           refine pu HT_ 9 29 q15_29 rfl rfl (by kernel_rfl) (fun _ _ _ => id) (.inl ⟨by rfl, by intro w'; go_simp; with_reducible rfl⟩) (by simp only [sP]; rfl) ?_
           refine pu HT_ 10 30 q15_30 rfl rfl (by kernel_rfl) (fun _ _ _ => id) (.inl ⟨by rfl, by intro w'; go_simp; with_reducible rfl⟩) (by simp only [sP]; rfl) ?_
           refine pu HT_ 11 31 q15_31 rfl rfl (by kernel_rfl) (fun _ _ _ => id) (.inl ⟨by rfl, by intro w'; go_simp; with_reducible rfl⟩) (by simp only [sP]; rfl) ?_
           refine pu HT_ 12 32 q15_32 rfl rfl (by kernel_rfl) (fun _ _ _ => id) (.inl ⟨by rfl, by intro w'; go_simp; with_reducible rfl⟩) (by simp only [sP]; rfl) ?_
           refine tk HT_ HW_ 8 28 q15_9 rfl rfl (by kernel_rfl) (fun _ _ _ => id) (.inl ⟨by rfl, by rintro w' ⟨s0, s1, s2, s3, s4, s5, s6, s7, s8, s9, s10, s11, s12, s13⟩; go_simp; with_reducible rfl⟩) hHeld (by simp only [sP]; rfl) ?_
           refine tk HT_ HW_ 13 33 q15_10 rfl rfl (by kernel_rfl) (fun _ _ _ => id) (.inl ⟨by rfl, by rintro w' ⟨s0, s1, s2, s3, s4, s5, s6, s7, s8, s9, s10, s11, s12, s13⟩; go_simp; with_reducible rfl⟩) hHeld (by simp only [sP]; rfl) ?_
           refine one_ (i := 14) (N := some 34) q15_11 rfl rfl (one_of HT_.out (by kernel_rfl)) (by decide) (fun K hK => ?_)
           refine goes_ Tryd.func37 (by kernel_rfl) rfl #[.agg #[.string a0_0, .int .i64 a0_1, .int .i64 a0_2, .int .i64 a0_3], .agg #[.int .i64 ((rd_T53 l1 x5_2).f1.f0), .int .i64 ((rd_T53 l1 x5_2).f1.f1)]] (by rfl) rfl rfl (by (try simp only [mA]); first | done | rfl) ?_
           with_reducible refine (clusterlocksref04_Fits.calls a0_0 a0_1 a0_2 a0_3 ((rd_T53 l1 x5_2).f1.f0) ((rd_T53 l1 x5_2).f1.f1) true _ A16.out).mono ?_
           rintro e w34 ⟨rfl, hb⟩
           refine ⟨_, rfl, ?_⟩
           replace BK290 := bK BK290 hb
           replace HB := bB HB hb
           (try clear hb)
           refine hK.out _ _ ⟨bC BK290 0 rfl, bC BK290 1 rfl, bC BK290 2 rfl, bC BK290 3 rfl, (kC HB hw296_0), (kC HB hw296_1), (kC HB hw296_2), (kC HB hw296_3), (kC HB hw296_4), (kC HB hw298_0), (kC HB hw298_1), (kC HB hw298_2), (kC HB hw298_3), (kC HB hw298_4)⟩ (fun hHeld => ?_)
           clear hK K
           refine norm_ (a' := ?_) ?_ ?_
           rotate_left
           ·show Act.put _ (some 34) _ = _
            simp only [sP]
            rfl
           refine pu HT_ 15 35 q15_12 rfl rfl (by kernel_rfl) (fun _ _ _ => id) (.inl ⟨by rfl, by intro w'; go_simp; with_reducible rfl⟩) (by simp only [sP]; rfl) ?_
           refine pu HT_ 16 36 q15_13 rfl rfl (by kernel_rfl) (fun _ _ _ => id) (.inl ⟨by rfl, by intro w'; go_simp; with_reducible rfl⟩) (by simp only [sP]; rfl) ?_
           refine pu HT_ 17 37 q15_14 rfl rfl (by kernel_rfl) (fun _ _ _ => id) (.inl ⟨by rfl, by intro w'; go_simp; with_reducible rfl⟩) (by simp only [sP]; rfl) ?_
           refine pu HT_ 18 38 q15_15 rfl rfl (by kernel_rfl) (fun _ _ _ => id) (.inl ⟨by rfl, by intro w'; go_simp; with_reducible rfl⟩) (by simp only [sP]; rfl) ?_
           refine pu HT_ 19 39 q15_16 rfl rfl (by kernel_rfl) (fun _ _ _ => id) (.inl ⟨by rfl, by intro w'; go_simp; with_reducible rfl⟩) (by simp only [sP]; rfl) ?_
           refine pu HT_ 20 40 q15_17 rfl rfl (by kernel_rfl) (fun _ _ _ => id) (.inl ⟨by rfl, by intro w'; go_simp; with_reducible rfl⟩) (by simp only [sP]; rfl) ?_
           refine pu HT_ 21 41 q15_18 rfl rfl (by kernel_rfl) (fun _ _ _ => id) (.inr ⟨by rfl, rfl⟩) (by simp only [sP]; rfl) ?_
           refine pu HT_ 22 42 q15_19 rfl rfl (by kernel_rfl) (fun _ _ _ => id) (.inr ⟨by rfl, rfl⟩) (by simp only [sP]; rfl) ?_
           refine pu HT_ 23 43 q15_20 rfl rfl (by kernel_rfl) (fun _ _ _ => id) (.inr ⟨by rfl, rfl⟩) (by simp only [sP]; rfl) ?_
           refine pu HT_ 24 44 q15_21 rfl rfl (by kernel_rfl) (fun _ _ _ => id) (.inr ⟨by rfl, rfl⟩) (by simp only [sP]; rfl) ?_
           refine pu HT_ 25 45 q15_22 rfl rfl (by kernel_rfl) (fun _ _ _ => id) (.inr ⟨by rfl, rfl⟩) (by simp only [sP]; rfl) ?_
           refine pu HT_ 26 46 q15_33 rfl rfl (by kernel_rfl) (fun _ _ _ => id) (.inr ⟨by rfl, rfl⟩) (by simp only [sP]; rfl) ?_
           refine pu HT_ 27 47 q15_34 rfl rfl (by kernel_rfl) (fun _ _ _ => id) (.inr ⟨by rfl, rfl⟩) (by simp only [sP]; rfl) ?_
           refine pu HT_ 28 48 q15_35 rfl rfl (by kernel_rfl) (fun _ _ _ => id) (.inr ⟨by rfl, rfl⟩) (by simp only [sP]; rfl) ?_
           refine pu HT_ 29 49 q15_36 rfl rfl (by kernel_rfl) (fun _ _ _ => id) (.inr ⟨by rfl, rfl⟩) (by simp only [sP]; rfl) ?_
           refine pu HT_ 30 50 q15_23 rfl rfl (by kernel_rfl) (fun _ _ _ => id) (.inr ⟨by rfl, rfl⟩) (by simp only [sP]; rfl) ?_
           refine pu HT_ 31 51 q15_24 rfl rfl (by kernel_rfl) (fun _ _ _ => id) (.inr ⟨by rfl, rfl⟩) (by simp only [sP]; rfl) ?_
           refine pu HT_ 32 52 q15_25 rfl rfl (by kernel_rfl) (fun _ _ _ => id) (.inr ⟨by rfl, rfl⟩) (by simp only [sP]; rfl) ?_
           refine pu HT_ 33 53 q15_26 rfl rfl (by kernel_rfl) (fun _ _ _ => id) (.inr ⟨by rfl, rfl⟩) (by simp only [sP]; rfl) ?_
           refine pu HT_ 34 54 q15_27 rfl rfl (by kernel_rfl) (fun _ _ _ => id) (.inl ⟨by rfl, by intro w'; go_simp; with_reducible rfl⟩) (by simp only [sP]; rfl) ?_
           refine pu HT_ 35 55 q15_28 rfl rfl (by kernel_rfl) (fun _ _ _ => id) (.inl ⟨by rfl, by intro w'; go_simp; with_reducible rfl⟩) (by simp only [sP]; rfl) ?_
           refine done_ (done_of HT_.out (by kernel_rfl)) ?_
           try go_wp2
           go_roundg k2
           case measure => have := HJ2.out; have := HK2.out; omega
           case rel => exact ⟨(wrap64 (x5_2 + 1)), (by first | rfl | (simp; done) | (simp [*]; done)), H', ⟨by have := HJ2.out; have := HK2.out; omega⟩, ⟨by (with_reducible repeat first | refine bN ?_ _ | refine bD ?_ | refine bA ?_ _); exact BK290.out⟩, ⟨by repeat (first | (with_reducible first | exact HB.out | apply bL | apply bM | apply bR) | exact HB.out)⟩⟩
         ·replace c17 := Bool.eq_false_iff.mpr c17
          subst c17
          rw [if_neg (show ¬ (false = true) by decide)] at H
          obtain rfl := Option.some.inj H
          try go_wp2
          replace BK290 := Aside0.mk (blk_drew BK290.out)
          replace HB := Aside0.mk (below_drew1 HB.out)
          have p296 : 0 ≤ (x5_2 : Int) := of_decide_eq_true (by first | (with_reducible assumption) | assumption)
          have q296 : x5_2 < (l1.length : Int) := of_decide_eq_true (by first | (with_reducible assumption) | assumption)
          obtain ⟨ad296, e296, hx296_0, hx296_1, hx296_2, hx296_3, hx296_4⟩ := at_T53 HR1.out x5_2 p296 q296
          have hw296_4 := hx296_4
          have hw296_3 := hx296_3
          have hw296_2 := hx296_2
          have hw296_1 := hx296_1
          have hw296_0 := hx296_0
          cases e296
          replace hx296_0 := kC HB hx296_0
          replace hx296_1 := kC HB hx296_1
          replace hx296_2 := kC HB hx296_2
          replace hx296_3 := kC HB hx296_3
          replace hx296_4 := kC HB hx296_4
          replace p296 := eq_true p296
          replace q296 := eq_true q296
          have p298 : 0 ≤ (x5_2 : Int) := of_decide_eq_true (by first | (with_reducible assumption) | assumption)
          have q298 : x5_2 < (l1.length : Int) := of_decide_eq_true (by first | (with_reducible assumption) | assumption)
          obtain ⟨ad298, e298, hx298_0, hx298_1, hx298_2, hx298_3, hx298_4⟩ := at_T53 HR1.out x5_2 p298 q298
          have hw298_4 := hx298_4
          have hw298_3 := hx298_3
          have hw298_2 := hx298_2
          have hw298_1 := hx298_1
          have hw298_0 := hx298_0
          obtain rfl : ad296 = ad298 := (by injection e298)
          replace hx298_0 := kC HB hx298_0
          replace hx298_1 := kC HB hx298_1
          replace hx298_2 := kC HB hx298_2
          replace hx298_3 := kC HB hx298_3
          replace hx298_4 := kC HB hx298_4
          replace p298 := eq_true p298
          replace q298 := eq_true q298
          refine start_ (n := 36) (S := fun w' => w'.cell? ⟨gb290, 0, none⟩ = some (.string a0_0) ∧ w'.cell? ⟨gb290, 1, none⟩ = some (.int .i64 a0_1) ∧ w'.cell? ⟨gb290, 2, none⟩ = some (.int .i64 a0_2) ∧ w'.cell? ⟨gb290, 3, none⟩ = some (.int .i64 a0_3) ∧ w'.cell? (ad296.add ((x5_2).toNat * 5)) = some (.int .i64 ((rd_T53 l1 x5_2).f0.f0)) ∧ w'.cell? ⟨(ad296.add ((x5_2).toNat * 5)).block, (ad296.add ((x5_2).toNat * 5)).off + 1, none⟩ = some (.int .i64 ((rd_T53 l1 x5_2).f0.f1)) ∧ w'.cell? ⟨(ad296.add ((x5_2).toNat * 5)).block, (ad296.add ((x5_2).toNat * 5)).off + 2, none⟩ = some (.int .i64 ((rd_T53 l1 x5_2).f0.f2)) ∧ w'.cell? ⟨(ad296.add ((x5_2).toNat * 5)).block, (ad296.add ((x5_2).toNat * 5)).off + 3, none⟩ = some (.int .i64 ((rd_T53 l1 x5_2).f1.f0)) ∧ w'.cell? ⟨(ad296.add ((x5_2).toNat * 5)).block, (ad296.add ((x5_2).toNat * 5)).off + 4, none⟩ = some (.int .i64 ((rd_T53 l1 x5_2).f1.f1)) ∧ w'.cell? (ad296.add ((x5_2).toNat * 5)) = some (.int .i64 ((rd_T53 l1 x5_2).f0.f0)) ∧ w'.cell? ⟨(ad296.add ((x5_2).toNat * 5)).block, (ad296.add ((x5_2).toNat * 5)).off + 1, none⟩ = some (.int .i64 ((rd_T53 l1 x5_2).f0.f1)) ∧ w'.cell? ⟨(ad296.add ((x5_2).toNat * 5)).block, (ad296.add ((x5_2).toNat * 5)).off + 2, none⟩ = some (.int .i64 ((rd_T53 l1 x5_2).f0.f2)) ∧ w'.cell? ⟨(ad296.add ((x5_2).toNat * 5)).block, (ad296.add ((x5_2).toNat * 5)).off + 3, none⟩ = some (.int .i64 ((rd_T53 l1 x5_2).f1.f0)) ∧ w'.cell? ⟨(ad296.add ((x5_2).toNat * 5)).block, (ad296.add ((x5_2).toNat * 5)).off + 4, none⟩ = some (.int .i64 ((rd_T53 l1 x5_2).f1.f1))) (ds := []) q15_0 (by kernel_rfl) rfl rfl ⟨bC BK290 0 rfl, bC BK290 1 rfl, bC BK290 2 rfl, bC BK290 3 rfl, (kC HB hw296_0), (kC HB hw296_1), (kC HB hw296_2), (kC HB hw296_3), (kC HB hw296_4), (kC HB hw298_0), (kC HB hw298_1), (kC HB hw298_2), (kC HB hw298_3), (kC HB hw298_4)⟩ (fun hHeld => ?_); refine with_tabW clusterlocksref10_Valid.tab6 clusterlocksref10_Valid.bits6 (fun HT_ HW_ => ?_)
          generalize wr.drew = w35 at BK290 HB hx296_0 hx296_1 hx296_2 hx296_3 hx296_4 hx298_0 hx298_1 hx298_2 hx298_3 hx298_4 hHeld ⊢
          refine pu HT_ 0 20 q15_1 rfl rfl (by kernel_rfl) (fun _ _ _ => id) (.inl ⟨by rfl, by intro w'; go_simp; with_reducible rfl⟩) (by simp only [sP]; rfl) ?_
          refine pu HT_ 1 21 q15_2 rfl rfl (by kernel_rfl) (fun _ _ _ => id) (.inl ⟨by rfl, by intro w'; go_simp; with_reducible rfl⟩) (by simp only [sP]; rfl) ?_
          refine pu HT_ 2 22 q15_3 rfl rfl (by kernel_rfl) (fun _ _ _ => id) (.inl ⟨by rfl, by intro w'; go_simp; with_reducible rfl⟩) (by simp only [sP]; rfl) ?_
          refine pu HT_ 3 23 q15_4 rfl rfl (by kernel_rfl) (fun _ _ _ => id) (.inl ⟨by rfl, by intro w'; go_simp; with_reducible rfl⟩) (by simp only [sP]; rfl) ?_
          refine tk HT_ HW_ 4 24 q15_5 rfl rfl (by kernel_rfl) (fun _ _ _ => id) (.inl ⟨by rfl, by rintro w' ⟨s0, s1, s2, s3, s4, s5, s6, s7, s8, s9, s10, s11, s12, s13⟩; go_simp; with_reducible rfl⟩) hHeld (by simp only [sP]; rfl) ?_
          refine one_ (i := 5) (N := some 25) q15_6 rfl rfl (one_of HT_.out (by kernel_rfl)) (by decide) (fun K hK => ?_)
          refine goes_ Tryd.func36 (by kernel_rfl) rfl #[.agg #[.int .i64 ((rd_T53 l1 x5_2).f0.f0), .int .i64 ((rd_T53 l1 x5_2).f0.f1), .int .i64 ((rd_T53 l1 x5_2).f0.f2)]] (by rfl) rfl rfl (by (try simp only [mA]); first | done | rfl) ?_
          with_reducible refine (clusterlocksref02_ValidProc.calls ((rd_T53 l1 x5_2).f0.f0) ((rd_T53 l1 x5_2).f0.f1) ((rd_T53 l1 x5_2).f0.f2) true _ A14.out).mono ?_
          rintro e w36 ⟨rfl, hb⟩
          refine ⟨_, rfl, ?_⟩
          replace BK290 := bK BK290 hb
          replace HB := bB HB hb
          (try clear hb)
          refine hK.out _ _ ⟨bC BK290 0 rfl, bC BK290 1 rfl, bC BK290 2 rfl, bC BK290 3 rfl, (kC HB hw296_0), (kC HB hw296_1), (kC HB hw296_2), (kC HB hw296_3), (kC HB hw296_4), (kC HB hw298_0), (kC HB hw298_1), (kC HB hw298_2), (kC HB hw298_3), (kC HB hw298_4)⟩ (fun hHeld => ?_)
          clear hK K
          refine norm_ (a' := ?_) ?_ ?_
          rotate_left
          ·show Act.put _ (some 25) _ = _
           simp only [sP]
           rfl
          refine pu HT_ 6 26 q15_7 rfl rfl (by kernel_rfl) (fun _ _ _ => id) (.inl ⟨by rfl, by intro w'; go_simp; with_reducible rfl⟩) (by simp only [sP]; rfl) ?_
          refine pu HT_ 7 27 q15_8 rfl rfl (by kernel_rfl) (fun _ _ _ => id) (.inl ⟨by rfl, by intro w'; go_simp; with_reducible rfl⟩) (by simp only [sP]; rfl) ?_
          refine pu HT_ 9 29 q15_29 rfl rfl (by kernel_rfl) (fun _ _ _ => id) (.inl ⟨by rfl, by intro w'; go_simp; with_reducible rfl⟩) (by simp only [sP]; rfl) ?_
          refine pu HT_ 10 30 q15_30 rfl rfl (by kernel_rfl) (fun _ _ _ => id) (.inl ⟨by rfl, by intro w'; go_simp; with_reducible rfl⟩) (by simp only [sP]; rfl) ?_
          refine pu HT_ 11 31 q15_31 rfl rfl (by kernel_rfl) (fun _ _ _ => id) (.inl ⟨by rfl, by intro w'; go_simp; with_reducible rfl⟩) (by simp only [sP]; rfl) ?_
          refine pu HT_ 12 32 q15_32 rfl rfl (by kernel_rfl) (fun _ _ _ => id) (.inl ⟨by rfl, by intro w'; go_simp; with_reducible rfl⟩) (by simp only [sP]; rfl) ?_
          refine tk HT_ HW_ 8 28 q15_9 rfl rfl (by kernel_rfl) (fun _ _ _ => id) (.inl ⟨by rfl, by rintro w' ⟨s0, s1, s2, s3, s4, s5, s6, s7, s8, s9, s10, s11, s12, s13⟩; go_simp; with_reducible rfl⟩) hHeld (by simp only [sP]; rfl) ?_
          refine tk HT_ HW_ 13 33 q15_10 rfl rfl (by kernel_rfl) (fun _ _ _ => id) (.inl ⟨by rfl, by rintro w' ⟨s0, s1, s2, s3, s4, s5, s6, s7, s8, s9, s10, s11, s12, s13⟩; go_simp; with_reducible rfl⟩) hHeld (by simp only [sP]; rfl) ?_
          refine one_ (i := 14) (N := some 34) q15_11 rfl rfl (one_of HT_.out (by kernel_rfl)) (by decide) (fun K hK => ?_)
          refine goes_ Tryd.func37 (by kernel_rfl) rfl #[.agg #[.string a0_0, .int .i64 a0_1, .int .i64 a0_2, .int .i64 a0_3], .agg #[.int .i64 ((rd_T53 l1 x5_2).f1.f0), .int .i64 ((rd_T53 l1 x5_2).f1.f1)]] (by rfl) rfl rfl (by (try simp only [mA]); first | done | rfl) ?_
          with_reducible refine (clusterlocksref04_Fits.calls a0_0 a0_1 a0_2 a0_3 ((rd_T53 l1 x5_2).f1.f0) ((rd_T53 l1 x5_2).f1.f1) false _ A16.out).mono ?_
          rintro e w37 ⟨rfl, hb⟩
          refine ⟨_, rfl, ?_⟩
          replace BK290 := bK BK290 hb
          replace HB := bB HB hb
          (try clear hb)
          refine hK.out _ _ ⟨bC BK290 0 rfl, bC BK290 1 rfl, bC BK290 2 rfl, bC BK290 3 rfl, (kC HB hw296_0), (kC HB hw296_1), (kC HB hw296_2), (kC HB hw296_3), (kC HB hw296_4), (kC HB hw298_0), (kC HB hw298_1), (kC HB hw298_2), (kC HB hw298_3), (kC HB hw298_4)⟩ (fun hHeld => ?_)
          clear hK K
          refine norm_ (a' := ?_) ?_ ?_
          rotate_left
          ·show Act.put _ (some 34) _ = _
           simp only [sP]
           rfl
          refine pu HT_ 15 35 q15_12 rfl rfl (by kernel_rfl) (fun _ _ _ => id) (.inl ⟨by rfl, by intro w'; go_simp; with_reducible rfl⟩) (by simp only [sP]; rfl) ?_
          refine pu HT_ 16 36 q15_13 rfl rfl (by kernel_rfl) (fun _ _ _ => id) (.inl ⟨by rfl, by intro w'; go_simp; with_reducible rfl⟩) (by simp only [sP]; rfl) ?_
          refine pu HT_ 17 37 q15_14 rfl rfl (by kernel_rfl) (fun _ _ _ => id) (.inl ⟨by rfl, by intro w'; go_simp; with_reducible rfl⟩) (by simp only [sP]; rfl) ?_
          refine pu HT_ 18 38 q15_15 rfl rfl (by kernel_rfl) (fun _ _ _ => id) (.inr ⟨by rfl, rfl⟩) (by simp only [sP]; rfl) ?_
          refine pu HT_ 19 39 q15_16 rfl rfl (by kernel_rfl) (fun _ _ _ => id) (.inr ⟨by rfl, rfl⟩) (by simp only [sP]; rfl) ?_
          refine pu HT_ 20 40 q15_17 rfl rfl (by kernel_rfl) (fun _ _ _ => id) (.inr ⟨by rfl, rfl⟩) (by simp only [sP]; rfl) ?_
          refine pu HT_ 21 41 q15_18 rfl rfl (by kernel_rfl) (fun _ _ _ => id) (.inr ⟨by rfl, rfl⟩) (by simp only [sP]; rfl) ?_
          refine pu HT_ 22 42 q15_19 rfl rfl (by kernel_rfl) (fun _ _ _ => id) (.inr ⟨by rfl, rfl⟩) (by simp only [sP]; rfl) ?_
          refine pu HT_ 23 43 q15_20 rfl rfl (by kernel_rfl) (fun _ _ _ => id) (.inr ⟨by rfl, rfl⟩) (by simp only [sP]; rfl) ?_
          refine pu HT_ 24 44 q15_21 rfl rfl (by kernel_rfl) (fun _ _ _ => id) (.inr ⟨by rfl, rfl⟩) (by simp only [sP]; rfl) ?_
          refine pu HT_ 25 45 q15_22 rfl rfl (by kernel_rfl) (fun _ _ _ => id) (.inr ⟨by rfl, rfl⟩) (by simp only [sP]; rfl) ?_
          refine pu HT_ 26 46 q15_33 rfl rfl (by kernel_rfl) (fun _ _ _ => id) (.inr ⟨by rfl, rfl⟩) (by simp only [sP]; rfl) ?_
          refine pu HT_ 27 47 q15_34 rfl rfl (by kernel_rfl) (fun _ _ _ => id) (.inr ⟨by rfl, rfl⟩) (by simp only [sP]; rfl) ?_
          refine pu HT_ 28 48 q15_35 rfl rfl (by kernel_rfl) (fun _ _ _ => id) (.inr ⟨by rfl, rfl⟩) (by simp only [sP]; rfl) ?_
          refine pu HT_ 29 49 q15_36 rfl rfl (by kernel_rfl) (fun _ _ _ => id) (.inr ⟨by rfl, rfl⟩) (by simp only [sP]; rfl) ?_
          refine pu HT_ 30 50 q15_23 rfl rfl (by kernel_rfl) (fun _ _ _ => id) (.inr ⟨by rfl, rfl⟩) (by simp only [sP]; rfl) ?_
          refine pu HT_ 31 51 q15_24 rfl rfl (by kernel_rfl) (fun _ _ _ => id) (.inr ⟨by rfl, rfl⟩) (by simp only [sP]; rfl) ?_
          refine pu HT_ 32 52 q15_25 rfl rfl (by kernel_rfl) (fun _ _ _ => id) (.inr ⟨by rfl, rfl⟩) (by simp only [sP]; rfl) ?_
          refine pu HT_ 33 53 q15_26 rfl rfl (by kernel_rfl) (fun _ _ _ => id) (.inr ⟨by rfl, rfl⟩) (by simp only [sP]; rfl) ?_
          refine pu HT_ 34 54 q15_27 rfl rfl (by kernel_rfl) (fun _ _ _ => id) (.inr ⟨by rfl, rfl⟩) (by simp only [sP]; rfl) ?_
          refine pu HT_ 35 55 q15_28 rfl rfl (by kernel_rfl) (fun _ _ _ => id) (.inl ⟨by rfl, by intro w'; go_simp; with_reducible rfl⟩) (by simp only [sP]; rfl) ?_
          refine done_ (done_of HT_.out (by kernel_rfl)) ?_
          try go_wp2
          go_ret
          exact ⟨by first | rfl | (simp [errW_none, errW_some] <;> rfl) | (simp [*, errW_none, errW_some] <;> rfl), by repeat (first | (with_reducible first | exact HB.out | apply bL | apply bM | apply bR) | exact HB.out)⟩
        ·replace c15 := Bool.eq_false_iff.mpr c15
         subst c15
         rw [if_neg (show ¬ (false = true) by decide)] at H
         obtain rfl := Option.some.inj H
         try go_wp2
         replace BK290 := Aside0.mk (blk_drew BK290.out)
         replace HB := Aside0.mk (below_drew1 HB.out)
         have p296 : 0 ≤ (x5_2 : Int) := of_decide_eq_true (by first | (with_reducible assumption) | assumption)
         have q296 : x5_2 < (l1.length : Int) := of_decide_eq_true (by first | (with_reducible assumption) | assumption)
         obtain ⟨ad296, e296, hx296_0, hx296_1, hx296_2, hx296_3, hx296_4⟩ := at_T53 HR1.out x5_2 p296 q296
         have hw296_4 := hx296_4
         have hw296_3 := hx296_3
         have hw296_2 := hx296_2
         have hw296_1 := hx296_1
         have hw296_0 := hx296_0
         cases e296
         replace hx296_0 := kC HB hx296_0
         replace hx296_1 := kC HB hx296_1
         replace hx296_2 := kC HB hx296_2
         replace hx296_3 := kC HB hx296_3
         replace hx296_4 := kC HB hx296_4
         replace p296 := eq_true p296
         replace q296 := eq_true q296
         refine start_ (n := 36) (S := fun w' => w'.cell? (ad296.add ((x5_2).toNat * 5)) = some (.int .i64 ((rd_T53 l1 x5_2).f0.f0)) ∧ w'.cell? ⟨(ad296.add ((x5_2).toNat * 5)).block, (ad296.add ((x5_2).toNat * 5)).off + 1, none⟩ = some (.int .i64 ((rd_T53 l1 x5_2).f0.f1)) ∧ w'.cell? ⟨(ad296.add ((x5_2).toNat * 5)).block, (ad296.add ((x5_2).toNat * 5)).off + 2, none⟩ = some (.int .i64 ((rd_T53 l1 x5_2).f0.f2)) ∧ w'.cell? ⟨(ad296.add ((x5_2).toNat * 5)).block, (ad296.add ((x5_2).toNat * 5)).off + 3, none⟩ = some (.int .i64 ((rd_T53 l1 x5_2).f1.f0)) ∧ w'.cell? ⟨(ad296.add ((x5_2).toNat * 5)).block, (ad296.add ((x5_2).toNat * 5)).off + 4, none⟩ = some (.int .i64 ((rd_T53 l1 x5_2).f1.f1))) (ds := []) q15_0 (by kernel_rfl) rfl rfl ⟨(kC HB hw296_0), (kC HB hw296_1), (kC HB hw296_2), (kC HB hw296_3), (kC HB hw296_4)⟩ (fun hHeld => ?_); refine with_tabW clusterlocksref10_Valid.tab6 clusterlocksref10_Valid.bits6 (fun HT_ HW_ => ?_)
         generalize wr.drew = w38 at BK290 HB hx296_0 hx296_1 hx296_2 hx296_3 hx296_4 hHeld ⊢
         refine pu HT_ 0 20 q15_1 rfl rfl (by kernel_rfl) (fun _ _ _ => id) (.inl ⟨by rfl, by intro w'; go_simp; with_reducible rfl⟩) (by simp only [sP]; rfl) ?_
         refine pu HT_ 1 21 q15_2 rfl rfl (by kernel_rfl) (fun _ _ _ => id) (.inl ⟨by rfl, by intro w'; go_simp; with_reducible rfl⟩) (by simp only [sP]; rfl) ?_
         refine pu HT_ 2 22 q15_3 rfl rfl (by kernel_rfl) (fun _ _ _ => id) (.inl ⟨by rfl, by intro w'; go_simp; with_reducible rfl⟩) (by simp only [sP]; rfl) ?_
         refine pu HT_ 3 23 q15_4 rfl rfl (by kernel_rfl) (fun _ _ _ => id) (.inl ⟨by rfl, by intro w'; go_simp; with_reducible rfl⟩) (by simp only [sP]; rfl) ?_
         refine tk HT_ HW_ 4 24 q15_5 rfl rfl (by kernel_rfl) (fun _ _ _ => id) (.inl ⟨by rfl, by rintro w' ⟨s0, s1, s2, s3, s4⟩; go_simp; with_reducible rfl⟩) hHeld (by simp only [sP]; rfl) ?_
         refine one_ (i := 5) (N := some 25) q15_6 rfl rfl (one_of HT_.out (by kernel_rfl)) (by decide) (fun K hK => ?_)
         refine goes_ Tryd.func36 (by kernel_rfl) rfl #[.agg #[.int .i64 ((rd_T53 l1 x5_2).f0.f0), .int .i64 ((rd_T53 l1 x5_2).f0.f1), .int .i64 ((rd_T53 l1 x5_2).f0.f2)]] (by rfl) rfl rfl (by (try simp only [mA]); first | done | rfl) ?_
         with_reducible refine (clusterlocksref02_ValidProc.calls ((rd_T53 l1 x5_2).f0.f0) ((rd_T53 l1 x5_2).f0.f1) ((rd_T53 l1 x5_2).f0.f2) false _ A14.out).mono ?_
         rintro e w39 ⟨rfl, hb⟩
         refine ⟨_, rfl, ?_⟩
         replace BK290 := bK BK290 hb
         replace HB := bB HB hb
         (try clear hb)
         refine hK.out _ _ ⟨(kC HB hw296_0), (kC HB hw296_1), (kC HB hw296_2), (kC HB hw296_3), (kC HB hw296_4)⟩ (fun hHeld => ?_)
         clear hK K
         refine norm_ (a' := ?_) ?_ ?_
         rotate_left
         ·show Act.put _ (some 25) _ = _
          simp only [sP]
          rfl
         refine pu HT_ 6 26 q15_7 rfl rfl (by kernel_rfl) (fun _ _ _ => id) (.inl ⟨by rfl, by intro w'; go_simp; with_reducible rfl⟩) (by simp only [sP]; rfl) ?_
         refine pu HT_ 7 27 q15_8 rfl rfl (by kernel_rfl) (fun _ _ _ => id) (.inl ⟨by rfl, by intro w'; go_simp; with_reducible rfl⟩) (by simp only [sP]; rfl) ?_
         refine pu HT_ 8 28 #[T,T,T,T,T,T,T,T,T,F,F,F,F,F,F,F,F,F,F,F,F,F,F,F,F,F,F,F,F,F,F,F,F,F,F,F] rfl rfl (by kernel_rfl) (fun _ _ _ => id) (.inr ⟨by rfl, rfl⟩) (by simp only [sP]; rfl) ?_
         refine pu HT_ 9 29 #[T,T,T,T,T,T,T,T,T,T,F,F,F,F,F,F,F,F,F,F,F,F,F,F,F,F,F,F,F,F,F,F,F,F,F,F] rfl rfl (by kernel_rfl) (fun _ _ _ => id) (.inr ⟨by rfl, rfl⟩) (by simp only [sP]; rfl) ?_
         refine pu HT_ 10 30 #[T,T,T,T,T,T,T,T,T,T,T,F,F,F,F,F,F,F,F,F,F,F,F,F,F,F,F,F,F,F,F,F,F,F,F,F] rfl rfl (by kernel_rfl) (fun _ _ _ => id) (.inr ⟨by rfl, rfl⟩) (by simp only [sP]; rfl) ?_
         refine pu HT_ 11 31 #[T,T,T,T,T,T,T,T,T,T,T,T,F,F,F,F,F,F,F,F,F,F,F,F,F,F,F,F,F,F,F,F,F,F,F,F] rfl rfl (by kernel_rfl) (fun _ _ _ => id) (.inr ⟨by rfl, rfl⟩) (by simp only [sP]; rfl) ?_
         refine pu HT_ 12 32 q15_9 rfl rfl (by kernel_rfl) (fun _ _ _ => id) (.inr ⟨by rfl, rfl⟩) (by simp only [sP]; rfl) ?_
         refine pu HT_ 13 33 q15_10 rfl rfl (by kernel_rfl) (fun _ _ _ => id) (.inr ⟨by rfl, rfl⟩) (by simp only [sP]; rfl) ?_
         refine pu HT_ 14 34 q15_11 rfl rfl (by kernel_rfl) (fun _ _ _ => id) (.inr ⟨by rfl, rfl⟩) (by simp only [sP]; rfl) ?_
         refine pu HT_ 15 35 q15_12 rfl rfl (by kernel_rfl) (fun _ _ _ => id) (.inr ⟨by rfl, rfl⟩) (by simp only [sP]; rfl) ?_
         refine pu HT_ 16 36 q15_13 rfl rfl (by kernel_rfl) (fun _ _ _ => id) (.inl ⟨by rfl, by intro w'; go_simp; with_reducible rfl⟩) (by simp only [sP]; rfl) ?_
         refine pu HT_ 17 37 q15_14 rfl rfl (by kernel_rfl) (fun _ _ _ => id) (.inl ⟨by rfl, by intro w'; go_simp; with_reducible rfl⟩) (by simp only [sP]; rfl) ?_
         refine pu HT_ 18 38 q15_15 rfl rfl (by kernel_rfl) (fun _ _ _ => id) (.inr ⟨by rfl, rfl⟩) (by simp only [sP]; rfl) ?_
         refine pu HT_ 19 39 q15_16 rfl rfl (by kernel_rfl) (fun _ _ _ => id) (.inr ⟨by rfl, rfl⟩) (by simp only [sP]; rfl) ?_
         refine pu HT_ 20 40 q15_17 rfl rfl (by kernel_rfl) (fun _ _ _ => id) (.inr ⟨by rfl, rfl⟩) (by simp only [sP]; rfl) ?_
         refine pu HT_ 21 41 q15_18 rfl rfl (by kernel_rfl) (fun _ _ _ => id) (.inr ⟨by rfl, rfl⟩) (by simp only [sP]; rfl) ?_
         refine pu HT_ 22 42 q15_19 rfl rfl (by kernel_rfl) (fun _ _ _ => id) (.inr ⟨by rfl, rfl⟩) (by simp only [sP]; rfl) ?_
         refine pu HT_ 23 43 q15_20 rfl rfl (by kernel_rfl) (fun _ _ _ => id) (.inr ⟨by rfl, rfl⟩) (by simp only [sP]; rfl) ?_
         refine pu HT_ 24 44 q15_21 rfl rfl (by kernel_rfl) (fun _ _ _ => id) (.inr ⟨by rfl, rfl⟩) (by simp only [sP]; rfl) ?_
         refine pu HT_ 25 45 q15_22 rfl rfl (by kernel_rfl) (fun _ _ _ => id) (.inr ⟨by rfl, rfl⟩) (by simp only [sP]; rfl) ?_
         refine pu HT_ 26 46 q15_33 rfl rfl (by kernel_rfl) (fun _ _ _ => id) (.inr ⟨by rfl, rfl⟩) (by simp only [sP]; rfl) ?_
         refine pu HT_ 27 47 q15_34 rfl rfl (by kernel_rfl) (fun _ _ _ => id) (.inr ⟨by rfl, rfl⟩) (by simp only [sP]; rfl) ?_
         refine pu HT_ 28 48 q15_35 rfl rfl (by kernel_rfl) (fun _ _ _ => id) (.inr ⟨by rfl, rfl⟩) (by simp only [sP]; rfl) ?_
         refine pu HT_ 29 49 q15_36 rfl rfl (by kernel_rfl) (fun _ _ _ => id) (.inr ⟨by rfl, rfl⟩) (by simp only [sP]; rfl) ?_
         refine pu HT_ 30 50 q15_23 rfl rfl (by kernel_rfl) (fun _ _ _ => id) (.inr ⟨by rfl, rfl⟩) (by simp only [sP]; rfl) ?_
         refine pu HT_ 31 51 q15_24 rfl rfl (by kernel_rfl) (fun _ _ _ => id) (.inr ⟨by rfl, rfl⟩) (by simp only [sP]; rfl) ?_
         refine pu HT_ 32 52 q15_25 rfl rfl (by kernel_rfl) (fun _ _ _ => id) (.inr ⟨by rfl, rfl⟩) (by simp only [sP]; rfl) ?_
         refine pu HT_ 33 53 q15_26 rfl rfl (by kernel_rfl) (fun _ _ _ => id) (.inr ⟨by rfl, rfl⟩) (by simp only [sP]; rfl) ?_
         refine pu HT_ 34 54 q15_27 rfl rfl (by kernel_rfl) (fun _ _ _ => id) (.inr ⟨by rfl, rfl⟩) (by simp only [sP]; rfl) ?_
         refine pu HT_ 35 55 q15_28 rfl rfl (by kernel_rfl) (fun _ _ _ => id) (.inl ⟨by rfl, by intro w'; go_simp; with_reducible rfl⟩) (by simp only [sP]; rfl) ?_
         refine done_ (done_of HT_.out (by kernel_rfl)) ?_
         try go_wp2
         go_ret
         exact ⟨by first | rfl | (simp [errW_none, errW_some] <;> rfl) | (simp [*, errW_none, errW_some] <;> rfl), by repeat (first | (with_reducible first | exact HB.out | apply bL | apply bM | apply bR) | exact HB.out)⟩
       ·rw [if_neg c13] at H
        exact absurd H (by simp)
      ·rw [if_neg c12] at H
       have c12b0 : decide (x5_2 < (l1.length : Int)) = false := decide_eq_false c12
       clear c12
       obtain ⟨t292, A400, H⟩ := Option.bind_eq_some_iff.mp H
       have A40 := Aside0.mk A400; clear A400
       obtain ⟨t295, A410, H⟩ := Option.bind_eq_some_iff.mp H
       have A41 := Aside0.mk A410; clear A410
       obtain rfl := Option.some.inj H
       try go_wp2
       replace BK290 := Aside0.mk (blk_drew BK290.out)
       replace HB := Aside0.mk (below_drew1 HB.out)
       refine start_ (n := 5) (S := fun w' => w'.cell? ⟨gb290, 0, none⟩ = some (.string a0_0) ∧ w'.cell? ⟨gb290, 1, none⟩ = some (.int .i64 a0_1) ∧ w'.cell? ⟨gb290, 2, none⟩ = some (.int .i64 a0_2) ∧ w'.cell? ⟨gb290, 3, none⟩ = some (.int .i64 a0_3)) (ds := []) #[F,F,F,F,F] (by kernel_rfl) rfl rfl ⟨bC BK290 0 rfl, bC BK290 1 rfl, bC BK290 2 rfl, bC BK290 3 rfl⟩ (fun hHeld => ?_)
       generalize wr.drew = w42 at BK290 HB hHeld ⊢
       refine pure_ (i := 1) (N := some 57) (v := ?_) (a' := ?_) #[F,T,F,F,F] rfl rfl (by kernel_rfl) (fun _ _ _ h => h) (Or.inl ⟨by rfl, ?_⟩) ?_ ?_
       rotate_left
       ·intro w'; go_simp; with_reducible rfl
       rotate_left
       ·simp only [sP]; rfl
       refine take_ (i := 0) (N := some 56) (v := ?_) (a' := ?_) #[T,T,F,F,F] rfl rfl (by kernel_rfl) (fun _ _ _ h => h) (Or.inl ⟨by rfl, ?_⟩) hHeld ?_ ?_
       rotate_left
       ·rintro w' ⟨s0, s1, s2, s3⟩; go_simp; with_reducible rfl
       rotate_left
       ·simp only [sP]; rfl
       refine one_ (i := 2) (N := some 58) #[T,T,T,F,F] rfl rfl (by kernel_rfl) (by decide) (fun K hK => ?_)
       refine goes_ Tryd.func49 (by kernel_rfl) rfl #[.slice A1 l1.length c1] (by rfl) rfl rfl (by (try simp only [mA]); first | done | rfl) ?_
       with_reducible refine (clusterlocksref10_Amounts.calls k2 _ _ l1 t292 _ ?side1 ?side2 A40.out).mono ?_
       (case side1 => repeat (first | exact (Kd.C_below HR1.out HB.out) | (with_reducible refine Kd.C_alloc ?_ _) | (with_reducible refine Kd.C_drewN ?_ _) | (with_reducible refine Kd.C_drew ?_)))
       (case side2 => exact HC1.out)
       rintro e w43 ⟨v293, rfl, ho0, hb⟩
       refine ⟨_, rfl, ?_⟩
       have HO294 := Aside0.mk (Kd.R_lower ho0 (below_size (uB HB)))
       replace BK290 := bK BK290 hb
       replace HB := bB HB hb
       (try clear hb)
       (try clear ho0)
       obtain ⟨Ao44, co44, eo44⟩ := Kd.R_slice HO294.out
       (first | subst eo44 | (injection eo44 with f1_ f2_ f3_; have f4_ := f1_.symm; have f5_ := f3_.symm; clear f1_ f2_ f3_; subst f4_; subst f5_))
       refine hK.out _ _ ⟨bC BK290 0 rfl, bC BK290 1 rfl, bC BK290 2 rfl, bC BK290 3 rfl⟩ (fun hHeld => ?_)
       clear hK K
       refine norm_ (a' := ?_) ?_ ?_
       rotate_left
       ·show Act.put _ (some 58) _ = _
        simp only [sP]
        rfl
       refine one_ (i := 3) (N := some 59) #[T,T,T,T,F] rfl rfl (by kernel_rfl) (by decide) (fun K hK => ?_)
       refine goes_ Tryd.func39 (by kernel_rfl) rfl #[.agg #[.string a0_0, .int .i64 a0_1, .int .i64 a0_2, .int .i64 a0_3], .slice Ao44 t292.length co44] (by rfl) rfl rfl (by (try simp only [mA]); first | done | rfl) ?_
       with_reducible refine (clusterlocksref04_Compatible.calls k2 a0_0 a0_1 a0_2 a0_3 _ _ t292 t295 _ ?side1 ?side2 A41.out).mono ?_
       (case side1 => repeat (first | exact (Kd.R_reads' HO294.out).2.2 | (with_reducible refine Kd.C_alloc ?_ _) | (with_reducible refine Kd.C_drewN ?_ _) | (with_reducible refine Kd.C_drew ?_)))
       (case side2 => exact (Kd.R_reads' HO294.out).2.1)
       rintro e w45 ⟨rfl, hb⟩
       refine ⟨_, rfl, ?_⟩
       replace HO294 := Aside0.mk (Kd.R_below (by (with_reducible repeat (first | apply Kd.R_alloc | apply Kd.R_drewN | apply Kd.R_drew)); exact HO294.out) hb)
       replace BK290 := bK BK290 hb
       replace HB := bB HB hb
       (try clear hb)
       refine hK.out _ _ ⟨bC BK290 0 rfl, bC BK290 1 rfl, bC BK290 2 rfl, bC BK290 3 rfl⟩ (fun hHeld => ?_)
       clear hK K
       refine norm_ (a' := ?_) ?_ ?_
       rotate_left
       ·show Act.put _ (some 59) _ = _
        simp only [sP]
        rfl
       refine pure_ (i := 4) (N := some 4) (v := ?_) (a' := ?_) #[T,T,T,T,T] rfl rfl (by kernel_rfl) (fun _ _ _ h => h) (Or.inl ⟨by rfl, ?_⟩) ?_ ?_
       rotate_left
       ·intro w'; go_simp; with_reducible rfl
       rotate_left
       ·simp only [sP]; rfl
       refine done_ (by kernel_rfl) ?_
       try go_wp2
       go_ret
       exact ⟨by first | rfl | (simp [errW_none, errW_some] <;> rfl) | (simp [*, errW_none, errW_some] <;> rfl), by repeat (first | (with_reducible first | exact HB.out | apply bL | apply bM | apply bR) | exact HB.out)⟩
end Go.Proofs.YtnmemkphfgdplaaDoor.PA
