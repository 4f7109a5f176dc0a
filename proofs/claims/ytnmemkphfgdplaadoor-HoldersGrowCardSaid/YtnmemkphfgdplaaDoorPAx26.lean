-- Printed by wip/tool/myprint.py for this claim; Lean checks it.
import Derived.Test.YtnmemkphfgdplaaDoorPAx0
import Derived.Test.YtnmemkphfgdplaaDoorSlim
import Derived.Test.YtnmemkphfgdplaaDoorPAx4
import Derived.Test.YtnmemkphfgdplaaDoorPAx7
import Derived.Test.YtnmemkphfgdplaaDoorPAx9
import Derived.Test.YtnmemkphfgdplaaDoorPAx10
import Derived.Test.YtnmemkphfgdplaaDoorPAx14
import Derived.Test.YtnmemkphfgdplaaDoorPAxM
import Derived.Test.YtnmemkphfgdplaaDoorPAx23
namespace Go.Proofs.YtnmemkphfgdplaaDoor.PA
open Go.RowKit Go.Proofs.YtnmemkphfgdplaaDoorW.PrintWords Go.Proofs.YtnmemkphfgdplaaDoorW.PrintLast Go.Proofs.YtnmemkphfgdplaaDoorW.PrintMore
attribute [local go_sem] max2_int min2_int max_two min_two max_three min_three max_four min_four   -- for this text's walks alone
set_option linter.unusedVariables false
set_option linter.unusedSimpArgs false
abbrev q26_0 : Array Bool := #[T,T,T,T,T,T,T,T,T,T,T,T,T,T,F,F]
abbrev q26_1 : Array Bool := #[T,T,T,T,T,T,T,T,T,T,T,F,T,T,F,F]
abbrev q26_2 : Array Bool := #[T,T,T,T,T,T,T,T,T,T,T,T,T,F,F,F]
abbrev q26_3 : Array Bool := #[T,T,T,T,T,T,T,T,T,T,T,T,F,T,F,F]
abbrev q26_4 : Array Bool := #[T,T,T,T,T,T,T,T,T,T,T,F,T,F,F,F]
abbrev q26_5 : Array Bool := #[T,T,T,T,T,T,T,T,T,T,T,F,F,T,F,F]
abbrev q26_6 : Array Bool := #[T,T,T,T,F,T,T,T,T,T,T,F,T,T,F,F]

/-! ### clusterlockslaw10_HoldersGrow: function 8 -/
mutual
def clusterlockslaw10_HoldersGrow.l0 : Nat → List Int → List (S53) → Int → ByteArray → Int → Int → Int → Option (Bool)
 | 0, _, _, _, _, _, _, _ => none
 | k + 1, x1, x6, x7, x506000, x506001, x506002, x506003 => if x7 < (x1.length : Int) then (if 0 ≤ x7 then ((clusterlocksmill_Proc.f (rd x1 x7)).bind fun bt507 => ((clusterlocksmill_Amount.f x506000 x506001 x506002 x506003 ((rd x1 x7) / 8)).bind fun bt511 => ((holders_Room.f k x506000 x506001 x506002 x506003 x6 bt507.1 bt507.2.1 bt507.2.2 bt511.1 bt511.2).bind fun t515 => (if t515 = true then ((holders_Set.f k x6 bt507.1 bt507.2.1 bt507.2.2 bt511.1 bt511.2).bind fun t516 => (clusterlockslaw10_HoldersGrow.j1 k x1 t516 x7 x506000 x506001 x506002 x506003)) else (clusterlockslaw10_HoldersGrow.j1 k x1 x6 x7 x506000 x506001 x506002 x506003))))) else (none)) else ((clusterlockslaw10_awake.f k).bind fun t520 => (if t520 = true then ((clusterlockslaw10_made.f k x506000 x506001 x506002 x506003 x1).bind fun t521 => ((clusterlocksref10_SameHolds.f k x6 t521).bind fun t524 => (some t524))) else (some false)))
def clusterlockslaw10_HoldersGrow.j1 : Nat → List Int → List (S53) → Int → ByteArray → Int → Int → Int → Option (Bool)
 | 0, _, _, _, _, _, _, _ => none
 | k + 1, x1, x6, x7, x506000, x506001, x506002, x506003 => (clusterlocksref10_Valid.f k x506000 x506001 x506002 x506003 x6).bind fun t519 => (if t519 = true then (clusterlockslaw10_HoldersGrow.l0 k x1 x6 (wrap64 (x7 + 1)) x506000 x506001 x506002 x506003) else (some false))
end
def clusterlockslaw10_HoldersGrow.f (k : Nat) (a0 : Int) (l1 : List Int) : Option (Bool) := (clusterlocksmill_Light.f l1).bind fun t499 => (if t499 = true then ((clusterlocksmill_Resource.f k a0).bind fun bt501 => (clusterlockslaw10_HoldersGrow.l0 k l1 ([] : List (S53)) 0 bt501.1 bt501.2.1 bt501.2.2.1 bt501.2.2.2)) else ((clusterlockslaw10_awake.f k).bind fun t500 => (some t500)))
theorem clusterlockslaw10_HoldersGrow.mono_l : ∀ k, (∀ y0 y1 y2 y3 y4 y5 y6, LeO (clusterlockslaw10_HoldersGrow.l0 k y0 y1 y2 y3 y4 y5 y6) (clusterlockslaw10_HoldersGrow.l0 (k + 1) y0 y1 y2 y3 y4 y5 y6)) ∧ (∀ y0 y1 y2 y3 y4 y5 y6, LeO (clusterlockslaw10_HoldersGrow.j1 k y0 y1 y2 y3 y4 y5 y6) (clusterlockslaw10_HoldersGrow.j1 (k + 1) y0 y1 y2 y3 y4 y5 y6))
 | 0 => ⟨fun _ _ _ _ _ _ _ r h => by simp [clusterlockslaw10_HoldersGrow.l0] at h, fun _ _ _ _ _ _ _ r h => by simp [clusterlockslaw10_HoldersGrow.j1] at h⟩
 | k + 1 => by
  obtain ⟨ih0, ih1⟩ := clusterlockslaw10_HoldersGrow.mono_l k
  refine ⟨?_, ?_⟩
  ·intro y0 y1 y2 y3 y4 y5 y6
   unfold clusterlockslaw10_HoldersGrow.l0
   repeat' first
   | (with_reducible exact ih0 _ _ _ _ _ _ _)
   | (with_reducible exact ih1 _ _ _ _ _ _ _)
   | (with_reducible exact clusterlockslaw10_awake.mono _)
   | (with_reducible exact clusterlockslaw10_made.mono _ _ _ _ _ _)
   | (with_reducible exact clusterlocksmill_Resource.mono _ _)
   | (with_reducible exact clusterlocksref10_SameHolds.mono _ _ _)
   | (with_reducible exact clusterlocksref10_Valid.mono _ _ _ _ _ _)
   | (with_reducible exact holders_Room.mono _ _ _ _ _ _ _ _ _ _ _)
   | (with_reducible exact holders_Set.mono _ _ _ _ _ _ _)
   | (with_reducible exact LeO.refl _)
   | (with_reducible exact LeO.none _)
   | (with_reducible refine LeO.ite ?_ ?_)
   | (with_reducible refine LeO.bind ?_ (fun _ => ?_))
   | exact ih0 _ _ _ _ _ _ _
   | exact ih1 _ _ _ _ _ _ _
   | exact clusterlockslaw10_awake.mono _
   | exact clusterlockslaw10_made.mono _ _ _ _ _ _
   | exact clusterlocksmill_Resource.mono _ _
   | exact clusterlocksref10_SameHolds.mono _ _ _
   | exact clusterlocksref10_Valid.mono _ _ _ _ _ _
   | exact holders_Room.mono _ _ _ _ _ _ _ _ _ _ _
   | exact holders_Set.mono _ _ _ _ _ _ _
   | exact LeO.none _
   | refine LeO.ite ?_ ?_
   | refine LeO.bind ?_ (fun _ => ?_)
  ·intro y0 y1 y2 y3 y4 y5 y6
   unfold clusterlockslaw10_HoldersGrow.j1
   repeat' first
   | (with_reducible exact ih0 _ _ _ _ _ _ _)
   | (with_reducible exact ih1 _ _ _ _ _ _ _)
   | (with_reducible exact clusterlockslaw10_awake.mono _)
   | (with_reducible exact clusterlockslaw10_made.mono _ _ _ _ _ _)
   | (with_reducible exact clusterlocksmill_Resource.mono _ _)
   | (with_reducible exact clusterlocksref10_SameHolds.mono _ _ _)
   | (with_reducible exact clusterlocksref10_Valid.mono _ _ _ _ _ _)
   | (with_reducible exact holders_Room.mono _ _ _ _ _ _ _ _ _ _ _)
   | (with_reducible exact holders_Set.mono _ _ _ _ _ _ _)
   | (with_reducible exact LeO.refl _)
   | (with_reducible exact LeO.none _)
   | (with_reducible refine LeO.ite ?_ ?_)
   | (with_reducible refine LeO.bind ?_ (fun _ => ?_))
   | exact ih0 _ _ _ _ _ _ _
   | exact ih1 _ _ _ _ _ _ _
   | exact clusterlockslaw10_awake.mono _
   | exact clusterlockslaw10_made.mono _ _ _ _ _ _
   | exact clusterlocksmill_Resource.mono _ _
   | exact clusterlocksref10_SameHolds.mono _ _ _
   | exact clusterlocksref10_Valid.mono _ _ _ _ _ _
   | exact holders_Room.mono _ _ _ _ _ _ _ _ _ _ _
   | exact holders_Set.mono _ _ _ _ _ _ _
   | exact LeO.none _
   | refine LeO.ite ?_ ?_
   | refine LeO.bind ?_ (fun _ => ?_)
theorem clusterlockslaw10_HoldersGrow.mono : ∀ a0 a1 k, LeO (clusterlockslaw10_HoldersGrow.f k a0 a1) (clusterlockslaw10_HoldersGrow.f (k + 1) a0 a1) := by
 intro a0 a1 k
 obtain ⟨ih0, ih1⟩ := clusterlockslaw10_HoldersGrow.mono_l k
 unfold clusterlockslaw10_HoldersGrow.f
 repeat' first
   | (with_reducible exact ih0 _ _ _ _ _ _ _)
   | (with_reducible exact ih1 _ _ _ _ _ _ _)
   | (with_reducible exact clusterlockslaw10_awake.mono _)
   | (with_reducible exact clusterlockslaw10_made.mono _ _ _ _ _ _)
   | (with_reducible exact clusterlocksmill_Resource.mono _ _)
   | (with_reducible exact clusterlocksref10_SameHolds.mono _ _ _)
   | (with_reducible exact clusterlocksref10_Valid.mono _ _ _ _ _ _)
   | (with_reducible exact holders_Room.mono _ _ _ _ _ _ _ _ _ _ _)
   | (with_reducible exact holders_Set.mono _ _ _ _ _ _ _)
   | (with_reducible exact LeO.refl _)
   | (with_reducible exact LeO.none _)
   | (with_reducible refine LeO.ite ?_ ?_)
   | (with_reducible refine LeO.bind ?_ (fun _ => ?_))
   | exact ih0 _ _ _ _ _ _ _
   | exact ih1 _ _ _ _ _ _ _
   | exact clusterlockslaw10_awake.mono _
   | exact clusterlockslaw10_made.mono _ _ _ _ _ _
   | exact clusterlocksmill_Resource.mono _ _
   | exact clusterlocksref10_SameHolds.mono _ _ _
   | exact clusterlocksref10_Valid.mono _ _ _ _ _ _
   | exact holders_Room.mono _ _ _ _ _ _ _ _ _ _ _
   | exact holders_Set.mono _ _ _ _ _ _ _
   | exact LeO.none _
   | refine LeO.ite ?_ ?_
   | refine LeO.bind ?_ (fun _ => ?_)
def clusterlockslaw10_HoldersGrow.T8 : Bool × List (List Nat × List Nat) := (true, [([], []), ([], []), ([0, 1], [0, 1]), ([2], [2]), ([3], [3]), ([], []), ([], []), ([], []), ([6, 7], [6, 7]), ([8], [8]), ([9], [9]), ([5, 10, 4], [5, 10]), ([], []), ([], []), ([12, 4, 11, 0, 1, 2, 3, 4, 12, 13], [4, 12]), ([13, 11, 14, 0, 1, 2, 3, 4, 5, 6, 7, 8, 9, 10, 11, 12, 13, 14], [11, 13])])
def clusterlockslaw10_HoldersGrow.B8 : List Nat := [0, 0, 3, 7, 15, 0, 0, 0, 192, 448, 960, 2047, 0, 0, 16383, 32767]
theorem clusterlockslaw10_HoldersGrow.tab8 : rtab .any (opsOf Tryd.f8 8) = clusterlockslaw10_HoldersGrow.T8 := by kernel_rfl
theorem clusterlockslaw10_HoldersGrow.bits8 : waitsOk clusterlockslaw10_HoldersGrow.T8.2 clusterlockslaw10_HoldersGrow.B8 = true := by kernel_rfl
set_option maxHeartbeats 8000000 in
set_option maxRecDepth 100000 in
theorem clusterlockslaw10_HoldersGrow.calls (k : Nat) (a0 : Int) (A1 : Option Addr) (c1 : Nat) (l1 : List Int) (r : Bool) (w : World) (hr1 : Kd.C (Kd.int .i64) w A1 l1.length l1) (hc1 : l1.length ≤ c1) (hG : GL w) (h : clusterlockslaw10_HoldersGrow.f k a0 l1 = some r) (hT : r = true) :
  Calls Tryd.prog 8 #[.int .i64 a0, .slice A1 l1.length c1] w fun e w' => e = .returned (.bool r) ∧ Below w.heap.size w w' := by
 have hu32 := Tryd.underlying32
 have hu24 := Tryd.underlying24
 have hu26 := Tryd.underlying26
 have HG := Aside0.mk hG
 clear hG
 have HR1 := Aside0.mk hr1
 have HC1 := Aside0.mk hc1
 clear hr1 hc1
 have HB := Aside0.mk (Below.refl w.heap.size w)
 have H : ((clusterlocksmill_Light.f l1).bind fun t499 => (if t499 = true then ((clusterlocksmill_Resource.f k a0).bind fun bt501 => (clusterlockslaw10_HoldersGrow.l0 k l1 ([] : List (S53)) 0 bt501.1 bt501.2.1 bt501.2.2.1 bt501.2.2.2)) else ((clusterlockslaw10_awake.f k).bind fun t500 => (some t500)))) = some r := h
 have HRT := Aside0.mk hT
 clear h
 obtain ⟨t499, A30, H⟩ := Option.bind_eq_some_iff.mp H
 have A3 := Aside0.mk A30; clear A30
 by_cases c4 : t499 = true
 ·subst c4
  rw [if_pos rfl] at H
  replace H := Option.bind_eq_some_iff.mp H
  obtain ⟨⟨t501, t502, t503, t504⟩, A50, H⟩ := H
  replace H : (clusterlockslaw10_HoldersGrow.l0 k l1 ([] : List (S53)) 0 t501 t502 t503 t504) = some r := H
  have A5 := Aside0.mk A50; clear A50
  have H' := Aside0.mk H
  clear H
  go_enter Tryd.func8, Tryd.ntmps8
  go_wp2_with (first | ((with_reducible refine gate_callee (f := 20) rfl ?_); refine goesL_ (some 11) rfl rfl Tryd.func20 (by kernel_rfl) rfl #[.slice A1 l1.length c1] rfl (by (try simp only [mA]); first | done | rfl) ?_; (with_reducible refine (clusterlocksmill_Light.calls _ _ l1 true _ ?side1 ?side2 A3.out).mono ?_); (case side1 => repeat (first | exact HR1.out | (with_reducible refine Kd.C_alloc ?_ _) | (with_reducible refine Kd.C_drewN ?_ _) | (with_reducible refine Kd.C_drew ?_))); (case side2 => exact HC1.out); rintro e w' ⟨rfl, ⟨nd, rfl⟩⟩; refine ⟨_, rfl, ?_⟩) | ((with_reducible refine gate_callee (f := 21) rfl ?_); refine goesL_ (some 15) rfl rfl Tryd.func21 (by kernel_rfl) rfl #[.int .i64 a0] rfl (by (try simp only [mA]); first | done | rfl) ?_; (with_reducible refine (clusterlocksmill_Resource.calls k a0 t501 t502 t503 t504 _ A5.out).mono ?_); rintro e w6 ⟨rfl, hb⟩; refine ⟨_, rfl, ?_⟩; replace HB := bB HB hb; (try clear hb); (try clear hk)) | ((with_reducible refine gate_dst (N := 5) rfl ?_); refine box_event ?hg (N := 5) ?hd (cs := #[.string (⟨#[]⟩ : ByteArray), .int .i64 0, .int .i64 0, .int .i64 0]) (t := 32) ?hr ?_; (case hd => rfl); (case hg => rfl); (case hr => first | (go_simp; done) | (go_simp; rfl)); intro gb505 hg w7 hbox hb; have BK505 := Aside0.mk hbox; have GW505 := gE HB hg; replace HB := bB HB hb; have GE505 := GW505; clear hb hbox hg; have hcz8_0 : w7.cell? ⟨gb505, 0, none⟩ = some (.string (⟨#[]⟩ : ByteArray)) := bC BK505 0 rfl; have hcz8_1 : w7.cell? ⟨gb505, 1, none⟩ = some (.int .i64 0) := bC BK505 1 rfl; have hcz8_2 : w7.cell? ⟨gb505, 2, none⟩ = some (.int .i64 0) := bC BK505 2 rfl; have hcz8_3 : w7.cell? ⟨gb505, 3, none⟩ = some (.int .i64 0) := bC BK505 3 rfl; have hfz8_0 := bF BK505 0; have hfz8_1 := bF BK505 1; have hfz8_2 := bF BK505 2; have hfz8_3 := bF BK505 3))
  go_loopg [6, 7] k (fun kq v6 v7 w' => ∃ (x6_1 : List (S53)) (x7_1 : Int), v7 = .int .i64 x7_1 ∧ Aside0 (clusterlockslaw10_HoldersGrow.l0 kq l1 x6_1 x7_1 t501 t502 t503 t504 = some r) ∧ Aside0 (kq ≤ k) ∧ Aside0 (Kd.R k53 53 w' w.heap.size (fun _ => True) v6 x6_1) ∧ Aside0 (w'.heap[gb505]? = some (.cells #[.string t501, .int .i64 t502, .int .i64 t503, .int .i64 t504] 32 (0, 0))) ∧ Aside0 (Below w.heap.size w w'))
  case atStart => exact ⟨(([] : List (S53))), (0), (by first | rfl | (simp; done) | (simp [*]; done)), H', ⟨Nat.le_refl _⟩, ⟨by first | exact Kd.R_nil _ _ _ _ _ | exact Kd.N_nil _ _ _ _ _ | exact Kd.V_nil _ _ _ _ _ | exact Kd.Q_nil _ _ _ _ _ | exact Kd.S_nil _ _ _ _ _⟩, ⟨by (with_reducible repeat first | refine bN ?_ _ | refine bD ?_ | refine bA ?_ _); refine blk_put (cs := #[.string t501, .int .i64 t502, .int .i64 t503, .int .i64 0]) ?_ 3 _ rfl; (with_reducible repeat first | refine bN ?_ _ | refine bD ?_ | refine bA ?_ _); refine blk_put (cs := #[.string t501, .int .i64 t502, .int .i64 0, .int .i64 0]) ?_ 2 _ rfl; (with_reducible repeat first | refine bN ?_ _ | refine bD ?_ | refine bA ?_ _); refine blk_put (cs := #[.string t501, .int .i64 0, .int .i64 0, .int .i64 0]) ?_ 1 _ rfl; (with_reducible repeat first | refine bN ?_ _ | refine bD ?_ | refine bA ?_ _); refine blk_put (cs := #[.string (⟨#[]⟩ : ByteArray), .int .i64 0, .int .i64 0, .int .i64 0]) ?_ 0 _ rfl; (with_reducible repeat first | refine bN ?_ _ | refine bD ?_ | refine bA ?_ _); exact BK505.out⟩, ⟨by repeat (first | (with_reducible first | exact HB.out | apply bL | apply bM | apply bR | refine bS ?_ GE505.out) | exact HB.out)⟩⟩
  case round =>
   clear H'
   try clear c1
   try clear c2
   try clear p2
   try clear c4
   try clear c8
   try clear hcz8_0
   try clear hcz8_1
   try clear hcz8_2
   try clear hcz8_3
   try clear hfz8_0
   try clear hfz8_1
   try clear hfz8_2
   try clear hfz8_3
   obtain ⟨x6_1, x7_1, rfl, HA, HK1, HO_6, BK505, HB⟩ := hrel
   cases gk with
   | zero => exact absurd HA.out (by simp [clusterlockslaw10_HoldersGrow.l0])
   | succ k1 =>
    have H := HA.out
    clear HA
    simp only [clusterlockslaw10_HoldersGrow.l0] at H
    by_cases c9 : x7_1 < (l1.length : Int)
    ·rw [if_pos c9] at H
     have c9b0 : decide (x7_1 < (l1.length : Int)) = true := decide_eq_true c9
     clear c9
     by_cases c10 : 0 ≤ x7_1
     ·rw [if_pos c10] at H
      have c10b0 : decide (0 ≤ x7_1) = true := decide_eq_true c10
      clear c10
      replace H := Option.bind_eq_some_iff.mp H
      obtain ⟨⟨t507, t508, t509⟩, A110, H⟩ := H
      replace H : ((clusterlocksmill_Amount.f t501 t502 t503 t504 ((rd l1 x7_1) / 8)).bind fun bt511 => ((holders_Room.f k1 t501 t502 t503 t504 x6_1 t507 t508 t509 bt511.1 bt511.2).bind fun t515 => (if t515 = true then ((holders_Set.f k1 x6_1 t507 t508 t509 bt511.1 bt511.2).bind fun t516 => (clusterlockslaw10_HoldersGrow.j1 k1 l1 t516 x7_1 t501 t502 t503 t504)) else (clusterlockslaw10_HoldersGrow.j1 k1 l1 x6_1 x7_1 t501 t502 t503 t504)))) = some r := H
      have A11 := Aside0.mk A110; clear A110
      replace H := Option.bind_eq_some_iff.mp H
      obtain ⟨⟨t511, t512⟩, A120, H⟩ := H
      replace H : ((holders_Room.f k1 t501 t502 t503 t504 x6_1 t507 t508 t509 t511 t512).bind fun t515 => (if t515 = true then ((holders_Set.f k1 x6_1 t507 t508 t509 t511 t512).bind fun t516 => (clusterlockslaw10_HoldersGrow.j1 k1 l1 t516 x7_1 t501 t502 t503 t504)) else (clusterlockslaw10_HoldersGrow.j1 k1 l1 x6_1 x7_1 t501 t502 t503 t504))) = some r := H
      have A12 := Aside0.mk A120; clear A120
      obtain ⟨t515, A130, H⟩ := Option.bind_eq_some_iff.mp H
      have A13 := Aside0.mk A130; clear A130
      have HC14 := Aside0.mk H
      clear H
      try go_wp2
      replace HO_6 := Aside0.mk (Kd.R_drew HO_6.out)
      replace BK505 := Aside0.mk (blk_drew BK505.out)
      replace HB := Aside0.mk (below_drew1 HB.out)
      have p506 : 0 ≤ (x7_1 : Int) := of_decide_eq_true (by first | (with_reducible assumption) | assumption)
      have q506 : x7_1 < (l1.length : Int) := of_decide_eq_true (by first | (with_reducible assumption) | assumption)
      obtain ⟨ad506, e506, hx506_0⟩ := Kd.at_int HR1.out x7_1 p506 q506
      have hw506_0 := hx506_0
      cases e506
      replace hx506_0 := kC HB hx506_0
      replace p506 := eq_true p506
      replace q506 := eq_true q506
      have p510 : 0 ≤ (x7_1 : Int) := of_decide_eq_true (by first | (with_reducible assumption) | assumption)
      have q510 : x7_1 < (l1.length : Int) := of_decide_eq_true (by first | (with_reducible assumption) | assumption)
      obtain ⟨ad510, e510, hx510_0⟩ := Kd.at_int HR1.out x7_1 p510 q510
      have hw510_0 := hx510_0
      obtain rfl : ad506 = ad510 := (by injection e510)
      replace hx510_0 := kC HB hx510_0
      replace p510 := eq_true p510
      replace q510 := eq_true q510
      refine start_ (n := 16) (S := fun w' => w'.cell? ⟨gb505, 0, none⟩ = some (.string t501) ∧ w'.cell? ⟨gb505, 1, none⟩ = some (.int .i64 t502) ∧ w'.cell? ⟨gb505, 2, none⟩ = some (.int .i64 t503) ∧ w'.cell? ⟨gb505, 3, none⟩ = some (.int .i64 t504) ∧ w'.cell? (ad506.add (x7_1).toNat) = some (.int .i64 (rd l1 x7_1)) ∧ w'.cell? (ad506.add (x7_1).toNat) = some (.int .i64 (rd l1 x7_1))) (ds := []) #[F,F,F,F,F,F,F,F,F,F,F,F,F,F,F,F] (by kernel_rfl) rfl rfl ⟨bC BK505 0 rfl, bC BK505 1 rfl, bC BK505 2 rfl, bC BK505 3 rfl, (kC HB hw506_0), (kC HB hw510_0)⟩ (fun hHeld => ?_); refine with_tabW clusterlockslaw10_HoldersGrow.tab8 clusterlockslaw10_HoldersGrow.bits8 (fun HT_ HW_ => ?_)
      generalize wr.drew = w15 at HO_6 BK505 HB hx506_0 hx510_0 hHeld ⊢
      refine pu HT_ 0 22 #[T,F,F,F,F,F,F,F,F,F,F,F,F,F,F,F] rfl rfl (by kernel_rfl) (fun _ _ _ => id) (.inl ⟨by rfl, by intro w'; go_simp; with_reducible rfl⟩) (by simp only [sP]; rfl) ?_
      refine pu HT_ 1 23 #[T,T,F,F,F,F,F,F,F,F,F,F,F,F,F,F] rfl rfl (by kernel_rfl) (fun _ _ _ => id) (.inl ⟨by rfl, by intro w'; go_simp; with_reducible rfl⟩) (by simp only [sP]; rfl) ?_
      refine pu HT_ 2 24 #[T,T,T,F,F,F,F,F,F,F,F,F,F,F,F,F] rfl rfl (by kernel_rfl) (fun _ _ _ => id) (.inl ⟨by rfl, by intro w'; go_simp; with_reducible rfl⟩) (by simp only [sP]; rfl) ?_
      refine pu HT_ 6 28 #[T,T,T,F,F,F,T,F,F,F,F,F,F,F,F,F] rfl rfl (by kernel_rfl) (fun _ _ _ => id) (.inl ⟨by rfl, by intro w'; go_simp; with_reducible rfl⟩) (by simp only [sP]; rfl) ?_
      refine pu HT_ 7 29 #[T,T,T,F,F,F,T,T,F,F,F,F,F,F,F,F] rfl rfl (by kernel_rfl) (fun _ _ _ => id) (.inl ⟨by rfl, by intro w'; go_simp; with_reducible rfl⟩) (by simp only [sP]; rfl) ?_
      refine pu HT_ 8 30 #[T,T,T,F,F,F,T,T,T,F,F,F,F,F,F,F] rfl rfl (by kernel_rfl) (fun _ _ _ => id) (.inl ⟨by rfl, by intro w'; go_simp; with_reducible rfl⟩) (by simp only [sP]; rfl) ?_
      refine tk HT_ HW_ 3 25 #[T,T,T,T,F,F,T,T,T,F,F,F,F,F,F,F] rfl rfl (by kernel_rfl) (fun _ _ _ => id) (.inl ⟨by rfl, by rintro w' ⟨s0, s1, s2, s3, s4, s5⟩; go_simp; with_reducible rfl⟩) hHeld (by simp only [sP]; rfl) ?_
      refine tk HT_ HW_ 5 27 #[T,T,T,T,F,T,T,T,T,F,F,F,F,F,F,F] rfl rfl (by kernel_rfl) (fun _ _ _ => id) (.inl ⟨by rfl, by rintro w' ⟨s0, s1, s2, s3, s4, s5⟩; go_simp; with_reducible rfl⟩) hHeld (by simp only [sP]; rfl) ?_
      refine tk HT_ HW_ 9 31 #[T,T,T,T,F,T,T,T,T,T,F,F,F,F,F,F] rfl rfl (by kernel_rfl) (fun _ _ _ => id) (.inl ⟨by rfl, by rintro w' ⟨s0, s1, s2, s3, s4, s5⟩; go_simp; with_reducible rfl⟩) hHeld (by simp only [sP]; rfl) ?_
      refine pu HT_ 10 32 #[T,T,T,T,F,T,T,T,T,T,T,F,F,F,F,F] rfl rfl (by kernel_rfl) (fun _ _ _ => id) (.inl ⟨by rfl, by intro w'; go_simp; with_reducible rfl⟩) (by simp only [sP]; rfl) ?_
      refine join_ (σ := Nat × Nat) 2 q26_0 (fun s_ => [(26, .agg #[.int .i64 t507, .int .i64 t508, .int .i64 t509]), (33, .agg #[.int .i64 t511, .int .i64 t512]), (8, .pointer (some ⟨s_.1, 0, none⟩)), (9, .pointer (some ⟨s_.2, 0, none⟩))]) (fun s_ w' => (w'.cell? ⟨gb505, 0, none⟩ = some (.string t501) ∧ w'.cell? ⟨gb505, 1, none⟩ = some (.int .i64 t502) ∧ w'.cell? ⟨gb505, 2, none⟩ = some (.int .i64 t503) ∧ w'.cell? ⟨gb505, 3, none⟩ = some (.int .i64 t504) ∧ w'.cell? (ad506.add (x7_1).toNat) = some (.int .i64 (rd l1 x7_1)) ∧ w'.cell? (ad506.add (x7_1).toNat) = some (.int .i64 (rd l1 x7_1))) ∧ (Kd.R k53 53 w' w.heap.size (fun _ => True) u6 x6_1) ∧ (w'.heap[gb505]? = some (.cells #[.string t501, .int .i64 t502, .int .i64 t503, .int .i64 t504] 32 (0, 0))) ∧ (w'.heap[s_.1]? = some (.cells #[.int .i64 0, .int .i64 0, .int .i64 0] 24 (0, 0))) ∧ (w'.heap[s_.2]? = some (.cells #[.int .i64 0, .int .i64 0] 26 (0, 0))) ∧ (w.heap.size ≤ s_.1) ∧ (w.heap.size ≤ s_.1) ∧ (gb505 ≠ s_.1) ∧ (s_.1 ≠ gb505) ∧ (s_.2 ≠ s_.1) ∧ (s_.1 ≠ s_.2) ∧ (w.heap.size ≤ s_.2) ∧ (w.heap.size ≤ s_.2) ∧ (gb505 ≠ s_.2) ∧ (s_.2 ≠ gb505) ∧ (Below w.heap.size w w')) ?_ ?_
      rotate_left
      ·intro hJ4_11_12_13
       refine join_ (σ := Nat) 3 q26_2 (fun s_ => [(26, .agg #[.int .i64 t507, .int .i64 t508, .int .i64 t509]), (33, .agg #[.int .i64 t511, .int .i64 t512]), (8, .pointer (some ⟨s_, 0, none⟩))]) (fun s_ w' => (w'.cell? ⟨gb505, 0, none⟩ = some (.string t501) ∧ w'.cell? ⟨gb505, 1, none⟩ = some (.int .i64 t502) ∧ w'.cell? ⟨gb505, 2, none⟩ = some (.int .i64 t503) ∧ w'.cell? ⟨gb505, 3, none⟩ = some (.int .i64 t504) ∧ w'.cell? (ad506.add (x7_1).toNat) = some (.int .i64 (rd l1 x7_1)) ∧ w'.cell? (ad506.add (x7_1).toNat) = some (.int .i64 (rd l1 x7_1))) ∧ (Kd.R k53 53 w' w.heap.size (fun _ => True) u6 x6_1) ∧ (w'.heap[gb505]? = some (.cells #[.string t501, .int .i64 t502, .int .i64 t503, .int .i64 t504] 32 (0, 0))) ∧ (w'.heap[s_]? = some (.cells #[.int .i64 0, .int .i64 0, .int .i64 0] 24 (0, 0))) ∧ (w.heap.size ≤ s_) ∧ (w.heap.size ≤ s_) ∧ (gb505 ≠ s_) ∧ (s_ ≠ gb505) ∧ (Below w.heap.size w w')) ?_ ?_
       rotate_left
       ·intro hJ4_11_12
        refine join_ (σ := Nat) 3 q26_3 (fun s_ => [(26, .agg #[.int .i64 t507, .int .i64 t508, .int .i64 t509]), (33, .agg #[.int .i64 t511, .int .i64 t512]), (9, .pointer (some ⟨s_, 0, none⟩))]) (fun s_ w' => (w'.cell? ⟨gb505, 0, none⟩ = some (.string t501) ∧ w'.cell? ⟨gb505, 1, none⟩ = some (.int .i64 t502) ∧ w'.cell? ⟨gb505, 2, none⟩ = some (.int .i64 t503) ∧ w'.cell? ⟨gb505, 3, none⟩ = some (.int .i64 t504) ∧ w'.cell? (ad506.add (x7_1).toNat) = some (.int .i64 (rd l1 x7_1)) ∧ w'.cell? (ad506.add (x7_1).toNat) = some (.int .i64 (rd l1 x7_1))) ∧ (Kd.R k53 53 w' w.heap.size (fun _ => True) u6 x6_1) ∧ (w'.heap[gb505]? = some (.cells #[.string t501, .int .i64 t502, .int .i64 t503, .int .i64 t504] 32 (0, 0))) ∧ (w'.heap[s_]? = some (.cells #[.int .i64 0, .int .i64 0] 26 (0, 0))) ∧ (w.heap.size ≤ s_) ∧ (w.heap.size ≤ s_) ∧ (gb505 ≠ s_) ∧ (s_ ≠ gb505) ∧ (Below w.heap.size w w')) ?_ ?_
        rotate_left
        ·intro hJ4_11_13
         refine join_ (σ := Nat × Nat) 3 q26_1 (fun s_ => [(26, .agg #[.int .i64 t507, .int .i64 t508, .int .i64 t509]), (8, .pointer (some ⟨s_.1, 0, none⟩)), (9, .pointer (some ⟨s_.2, 0, none⟩))]) (fun s_ w' => (w'.cell? ⟨gb505, 0, none⟩ = some (.string t501) ∧ w'.cell? ⟨gb505, 1, none⟩ = some (.int .i64 t502) ∧ w'.cell? ⟨gb505, 2, none⟩ = some (.int .i64 t503) ∧ w'.cell? ⟨gb505, 3, none⟩ = some (.int .i64 t504) ∧ w'.cell? (ad506.add (x7_1).toNat) = some (.int .i64 (rd l1 x7_1)) ∧ w'.cell? (ad506.add (x7_1).toNat) = some (.int .i64 (rd l1 x7_1))) ∧ (Kd.R k53 53 w' w.heap.size (fun _ => True) u6 x6_1) ∧ (w'.heap[gb505]? = some (.cells #[.string t501, .int .i64 t502, .int .i64 t503, .int .i64 t504] 32 (0, 0))) ∧ (w'.heap[s_.1]? = some (.cells #[.int .i64 0, .int .i64 0, .int .i64 0] 24 (0, 0))) ∧ (w'.heap[s_.2]? = some (.cells #[.int .i64 0, .int .i64 0] 26 (0, 0))) ∧ (w.heap.size ≤ s_.1) ∧ (w.heap.size ≤ s_.1) ∧ (gb505 ≠ s_.1) ∧ (s_.1 ≠ gb505) ∧ (s_.2 ≠ s_.1) ∧ (s_.1 ≠ s_.2) ∧ (w.heap.size ≤ s_.2) ∧ (w.heap.size ≤ s_.2) ∧ (gb505 ≠ s_.2) ∧ (s_.2 ≠ gb505) ∧ (Below w.heap.size w w')) ?_ ?_
         rotate_left
         ·intro hJ4_12_13
          refine join_ (σ := Unit) 4 #[T,T,T,T,T,T,T,T,T,T,T,T,F,F,F,F] (fun s_ => [(26, .agg #[.int .i64 t507, .int .i64 t508, .int .i64 t509]), (33, .agg #[.int .i64 t511, .int .i64 t512])]) (fun s_ w' => (w'.cell? ⟨gb505, 0, none⟩ = some (.string t501) ∧ w'.cell? ⟨gb505, 1, none⟩ = some (.int .i64 t502) ∧ w'.cell? ⟨gb505, 2, none⟩ = some (.int .i64 t503) ∧ w'.cell? ⟨gb505, 3, none⟩ = some (.int .i64 t504) ∧ w'.cell? (ad506.add (x7_1).toNat) = some (.int .i64 (rd l1 x7_1)) ∧ w'.cell? (ad506.add (x7_1).toNat) = some (.int .i64 (rd l1 x7_1))) ∧ (Kd.R k53 53 w' w.heap.size (fun _ => True) u6 x6_1) ∧ (w'.heap[gb505]? = some (.cells #[.string t501, .int .i64 t502, .int .i64 t503, .int .i64 t504] 32 (0, 0))) ∧ (Below w.heap.size w w')) ?_ ?_
          rotate_left
          ·intro hJ4_11
           refine join_ (σ := Nat) 4 q26_4 (fun s_ => [(26, .agg #[.int .i64 t507, .int .i64 t508, .int .i64 t509]), (8, .pointer (some ⟨s_, 0, none⟩))]) (fun s_ w' => (w'.cell? ⟨gb505, 0, none⟩ = some (.string t501) ∧ w'.cell? ⟨gb505, 1, none⟩ = some (.int .i64 t502) ∧ w'.cell? ⟨gb505, 2, none⟩ = some (.int .i64 t503) ∧ w'.cell? ⟨gb505, 3, none⟩ = some (.int .i64 t504) ∧ w'.cell? (ad506.add (x7_1).toNat) = some (.int .i64 (rd l1 x7_1)) ∧ w'.cell? (ad506.add (x7_1).toNat) = some (.int .i64 (rd l1 x7_1))) ∧ (Kd.R k53 53 w' w.heap.size (fun _ => True) u6 x6_1) ∧ (w'.heap[gb505]? = some (.cells #[.string t501, .int .i64 t502, .int .i64 t503, .int .i64 t504] 32 (0, 0))) ∧ (w'.heap[s_]? = some (.cells #[.int .i64 0, .int .i64 0, .int .i64 0] 24 (0, 0))) ∧ (w.heap.size ≤ s_) ∧ (w.heap.size ≤ s_) ∧ (gb505 ≠ s_) ∧ (s_ ≠ gb505) ∧ (Below w.heap.size w w')) ?_ ?_
           rotate_left
           ·intro hJ4_12
            refine join_ (σ := Nat) 4 q26_5 (fun s_ => [(26, .agg #[.int .i64 t507, .int .i64 t508, .int .i64 t509]), (9, .pointer (some ⟨s_, 0, none⟩))]) (fun s_ w' => (w'.cell? ⟨gb505, 0, none⟩ = some (.string t501) ∧ w'.cell? ⟨gb505, 1, none⟩ = some (.int .i64 t502) ∧ w'.cell? ⟨gb505, 2, none⟩ = some (.int .i64 t503) ∧ w'.cell? ⟨gb505, 3, none⟩ = some (.int .i64 t504) ∧ w'.cell? (ad506.add (x7_1).toNat) = some (.int .i64 (rd l1 x7_1)) ∧ w'.cell? (ad506.add (x7_1).toNat) = some (.int .i64 (rd l1 x7_1))) ∧ (Kd.R k53 53 w' w.heap.size (fun _ => True) u6 x6_1) ∧ (w'.heap[gb505]? = some (.cells #[.string t501, .int .i64 t502, .int .i64 t503, .int .i64 t504] 32 (0, 0))) ∧ (w'.heap[s_]? = some (.cells #[.int .i64 0, .int .i64 0] 26 (0, 0))) ∧ (w.heap.size ≤ s_) ∧ (w.heap.size ≤ s_) ∧ (gb505 ≠ s_) ∧ (s_ ≠ gb505) ∧ (Below w.heap.size w w')) ?_ ?_
            rotate_left
            ·intro hJ4_13
             refine join_ (σ := Nat × Nat) 4 q26_6 (fun s_ => [(8, .pointer (some ⟨s_.1, 0, none⟩)), (9, .pointer (some ⟨s_.2, 0, none⟩))]) (fun s_ w' => (w'.cell? ⟨gb505, 0, none⟩ = some (.string t501) ∧ w'.cell? ⟨gb505, 1, none⟩ = some (.int .i64 t502) ∧ w'.cell? ⟨gb505, 2, none⟩ = some (.int .i64 t503) ∧ w'.cell? ⟨gb505, 3, none⟩ = some (.int .i64 t504) ∧ w'.cell? (ad506.add (x7_1).toNat) = some (.int .i64 (rd l1 x7_1)) ∧ w'.cell? (ad506.add (x7_1).toNat) = some (.int .i64 (rd l1 x7_1))) ∧ (Kd.R k53 53 w' w.heap.size (fun _ => True) u6 x6_1) ∧ (w'.heap[gb505]? = some (.cells #[.string t501, .int .i64 t502, .int .i64 t503, .int .i64 t504] 32 (0, 0))) ∧ (w'.heap[s_.1]? = some (.cells #[.int .i64 0, .int .i64 0, .int .i64 0] 24 (0, 0))) ∧ (w'.heap[s_.2]? = some (.cells #[.int .i64 0, .int .i64 0] 26 (0, 0))) ∧ (w.heap.size ≤ s_.1) ∧ (w.heap.size ≤ s_.1) ∧ (gb505 ≠ s_.1) ∧ (s_.1 ≠ gb505) ∧ (s_.2 ≠ s_.1) ∧ (s_.1 ≠ s_.2) ∧ (w.heap.size ≤ s_.2) ∧ (w.heap.size ≤ s_.2) ∧ (gb505 ≠ s_.2) ∧ (s_.2 ≠ gb505) ∧ (Below w.heap.size w w')) ?_ ?_
             rotate_left
             ·intro hJ12_13
              refine join_ (σ := Unit) 5 #[T,T,T,T,T,T,T,T,T,T,T,F,F,F,F,F] (fun s_ => [(26, .agg #[.int .i64 t507, .int .i64 t508, .int .i64 t509])]) (fun s_ w' => (w'.cell? ⟨gb505, 0, none⟩ = some (.string t501) ∧ w'.cell? ⟨gb505, 1, none⟩ = some (.int .i64 t502) ∧ w'.cell? ⟨gb505, 2, none⟩ = some (.int .i64 t503) ∧ w'.cell? ⟨gb505, 3, none⟩ = some (.int .i64 t504) ∧ w'.cell? (ad506.add (x7_1).toNat) = some (.int .i64 (rd l1 x7_1)) ∧ w'.cell? (ad506.add (x7_1).toNat) = some (.int .i64 (rd l1 x7_1))) ∧ (Kd.R k53 53 w' w.heap.size (fun _ => True) u6 x6_1) ∧ (w'.heap[gb505]? = some (.cells #[.string t501, .int .i64 t502, .int .i64 t503, .int .i64 t504] 32 (0, 0))) ∧ (Below w.heap.size w w')) ?_ ?_
              rotate_left
              ·intro hJ4
               refine join_ (σ := Nat) 5 #[T,T,T,T,F,T,T,T,T,T,T,F,T,F,F,F] (fun s_ => [(8, .pointer (some ⟨s_, 0, none⟩))]) (fun s_ w' => (w'.cell? ⟨gb505, 0, none⟩ = some (.string t501) ∧ w'.cell? ⟨gb505, 1, none⟩ = some (.int .i64 t502) ∧ w'.cell? ⟨gb505, 2, none⟩ = some (.int .i64 t503) ∧ w'.cell? ⟨gb505, 3, none⟩ = some (.int .i64 t504) ∧ w'.cell? (ad506.add (x7_1).toNat) = some (.int .i64 (rd l1 x7_1)) ∧ w'.cell? (ad506.add (x7_1).toNat) = some (.int .i64 (rd l1 x7_1))) ∧ (Kd.R k53 53 w' w.heap.size (fun _ => True) u6 x6_1) ∧ (w'.heap[gb505]? = some (.cells #[.string t501, .int .i64 t502, .int .i64 t503, .int .i64 t504] 32 (0, 0))) ∧ (w'.heap[s_]? = some (.cells #[.int .i64 0, .int .i64 0, .int .i64 0] 24 (0, 0))) ∧ (w.heap.size ≤ s_) ∧ (w.heap.size ≤ s_) ∧ (gb505 ≠ s_) ∧ (s_ ≠ gb505) ∧ (Below w.heap.size w w')) ?_ ?_
               rotate_left
               ·intro hJ12
                refine join_ (σ := Nat) 5 #[T,T,T,T,F,T,T,T,T,T,T,F,F,T,F,F] (fun s_ => [(9, .pointer (some ⟨s_, 0, none⟩))]) (fun s_ w' => (w'.cell? ⟨gb505, 0, none⟩ = some (.string t501) ∧ w'.cell? ⟨gb505, 1, none⟩ = some (.int .i64 t502) ∧ w'.cell? ⟨gb505, 2, none⟩ = some (.int .i64 t503) ∧ w'.cell? ⟨gb505, 3, none⟩ = some (.int .i64 t504) ∧ w'.cell? (ad506.add (x7_1).toNat) = some (.int .i64 (rd l1 x7_1)) ∧ w'.cell? (ad506.add (x7_1).toNat) = some (.int .i64 (rd l1 x7_1))) ∧ (Kd.R k53 53 w' w.heap.size (fun _ => True) u6 x6_1) ∧ (w'.heap[gb505]? = some (.cells #[.string t501, .int .i64 t502, .int .i64 t503, .int .i64 t504] 32 (0, 0))) ∧ (w'.heap[s_]? = some (.cells #[.int .i64 0, .int .i64 0] 26 (0, 0))) ∧ (w.heap.size ≤ s_) ∧ (w.heap.size ≤ s_) ∧ (gb505 ≠ s_) ∧ (s_ ≠ gb505) ∧ (Below w.heap.size w w')) ?_ ?_
                rotate_left
                ·intro hJ13
                 refine three_ (i := 4) (j := 12) (k := 13) (Ni := some 26) (Nj := some 8) (Nk := some 9) #[T,T,T,T,T,T,T,T,T,T,T,F,F,F,F,F] #[T,T,T,T,F,T,T,T,T,T,T,F,T,F,F,F] #[T,T,T,T,F,T,T,T,T,T,T,F,F,T,F,F] rfl rfl rfl rfl rfl rfl (three_of HT_.out (by kernel_rfl)) (by decide) (by decide) (by decide) (fun K hK => ?_) (fun K hK => ?_) (fun K hK => ?_)
                 ·skip
                  refine goes_ Tryd.func23 (by kernel_rfl) rfl #[.int .i64 (rd l1 x7_1)] (by rfl) rfl rfl (by (try simp only [mA]); first | done | rfl) ?_
                  with_reducible refine (clusterlocksmill_Proc.calls (rd l1 x7_1) t507 t508 t509 _ A11.out).mono ?_
                  rintro e w16 ⟨rfl, hb⟩
                  refine ⟨_, rfl, ?_⟩
                  replace HO_6 := Aside0.mk (Kd.R_below (by (with_reducible repeat (first | apply Kd.R_alloc | apply Kd.R_drewN | apply Kd.R_drew)); exact HO_6.out) hb)
                  replace BK505 := bK BK505 hb
                  replace HB := Aside0.mk (below_step (by repeat (first | (with_reducible first | exact HB.out | apply bL | apply bM | apply bR | refine bS ?_ GE505.out) | exact HB.out)) hb)
                  (try clear hb)
                  (try clear hk)
                  refine hK.out _ _ ⟨bC BK505 0 rfl, bC BK505 1 rfl, bC BK505 2 rfl, bC BK505 3 rfl, (kC HB hw506_0), (kC HB hw510_0)⟩ (fun hHeld => ?_)
                  clear hK K
                  refine norm_ (a' := ?_) ?_ ?_
                  rotate_left
                  ·show Act.put _ (some 26) _ = _
                   simp only [sP]
                   rfl
                  exact norm_ (by first | (simp only [putAll, sP]; done) | (simp only [putAll, sP]; rfl)) (hJ4 () _ ⟨hHeld, (by (with_reducible repeat (first | apply Kd.R_alloc | apply Kd.R_drewN | apply Kd.R_drew)); exact HO_6.out), (uK BK505), (by repeat (first | (with_reducible first | exact HB.out | apply bL | apply bM | apply bR | refine bS ?_ GE505.out) | exact HB.out))⟩)
                 ·skip
                  refine box_step ?hg (N := 8) ?hd (cs := #[.int .i64 0, .int .i64 0, .int .i64 0]) (t := 24) ?hr ?_; (case hd => rfl); (case hg => rfl); (case hr => first | (go_simp; done) | (go_simp; rfl))
                  intro gb513 hg w16 hbox hb
                  replace HO_6 := Aside0.mk (Kd.R_below (by (with_reducible repeat (first | apply Kd.R_alloc | apply Kd.R_drewN | apply Kd.R_drew)); exact HO_6.out) hb)
                  have BK513 := Aside0.mk hbox
                  have GW513 := Aside0.mk ((by rw [hg]; exact (below_size (by repeat (first | (with_reducible first | exact HB.out | apply bL | apply bM | apply bR | refine bS ?_ GE505.out) | exact HB.out))) : w.heap.size ≤ gb513))
                  have GE513 := Aside0.mk ((by rw [hg]; exact (below_size (by repeat (first | (with_reducible first | exact HB.out | apply bL | apply bM | apply bR | refine bS ?_ GE505.out) | exact HB.out))) : w.heap.size ≤ gb513))
                  replace HB := Aside0.mk (below_step (by repeat (first | (with_reducible first | exact HB.out | apply bL | apply bM | apply bR | refine bS ?_ GE505.out) | exact HB.out)) hb)
                  have NB505_513 := gN BK505 hg
                  replace BK505 := bK BK505 hb
                  have NB513_505 := Aside0.mk NB505_513.out.symm
                  clear hb hbox hg
                  refine hK.out _ _ ⟨bC BK505 0 rfl, bC BK505 1 rfl, bC BK505 2 rfl, bC BK505 3 rfl, (kC HB hw506_0), (kC HB hw510_0)⟩ (fun hHeld => ?_)
                  clear hK K
                  refine norm_ (a' := ?_) ?_ ?_
                  rotate_left
                  ·show Act.put _ (some 8) _ = _
                   simp only [sP]
                   rfl
                  exact norm_ (by first | (simp only [putAll, sP]; done) | (simp only [putAll, sP]; rfl)) (hJ12 (gb513) _ ⟨hHeld, (by (with_reducible repeat (first | apply Kd.R_alloc | apply Kd.R_drewN | apply Kd.R_drew)); exact HO_6.out), (uK BK505), (uK BK513), GW513.out, GE513.out, NB505_513.out, NB513_505.out, (by repeat (first | (with_reducible first | exact HB.out | apply bL | apply bM | apply bR | refine bS ?_ GE505.out | refine bS ?_ GE513.out) | exact HB.out))⟩)
                 ·skip
                  refine box_step ?hg (N := 9) ?hd (cs := #[.int .i64 0, .int .i64 0]) (t := 26) ?hr ?_; (case hd => rfl); (case hg => rfl); (case hr => first | (go_simp; done) | (go_simp; rfl))
                  intro gb514 hg w16 hbox hb
                  replace HO_6 := Aside0.mk (Kd.R_below (by (with_reducible repeat (first | apply Kd.R_alloc | apply Kd.R_drewN | apply Kd.R_drew)); exact HO_6.out) hb)
                  have BK514 := Aside0.mk hbox
                  have GW514 := Aside0.mk ((by rw [hg]; exact (below_size (by repeat (first | (with_reducible first | exact HB.out | apply bL | apply bM | apply bR | refine bS ?_ GE505.out) | exact HB.out))) : w.heap.size ≤ gb514))
                  have GE514 := Aside0.mk ((by rw [hg]; exact (below_size (by repeat (first | (with_reducible first | exact HB.out | apply bL | apply bM | apply bR | refine bS ?_ GE505.out) | exact HB.out))) : w.heap.size ≤ gb514))
                  replace HB := Aside0.mk (below_step (by repeat (first | (with_reducible first | exact HB.out | apply bL | apply bM | apply bR | refine bS ?_ GE505.out) | exact HB.out)) hb)
                  have NB505_514 := gN BK505 hg
                  replace BK505 := bK BK505 hb
                  have NB514_505 := Aside0.mk NB505_514.out.symm
                  clear hb hbox hg
                  refine hK.out _ _ ⟨bC BK505 0 rfl, bC BK505 1 rfl, bC BK505 2 rfl, bC BK505 3 rfl, (kC HB hw506_0), (kC HB hw510_0)⟩ (fun hHeld => ?_)
                  clear hK K
                  refine norm_ (a' := ?_) ?_ ?_
                  rotate_left
                  ·show Act.put _ (some 9) _ = _
                   simp only [sP]
                   rfl
                  exact norm_ (by first | (simp only [putAll, sP]; done) | (simp only [putAll, sP]; rfl)) (hJ13 (gb514) _ ⟨hHeld, (by (with_reducible repeat (first | apply Kd.R_alloc | apply Kd.R_drewN | apply Kd.R_drew)); exact HO_6.out), (uK BK505), (uK BK514), GW514.out, GE514.out, NB505_514.out, NB514_505.out, (by repeat (first | (with_reducible first | exact HB.out | apply bL | apply bM | apply bR | refine bS ?_ GE505.out | refine bS ?_ GE514.out) | exact HB.out))⟩)
                ·skip
                 rintro gb514 w17 ⟨hS_, h0_, h1_, h2_, h3_, h4_, h5_, h6_, h7_⟩
                 have n0_ : Aside0 (Kd.R k53 53 w17 w.heap.size (fun _ => True) u6 x6_1) := ⟨h0_⟩
                 have n1_ : Aside0 (w17.heap[gb505]? = some (.cells #[.string t501, .int .i64 t502, .int .i64 t503, .int .i64 t504] 32 (0, 0))) := ⟨h1_⟩
                 have n2_ : Aside0 (w17.heap[gb514]? = some (.cells #[.int .i64 0, .int .i64 0] 26 (0, 0))) := ⟨h2_⟩
                 have n3_ : Aside0 (w.heap.size ≤ gb514) := ⟨h3_⟩
                 have n4_ : Aside0 (w.heap.size ≤ gb514) := ⟨h4_⟩
                 have n5_ : Aside0 (gb505 ≠ gb514) := ⟨h5_⟩
                 have n6_ : Aside0 (gb514 ≠ gb505) := ⟨h6_⟩
                 have n7_ : Aside0 (Below w.heap.size w w17) := ⟨h7_⟩
                 clear HO_6
                 clear BK505
                 clear HB
                 clear h0_ h1_ h2_ h3_ h4_ h5_ h6_ h7_
                 have HO_6 := n0_
                 have BK505 := n1_
                 have BK514 := n2_
                 have GW514 := n3_
                 have GE514 := n4_
                 have NB505_514 := n5_
                 have NB514_505 := n6_
                 have HB := n7_
                 clear n0_ n1_ n2_ n3_ n4_ n5_ n6_ n7_
                 have hHeld : w17.cell? ⟨gb505, 0, none⟩ = some (.string t501) ∧ w17.cell? ⟨gb505, 1, none⟩ = some (.int .i64 t502) ∧ w17.cell? ⟨gb505, 2, none⟩ = some (.int .i64 t503) ∧ w17.cell? ⟨gb505, 3, none⟩ = some (.int .i64 t504) ∧ w17.cell? (ad506.add (x7_1).toNat) = some (.int .i64 (rd l1 x7_1)) ∧ w17.cell? (ad506.add (x7_1).toNat) = some (.int .i64 (rd l1 x7_1)) := hS_
                 refine norm_ (a' := ?_) ?_ ?_
                 rotate_left
                 ·simp only [putAll, sP]
                  rfl
                 refine two_ (i := 4) (j := 12) (Ni := some 26) (Nj := some 8) q26_5 q26_6 rfl rfl rfl rfl (two_of HT_.out (by kernel_rfl)) (by decide) (by decide) (fun K hK => ?_) (fun K hK => ?_)
                 ·skip
                  refine goes_ Tryd.func23 (by kernel_rfl) rfl #[.int .i64 (rd l1 x7_1)] (by rfl) rfl rfl (by (try simp only [mA]); first | done | rfl) ?_
                  with_reducible refine (clusterlocksmill_Proc.calls (rd l1 x7_1) t507 t508 t509 _ A11.out).mono ?_
                  rintro e w18 ⟨rfl, hb⟩
                  refine ⟨_, rfl, ?_⟩
                  replace HO_6 := Aside0.mk (Kd.R_below (by (with_reducible repeat (first | apply Kd.R_alloc | apply Kd.R_drewN | apply Kd.R_drew)); exact HO_6.out) hb)
                  replace BK505 := bK BK505 hb
                  replace BK514 := bK BK514 hb
                  replace HB := Aside0.mk (below_step (by repeat (first | (with_reducible first | exact HB.out | apply bL | apply bM | apply bR | refine bS ?_ GE505.out | refine bS ?_ GE514.out) | exact HB.out)) hb)
                  (try clear hb)
                  (try clear hk)
                  refine hK.out _ _ ⟨bC BK505 0 rfl, bC BK505 1 rfl, bC BK505 2 rfl, bC BK505 3 rfl, (kC HB hw506_0), (kC HB hw510_0)⟩ (fun hHeld => ?_)
                  clear hK K
                  refine norm_ (a' := ?_) ?_ ?_
                  rotate_left
                  ·show Act.put _ (some 26) _ = _
                   simp only [sP]
                   rfl
                  exact norm_ (by first | (simp only [putAll, sP]; done) | (simp only [putAll, sP]; rfl)) (hJ4_13 (gb514) _ ⟨hHeld, (by (with_reducible repeat (first | apply Kd.R_alloc | apply Kd.R_drewN | apply Kd.R_drew)); exact HO_6.out), (uK BK505), (uK BK514), GW514.out, GE514.out, NB505_514.out, NB514_505.out, (by repeat (first | (with_reducible first | exact HB.out | apply bL | apply bM | apply bR | refine bS ?_ GE505.out | refine bS ?_ GE514.out) | exact HB.out))⟩)
                 ·skip
                  refine box_step ?hg (N := 8) ?hd (cs := #[.int .i64 0, .int .i64 0, .int .i64 0]) (t := 24) ?hr ?_; (case hd => rfl); (case hg => rfl); (case hr => first | (go_simp; done) | (go_simp; rfl))
                  intro gb513 hg w18 hbox hb
                  replace HO_6 := Aside0.mk (Kd.R_below (by (with_reducible repeat (first | apply Kd.R_alloc | apply Kd.R_drewN | apply Kd.R_drew)); exact HO_6.out) hb)
                  have BK513 := Aside0.mk hbox
                  have GW513 := Aside0.mk ((by rw [hg]; exact (below_size (by repeat (first | (with_reducible first | exact HB.out | apply bL | apply bM | apply bR | refine bS ?_ GE505.out | refine bS ?_ GE514.out) | exact HB.out))) : w.heap.size ≤ gb513))
                  have GE513 := Aside0.mk ((by rw [hg]; exact (below_size (by repeat (first | (with_reducible first | exact HB.out | apply bL | apply bM | apply bR | refine bS ?_ GE505.out | refine bS ?_ GE514.out) | exact HB.out))) : w.heap.size ≤ gb513))
                  replace HB := Aside0.mk (below_step (by repeat (first | (with_reducible first | exact HB.out | apply bL | apply bM | apply bR | refine bS ?_ GE505.out | refine bS ?_ GE514.out) | exact HB.out)) hb)
                  have NB505_513 := gN BK505 hg
                  replace BK505 := bK BK505 hb
                  have NB513_505 := Aside0.mk NB505_513.out.symm
                  have NB514_513 := gN BK514 hg
                  replace BK514 := bK BK514 hb
                  have NB513_514 := Aside0.mk NB514_513.out.symm
                  clear hb hbox hg
                  refine hK.out _ _ ⟨bC BK505 0 rfl, bC BK505 1 rfl, bC BK505 2 rfl, bC BK505 3 rfl, (kC HB hw506_0), (kC HB hw510_0)⟩ (fun hHeld => ?_)
                  clear hK K
                  refine norm_ (a' := ?_) ?_ ?_
                  rotate_left
                  ·show Act.put _ (some 8) _ = _
                   simp only [sP]
                   rfl
                  exact norm_ (by first | (simp only [putAll, sP]; done) | (simp only [putAll, sP]; rfl)) (hJ12_13 (gb513, gb514) _ ⟨hHeld, (by (with_reducible repeat (first | apply Kd.R_alloc | apply Kd.R_drewN | apply Kd.R_drew)); exact HO_6.out), (uK BK505), (uK BK513), (uK BK514), GW513.out, GE513.out, NB505_513.out, NB513_505.out, NB514_513.out, NB513_514.out, GW514.out, GE514.out, NB505_514.out, NB514_505.out, (by repeat (first | (with_reducible first | exact HB.out | apply bL | apply bM | apply bR | refine bS ?_ GE505.out | refine bS ?_ GE514.out | refine bS ?_ GE513.out) | exact HB.out))⟩)
               ·skip
                rintro gb513 w17 ⟨hS_, h0_, h1_, h2_, h3_, h4_, h5_, h6_, h7_⟩
                have n0_ : Aside0 (Kd.R k53 53 w17 w.heap.size (fun _ => True) u6 x6_1) := ⟨h0_⟩
                have n1_ : Aside0 (w17.heap[gb505]? = some (.cells #[.string t501, .int .i64 t502, .int .i64 t503, .int .i64 t504] 32 (0, 0))) := ⟨h1_⟩
                have n2_ : Aside0 (w17.heap[gb513]? = some (.cells #[.int .i64 0, .int .i64 0, .int .i64 0] 24 (0, 0))) := ⟨h2_⟩
                have n3_ : Aside0 (w.heap.size ≤ gb513) := ⟨h3_⟩
                have n4_ : Aside0 (w.heap.size ≤ gb513) := ⟨h4_⟩
                have n5_ : Aside0 (gb505 ≠ gb513) := ⟨h5_⟩
                have n6_ : Aside0 (gb513 ≠ gb505) := ⟨h6_⟩
                have n7_ : Aside0 (Below w.heap.size w w17) := ⟨h7_⟩
                clear HO_6
                clear BK505
                clear HB
                clear h0_ h1_ h2_ h3_ h4_ h5_ h6_ h7_
                have HO_6 := n0_
                have BK505 := n1_
                have BK513 := n2_
                have GW513 := n3_
                have GE513 := n4_
                have NB505_513 := n5_
                have NB513_505 := n6_
                have HB := n7_
                clear n0_ n1_ n2_ n3_ n4_ n5_ n6_ n7_
                have hHeld : w17.cell? ⟨gb505, 0, none⟩ = some (.string t501) ∧ w17.cell? ⟨gb505, 1, none⟩ = some (.int .i64 t502) ∧ w17.cell? ⟨gb505, 2, none⟩ = some (.int .i64 t503) ∧ w17.cell? ⟨gb505, 3, none⟩ = some (.int .i64 t504) ∧ w17.cell? (ad506.add (x7_1).toNat) = some (.int .i64 (rd l1 x7_1)) ∧ w17.cell? (ad506.add (x7_1).toNat) = some (.int .i64 (rd l1 x7_1)) := hS_
                refine norm_ (a' := ?_) ?_ ?_
                rotate_left
                ·simp only [putAll, sP]
                 rfl
                refine two_ (i := 4) (j := 13) (Ni := some 26) (Nj := some 9) q26_4 q26_6 rfl rfl rfl rfl (two_of HT_.out (by kernel_rfl)) (by decide) (by decide) (fun K hK => ?_) (fun K hK => ?_)
                ·skip
                 refine goes_ Tryd.func23 (by kernel_rfl) rfl #[.int .i64 (rd l1 x7_1)] (by rfl) rfl rfl (by (try simp only [mA]); first | done | rfl) ?_
                 with_reducible refine (clusterlocksmill_Proc.calls (rd l1 x7_1) t507 t508 t509 _ A11.out).mono ?_
                 rintro e w18 ⟨rfl, hb⟩
                 refine ⟨_, rfl, ?_⟩
                 replace HO_6 := Aside0.mk (Kd.R_below (by (with_reducible repeat (first | apply Kd.R_alloc | apply Kd.R_drewN | apply Kd.R_drew)); exact HO_6.out) hb)
                 replace BK505 := bK BK505 hb
                 replace BK513 := bK BK513 hb
                 replace HB := Aside0.mk (below_step (by repeat (first | (with_reducible first | exact HB.out | apply bL | apply bM | apply bR | refine bS ?_ GE505.out | refine bS ?_ GE513.out) | exact HB.out)) hb)
                 (try clear hb)
                 (try clear hk)
                 refine hK.out _ _ ⟨bC BK505 0 rfl, bC BK505 1 rfl, bC BK505 2 rfl, bC BK505 3 rfl, (kC HB hw506_0), (kC HB hw510_0)⟩ (fun hHeld => ?_)
                 clear hK K
                 refine norm_ (a' := ?_) ?_ ?_
                 rotate_left
                 ·show Act.put _ (some 26) _ = _
                  simp only [sP]
                  rfl
                 exact norm_ (by first | (simp only [putAll, sP]; done) | (simp only [putAll, sP]; rfl)) (hJ4_12 (gb513) _ ⟨hHeld, (by (with_reducible repeat (first | apply Kd.R_alloc | apply Kd.R_drewN | apply Kd.R_drew)); exact HO_6.out), (uK BK505), (uK BK513), GW513.out, GE513.out, NB505_513.out, NB513_505.out, (by repeat (first | (with_reducible first | exact HB.out | apply bL | apply bM | apply bR | refine bS ?_ GE505.out | refine bS ?_ GE513.out) | exact HB.out))⟩)
                ·skip
                 refine box_step ?hg (N := 9) ?hd (cs := #[.int .i64 0, .int .i64 0]) (t := 26) ?hr ?_; (case hd => rfl); (case hg => rfl); (case hr => first | (go_simp; done) | (go_simp; rfl))
                 intro gb514 hg w18 hbox hb
                 replace HO_6 := Aside0.mk (Kd.R_below (by (with_reducible repeat (first | apply Kd.R_alloc | apply Kd.R_drewN | apply Kd.R_drew)); exact HO_6.out) hb)
                 have BK514 := Aside0.mk hbox
                 have GW514 := Aside0.mk ((by rw [hg]; exact (below_size (by repeat (first | (with_reducible first | exact HB.out | apply bL | apply bM | apply bR | refine bS ?_ GE505.out | refine bS ?_ GE513.out) | exact HB.out))) : w.heap.size ≤ gb514))
                 have GE514 := Aside0.mk ((by rw [hg]; exact (below_size (by repeat (first | (with_reducible first | exact HB.out | apply bL | apply bM | apply bR | refine bS ?_ GE505.out | refine bS ?_ GE513.out) | exact HB.out))) : w.heap.size ≤ gb514))
                 replace HB := Aside0.mk (below_step (by repeat (first | (with_reducible first | exact HB.out | apply bL | apply bM | apply bR | refine bS ?_ GE505.out | refine bS ?_ GE513.out) | exact HB.out)) hb)
                 have NB505_514 := gN BK505 hg
                 replace BK505 := bK BK505 hb
                 have NB514_505 := Aside0.mk NB505_514.out.symm
                 have NB513_514 := gN BK513 hg
                 replace BK513 := bK BK513 hb
                 have NB514_513 := Aside0.mk NB513_514.out.symm
                 clear hb hbox hg
                 refine hK.out _ _ ⟨bC BK505 0 rfl, bC BK505 1 rfl, bC BK505 2 rfl, bC BK505 3 rfl, (kC HB hw506_0), (kC HB hw510_0)⟩ (fun hHeld => ?_)
                 clear hK K
                 refine norm_ (a' := ?_) ?_ ?_
                 rotate_left
                 ·show Act.put _ (some 9) _ = _
                  simp only [sP]
                  rfl
                 exact norm_ (by first | (simp only [putAll, sP]; done) | (simp only [putAll, sP]; rfl)) (hJ12_13 (gb513, gb514) _ ⟨hHeld, (by (with_reducible repeat (first | apply Kd.R_alloc | apply Kd.R_drewN | apply Kd.R_drew)); exact HO_6.out), (uK BK505), (uK BK513), (uK BK514), GW513.out, GE513.out, NB505_513.out, NB513_505.out, NB514_513.out, NB513_514.out, GW514.out, GE514.out, NB505_514.out, NB514_505.out, (by repeat (first | (with_reducible first | exact HB.out | apply bL | apply bM | apply bR | refine bS ?_ GE505.out | refine bS ?_ GE513.out | refine bS ?_ GE514.out) | exact HB.out))⟩)
              ·skip
               rintro _ w17 ⟨hS_, h0_, h1_, h2_⟩
               have n0_ : Aside0 (Kd.R k53 53 w17 w.heap.size (fun _ => True) u6 x6_1) := ⟨h0_⟩
               have n1_ : Aside0 (w17.heap[gb505]? = some (.cells #[.string t501, .int .i64 t502, .int .i64 t503, .int .i64 t504] 32 (0, 0))) := ⟨h1_⟩
               have n2_ : Aside0 (Below w.heap.size w w17) := ⟨h2_⟩
               clear HO_6
               clear BK505
               clear HB
               clear h0_ h1_ h2_
               have HO_6 := n0_
               have BK505 := n1_
               have HB := n2_
               clear n0_ n1_ n2_
               have hHeld : w17.cell? ⟨gb505, 0, none⟩ = some (.string t501) ∧ w17.cell? ⟨gb505, 1, none⟩ = some (.int .i64 t502) ∧ w17.cell? ⟨gb505, 2, none⟩ = some (.int .i64 t503) ∧ w17.cell? ⟨gb505, 3, none⟩ = some (.int .i64 t504) ∧ w17.cell? (ad506.add (x7_1).toNat) = some (.int .i64 (rd l1 x7_1)) ∧ w17.cell? (ad506.add (x7_1).toNat) = some (.int .i64 (rd l1 x7_1)) := hS_
               refine norm_ (a' := ?_) ?_ ?_
               rotate_left
               ·simp only [putAll, sP]
                rfl
               refine three_ (i := 11) (j := 12) (k := 13) (Ni := some 33) (Nj := some 8) (Nk := some 9) #[T,T,T,T,T,T,T,T,T,T,T,T,F,F,F,F] q26_4 q26_5 rfl rfl rfl rfl rfl rfl (three_of HT_.out (by kernel_rfl)) (by decide) (by decide) (by decide) (fun K hK => ?_) (fun K hK => ?_) (fun K hK => ?_)
               ·skip
                refine goes_ Tryd.func24 (by kernel_rfl) rfl #[.agg #[.string t501, .int .i64 t502, .int .i64 t503, .int .i64 t504], .int .i64 ((rd l1 x7_1) / 8)] (by rfl) rfl rfl (by (try simp only [mA]); first | done | rfl) ?_
                with_reducible refine (clusterlocksmill_Amount.calls t501 t502 t503 t504 ((rd l1 x7_1) / 8) t511 t512 _ A12.out).mono ?_
                rintro e w18 ⟨rfl, hb⟩
                refine ⟨_, rfl, ?_⟩
                replace HO_6 := Aside0.mk (Kd.R_below (by (with_reducible repeat (first | apply Kd.R_alloc | apply Kd.R_drewN | apply Kd.R_drew)); exact HO_6.out) hb)
                replace BK505 := bK BK505 hb
                replace HB := Aside0.mk (below_step (by repeat (first | (with_reducible first | exact HB.out | apply bL | apply bM | apply bR | refine bS ?_ GE505.out) | exact HB.out)) hb)
                (try clear hb)
                (try clear hk)
                refine hK.out _ _ ⟨bC BK505 0 rfl, bC BK505 1 rfl, bC BK505 2 rfl, bC BK505 3 rfl, (kC HB hw506_0), (kC HB hw510_0)⟩ (fun hHeld => ?_)
                clear hK K
                refine norm_ (a' := ?_) ?_ ?_
                rotate_left
                ·show Act.put _ (some 33) _ = _
                 simp only [sP]
                 rfl
                exact norm_ (by first | (simp only [putAll, sP]; done) | (simp only [putAll, sP]; rfl)) (hJ4_11 () _ ⟨hHeld, (by (with_reducible repeat (first | apply Kd.R_alloc | apply Kd.R_drewN | apply Kd.R_drew)); exact HO_6.out), (uK BK505), (by repeat (first | (with_reducible first | exact HB.out | apply bL | apply bM | apply bR | refine bS ?_ GE505.out) | exact HB.out))⟩)
               ·skip
                refine box_step ?hg (N := 8) ?hd (cs := #[.int .i64 0, .int .i64 0, .int .i64 0]) (t := 24) ?hr ?_; (case hd => rfl); (case hg => rfl); (case hr => first | (go_simp; done) | (go_simp; rfl))
                intro gb513 hg w18 hbox hb
                replace HO_6 := Aside0.mk (Kd.R_below (by (with_reducible repeat (first | apply Kd.R_alloc | apply Kd.R_drewN | apply Kd.R_drew)); exact HO_6.out) hb)
                have BK513 := Aside0.mk hbox
                have GW513 := Aside0.mk ((by rw [hg]; exact (below_size (by repeat (first | (with_reducible first | exact HB.out | apply bL | apply bM | apply bR | refine bS ?_ GE505.out) | exact HB.out))) : w.heap.size ≤ gb513))
                have GE513 := Aside0.mk ((by rw [hg]; exact (below_size (by repeat (first | (with_reducible first | exact HB.out | apply bL | apply bM | apply bR | refine bS ?_ GE505.out) | exact HB.out))) : w.heap.size ≤ gb513))
                replace HB := Aside0.mk (below_step (by repeat (first | (with_reducible first | exact HB.out | apply bL | apply bM | apply bR | refine bS ?_ GE505.out) | exact HB.out)) hb)
                have NB505_513 := gN BK505 hg
                replace BK505 := bK BK505 hb
                have NB513_505 := Aside0.mk NB505_513.out.symm
                clear hb hbox hg
                refine hK.out _ _ ⟨bC BK505 0 rfl, bC BK505 1 rfl, bC BK505 2 rfl, bC BK505 3 rfl, (kC HB hw506_0), (kC HB hw510_0)⟩ (fun hHeld => ?_)
                clear hK K
                refine norm_ (a' := ?_) ?_ ?_
                rotate_left
                ·show Act.put _ (some 8) _ = _
                 simp only [sP]
                 rfl
                exact norm_ (by first | (simp only [putAll, sP]; done) | (simp only [putAll, sP]; rfl)) (hJ4_12 (gb513) _ ⟨hHeld, (by (with_reducible repeat (first | apply Kd.R_alloc | apply Kd.R_drewN | apply Kd.R_drew)); exact HO_6.out), (uK BK505), (uK BK513), GW513.out, GE513.out, NB505_513.out, NB513_505.out, (by repeat (first | (with_reducible first | exact HB.out | apply bL | apply bM | apply bR | refine bS ?_ GE505.out | refine bS ?_ GE513.out) | exact HB.out))⟩)
               ·skip
                refine box_step ?hg (N := 9) ?hd (cs := #[.int .i64 0, .int .i64 0]) (t := 26) ?hr ?_; (case hd => rfl); (case hg => rfl); (case hr => first | (go_simp; done) | (go_simp; rfl))
                intro gb514 hg w18 hbox hb
                replace HO_6 := Aside0.mk (Kd.R_below (by (with_reducible repeat (first | apply Kd.R_alloc | apply Kd.R_drewN | apply Kd.R_drew)); exact HO_6.out) hb)
                have BK514 := Aside0.mk hbox
                have GW514 := Aside0.mk ((by rw [hg]; exact (below_size (by repeat (first | (with_reducible first | exact HB.out | apply bL | apply bM | apply bR | refine bS ?_ GE505.out) | exact HB.out))) : w.heap.size ≤ gb514))
                have GE514 := Aside0.mk ((by rw [hg]; exact (below_size (by repeat (first | (with_reducible first | exact HB.out | apply bL | apply bM | apply bR | refine bS ?_ GE505.out) | exact HB.out))) : w.heap.size ≤ gb514))
                replace HB := Aside0.mk (below_step (by repeat (first | (with_reducible first | exact HB.out | apply bL | apply bM | apply bR | refine bS ?_ GE505.out) | exact HB.out)) hb)
                have NB505_514 := gN BK505 hg
                replace BK505 := bK BK505 hb
                have NB514_505 := Aside0.mk NB505_514.out.symm
                clear hb hbox hg
                refine hK.out _ _ ⟨bC BK505 0 rfl, bC BK505 1 rfl, bC BK505 2 rfl, bC BK505 3 rfl, (kC HB hw506_0), (kC HB hw510_0)⟩ (fun hHeld => ?_)
                clear hK K
                refine norm_ (a' := ?_) ?_ ?_
                rotate_left
                ·show Act.put _ (some 9) _ = _
                 simp only [sP]
                 rfl
                exact norm_ (by first | (simp only [putAll, sP]; done) | (simp only [putAll, sP]; rfl)) (hJ4_13 (gb514) _ ⟨hHeld, (by (with_reducible repeat (first | apply Kd.R_alloc | apply Kd.R_drewN | apply Kd.R_drew)); exact HO_6.out), (uK BK505), (uK BK514), GW514.out, GE514.out, NB505_514.out, NB514_505.out, (by repeat (first | (with_reducible first | exact HB.out | apply bL | apply bM | apply bR | refine bS ?_ GE505.out | refine bS ?_ GE514.out) | exact HB.out))⟩)
             ·skip
              rintro ⟨gb513, gb514⟩ w18 ⟨hS_, h0_, h1_, h2_, h3_, h4_, h5_, h6_, h7_, h8_, h9_, h10_, h11_, h12_, h13_, h14_⟩
              have n0_ : Aside0 (Kd.R k53 53 w18 w.heap.size (fun _ => True) u6 x6_1) := ⟨h0_⟩
              have n1_ : Aside0 (w18.heap[gb505]? = some (.cells #[.string t501, .int .i64 t502, .int .i64 t503, .int .i64 t504] 32 (0, 0))) := ⟨h1_⟩
              have n2_ : Aside0 (w18.heap[gb513]? = some (.cells #[.int .i64 0, .int .i64 0, .int .i64 0] 24 (0, 0))) := ⟨h2_⟩
              have n3_ : Aside0 (w18.heap[gb514]? = some (.cells #[.int .i64 0, .int .i64 0] 26 (0, 0))) := ⟨h3_⟩
              have n4_ : Aside0 (w.heap.size ≤ gb513) := ⟨h4_⟩
              have n5_ : Aside0 (w.heap.size ≤ gb513) := ⟨h5_⟩
              have n6_ : Aside0 (gb505 ≠ gb513) := ⟨h6_⟩
              have n7_ : Aside0 (gb513 ≠ gb505) := ⟨h7_⟩
              have n8_ : Aside0 (gb514 ≠ gb513) := ⟨h8_⟩
              have n9_ : Aside0 (gb513 ≠ gb514) := ⟨h9_⟩
              have n10_ : Aside0 (w.heap.size ≤ gb514) := ⟨h10_⟩
              have n11_ : Aside0 (w.heap.size ≤ gb514) := ⟨h11_⟩
              have n12_ : Aside0 (gb505 ≠ gb514) := ⟨h12_⟩
              have n13_ : Aside0 (gb514 ≠ gb505) := ⟨h13_⟩
              have n14_ : Aside0 (Below w.heap.size w w18) := ⟨h14_⟩
              clear HO_6
              clear BK505
              clear HB
              clear h0_ h1_ h2_ h3_ h4_ h5_ h6_ h7_ h8_ h9_ h10_ h11_ h12_ h13_ h14_
              have HO_6 := n0_
              have BK505 := n1_
              have BK513 := n2_
              have BK514 := n3_
              have GW513 := n4_
              have GE513 := n5_
              have NB505_513 := n6_
              have NB513_505 := n7_
              have NB514_513 := n8_
              have NB513_514 := n9_
              have GW514 := n10_
              have GE514 := n11_
              have NB505_514 := n12_
              have NB514_505 := n13_
              have HB := n14_
              clear n0_ n1_ n2_ n3_ n4_ n5_ n6_ n7_ n8_ n9_ n10_ n11_ n12_ n13_ n14_
              have hHeld : w18.cell? ⟨gb505, 0, none⟩ = some (.string t501) ∧ w18.cell? ⟨gb505, 1, none⟩ = some (.int .i64 t502) ∧ w18.cell? ⟨gb505, 2, none⟩ = some (.int .i64 t503) ∧ w18.cell? ⟨gb505, 3, none⟩ = some (.int .i64 t504) ∧ w18.cell? (ad506.add (x7_1).toNat) = some (.int .i64 (rd l1 x7_1)) ∧ w18.cell? (ad506.add (x7_1).toNat) = some (.int .i64 (rd l1 x7_1)) := hS_
              refine norm_ (a' := ?_) ?_ ?_
              rotate_left
              ·simp only [putAll, sP]
               rfl
              refine one_ (i := 4) (N := some 26) q26_1 rfl rfl (one_of HT_.out (by kernel_rfl)) (by decide) (fun K hK => ?_)
              refine goes_ Tryd.func23 (by kernel_rfl) rfl #[.int .i64 (rd l1 x7_1)] (by rfl) rfl rfl (by (try simp only [mA]); first | done | rfl) ?_
              with_reducible refine (clusterlocksmill_Proc.calls (rd l1 x7_1) t507 t508 t509 _ A11.out).mono ?_
              rintro e w19 ⟨rfl, hb⟩
              refine ⟨_, rfl, ?_⟩
              replace HO_6 := Aside0.mk (Kd.R_below (by (with_reducible repeat (first | apply Kd.R_alloc | apply Kd.R_drewN | apply Kd.R_drew)); exact HO_6.out) hb)
              replace BK505 := bK BK505 hb
              replace BK513 := bK BK513 hb
              replace BK514 := bK BK514 hb
              replace HB := Aside0.mk (below_step (by repeat (first | (with_reducible first | exact HB.out | apply bL | apply bM | apply bR | refine bS ?_ GE505.out | refine bS ?_ GE513.out | refine bS ?_ GE514.out) | exact HB.out)) hb)
              (try clear hb)
              (try clear hk)
              refine hK.out _ _ ⟨bC BK505 0 rfl, bC BK505 1 rfl, bC BK505 2 rfl, bC BK505 3 rfl, (kC HB hw506_0), (kC HB hw510_0)⟩ (fun hHeld => ?_)
              clear hK K
              refine norm_ (a' := ?_) ?_ ?_
              rotate_left
              ·show Act.put _ (some 26) _ = _
               simp only [sP]
               rfl
              exact norm_ (by first | (simp only [putAll, sP]; done) | (simp only [putAll, sP]; rfl)) (hJ4_12_13 (gb513, gb514) _ ⟨hHeld, (by (with_reducible repeat (first | apply Kd.R_alloc | apply Kd.R_drewN | apply Kd.R_drew)); exact HO_6.out), (uK BK505), (uK BK513), (uK BK514), GW513.out, GE513.out, NB505_513.out, NB513_505.out, NB514_513.out, NB513_514.out, GW514.out, GE514.out, NB505_514.out, NB514_505.out, (by repeat (first | (with_reducible first | exact HB.out | apply bL | apply bM | apply bR | refine bS ?_ GE505.out | refine bS ?_ GE513.out | refine bS ?_ GE514.out) | exact HB.out))⟩)
            ·skip
             rintro gb514 w18 ⟨hS_, h0_, h1_, h2_, h3_, h4_, h5_, h6_, h7_⟩
             have n0_ : Aside0 (Kd.R k53 53 w18 w.heap.size (fun _ => True) u6 x6_1) := ⟨h0_⟩
             have n1_ : Aside0 (w18.heap[gb505]? = some (.cells #[.string t501, .int .i64 t502, .int .i64 t503, .int .i64 t504] 32 (0, 0))) := ⟨h1_⟩
             have n2_ : Aside0 (w18.heap[gb514]? = some (.cells #[.int .i64 0, .int .i64 0] 26 (0, 0))) := ⟨h2_⟩
             have n3_ : Aside0 (w.heap.size ≤ gb514) := ⟨h3_⟩
             have n4_ : Aside0 (w.heap.size ≤ gb514) := ⟨h4_⟩
             have n5_ : Aside0 (gb505 ≠ gb514) := ⟨h5_⟩
             have n6_ : Aside0 (gb514 ≠ gb505) := ⟨h6_⟩
             have n7_ : Aside0 (Below w.heap.size w w18) := ⟨h7_⟩
             clear HO_6
             clear BK505
             clear HB
             clear h0_ h1_ h2_ h3_ h4_ h5_ h6_ h7_
             have HO_6 := n0_
             have BK505 := n1_
             have BK514 := n2_
             have GW514 := n3_
             have GE514 := n4_
             have NB505_514 := n5_
             have NB514_505 := n6_
             have HB := n7_
             clear n0_ n1_ n2_ n3_ n4_ n5_ n6_ n7_
             have hHeld : w18.cell? ⟨gb505, 0, none⟩ = some (.string t501) ∧ w18.cell? ⟨gb505, 1, none⟩ = some (.int .i64 t502) ∧ w18.cell? ⟨gb505, 2, none⟩ = some (.int .i64 t503) ∧ w18.cell? ⟨gb505, 3, none⟩ = some (.int .i64 t504) ∧ w18.cell? (ad506.add (x7_1).toNat) = some (.int .i64 (rd l1 x7_1)) ∧ w18.cell? (ad506.add (x7_1).toNat) = some (.int .i64 (rd l1 x7_1)) := hS_
             refine norm_ (a' := ?_) ?_ ?_
             rotate_left
             ·simp only [putAll, sP]
              rfl
             refine two_ (i := 11) (j := 12) (Ni := some 33) (Nj := some 8) q26_3 q26_1 rfl rfl rfl rfl (two_of HT_.out (by kernel_rfl)) (by decide) (by decide) (fun K hK => ?_) (fun K hK => ?_)
             ·skip
              refine goes_ Tryd.func24 (by kernel_rfl) rfl #[.agg #[.string t501, .int .i64 t502, .int .i64 t503, .int .i64 t504], .int .i64 ((rd l1 x7_1) / 8)] (by rfl) rfl rfl (by (try simp only [mA]); first | done | rfl) ?_
              with_reducible refine (clusterlocksmill_Amount.calls t501 t502 t503 t504 ((rd l1 x7_1) / 8) t511 t512 _ A12.out).mono ?_
              rintro e w19 ⟨rfl, hb⟩
              refine ⟨_, rfl, ?_⟩
              replace HO_6 := Aside0.mk (Kd.R_below (by (with_reducible repeat (first | apply Kd.R_alloc | apply Kd.R_drewN | apply Kd.R_drew)); exact HO_6.out) hb)
              replace BK505 := bK BK505 hb
              replace BK514 := bK BK514 hb
              replace HB := Aside0.mk (below_step (by repeat (first | (with_reducible first | exact HB.out | apply bL | apply bM | apply bR | refine bS ?_ GE505.out | refine bS ?_ GE514.out) | exact HB.out)) hb)
              (try clear hb)
              (try clear hk)
              refine hK.out _ _ ⟨bC BK505 0 rfl, bC BK505 1 rfl, bC BK505 2 rfl, bC BK505 3 rfl, (kC HB hw506_0), (kC HB hw510_0)⟩ (fun hHeld => ?_)
              clear hK K
              refine norm_ (a' := ?_) ?_ ?_
              rotate_left
              ·show Act.put _ (some 33) _ = _
               simp only [sP]
               rfl
              exact norm_ (by first | (simp only [putAll, sP]; done) | (simp only [putAll, sP]; rfl)) (hJ4_11_13 (gb514) _ ⟨hHeld, (by (with_reducible repeat (first | apply Kd.R_alloc | apply Kd.R_drewN | apply Kd.R_drew)); exact HO_6.out), (uK BK505), (uK BK514), GW514.out, GE514.out, NB505_514.out, NB514_505.out, (by repeat (first | (with_reducible first | exact HB.out | apply bL | apply bM | apply bR | refine bS ?_ GE505.out | refine bS ?_ GE514.out) | exact HB.out))⟩)
             ·skip
              refine box_step ?hg (N := 8) ?hd (cs := #[.int .i64 0, .int .i64 0, .int .i64 0]) (t := 24) ?hr ?_; (case hd => rfl); (case hg => rfl); (case hr => first | (go_simp; done) | (go_simp; rfl))
              intro gb513 hg w19 hbox hb
              replace HO_6 := Aside0.mk (Kd.R_below (by (with_reducible repeat (first | apply Kd.R_alloc | apply Kd.R_drewN | apply Kd.R_drew)); exact HO_6.out) hb)
              have BK513 := Aside0.mk hbox
              have GW513 := Aside0.mk ((by rw [hg]; exact (below_size (by repeat (first | (with_reducible first | exact HB.out | apply bL | apply bM | apply bR | refine bS ?_ GE505.out | refine bS ?_ GE514.out) | exact HB.out))) : w.heap.size ≤ gb513))
              have GE513 := Aside0.mk ((by rw [hg]; exact (below_size (by repeat (first | (with_reducible first | exact HB.out | apply bL | apply bM | apply bR | refine bS ?_ GE505.out | refine bS ?_ GE514.out) | exact HB.out))) : w.heap.size ≤ gb513))
              replace HB := Aside0.mk (below_step (by repeat (first | (with_reducible first | exact HB.out | apply bL | apply bM | apply bR | refine bS ?_ GE505.out | refine bS ?_ GE514.out) | exact HB.out)) hb)
              have NB505_513 := gN BK505 hg
              replace BK505 := bK BK505 hb
              have NB513_505 := Aside0.mk NB505_513.out.symm
              have NB514_513 := gN BK514 hg
              replace BK514 := bK BK514 hb
              have NB513_514 := Aside0.mk NB514_513.out.symm
              clear hb hbox hg
              refine hK.out _ _ ⟨bC BK505 0 rfl, bC BK505 1 rfl, bC BK505 2 rfl, bC BK505 3 rfl, (kC HB hw506_0), (kC HB hw510_0)⟩ (fun hHeld => ?_)
              clear hK K
              refine norm_ (a' := ?_) ?_ ?_
              rotate_left
              ·show Act.put _ (some 8) _ = _
               simp only [sP]
               rfl
              exact norm_ (by first | (simp only [putAll, sP]; done) | (simp only [putAll, sP]; rfl)) (hJ4_12_13 (gb513, gb514) _ ⟨hHeld, (by (with_reducible repeat (first | apply Kd.R_alloc | apply Kd.R_drewN | apply Kd.R_drew)); exact HO_6.out), (uK BK505), (uK BK513), (uK BK514), GW513.out, GE513.out, NB505_513.out, NB513_505.out, NB514_513.out, NB513_514.out, GW514.out, GE514.out, NB505_514.out, NB514_505.out, (by repeat (first | (with_reducible first | exact HB.out | apply bL | apply bM | apply bR | refine bS ?_ GE505.out | refine bS ?_ GE514.out | refine bS ?_ GE513.out) | exact HB.out))⟩)
           ·skip
            rintro gb513 w18 ⟨hS_, h0_, h1_, h2_, h3_, h4_, h5_, h6_, h7_⟩
            have n0_ : Aside0 (Kd.R k53 53 w18 w.heap.size (fun _ => True) u6 x6_1) := ⟨h0_⟩
            have n1_ : Aside0 (w18.heap[gb505]? = some (.cells #[.string t501, .int .i64 t502, .int .i64 t503, .int .i64 t504] 32 (0, 0))) := ⟨h1_⟩
            have n2_ : Aside0 (w18.heap[gb513]? = some (.cells #[.int .i64 0, .int .i64 0, .int .i64 0] 24 (0, 0))) := ⟨h2_⟩
            have n3_ : Aside0 (w.heap.size ≤ gb513) := ⟨h3_⟩
            have n4_ : Aside0 (w.heap.size ≤ gb513) := ⟨h4_⟩
            have n5_ : Aside0 (gb505 ≠ gb513) := ⟨h5_⟩
            have n6_ : Aside0 (gb513 ≠ gb505) := ⟨h6_⟩
            have n7_ : Aside0 (Below w.heap.size w w18) := ⟨h7_⟩
            clear HO_6
            clear BK505
            clear HB
            clear h0_ h1_ h2_ h3_ h4_ h5_ h6_ h7_
            have HO_6 := n0_
            have BK505 := n1_
            have BK513 := n2_
            have GW513 := n3_
            have GE513 := n4_
            have NB505_513 := n5_
            have NB513_505 := n6_
            have HB := n7_
            clear n0_ n1_ n2_ n3_ n4_ n5_ n6_ n7_
            have hHeld : w18.cell? ⟨gb505, 0, none⟩ = some (.string t501) ∧ w18.cell? ⟨gb505, 1, none⟩ = some (.int .i64 t502) ∧ w18.cell? ⟨gb505, 2, none⟩ = some (.int .i64 t503) ∧ w18.cell? ⟨gb505, 3, none⟩ = some (.int .i64 t504) ∧ w18.cell? (ad506.add (x7_1).toNat) = some (.int .i64 (rd l1 x7_1)) ∧ w18.cell? (ad506.add (x7_1).toNat) = some (.int .i64 (rd l1 x7_1)) := hS_
            refine norm_ (a' := ?_) ?_ ?_
            rotate_left
            ·simp only [putAll, sP]
             rfl
            refine two_ (i := 11) (j := 13) (Ni := some 33) (Nj := some 9) q26_2 q26_1 rfl rfl rfl rfl (two_of HT_.out (by kernel_rfl)) (by decide) (by decide) (fun K hK => ?_) (fun K hK => ?_)
            ·skip
             refine goes_ Tryd.func24 (by kernel_rfl) rfl #[.agg #[.string t501, .int .i64 t502, .int .i64 t503, .int .i64 t504], .int .i64 ((rd l1 x7_1) / 8)] (by rfl) rfl rfl (by (try simp only [mA]); first | done | rfl) ?_
             with_reducible refine (clusterlocksmill_Amount.calls t501 t502 t503 t504 ((rd l1 x7_1) / 8) t511 t512 _ A12.out).mono ?_
             rintro e w19 ⟨rfl, hb⟩
             refine ⟨_, rfl, ?_⟩
             replace HO_6 := Aside0.mk (Kd.R_below (by (with_reducible repeat (first | apply Kd.R_alloc | apply Kd.R_drewN | apply Kd.R_drew)); exact HO_6.out) hb)
             replace BK505 := bK BK505 hb
             replace BK513 := bK BK513 hb
             replace HB := Aside0.mk (below_step (by repeat (first | (with_reducible first | exact HB.out | apply bL | apply bM | apply bR | refine bS ?_ GE505.out | refine bS ?_ GE513.out) | exact HB.out)) hb)
             (try clear hb)
             (try clear hk)
             refine hK.out _ _ ⟨bC BK505 0 rfl, bC BK505 1 rfl, bC BK505 2 rfl, bC BK505 3 rfl, (kC HB hw506_0), (kC HB hw510_0)⟩ (fun hHeld => ?_)
             clear hK K
             refine norm_ (a' := ?_) ?_ ?_
             rotate_left
             ·show Act.put _ (some 33) _ = _
              simp only [sP]
              rfl
             exact norm_ (by first | (simp only [putAll, sP]; done) | (simp only [putAll, sP]; rfl)) (hJ4_11_12 (gb513) _ ⟨hHeld, (by (with_reducible repeat (first | apply Kd.R_alloc | apply Kd.R_drewN | apply Kd.R_drew)); exact HO_6.out), (uK BK505), (uK BK513), GW513.out, GE513.out, NB505_513.out, NB513_505.out, (by repeat (first | (with_reducible first | exact HB.out | apply bL | apply bM | apply bR | refine bS ?_ GE505.out | refine bS ?_ GE513.out) | exact HB.out))⟩)
            ·skip
             refine box_step ?hg (N := 9) ?hd (cs := #[.int .i64 0, .int .i64 0]) (t := 26) ?hr ?_; (case hd => rfl); (case hg => rfl); (case hr => first | (go_simp; done) | (go_simp; rfl))
             intro gb514 hg w19 hbox hb
             replace HO_6 := Aside0.mk (Kd.R_below (by (with_reducible repeat (first | apply Kd.R_alloc | apply Kd.R_drewN | apply Kd.R_drew)); exact HO_6.out) hb)
             have BK514 := Aside0.mk hbox
             have GW514 := Aside0.mk ((by rw [hg]; exact (below_size (by repeat (first | (with_reducible first | exact HB.out | apply bL | apply bM | apply bR | refine bS ?_ GE505.out | refine bS ?_ GE513.out) | exact HB.out))) : w.heap.size ≤ gb514))
             have GE514 := Aside0.mk ((by rw [hg]; exact (below_size (by repeat (first | (with_reducible first | exact HB.out | apply bL | apply bM | apply bR | refine bS ?_ GE505.out | refine bS ?_ GE513.out) | exact HB.out))) : w.heap.size ≤ gb514))
             replace HB := Aside0.mk (below_step (by repeat (first | (with_reducible first | exact HB.out | apply bL | apply bM | apply bR | refine bS ?_ GE505.out | refine bS ?_ GE513.out) | exact HB.out)) hb)
             have NB505_514 := gN BK505 hg
             replace BK505 := bK BK505 hb
             have NB514_505 := Aside0.mk NB505_514.out.symm
             have NB513_514 := gN BK513 hg
             replace BK513 := bK BK513 hb
             have NB514_513 := Aside0.mk NB513_514.out.symm
             clear hb hbox hg
             refine hK.out _ _ ⟨bC BK505 0 rfl, bC BK505 1 rfl, bC BK505 2 rfl, bC BK505 3 rfl, (kC HB hw506_0), (kC HB hw510_0)⟩ (fun hHeld => ?_)
             clear hK K
             refine norm_ (a' := ?_) ?_ ?_
             rotate_left
             ·show Act.put _ (some 9) _ = _
              simp only [sP]
              rfl
             exact norm_ (by first | (simp only [putAll, sP]; done) | (simp only [putAll, sP]; rfl)) (hJ4_12_13 (gb513, gb514) _ ⟨hHeld, (by (with_reducible repeat (first | apply Kd.R_alloc | apply Kd.R_drewN | apply Kd.R_drew)); exact HO_6.out), (uK BK505), (uK BK513), (uK BK514), GW513.out, GE513.out, NB505_513.out, NB513_505.out, NB514_513.out, NB513_514.out, GW514.out, GE514.out, NB505_514.out, NB514_505.out, (by repeat (first | (with_reducible first | exact HB.out | apply bL | apply bM | apply bR | refine bS ?_ GE505.out | refine bS ?_ GE513.out | refine bS ?_ GE514.out) | exact HB.out))⟩)
          ·skip
           rintro _ w18 ⟨hS_, h0_, h1_, h2_⟩
           have n0_ : Aside0 (Kd.R k53 53 w18 w.heap.size (fun _ => True) u6 x6_1) := ⟨h0_⟩
           have n1_ : Aside0 (w18.heap[gb505]? = some (.cells #[.string t501, .int .i64 t502, .int .i64 t503, .int .i64 t504] 32 (0, 0))) := ⟨h1_⟩
           have n2_ : Aside0 (Below w.heap.size w w18) := ⟨h2_⟩
           clear HO_6
           clear BK505
           clear HB
           clear h0_ h1_ h2_
           have HO_6 := n0_
           have BK505 := n1_
           have HB := n2_
           clear n0_ n1_ n2_
           have hHeld : w18.cell? ⟨gb505, 0, none⟩ = some (.string t501) ∧ w18.cell? ⟨gb505, 1, none⟩ = some (.int .i64 t502) ∧ w18.cell? ⟨gb505, 2, none⟩ = some (.int .i64 t503) ∧ w18.cell? ⟨gb505, 3, none⟩ = some (.int .i64 t504) ∧ w18.cell? (ad506.add (x7_1).toNat) = some (.int .i64 (rd l1 x7_1)) ∧ w18.cell? (ad506.add (x7_1).toNat) = some (.int .i64 (rd l1 x7_1)) := hS_
           refine norm_ (a' := ?_) ?_ ?_
           rotate_left
           ·simp only [putAll, sP]
            rfl
           refine two_ (i := 12) (j := 13) (Ni := some 8) (Nj := some 9) q26_2 q26_3 rfl rfl rfl rfl (two_of HT_.out (by kernel_rfl)) (by decide) (by decide) (fun K hK => ?_) (fun K hK => ?_)
           ·skip
            refine box_step ?hg (N := 8) ?hd (cs := #[.int .i64 0, .int .i64 0, .int .i64 0]) (t := 24) ?hr ?_; (case hd => rfl); (case hg => rfl); (case hr => first | (go_simp; done) | (go_simp; rfl))
            intro gb513 hg w19 hbox hb
            replace HO_6 := Aside0.mk (Kd.R_below (by (with_reducible repeat (first | apply Kd.R_alloc | apply Kd.R_drewN | apply Kd.R_drew)); exact HO_6.out) hb)
            have BK513 := Aside0.mk hbox
            have GW513 := Aside0.mk ((by rw [hg]; exact (below_size (by repeat (first | (with_reducible first | exact HB.out | apply bL | apply bM | apply bR | refine bS ?_ GE505.out) | exact HB.out))) : w.heap.size ≤ gb513))
            have GE513 := Aside0.mk ((by rw [hg]; exact (below_size (by repeat (first | (with_reducible first | exact HB.out | apply bL | apply bM | apply bR | refine bS ?_ GE505.out) | exact HB.out))) : w.heap.size ≤ gb513))
            replace HB := Aside0.mk (below_step (by repeat (first | (with_reducible first | exact HB.out | apply bL | apply bM | apply bR | refine bS ?_ GE505.out) | exact HB.out)) hb)
            have NB505_513 := gN BK505 hg
            replace BK505 := bK BK505 hb
            have NB513_505 := Aside0.mk NB505_513.out.symm
            clear hb hbox hg
            refine hK.out _ _ ⟨bC BK505 0 rfl, bC BK505 1 rfl, bC BK505 2 rfl, bC BK505 3 rfl, (kC HB hw506_0), (kC HB hw510_0)⟩ (fun hHeld => ?_)
            clear hK K
            refine norm_ (a' := ?_) ?_ ?_
            rotate_left
            ·show Act.put _ (some 8) _ = _
             simp only [sP]
             rfl
            exact norm_ (by first | (simp only [putAll, sP]; done) | (simp only [putAll, sP]; rfl)) (hJ4_11_12 (gb513) _ ⟨hHeld, (by (with_reducible repeat (first | apply Kd.R_alloc | apply Kd.R_drewN | apply Kd.R_drew)); exact HO_6.out), (uK BK505), (uK BK513), GW513.out, GE513.out, NB505_513.out, NB513_505.out, (by repeat (first | (with_reducible first | exact HB.out | apply bL | apply bM | apply bR | refine bS ?_ GE505.out | refine bS ?_ GE513.out) | exact HB.out))⟩)
           ·skip
            refine box_step ?hg (N := 9) ?hd (cs := #[.int .i64 0, .int .i64 0]) (t := 26) ?hr ?_; (case hd => rfl); (case hg => rfl); (case hr => first | (go_simp; done) | (go_simp; rfl))
            intro gb514 hg w19 hbox hb
            replace HO_6 := Aside0.mk (Kd.R_below (by (with_reducible repeat (first | apply Kd.R_alloc | apply Kd.R_drewN | apply Kd.R_drew)); exact HO_6.out) hb)
            have BK514 := Aside0.mk hbox
            have GW514 := Aside0.mk ((by rw [hg]; exact (below_size (by repeat (first | (with_reducible first | exact HB.out | apply bL | apply bM | apply bR | refine bS ?_ GE505.out) | exact HB.out))) : w.heap.size ≤ gb514))
            have GE514 := Aside0.mk ((by rw [hg]; exact (below_size (by repeat (first | (with_reducible first | exact HB.out | apply bL | apply bM | apply bR | refine bS ?_ GE505.out) | exact HB.out))) : w.heap.size ≤ gb514))
            replace HB := Aside0.mk (below_step (by repeat (first | (with_reducible first | exact HB.out | apply bL | apply bM | apply bR | refine bS ?_ GE505.out) | exact HB.out)) hb)
            have NB505_514 := gN BK505 hg
            replace BK505 := bK BK505 hb
            have NB514_505 := Aside0.mk NB505_514.out.symm
            clear hb hbox hg
            refine hK.out _ _ ⟨bC BK505 0 rfl, bC BK505 1 rfl, bC BK505 2 rfl, bC BK505 3 rfl, (kC HB hw506_0), (kC HB hw510_0)⟩ (fun hHeld => ?_)
            clear hK K
            refine norm_ (a' := ?_) ?_ ?_
            rotate_left
            ·show Act.put _ (some 9) _ = _
             simp only [sP]
             rfl
            exact norm_ (by first | (simp only [putAll, sP]; done) | (simp only [putAll, sP]; rfl)) (hJ4_11_13 (gb514) _ ⟨hHeld, (by (with_reducible repeat (first | apply Kd.R_alloc | apply Kd.R_drewN | apply Kd.R_drew)); exact HO_6.out), (uK BK505), (uK BK514), GW514.out, GE514.out, NB505_514.out, NB514_505.out, (by repeat (first | (with_reducible first | exact HB.out | apply bL | apply bM | apply bR | refine bS ?_ GE505.out | refine bS ?_ GE514.out) | exact HB.out))⟩)
         ·skip
          rintro ⟨gb513, gb514⟩ w19 ⟨hS_, h0_, h1_, h2_, h3_, h4_, h5_, h6_, h7_, h8_, h9_, h10_, h11_, h12_, h13_, h14_⟩
          have n0_ : Aside0 (Kd.R k53 53 w19 w.heap.size (fun _ => True) u6 x6_1) := ⟨h0_⟩
          have n1_ : Aside0 (w19.heap[gb505]? = some (.cells #[.string t501, .int .i64 t502, .int .i64 t503, .int .i64 t504] 32 (0, 0))) := ⟨h1_⟩
          have n2_ : Aside0 (w19.heap[gb513]? = some (.cells #[.int .i64 0, .int .i64 0, .int .i64 0] 24 (0, 0))) := ⟨h2_⟩
          have n3_ : Aside0 (w19.heap[gb514]? = some (.cells #[.int .i64 0, .int .i64 0] 26 (0, 0))) := ⟨h3_⟩
          have n4_ : Aside0 (w.heap.size ≤ gb513) := ⟨h4_⟩
          have n5_ : Aside0 (w.heap.size ≤ gb513) := ⟨h5_⟩
          have n6_ : Aside0 (gb505 ≠ gb513) := ⟨h6_⟩
          have n7_ : Aside0 (gb513 ≠ gb505) := ⟨h7_⟩
          have n8_ : Aside0 (gb514 ≠ gb513) := ⟨h8_⟩
          have n9_ : Aside0 (gb513 ≠ gb514) := ⟨h9_⟩
          have n10_ : Aside0 (w.heap.size ≤ gb514) := ⟨h10_⟩
          have n11_ : Aside0 (w.heap.size ≤ gb514) := ⟨h11_⟩
          have n12_ : Aside0 (gb505 ≠ gb514) := ⟨h12_⟩
          have n13_ : Aside0 (gb514 ≠ gb505) := ⟨h13_⟩
          have n14_ : Aside0 (Below w.heap.size w w19) := ⟨h14_⟩
          clear HO_6
          clear BK505
          clear HB
          clear h0_ h1_ h2_ h3_ h4_ h5_ h6_ h7_ h8_ h9_ h10_ h11_ h12_ h13_ h14_
          have HO_6 := n0_
          have BK505 := n1_
          have BK513 := n2_
          have BK514 := n3_
          have GW513 := n4_
          have GE513 := n5_
          have NB505_513 := n6_
          have NB513_505 := n7_
          have NB514_513 := n8_
          have NB513_514 := n9_
          have GW514 := n10_
          have GE514 := n11_
          have NB505_514 := n12_
          have NB514_505 := n13_
          have HB := n14_
          clear n0_ n1_ n2_ n3_ n4_ n5_ n6_ n7_ n8_ n9_ n10_ n11_ n12_ n13_ n14_
          have hHeld : w19.cell? ⟨gb505, 0, none⟩ = some (.string t501) ∧ w19.cell? ⟨gb505, 1, none⟩ = some (.int .i64 t502) ∧ w19.cell? ⟨gb505, 2, none⟩ = some (.int .i64 t503) ∧ w19.cell? ⟨gb505, 3, none⟩ = some (.int .i64 t504) ∧ w19.cell? (ad506.add (x7_1).toNat) = some (.int .i64 (rd l1 x7_1)) ∧ w19.cell? (ad506.add (x7_1).toNat) = some (.int .i64 (rd l1 x7_1)) := hS_
          refine norm_ (a' := ?_) ?_ ?_
          rotate_left
          ·simp only [putAll, sP]
           rfl
          refine one_ (i := 11) (N := some 33) q26_0 rfl rfl (one_of HT_.out (by kernel_rfl)) (by decide) (fun K hK => ?_)
          refine goes_ Tryd.func24 (by kernel_rfl) rfl #[.agg #[.string t501, .int .i64 t502, .int .i64 t503, .int .i64 t504], .int .i64 ((rd l1 x7_1) / 8)] (by rfl) rfl rfl (by (try simp only [mA]); first | done | rfl) ?_
          with_reducible refine (clusterlocksmill_Amount.calls t501 t502 t503 t504 ((rd l1 x7_1) / 8) t511 t512 _ A12.out).mono ?_
          rintro e w20 ⟨rfl, hb⟩
          refine ⟨_, rfl, ?_⟩
          replace HO_6 := Aside0.mk (Kd.R_below (by (with_reducible repeat (first | apply Kd.R_alloc | apply Kd.R_drewN | apply Kd.R_drew)); exact HO_6.out) hb)
          replace BK505 := bK BK505 hb
          replace BK513 := bK BK513 hb
          replace BK514 := bK BK514 hb
          replace HB := Aside0.mk (below_step (by repeat (first | (with_reducible first | exact HB.out | apply bL | apply bM | apply bR | refine bS ?_ GE505.out | refine bS ?_ GE513.out | refine bS ?_ GE514.out) | exact HB.out)) hb)
          (try clear hb)
          (try clear hk)
          refine hK.out _ _ ⟨bC BK505 0 rfl, bC BK505 1 rfl, bC BK505 2 rfl, bC BK505 3 rfl, (kC HB hw506_0), (kC HB hw510_0)⟩ (fun hHeld => ?_)
          clear hK K
          refine norm_ (a' := ?_) ?_ ?_
          rotate_left
          ·show Act.put _ (some 33) _ = _
           simp only [sP]
           rfl
          exact norm_ (by first | (simp only [putAll, sP]; done) | (simp only [putAll, sP]; rfl)) (hJ4_11_12_13 (gb513, gb514) _ ⟨hHeld, (by (with_reducible repeat (first | apply Kd.R_alloc | apply Kd.R_drewN | apply Kd.R_drew)); exact HO_6.out), (uK BK505), (uK BK513), (uK BK514), GW513.out, GE513.out, NB505_513.out, NB513_505.out, NB514_513.out, NB513_514.out, GW514.out, GE514.out, NB505_514.out, NB514_505.out, (by repeat (first | (with_reducible first | exact HB.out | apply bL | apply bM | apply bR | refine bS ?_ GE505.out | refine bS ?_ GE513.out | refine bS ?_ GE514.out) | exact HB.out))⟩)
        ·skip
         rintro gb514 w19 ⟨hS_, h0_, h1_, h2_, h3_, h4_, h5_, h6_, h7_⟩
         have n0_ : Aside0 (Kd.R k53 53 w19 w.heap.size (fun _ => True) u6 x6_1) := ⟨h0_⟩
         have n1_ : Aside0 (w19.heap[gb505]? = some (.cells #[.string t501, .int .i64 t502, .int .i64 t503, .int .i64 t504] 32 (0, 0))) := ⟨h1_⟩
         have n2_ : Aside0 (w19.heap[gb514]? = some (.cells #[.int .i64 0, .int .i64 0] 26 (0, 0))) := ⟨h2_⟩
         have n3_ : Aside0 (w.heap.size ≤ gb514) := ⟨h3_⟩
         have n4_ : Aside0 (w.heap.size ≤ gb514) := ⟨h4_⟩
         have n5_ : Aside0 (gb505 ≠ gb514) := ⟨h5_⟩
         have n6_ : Aside0 (gb514 ≠ gb505) := ⟨h6_⟩
         have n7_ : Aside0 (Below w.heap.size w w19) := ⟨h7_⟩
         clear HO_6
         clear BK505
         clear HB
         clear h0_ h1_ h2_ h3_ h4_ h5_ h6_ h7_
         have HO_6 := n0_
         have BK505 := n1_
         have BK514 := n2_
         have GW514 := n3_
         have GE514 := n4_
         have NB505_514 := n5_
         have NB514_505 := n6_
         have HB := n7_
         clear n0_ n1_ n2_ n3_ n4_ n5_ n6_ n7_
         have hHeld : w19.cell? ⟨gb505, 0, none⟩ = some (.string t501) ∧ w19.cell? ⟨gb505, 1, none⟩ = some (.int .i64 t502) ∧ w19.cell? ⟨gb505, 2, none⟩ = some (.int .i64 t503) ∧ w19.cell? ⟨gb505, 3, none⟩ = some (.int .i64 t504) ∧ w19.cell? (ad506.add (x7_1).toNat) = some (.int .i64 (rd l1 x7_1)) ∧ w19.cell? (ad506.add (x7_1).toNat) = some (.int .i64 (rd l1 x7_1)) := hS_
         refine norm_ (a' := ?_) ?_ ?_
         rotate_left
         ·simp only [putAll, sP]
          rfl
         refine one_ (i := 12) (N := some 8) q26_0 rfl rfl (one_of HT_.out (by kernel_rfl)) (by decide) (fun K hK => ?_)
         refine box_step ?hg (N := 8) ?hd (cs := #[.int .i64 0, .int .i64 0, .int .i64 0]) (t := 24) ?hr ?_; (case hd => rfl); (case hg => rfl); (case hr => first | (go_simp; done) | (go_simp; rfl))
         intro gb513 hg w20 hbox hb
         replace HO_6 := Aside0.mk (Kd.R_below (by (with_reducible repeat (first | apply Kd.R_alloc | apply Kd.R_drewN | apply Kd.R_drew)); exact HO_6.out) hb)
         have BK513 := Aside0.mk hbox
         have GW513 := Aside0.mk ((by rw [hg]; exact (below_size (by repeat (first | (with_reducible first | exact HB.out | apply bL | apply bM | apply bR | refine bS ?_ GE505.out | refine bS ?_ GE514.out) | exact HB.out))) : w.heap.size ≤ gb513))
         have GE513 := Aside0.mk ((by rw [hg]; exact (below_size (by repeat (first | (with_reducible first | exact HB.out | apply bL | apply bM | apply bR | refine bS ?_ GE505.out | refine bS ?_ GE514.out) | exact HB.out))) : w.heap.size ≤ gb513))
         replace HB := Aside0.mk (below_step (by repeat (first | (with_reducible first | exact HB.out | apply bL | apply bM | apply bR | refine bS ?_ GE505.out | refine bS ?_ GE514.out) | exact HB.out)) hb)
         have NB505_513 := gN BK505 hg
         replace BK505 := bK BK505 hb
         have NB513_505 := Aside0.mk NB505_513.out.symm
         have NB514_513 := gN BK514 hg
         replace BK514 := bK BK514 hb
         have NB513_514 := Aside0.mk NB514_513.out.symm
         clear hb hbox hg
         refine hK.out _ _ ⟨bC BK505 0 rfl, bC BK505 1 rfl, bC BK505 2 rfl, bC BK505 3 rfl, (kC HB hw506_0), (kC HB hw510_0)⟩ (fun hHeld => ?_)
         clear hK K
         refine norm_ (a' := ?_) ?_ ?_
         rotate_left
         ·show Act.put _ (some 8) _ = _
          simp only [sP]
          rfl
         exact norm_ (by first | (simp only [putAll, sP]; done) | (simp only [putAll, sP]; rfl)) (hJ4_11_12_13 (gb513, gb514) _ ⟨hHeld, (by (with_reducible repeat (first | apply Kd.R_alloc | apply Kd.R_drewN | apply Kd.R_drew)); exact HO_6.out), (uK BK505), (uK BK513), (uK BK514), GW513.out, GE513.out, NB505_513.out, NB513_505.out, NB514_513.out, NB513_514.out, GW514.out, GE514.out, NB505_514.out, NB514_505.out, (by repeat (first | (with_reducible first | exact HB.out | apply bL | apply bM | apply bR | refine bS ?_ GE505.out | refine bS ?_ GE514.out | refine bS ?_ GE513.out) | exact HB.out))⟩)
       ·skip
        rintro gb513 w19 ⟨hS_, h0_, h1_, h2_, h3_, h4_, h5_, h6_, h7_⟩
        have n0_ : Aside0 (Kd.R k53 53 w19 w.heap.size (fun _ => True) u6 x6_1) := ⟨h0_⟩
        have n1_ : Aside0 (w19.heap[gb505]? = some (.cells #[.string t501, .int .i64 t502, .int .i64 t503, .int .i64 t504] 32 (0, 0))) := ⟨h1_⟩
        have n2_ : Aside0 (w19.heap[gb513]? = some (.cells #[.int .i64 0, .int .i64 0, .int .i64 0] 24 (0, 0))) := ⟨h2_⟩
        have n3_ : Aside0 (w.heap.size ≤ gb513) := ⟨h3_⟩
        have n4_ : Aside0 (w.heap.size ≤ gb513) := ⟨h4_⟩
        have n5_ : Aside0 (gb505 ≠ gb513) := ⟨h5_⟩
        have n6_ : Aside0 (gb513 ≠ gb505) := ⟨h6_⟩
        have n7_ : Aside0 (Below w.heap.size w w19) := ⟨h7_⟩
        clear HO_6
        clear BK505
        clear HB
        clear h0_ h1_ h2_ h3_ h4_ h5_ h6_ h7_
        have HO_6 := n0_
        have BK505 := n1_
        have BK513 := n2_
        have GW513 := n3_
        have GE513 := n4_
        have NB505_513 := n5_
        have NB513_505 := n6_
        have HB := n7_
        clear n0_ n1_ n2_ n3_ n4_ n5_ n6_ n7_
        have hHeld : w19.cell? ⟨gb505, 0, none⟩ = some (.string t501) ∧ w19.cell? ⟨gb505, 1, none⟩ = some (.int .i64 t502) ∧ w19.cell? ⟨gb505, 2, none⟩ = some (.int .i64 t503) ∧ w19.cell? ⟨gb505, 3, none⟩ = some (.int .i64 t504) ∧ w19.cell? (ad506.add (x7_1).toNat) = some (.int .i64 (rd l1 x7_1)) ∧ w19.cell? (ad506.add (x7_1).toNat) = some (.int .i64 (rd l1 x7_1)) := hS_
        refine norm_ (a' := ?_) ?_ ?_
        rotate_left
        ·simp only [putAll, sP]
         rfl
        refine one_ (i := 13) (N := some 9) q26_0 rfl rfl (one_of HT_.out (by kernel_rfl)) (by decide) (fun K hK => ?_)
        refine box_step ?hg (N := 9) ?hd (cs := #[.int .i64 0, .int .i64 0]) (t := 26) ?hr ?_; (case hd => rfl); (case hg => rfl); (case hr => first | (go_simp; done) | (go_simp; rfl))
        intro gb514 hg w20 hbox hb
        replace HO_6 := Aside0.mk (Kd.R_below (by (with_reducible repeat (first | apply Kd.R_alloc | apply Kd.R_drewN | apply Kd.R_drew)); exact HO_6.out) hb)
        have BK514 := Aside0.mk hbox
        have GW514 := Aside0.mk ((by rw [hg]; exact (below_size (by repeat (first | (with_reducible first | exact HB.out | apply bL | apply bM | apply bR | refine bS ?_ GE505.out | refine bS ?_ GE513.out) | exact HB.out))) : w.heap.size ≤ gb514))
        have GE514 := Aside0.mk ((by rw [hg]; exact (below_size (by repeat (first | (with_reducible first | exact HB.out | apply bL | apply bM | apply bR | refine bS ?_ GE505.out | refine bS ?_ GE513.out) | exact HB.out))) : w.heap.size ≤ gb514))
        replace HB := Aside0.mk (below_step (by repeat (first | (with_reducible first | exact HB.out | apply bL | apply bM | apply bR | refine bS ?_ GE505.out | refine bS ?_ GE513.out) | exact HB.out)) hb)
        have NB505_514 := gN BK505 hg
        replace BK505 := bK BK505 hb
        have NB514_505 := Aside0.mk NB505_514.out.symm
        have NB513_514 := gN BK513 hg
        replace BK513 := bK BK513 hb
        have NB514_513 := Aside0.mk NB513_514.out.symm
        clear hb hbox hg
        refine hK.out _ _ ⟨bC BK505 0 rfl, bC BK505 1 rfl, bC BK505 2 rfl, bC BK505 3 rfl, (kC HB hw506_0), (kC HB hw510_0)⟩ (fun hHeld => ?_)
        clear hK K
        refine norm_ (a' := ?_) ?_ ?_
        rotate_left
        ·show Act.put _ (some 9) _ = _
         simp only [sP]
         rfl
        exact norm_ (by first | (simp only [putAll, sP]; done) | (simp only [putAll, sP]; rfl)) (hJ4_11_12_13 (gb513, gb514) _ ⟨hHeld, (by (with_reducible repeat (first | apply Kd.R_alloc | apply Kd.R_drewN | apply Kd.R_drew)); exact HO_6.out), (uK BK505), (uK BK513), (uK BK514), GW513.out, GE513.out, NB505_513.out, NB513_505.out, NB514_513.out, NB513_514.out, GW514.out, GE514.out, NB505_514.out, NB514_505.out, (by repeat (first | (with_reducible first | exact HB.out | apply bL | apply bM | apply bR | refine bS ?_ GE505.out | refine bS ?_ GE513.out | refine bS ?_ GE514.out) | exact HB.out))⟩)
      rintro ⟨gb513, gb514⟩ w20 ⟨hS_, h0_, h1_, h2_, h3_, h4_, h5_, h6_, h7_, h8_, h9_, h10_, h11_, h12_, h13_, h14_⟩
      have n0_ : Aside0 (Kd.R k53 53 w20 w.heap.size (fun _ => True) u6 x6_1) := ⟨h0_⟩
      have n1_ : Aside0 (w20.heap[gb505]? = some (.cells #[.string t501, .int .i64 t502, .int .i64 t503, .int .i64 t504] 32 (0, 0))) := ⟨h1_⟩
      have n2_ : Aside0 (w20.heap[gb513]? = some (.cells #[.int .i64 0, .int .i64 0, .int .i64 0] 24 (0, 0))) := ⟨h2_⟩
      have n3_ : Aside0 (w20.heap[gb514]? = some (.cells #[.int .i64 0, .int .i64 0] 26 (0, 0))) := ⟨h3_⟩
      have n4_ : Aside0 (w.heap.size ≤ gb513) := ⟨h4_⟩
      have n5_ : Aside0 (w.heap.size ≤ gb513) := ⟨h5_⟩
      have n6_ : Aside0 (gb505 ≠ gb513) := ⟨h6_⟩
      have n7_ : Aside0 (gb513 ≠ gb505) := ⟨h7_⟩
      have n8_ : Aside0 (gb514 ≠ gb513) := ⟨h8_⟩
      have n9_ : Aside0 (gb513 ≠ gb514) := ⟨h9_⟩
      have n10_ : Aside0 (w.heap.size ≤ gb514) := ⟨h10_⟩
      have n11_ : Aside0 (w.heap.size ≤ gb514) := ⟨h11_⟩
      have n12_ : Aside0 (gb505 ≠ gb514) := ⟨h12_⟩
      have n13_ : Aside0 (gb514 ≠ gb505) := ⟨h13_⟩
      have n14_ : Aside0 (Below w.heap.size w w20) := ⟨h14_⟩
      clear HO_6
      clear BK505
      clear HB
      clear h0_ h1_ h2_ h3_ h4_ h5_ h6_ h7_ h8_ h9_ h10_ h11_ h12_ h13_ h14_
      have HO_6 := n0_
      have BK505 := n1_
      have BK513 := n2_
      have BK514 := n3_
      have GW513 := n4_
      have GE513 := n5_
      have NB505_513 := n6_
      have NB513_505 := n7_
      have NB514_513 := n8_
      have NB513_514 := n9_
      have GW514 := n10_
      have GE514 := n11_
      have NB505_514 := n12_
      have NB514_505 := n13_
      have HB := n14_
      clear n0_ n1_ n2_ n3_ n4_ n5_ n6_ n7_ n8_ n9_ n10_ n11_ n12_ n13_ n14_
      have hHeld : w20.cell? ⟨gb505, 0, none⟩ = some (.string t501) ∧ w20.cell? ⟨gb505, 1, none⟩ = some (.int .i64 t502) ∧ w20.cell? ⟨gb505, 2, none⟩ = some (.int .i64 t503) ∧ w20.cell? ⟨gb505, 3, none⟩ = some (.int .i64 t504) ∧ w20.cell? (ad506.add (x7_1).toNat) = some (.int .i64 (rd l1 x7_1)) ∧ w20.cell? (ad506.add (x7_1).toNat) = some (.int .i64 (rd l1 x7_1)) := hS_
      refine norm_ (a' := ?_) ?_ ?_
      rotate_left
      ·simp only [putAll, sP]
       rfl
      refine one_ (i := 14) (N := none) #[T,T,T,T,T,T,T,T,T,T,T,T,T,T,T,F] rfl rfl (one_of HT_.out (by kernel_rfl)) (by decide) (fun K hK => ?_)
      have hs21 : w20.cell? ⟨gb513, 0, none⟩ = some (.int .i64 0) := bC BK513 0 rfl
      have hfs21 := bF BK513 0
      have hns21_0 := NB505_513.out
      have hns21_2 := NB514_513.out
      have hms21_0 := NB513_505.out
      have hms21_2 := NB513_514.out
      have hs22 : w20.cell? ⟨gb513, 1, none⟩ = some (.int .i64 0) := bC BK513 1 rfl
      have hfs22 := bF BK513 1
      have hns22_0 := NB505_513.out
      have hns22_2 := NB514_513.out
      have hms22_0 := NB513_505.out
      have hms22_2 := NB513_514.out
      have hs23 : w20.cell? ⟨gb513, 2, none⟩ = some (.int .i64 0) := bC BK513 2 rfl
      have hfs23 := bF BK513 2
      have hns23_0 := NB505_513.out
      have hns23_2 := NB514_513.out
      have hms23_0 := NB513_505.out
      have hms23_2 := NB513_514.out
      refine skip_ (w1 := ?_) (by rfl) rfl ?_ ?_
      rotate_left
      ·go_simp
       rfl
      refine hK.out _ _ ⟨((cell_far (p := ⟨gb513, _, none⟩) NB505_513.out _).trans (((cell_far (p := ⟨gb513, _, none⟩) NB505_513.out _).trans (((cell_far (p := ⟨gb513, _, none⟩) NB505_513.out _).trans (hHeld.1)))))), ((cell_far (p := ⟨gb513, _, none⟩) NB505_513.out _).trans (((cell_far (p := ⟨gb513, _, none⟩) NB505_513.out _).trans (((cell_far (p := ⟨gb513, _, none⟩) NB505_513.out _).trans (hHeld.2.1)))))), ((cell_far (p := ⟨gb513, _, none⟩) NB505_513.out _).trans (((cell_far (p := ⟨gb513, _, none⟩) NB505_513.out _).trans (((cell_far (p := ⟨gb513, _, none⟩) NB505_513.out _).trans (hHeld.2.2.1)))))), ((cell_far (p := ⟨gb513, _, none⟩) NB505_513.out _).trans (((cell_far (p := ⟨gb513, _, none⟩) NB505_513.out _).trans (((cell_far (p := ⟨gb513, _, none⟩) NB505_513.out _).trans (hHeld.2.2.2.1)))))), ((cell_far (p := ⟨gb513, _, none⟩) (by first | exact Nat.ne_of_lt (Nat.lt_of_lt_of_le (by have := World.block_lt_of_cell? _ _ hw506_0; first | rwa [add_block] at this | exact this) GW513.out) | (rw [add_block]; exact Nat.ne_of_lt (Nat.lt_of_lt_of_le (by have := World.block_lt_of_cell? _ _ hw506_0; first | rwa [add_block] at this | exact this) GW513.out)) | (show (Addr.add _ _).block ≠ _; rw [add_block]; exact Nat.ne_of_lt (Nat.lt_of_lt_of_le (by have := World.block_lt_of_cell? _ _ hw506_0; first | rwa [add_block] at this | exact this) GW513.out)) | (dsimp only; exact Nat.ne_of_lt (Nat.lt_of_lt_of_le (by have := World.block_lt_of_cell? _ _ hw506_0; first | rwa [add_block] at this | exact this) GW513.out))) _).trans (((cell_far (p := ⟨gb513, _, none⟩) (by first | exact Nat.ne_of_lt (Nat.lt_of_lt_of_le (by have := World.block_lt_of_cell? _ _ hw506_0; first | rwa [add_block] at this | exact this) GW513.out) | (rw [add_block]; exact Nat.ne_of_lt (Nat.lt_of_lt_of_le (by have := World.block_lt_of_cell? _ _ hw506_0; first | rwa [add_block] at this | exact this) GW513.out)) | (show (Addr.add _ _).block ≠ _; rw [add_block]; exact Nat.ne_of_lt (Nat.lt_of_lt_of_le (by have := World.block_lt_of_cell? _ _ hw506_0; first | rwa [add_block] at this | exact this) GW513.out)) | (dsimp only; exact Nat.ne_of_lt (Nat.lt_of_lt_of_le (by have := World.block_lt_of_cell? _ _ hw506_0; first | rwa [add_block] at this | exact this) GW513.out))) _).trans (((cell_far (p := ⟨gb513, _, none⟩) (by first | exact Nat.ne_of_lt (Nat.lt_of_lt_of_le (by have := World.block_lt_of_cell? _ _ hw506_0; first | rwa [add_block] at this | exact this) GW513.out) | (rw [add_block]; exact Nat.ne_of_lt (Nat.lt_of_lt_of_le (by have := World.block_lt_of_cell? _ _ hw506_0; first | rwa [add_block] at this | exact this) GW513.out)) | (show (Addr.add _ _).block ≠ _; rw [add_block]; exact Nat.ne_of_lt (Nat.lt_of_lt_of_le (by have := World.block_lt_of_cell? _ _ hw506_0; first | rwa [add_block] at this | exact this) GW513.out)) | (dsimp only; exact Nat.ne_of_lt (Nat.lt_of_lt_of_le (by have := World.block_lt_of_cell? _ _ hw506_0; first | rwa [add_block] at this | exact this) GW513.out))) _).trans (hHeld.2.2.2.2.1)))))), ((cell_far (p := ⟨gb513, _, none⟩) (by first | exact Nat.ne_of_lt (Nat.lt_of_lt_of_le (by have := World.block_lt_of_cell? _ _ hw510_0; first | rwa [add_block] at this | exact this) GW513.out) | (rw [add_block]; exact Nat.ne_of_lt (Nat.lt_of_lt_of_le (by have := World.block_lt_of_cell? _ _ hw510_0; first | rwa [add_block] at this | exact this) GW513.out)) | (show (Addr.add _ _).block ≠ _; rw [add_block]; exact Nat.ne_of_lt (Nat.lt_of_lt_of_le (by have := World.block_lt_of_cell? _ _ hw510_0; first | rwa [add_block] at this | exact this) GW513.out)) | (dsimp only; exact Nat.ne_of_lt (Nat.lt_of_lt_of_le (by have := World.block_lt_of_cell? _ _ hw510_0; first | rwa [add_block] at this | exact this) GW513.out))) _).trans (((cell_far (p := ⟨gb513, _, none⟩) (by first | exact Nat.ne_of_lt (Nat.lt_of_lt_of_le (by have := World.block_lt_of_cell? _ _ hw510_0; first | rwa [add_block] at this | exact this) GW513.out) | (rw [add_block]; exact Nat.ne_of_lt (Nat.lt_of_lt_of_le (by have := World.block_lt_of_cell? _ _ hw510_0; first | rwa [add_block] at this | exact this) GW513.out)) | (show (Addr.add _ _).block ≠ _; rw [add_block]; exact Nat.ne_of_lt (Nat.lt_of_lt_of_le (by have := World.block_lt_of_cell? _ _ hw510_0; first | rwa [add_block] at this | exact this) GW513.out)) | (dsimp only; exact Nat.ne_of_lt (Nat.lt_of_lt_of_le (by have := World.block_lt_of_cell? _ _ hw510_0; first | rwa [add_block] at this | exact this) GW513.out))) _).trans (((cell_far (p := ⟨gb513, _, none⟩) (by first | exact Nat.ne_of_lt (Nat.lt_of_lt_of_le (by have := World.block_lt_of_cell? _ _ hw510_0; first | rwa [add_block] at this | exact this) GW513.out) | (rw [add_block]; exact Nat.ne_of_lt (Nat.lt_of_lt_of_le (by have := World.block_lt_of_cell? _ _ hw510_0; first | rwa [add_block] at this | exact this) GW513.out)) | (show (Addr.add _ _).block ≠ _; rw [add_block]; exact Nat.ne_of_lt (Nat.lt_of_lt_of_le (by have := World.block_lt_of_cell? _ _ hw510_0; first | rwa [add_block] at this | exact this) GW513.out)) | (dsimp only; exact Nat.ne_of_lt (Nat.lt_of_lt_of_le (by have := World.block_lt_of_cell? _ _ hw510_0; first | rwa [add_block] at this | exact this) GW513.out))) _).trans (hHeld.2.2.2.2.2))))))⟩ (fun hHeld => ?_)
      clear hK K
      refine one_ (i := 15) (N := none) #[T,T,T,T,T,T,T,T,T,T,T,T,T,T,T,T] rfl rfl (one_of HT_.out (by kernel_rfl)) (by decide) (fun K hK => ?_)
      have hs24 : w20.cell? ⟨gb514, 0, none⟩ = some (.int .i64 0) := bC BK514 0 rfl
      have hfs24 := bF BK514 0
      have hns24_0 := NB505_514.out
      have hns24_1 := NB513_514.out
      have hms24_0 := NB514_505.out
      have hms24_1 := NB514_513.out
      have hs25 : w20.cell? ⟨gb514, 1, none⟩ = some (.int .i64 0) := bC BK514 1 rfl
      have hfs25 := bF BK514 1
      have hns25_0 := NB505_514.out
      have hns25_1 := NB513_514.out
      have hms25_0 := NB514_505.out
      have hms25_1 := NB514_513.out
      refine skip_ (w1 := ?_) (by rfl) rfl ?_ ?_
      rotate_left
      ·go_simp
       rfl
      refine hK.out _ _ ⟨((cell_far (p := ⟨gb514, _, none⟩) NB505_514.out _).trans (((cell_far (p := ⟨gb514, _, none⟩) NB505_514.out _).trans (hHeld.1)))), ((cell_far (p := ⟨gb514, _, none⟩) NB505_514.out _).trans (((cell_far (p := ⟨gb514, _, none⟩) NB505_514.out _).trans (hHeld.2.1)))), ((cell_far (p := ⟨gb514, _, none⟩) NB505_514.out _).trans (((cell_far (p := ⟨gb514, _, none⟩) NB505_514.out _).trans (hHeld.2.2.1)))), ((cell_far (p := ⟨gb514, _, none⟩) NB505_514.out _).trans (((cell_far (p := ⟨gb514, _, none⟩) NB505_514.out _).trans (hHeld.2.2.2.1)))), ((cell_far (p := ⟨gb514, _, none⟩) (by first | exact Nat.ne_of_lt (Nat.lt_of_lt_of_le (by have := World.block_lt_of_cell? _ _ hw506_0; first | rwa [add_block] at this | exact this) GW514.out) | (rw [add_block]; exact Nat.ne_of_lt (Nat.lt_of_lt_of_le (by have := World.block_lt_of_cell? _ _ hw506_0; first | rwa [add_block] at this | exact this) GW514.out)) | (show (Addr.add _ _).block ≠ _; rw [add_block]; exact Nat.ne_of_lt (Nat.lt_of_lt_of_le (by have := World.block_lt_of_cell? _ _ hw506_0; first | rwa [add_block] at this | exact this) GW514.out)) | (dsimp only; exact Nat.ne_of_lt (Nat.lt_of_lt_of_le (by have := World.block_lt_of_cell? _ _ hw506_0; first | rwa [add_block] at this | exact this) GW514.out))) _).trans (((cell_far (p := ⟨gb514, _, none⟩) (by first | exact Nat.ne_of_lt (Nat.lt_of_lt_of_le (by have := World.block_lt_of_cell? _ _ hw506_0; first | rwa [add_block] at this | exact this) GW514.out) | (rw [add_block]; exact Nat.ne_of_lt (Nat.lt_of_lt_of_le (by have := World.block_lt_of_cell? _ _ hw506_0; first | rwa [add_block] at this | exact this) GW514.out)) | (show (Addr.add _ _).block ≠ _; rw [add_block]; exact Nat.ne_of_lt (Nat.lt_of_lt_of_le (by have := World.block_lt_of_cell? _ _ hw506_0; first | rwa [add_block] at this | exact this) GW514.out)) | (dsimp only; exact Nat.ne_of_lt (Nat.lt_of_lt_of_le (by have := World.block_lt_of_cell? _ _ hw506_0; first | rwa [add_block] at this | exact this) GW514.out))) _).trans (hHeld.2.2.2.2.1)))), ((cell_far (p := ⟨gb514, _, none⟩) (by first | exact Nat.ne_of_lt (Nat.lt_of_lt_of_le (by have := World.block_lt_of_cell? _ _ hw510_0; first | rwa [add_block] at this | exact this) GW514.out) | (rw [add_block]; exact Nat.ne_of_lt (Nat.lt_of_lt_of_le (by have := World.block_lt_of_cell? _ _ hw510_0; first | rwa [add_block] at this | exact this) GW514.out)) | (show (Addr.add _ _).block ≠ _; rw [add_block]; exact Nat.ne_of_lt (Nat.lt_of_lt_of_le (by have := World.block_lt_of_cell? _ _ hw510_0; first | rwa [add_block] at this | exact this) GW514.out)) | (dsimp only; exact Nat.ne_of_lt (Nat.lt_of_lt_of_le (by have := World.block_lt_of_cell? _ _ hw510_0; first | rwa [add_block] at this | exact this) GW514.out))) _).trans (((cell_far (p := ⟨gb514, _, none⟩) (by first | exact Nat.ne_of_lt (Nat.lt_of_lt_of_le (by have := World.block_lt_of_cell? _ _ hw510_0; first | rwa [add_block] at this | exact this) GW514.out) | (rw [add_block]; exact Nat.ne_of_lt (Nat.lt_of_lt_of_le (by have := World.block_lt_of_cell? _ _ hw510_0; first | rwa [add_block] at this | exact this) GW514.out)) | (show (Addr.add _ _).block ≠ _; rw [add_block]; exact Nat.ne_of_lt (Nat.lt_of_lt_of_le (by have := World.block_lt_of_cell? _ _ hw510_0; first | rwa [add_block] at this | exact this) GW514.out)) | (dsimp only; exact Nat.ne_of_lt (Nat.lt_of_lt_of_le (by have := World.block_lt_of_cell? _ _ hw510_0; first | rwa [add_block] at this | exact this) GW514.out))) _).trans (hHeld.2.2.2.2.2))))⟩ (fun hHeld => ?_)
      clear hK K
      refine done_ (done_of HT_.out (by kernel_rfl)) ?_
      have hnb26 := NB505_513.out
      have hnc26 := NB513_505.out
      have hnb27 := NB505_514.out
      have hnc27 := NB514_505.out
      obtain ⟨hcz28_0, hcz28_1, hcz28_2, hcz28_3, hfz28_0, hfz28_1, hfz28_2, hfz28_3⟩ := d4 BK505
      have hnb29 := NB513_514.out
      have hnc29 := NB514_513.out
      obtain ⟨hcz30_0, hcz30_1, hcz30_2, hfz30_0, hfz30_1, hfz30_2⟩ := d3 BK513
      obtain ⟨hcz31_0, hcz31_1, hfz31_0, hfz31_1⟩ := d2 BK514
      obtain ⟨Ao32, co32, eo32⟩ := Kd.R_slice HO_6.out
      subst eo32
      go_upto_if 38 with (first | ((with_reducible refine gate_callee (f := 15) rfl ?_); refine goesL_ (some 38) rfl rfl Tryd.func15 (by kernel_rfl) rfl #[.agg #[.string t501, .int .i64 t502, .int .i64 t503, .int .i64 t504], .slice Ao32 x6_1.length co32, .agg #[.int .i64 t507, .int .i64 t508, .int .i64 t509], .agg #[.int .i64 t511, .int .i64 t512]] rfl (by (try simp only [mA]); first | done | rfl) ?_; (with_reducible refine (holders_Room.calls k1 t501 t502 t503 t504 _ _ x6_1 t507 t508 t509 t511 t512 t515 _ ?side1 ?side2 ?side3 A13.out).mono ?_); (case side1 => refine (Kd.R_reads' (e := 53) (base := w.heap.size) (ok := fun k_ => True) (n := x6_1.length) (c := co32) ?_).2.2; exact (by (with_reducible repeat (first | apply Kd.R_alloc | apply Kd.R_drewN | apply Kd.R_drew)); exact (Kd.R_mono (Kd.R_mono (Kd.R_far (p := ⟨gb514, 1, none⟩) (Kd.R_far (p := ⟨gb514, 0, none⟩) (Kd.R_far (p := ⟨gb513, 2, none⟩) (Kd.R_far (p := ⟨gb513, 1, none⟩) (Kd.R_far (p := ⟨gb513, 0, none⟩) (Kd.R_types (Kd.R_types HO_6.out BK513.out (by decide)) BK514.out (by decide)) (fun _ hk => hk.1.2) (.int .i64 t507)) (fun _ hk => hk.1.2) (.int .i64 t508)) (fun _ hk => hk.1.2) (.int .i64 t509)) (fun _ hk => hk.2) (.int .i64 t511)) (fun _ hk => hk.2) (.int .i64 t512)) (fun _ h_ => h_.1)) (fun _ h_ => h_.1)))); (case side2 => exact (Kd.R_reads' HO_6.out).2.1); (case side3 => exact GL.below HG.out (by repeat (first | (with_reducible first | exact HB.out | apply bL | apply bM | apply bR | refine bS ?_ GE505.out | refine bS ?_ GE513.out | refine bS ?_ GE514.out) | exact HB.out))); rintro e w33 ⟨rfl, hb⟩; refine ⟨_, rfl, ?_⟩; replace HO_6 := Aside0.mk (Kd.R_below (by (with_reducible repeat (first | apply Kd.R_alloc | apply Kd.R_drewN | apply Kd.R_drew)); exact (Kd.R_mono (Kd.R_mono (Kd.R_far (p := ⟨gb514, 1, none⟩) (Kd.R_far (p := ⟨gb514, 0, none⟩) (Kd.R_far (p := ⟨gb513, 2, none⟩) (Kd.R_far (p := ⟨gb513, 1, none⟩) (Kd.R_far (p := ⟨gb513, 0, none⟩) (Kd.R_types (Kd.R_types HO_6.out BK513.out (by decide)) BK514.out (by decide)) (fun _ hk => hk.1.2) (.int .i64 t507)) (fun _ hk => hk.1.2) (.int .i64 t508)) (fun _ hk => hk.1.2) (.int .i64 t509)) (fun _ hk => hk.2) (.int .i64 t511)) (fun _ hk => hk.2) (.int .i64 t512)) (fun _ h_ => h_.1)) (fun _ h_ => h_.1))) hb); replace BK505 := Aside0.mk (blk_below (g := gb505) (o := .cells #[.string t501, .int .i64 t502, .int .i64 t503, .int .i64 t504] 32 (0, 0)) (by (with_reducible repeat first | refine bN ?_ _ | refine bD ?_ | refine bA ?_ _); refine blk_far ?_ NB505_514.out _; (with_reducible repeat first | refine bN ?_ _ | refine bD ?_ | refine bA ?_ _); refine blk_far ?_ NB505_514.out _; (with_reducible repeat first | refine bN ?_ _ | refine bD ?_ | refine bA ?_ _); refine blk_far ?_ NB505_513.out _; (with_reducible repeat first | refine bN ?_ _ | refine bD ?_ | refine bA ?_ _); refine blk_far ?_ NB505_513.out _; (with_reducible repeat first | refine bN ?_ _ | refine bD ?_ | refine bA ?_ _); refine blk_far ?_ NB505_513.out _; (with_reducible repeat first | refine bN ?_ _ | refine bD ?_ | refine bA ?_ _); exact BK505.out) hb); replace BK513 := Aside0.mk (blk_below (g := gb513) (o := .cells #[.int .i64 t507, .int .i64 t508, .int .i64 t509] 24 (0, 0)) (by (with_reducible repeat first | refine bN ?_ _ | refine bD ?_ | refine bA ?_ _); refine blk_far ?_ NB513_514.out _; (with_reducible repeat first | refine bN ?_ _ | refine bD ?_ | refine bA ?_ _); refine blk_far ?_ NB513_514.out _; (with_reducible repeat first | refine bN ?_ _ | refine bD ?_ | refine bA ?_ _); refine blk_put (cs := #[.int .i64 t507, .int .i64 t508, .int .i64 0]) ?_ 2 _ rfl; (with_reducible repeat first | refine bN ?_ _ | refine bD ?_ | refine bA ?_ _); refine blk_put (cs := #[.int .i64 t507, .int .i64 0, .int .i64 0]) ?_ 1 _ rfl; (with_reducible repeat first | refine bN ?_ _ | refine bD ?_ | refine bA ?_ _); refine blk_put (cs := #[.int .i64 0, .int .i64 0, .int .i64 0]) ?_ 0 _ rfl; (with_reducible repeat first | refine bN ?_ _ | refine bD ?_ | refine bA ?_ _); exact BK513.out) hb); replace BK514 := Aside0.mk (blk_below (g := gb514) (o := .cells #[.int .i64 t511, .int .i64 t512] 26 (0, 0)) (by (with_reducible repeat first | refine bN ?_ _ | refine bD ?_ | refine bA ?_ _); refine blk_put (cs := #[.int .i64 t511, .int .i64 0]) ?_ 1 _ rfl; (with_reducible repeat first | refine bN ?_ _ | refine bD ?_ | refine bA ?_ _); refine blk_put (cs := #[.int .i64 0, .int .i64 0]) ?_ 0 _ rfl; (with_reducible repeat first | refine bN ?_ _ | refine bD ?_ | refine bA ?_ _); refine blk_far ?_ NB514_513.out _; (with_reducible repeat first | refine bN ?_ _ | refine bD ?_ | refine bA ?_ _); refine blk_far ?_ NB514_513.out _; (with_reducible repeat first | refine bN ?_ _ | refine bD ?_ | refine bA ?_ _); refine blk_far ?_ NB514_513.out _; (with_reducible repeat first | refine bN ?_ _ | refine bD ?_ | refine bA ?_ _); exact BK514.out) hb); replace HB := Aside0.mk (below_step (by repeat (first | (with_reducible first | exact HB.out | apply bL | apply bM | apply bR | refine bS ?_ GE505.out | refine bS ?_ GE513.out | refine bS ?_ GE514.out) | exact HB.out)) hb); (try clear hb); (try clear hk)))
      (try simp only [Act.put, List.setIfInBounds_toArray, List.set_cons_zero, List.set_cons_succ])
      go_cut [6] (fun v6 wc => ∃ (kq : Nat) (x6_13 : List (S53)), Aside0 (clusterlockslaw10_HoldersGrow.j1 kq l1 x6_13 x7_1 t501 t502 t503 t504 = some r) ∧ Aside0 (kq ≤ k1) ∧ Aside0 (Kd.R k53 53 wc w.heap.size (fun _ => True) v6 x6_13) ∧ Aside0 (wc.heap[gb505]? = some (.cells #[.string t501, .int .i64 t502, .int .i64 t503, .int .i64 t504] 32 (0, 0))) ∧ Aside0 (wc.heap[gb513]? = some (.cells #[.int .i64 t507, .int .i64 t508, .int .i64 t509] 24 (0, 0))) ∧ Aside0 (wc.heap[gb514]? = some (.cells #[.int .i64 t511, .int .i64 t512] 26 (0, 0))) ∧ Aside0 (Below w.heap.size w wc))
      case first =>
       have H := HC14.out
       clear HC14
       by_cases c34 : t515 = true
       ·subst c34
        rw [if_pos rfl] at H
        obtain ⟨t516, A350, H⟩ := Option.bind_eq_some_iff.mp H
        have A35 := Aside0.mk A350; clear A350
        have H' := Aside0.mk H
        clear H
        have hnb36 := NB513_505.out
        have hnc36 := NB505_513.out
        have hnb37 := NB513_514.out
        have hnc37 := NB514_513.out
        obtain ⟨hcz38_0, hcz38_1, hcz38_2, hfz38_0, hfz38_1, hfz38_2⟩ := d3 BK513
        have hnb39 := NB514_505.out
        have hnc39 := NB505_514.out
        obtain ⟨hcz40_0, hcz40_1, hfz40_0, hfz40_1⟩ := d2 BK514
        go_wp2_with (first | ((with_reducible refine gate_callee (f := 13) rfl ?_); refine goesL_ (some 42) rfl rfl Tryd.func13 (by kernel_rfl) rfl #[.slice Ao32 x6_1.length co32, .agg #[.int .i64 t507, .int .i64 t508, .int .i64 t509], .agg #[.int .i64 t511, .int .i64 t512]] rfl (by (try simp only [mA]); first | done | rfl) ?_; (with_reducible refine (holders_Set.calls k1 _ _ x6_1 t507 t508 t509 t511 t512 t516 _ ?side1 ?side2 A35.out).mono ?_); (case side1 => repeat (first | exact (Kd.R_reads' HO_6.out).2.2 | (with_reducible refine Kd.C_alloc ?_ _) | (with_reducible refine Kd.C_drewN ?_ _) | (with_reducible refine Kd.C_drew ?_))); (case side2 => exact (Kd.R_reads' HO_6.out).2.1); rintro e w41 ⟨v517, rfl, ho0, hb⟩; refine ⟨_, rfl, ?_⟩; have HO518 := Aside0.mk (Kd.R_lower (Kd.R_new' ho0 (Kd.R_lt (by (with_reducible repeat (first | apply Kd.R_alloc | apply Kd.R_drewN | apply Kd.R_drew)); exact HO_6.out))) (below_size (by repeat (first | (with_reducible first | exact HB.out | apply bL | apply bM | apply bR | refine bS ?_ GE505.out | refine bS ?_ GE513.out | refine bS ?_ GE514.out) | exact HB.out)))); replace HO_6 := Aside0.mk (Kd.R_elder' (by (with_reducible repeat (first | apply Kd.R_alloc | apply Kd.R_drewN | apply Kd.R_drew)); exact HO_6.out) (Kd.R_base ho0) hb); replace BK505 := bK BK505 hb; replace BK513 := bK BK513 hb; replace BK514 := bK BK514 hb; replace HB := Aside0.mk (below_step (by repeat (first | (with_reducible first | exact HB.out | apply bL | apply bM | apply bR | refine bS ?_ GE505.out | refine bS ?_ GE513.out | refine bS ?_ GE514.out) | exact HB.out)) hb); (try clear hb); (try clear hk); (try clear ho0)))
        go_meet
        case rel => exact ⟨_, (t516), H', ⟨by have := HK1.out; first | omega | exact Nat.le_refl _⟩, ⟨by (with_reducible repeat (first | apply Kd.R_alloc | apply Kd.R_drewN | apply Kd.R_drew)); exact Kd.R_mono HO518.out (fun _ hk => trivial)⟩, ⟨by (with_reducible repeat first | refine bN ?_ _ | refine bD ?_ | refine bA ?_ _); exact BK505.out⟩, ⟨by (with_reducible repeat first | refine bN ?_ _ | refine bD ?_ | refine bA ?_ _); exact BK513.out⟩, ⟨by (with_reducible repeat first | refine bN ?_ _ | refine bD ?_ | refine bA ?_ _); exact BK514.out⟩, ⟨by repeat (first | (with_reducible first | exact HB.out | apply bL | apply bM | apply bR | refine bS ?_ GE505.out | refine bS ?_ GE513.out | refine bS ?_ GE514.out) | exact HB.out)⟩⟩
       ·replace c34 := Bool.eq_false_iff.mpr c34
        subst c34
        rw [if_neg (show ¬ (false = true) by decide)] at H
        have H' := Aside0.mk H
        clear H
        go_wp2
        go_meet
        case rel => exact ⟨_, (x6_1), H', ⟨by have := HK1.out; first | omega | exact Nat.le_refl _⟩, ⟨by (with_reducible repeat (first | apply Kd.R_alloc | apply Kd.R_drewN | apply Kd.R_drew)); exact HO_6.out⟩, ⟨by (with_reducible repeat first | refine bN ?_ _ | refine bD ?_ | refine bA ?_ _); exact BK505.out⟩, ⟨by (with_reducible repeat first | refine bN ?_ _ | refine bD ?_ | refine bA ?_ _); exact BK513.out⟩, ⟨by (with_reducible repeat first | refine bN ?_ _ | refine bD ?_ | refine bA ?_ _); exact BK514.out⟩, ⟨by repeat (first | (with_reducible first | exact HB.out | apply bL | apply bM | apply bR | refine bS ?_ GE505.out | refine bS ?_ GE513.out | refine bS ?_ GE514.out) | exact HB.out)⟩⟩
      case rest =>
       clear HC14
       try clear c1
       try clear c2
       try clear p2
       try clear c3
       try clear c13
       try clear c15
       try clear c24
       try clear c26
       try clear c27
       try clear c29
       try clear c34
       try clear c36
       try clear c37
       try clear c39
       try clear hcz28_0
       try clear hcz28_1
       try clear hcz28_2
       try clear hcz28_3
       try clear hcz30_0
       try clear hcz30_1
       try clear hcz30_2
       try clear hcz31_0
       try clear hcz31_1
       try clear hcz38_0
       try clear hcz38_1
       try clear hcz38_2
       try clear hcz40_0
       try clear hcz40_1
       try clear hfz28_0
       try clear hfz28_1
       try clear hfz28_2
       try clear hfz28_3
       try clear hfz30_0
       try clear hfz30_1
       try clear hfz30_2
       try clear hfz31_0
       try clear hfz31_1
       try clear hfz38_0
       try clear hfz38_1
       try clear hfz38_2
       try clear hfz40_0
       try clear hfz40_1
       obtain ⟨kq, x6_13, HA, HJ13, HO_6, BK505, BK513, BK514, HB⟩ := hcut
       cases kq with
       | zero => exact absurd HA.out (by simp [clusterlockslaw10_HoldersGrow.j1])
       | succ kj13 =>
        have H := HA.out
        clear HA
        simp only [clusterlockslaw10_HoldersGrow.j1] at H
        obtain ⟨t519, A420, H⟩ := Option.bind_eq_some_iff.mp H
        have A42 := Aside0.mk A420; clear A420
        have HH_ := Aside0.mk H
        clear H
        have hnb44 := NB505_513.out
        have hnc44 := NB513_505.out
        have hnb45 := NB505_514.out
        have hnc45 := NB514_505.out
        obtain ⟨hcz46_0, hcz46_1, hcz46_2, hcz46_3, hfz46_0, hfz46_1, hfz46_2, hfz46_3⟩ := d4 BK505
        obtain ⟨Ao47, co47, eo47⟩ := Kd.R_slice HO_6.out
        subst eo47
        have H := HH_.out
        clear HH_
        by_cases c43 : t519 = true
        ·subst c43
         rw [if_pos rfl] at H
         have H' := Aside0.mk H
         clear H
         go_wp2_with (first | ((with_reducible refine gate_callee (f := 26) rfl ?_); refine goesL_ (some 45) rfl rfl Tryd.func26 (by kernel_rfl) rfl #[.agg #[.string t501, .int .i64 t502, .int .i64 t503, .int .i64 t504], .slice Ao47 x6_13.length co47] rfl (by (try simp only [mA]); first | done | rfl) ?_; (with_reducible refine (clusterlocksref10_Valid.calls kj13 t501 t502 t503 t504 _ _ x6_13 true _ ?side1 ?side2 A42.out).mono ?_); (case side1 => repeat (first | exact (Kd.R_reads' HO_6.out).2.2 | (with_reducible refine Kd.C_alloc ?_ _) | (with_reducible refine Kd.C_drewN ?_ _) | (with_reducible refine Kd.C_drew ?_))); (case side2 => exact (Kd.R_reads' HO_6.out).2.1); rintro e w48 ⟨rfl, hb⟩; refine ⟨_, rfl, ?_⟩; replace HO_6 := Aside0.mk (Kd.R_below (by (with_reducible repeat (first | apply Kd.R_alloc | apply Kd.R_drewN | apply Kd.R_drew)); exact HO_6.out) hb); replace BK505 := bK BK505 hb; replace BK513 := bK BK513 hb; replace BK514 := bK BK514 hb; replace HB := Aside0.mk (below_step (by repeat (first | (with_reducible first | exact HB.out | apply bL | apply bM | apply bR | refine bS ?_ GE505.out | refine bS ?_ GE513.out | refine bS ?_ GE514.out) | exact HB.out)) hb); (try clear hb); (try clear hk)))
         go_roundg kj13
         case measure => have := HK1.out; have := HJ13.out; omega
         case rel => exact ⟨(x6_13), (wrap64 (x7_1 + 1)), (by first | rfl | (simp; done) | (simp [*]; done)), H', ⟨by have := HK1.out; have := HJ13.out; omega⟩, ⟨by (with_reducible repeat (first | apply Kd.R_alloc | apply Kd.R_drewN | apply Kd.R_drew)); exact HO_6.out⟩, ⟨by (with_reducible repeat first | refine bN ?_ _ | refine bD ?_ | refine bA ?_ _); exact BK505.out⟩, ⟨by repeat (first | (with_reducible first | exact HB.out | apply bL | apply bM | apply bR | refine bS ?_ GE505.out | refine bS ?_ GE513.out | refine bS ?_ GE514.out) | exact HB.out)⟩⟩
        ·replace c43 := Bool.eq_false_iff.mpr c43
         subst c43
         rw [if_neg (show ¬ (false = true) by decide)] at H
         exact absurd (Option.some.inj H) (by rw [HRT.out]; decide)
     ·rw [if_neg c10] at H
      exact absurd H (by simp)
    ·rw [if_neg c9] at H
     have c9b0 : decide (x7_1 < (l1.length : Int)) = false := decide_eq_false c9
     clear c9
     obtain ⟨t520, A540, H⟩ := Option.bind_eq_some_iff.mp H
     have A54 := Aside0.mk A540; clear A540
     by_cases c55 : t520 = true
     ·subst c55
      rw [if_pos rfl] at H
      obtain ⟨t521, A560, H⟩ := Option.bind_eq_some_iff.mp H
      have A56 := Aside0.mk A560; clear A560
      obtain ⟨t524, A570, H⟩ := Option.bind_eq_some_iff.mp H
      have A57 := Aside0.mk A570; clear A570
      obtain rfl := Option.some.inj H
      go_wp2_with (first | ((with_reducible refine gate_callee (f := 11) rfl ?_); refine goesL_ (some 47) rfl rfl Tryd.func11 (by kernel_rfl) rfl #[] rfl (by (try simp only [mA]); first | done | rfl) ?_; (with_reducible refine (clusterlockslaw10_awake.calls k1  true _ ?side1 A54.out).mono ?_); (case side1 => exact GL.below HG.out (by repeat (first | (with_reducible first | exact HB.out | apply bL | apply bM | apply bR | refine bS ?_ GE505.out) | exact HB.out))); rintro e w58 ⟨rfl, hb⟩; refine ⟨_, rfl, ?_⟩; replace HO_6 := Aside0.mk (Kd.R_below (by (with_reducible repeat (first | apply Kd.R_alloc | apply Kd.R_drewN | apply Kd.R_drew)); exact HO_6.out) hb); replace BK505 := bK BK505 hb; replace HB := Aside0.mk (below_step (by repeat (first | (with_reducible first | exact HB.out | apply bL | apply bM | apply bR | refine bS ?_ GE505.out) | exact HB.out)) hb); (try clear hb); (try clear hk); have hcz59_0 : w58.cell? ⟨gb505, 0, none⟩ = some (.string t501) := bC BK505 0 rfl; have hcz59_1 : w58.cell? ⟨gb505, 1, none⟩ = some (.int .i64 t502) := bC BK505 1 rfl; have hcz59_2 : w58.cell? ⟨gb505, 2, none⟩ = some (.int .i64 t503) := bC BK505 2 rfl; have hcz59_3 : w58.cell? ⟨gb505, 3, none⟩ = some (.int .i64 t504) := bC BK505 3 rfl; have hfz59_0 := bF BK505 0; have hfz59_1 := bF BK505 1; have hfz59_2 := bF BK505 2; have hfz59_3 := bF BK505 3) | (go_at_call 22; (with_reducible refine (clusterlockslaw10_made.calls k1 t501 t502 t503 t504 _ _ l1 t521 _ ?side1 ?side2 A56.out).mono ?_); (case side1 => repeat (first | exact (Kd.C_below HR1.out HB.out) | (with_reducible refine Kd.C_alloc ?_ _) | (with_reducible refine Kd.C_drewN ?_ _) | (with_reducible refine Kd.C_drew ?_))); (case side2 => exact HC1.out); rintro e w60 ⟨v522, rfl, ho0, hb⟩; have HO523 := Aside0.mk (Kd.R_lower (Kd.R_new' ho0 (Kd.R_lt (by (with_reducible repeat (first | apply Kd.R_alloc | apply Kd.R_drewN | apply Kd.R_drew)); exact HO_6.out))) (below_size (by repeat (first | (with_reducible first | exact HB.out | apply bL | apply bM | apply bR | refine bS ?_ GE505.out) | exact HB.out)))); replace HO_6 := Aside0.mk (Kd.R_elder' (by (with_reducible repeat (first | apply Kd.R_alloc | apply Kd.R_drewN | apply Kd.R_drew)); exact HO_6.out) (Kd.R_base ho0) hb); replace BK505 := bK BK505 hb; replace HB := Aside0.mk (below_step (by repeat (first | (with_reducible first | exact HB.out | apply bL | apply bM | apply bR | refine bS ?_ GE505.out) | exact HB.out)) hb); (try clear hb); (try clear hk); (try clear ho0); obtain ⟨Ao61, co61, eo61⟩ := Kd.R_slice HO_6.out; subst eo61; obtain ⟨Ao62, co62, eo62⟩ := Kd.R_slice HO523.out; subst eo62) | (go_at_call 12; (with_reducible refine (clusterlocksref10_SameHolds.calls k1 _ _ x6_1 _ _ t521 t524 _ ?side1 ?side2 ?side3 ?side4 A57.out).mono ?_); (case side1 => repeat (first | exact (Kd.R_reads' HO_6.out).2.2 | (with_reducible refine Kd.C_alloc ?_ _) | (with_reducible refine Kd.C_drewN ?_ _) | (with_reducible refine Kd.C_drew ?_))); (case side2 => exact (Kd.R_reads' HO_6.out).2.1); (case side3 => repeat (first | exact (Kd.R_reads' HO523.out).2.2 | (with_reducible refine Kd.C_alloc ?_ _) | (with_reducible refine Kd.C_drewN ?_ _) | (with_reducible refine Kd.C_drew ?_))); (case side4 => exact (Kd.R_reads' HO523.out).2.1); rintro e w' ⟨rfl, ⟨nd, rfl⟩⟩))
      go_ret
      exact ⟨by first | rfl | (simp [errW_none, errW_some] <;> rfl) | (simp [*, errW_none, errW_some] <;> rfl), by repeat (first | (with_reducible first | exact HB.out | apply bL | apply bM | apply bR | refine bS ?_ GE505.out) | exact HB.out)⟩
     ·replace c55 := Bool.eq_false_iff.mpr c55
      subst c55
      rw [if_neg (show ¬ (false = true) by decide)] at H
      exact absurd (Option.some.inj H) (by rw [HRT.out]; decide)
 ·replace c4 := Bool.eq_false_iff.mpr c4
  subst c4
  rw [if_neg (show ¬ (false = true) by decide)] at H
  obtain ⟨t500, A640, H⟩ := Option.bind_eq_some_iff.mp H
  have A64 := Aside0.mk A640; clear A640
  obtain rfl := Option.some.inj H
  go_enter Tryd.func8, Tryd.ntmps8
  go_wp2_with (first | ((with_reducible refine gate_callee (f := 20) rfl ?_); refine goesL_ (some 11) rfl rfl Tryd.func20 (by kernel_rfl) rfl #[.slice A1 l1.length c1] rfl (by (try simp only [mA]); first | done | rfl) ?_; (with_reducible refine (clusterlocksmill_Light.calls _ _ l1 false _ ?side1 ?side2 A3.out).mono ?_); (case side1 => repeat (first | exact HR1.out | (with_reducible refine Kd.C_alloc ?_ _) | (with_reducible refine Kd.C_drewN ?_ _) | (with_reducible refine Kd.C_drew ?_))); (case side2 => exact HC1.out); rintro e w' ⟨rfl, ⟨nd, rfl⟩⟩; refine ⟨_, rfl, ?_⟩) | ((with_reducible refine gate_callee (f := 11) rfl ?_); refine goesL_ (some 13) rfl rfl Tryd.func11 (by kernel_rfl) rfl #[] rfl (by (try simp only [mA]); first | done | rfl) ?_; (with_reducible refine (clusterlockslaw10_awake.calls k  t500 _ ?side1 A64.out).mono ?_); (case side1 => exact GL.below HG.out (uB HB)); rintro e w65 ⟨rfl, hb⟩; refine ⟨_, rfl, ?_⟩; replace HB := bB HB hb; (try clear hb); (try clear hk)))
  go_ret
  exact ⟨by first | rfl | (simp [errW_none, errW_some] <;> rfl) | (simp [*, errW_none, errW_some] <;> rfl), by repeat (first | (with_reducible first | exact HB.out | apply bL | apply bM | apply bR) | exact HB.out)⟩
end Go.Proofs.YtnmemkphfgdplaaDoor.PA
