-- Printed by wip/tool/myprint.py for this claim; Lean checks it.
import Derived.Test.YtnmemkphfgdplaaDoorPAx0
import Derived.Test.YtnmemkphfgdplaaDoorSlim
import Derived.Test.YtnmemkphfgdplaaDoorPAx7
import Derived.Test.YtnmemkphfgdplaaDoorPAx8
import Derived.Test.YtnmemkphfgdplaaDoorPAx9
import Derived.Test.YtnmemkphfgdplaaDoorPAx11
import Derived.Test.YtnmemkphfgdplaaDoorPAxM
import Derived.Test.YtnmemkphfgdplaaDoorPAx23
namespace Go.Proofs.YtnmemkphfgdplaaDoor.PA
open Go.RowKit Go.Proofs.YtnmemkphfgdplaaDoorW.PrintWords Go.Proofs.YtnmemkphfgdplaaDoorW.PrintLast Go.Proofs.YtnmemkphfgdplaaDoorW.PrintMore
attribute [local go_sem] max2_int min2_int max_two min_two max_three min_three max_four min_four   -- for this text's walks alone
set_option linter.unusedVariables false
set_option linter.unusedSimpArgs false

/-! ### clusterlockslaw10_HoldersYield: function 6 -/
def clusterlockslaw10_HoldersYield.l0 : Nat → List (S53) → List (S24) → List (S53) → Int → ByteArray → Int → Int → Int → Int → Int → Int → Int → Int → Option (Bool)
 | 0, _, _, _, _, _, _, _, _, _, _, _, _, _ => none
 | k + 1, x10, x13, x14, x15, x446000, x446001, x446002, x446003, x455000, x455001, x455002, x456000, x456001 => if x15 < (x13.length : Int) then (if 0 ≤ x15 then ((clusterlocksref10_Set.f k x14 ((rd_T24 x13 x15).f0) ((rd_T24 x13 x15).f1) ((rd_T24 x13 x15).f2) 0 0).bind fun t460 => (clusterlockslaw10_HoldersYield.l0 k x10 x13 t460 (wrap64 (x15 + 1)) x446000 x446001 x446002 x446003 x455000 x455001 x455002 x456000 x456001)) else (none)) else ((clusterlockslaw10_awake.f k).bind fun t463 => (if t463 = true then ((holders_Room.f k x446000 x446001 x446002 x446003 x10 x455000 x455001 x455002 x456000 x456001).bind fun t464 => (if (t464 == ((x13.length : Int) == 0)) = true then ((holders_Room.f k x446000 x446001 x446002 x446003 x14 x455000 x455001 x455002 x456000 x456001).bind fun t465 => (some t465)) else (some false))) else (some false)))
def clusterlockslaw10_HoldersYield.f (k : Nat) (a0 : Int) (l1 : List Int) (a2 : Int) (a3 : Int) : Option (Bool) := (clusterlocksmill_Light.f l1).bind fun t439 => (if t439 = true then ((clusterlocksmill_Resource.f k a0).bind fun bt441 => ((clusterlockslaw10_made.f k bt441.1 bt441.2.1 bt441.2.2.1 bt441.2.2.2 l1).bind fun t446 => ((clusterlocksmill_Proc.f a2).bind fun bt449 => ((clusterlocksmill_Amount.f bt441.1 bt441.2.1 bt441.2.2.1 bt441.2.2.2 a3).bind fun bt452 => ((holders_Against.f k bt441.1 bt441.2.1 bt441.2.2.1 bt441.2.2.2 t446 bt449.1 bt449.2.1 bt449.2.2 bt452.1 bt452.2).bind fun t456 => (clusterlockslaw10_HoldersYield.l0 k t446 t456 t446 0 bt441.1 bt441.2.1 bt441.2.2.1 bt441.2.2.2 bt449.1 bt449.2.1 bt449.2.2 bt452.1 bt452.2)))))) else ((clusterlockslaw10_awake.f k).bind fun t440 => (some t440)))
theorem clusterlockslaw10_HoldersYield.mono_l : ∀ k, (∀ y0 y1 y2 y3 y4 y5 y6 y7 y8 y9 y10 y11 y12, LeO (clusterlockslaw10_HoldersYield.l0 k y0 y1 y2 y3 y4 y5 y6 y7 y8 y9 y10 y11 y12) (clusterlockslaw10_HoldersYield.l0 (k + 1) y0 y1 y2 y3 y4 y5 y6 y7 y8 y9 y10 y11 y12))
 | 0 => fun _ _ _ _ _ _ _ _ _ _ _ _ _ r h => by simp [clusterlockslaw10_HoldersYield.l0] at h
 | k + 1 => by
  have ih0 := clusterlockslaw10_HoldersYield.mono_l k
  ·intro y0 y1 y2 y3 y4 y5 y6 y7 y8 y9 y10 y11 y12
   unfold clusterlockslaw10_HoldersYield.l0
   repeat' first
   | (with_reducible exact ih0 _ _ _ _ _ _ _ _ _ _ _ _ _)
   | (with_reducible exact clusterlockslaw10_awake.mono _)
   | (with_reducible exact clusterlockslaw10_made.mono _ _ _ _ _ _)
   | (with_reducible exact clusterlocksmill_Resource.mono _ _)
   | (with_reducible exact clusterlocksref10_Set.mono _ _ _ _ _ _ _)
   | (with_reducible exact holders_Against.mono _ _ _ _ _ _ _ _ _ _ _)
   | (with_reducible exact holders_Room.mono _ _ _ _ _ _ _ _ _ _ _)
   | (with_reducible exact LeO.refl _)
   | (with_reducible exact LeO.none _)
   | (with_reducible refine LeO.ite ?_ ?_)
   | (with_reducible refine LeO.bind ?_ (fun _ => ?_))
   | exact ih0 _ _ _ _ _ _ _ _ _ _ _ _ _
   | exact clusterlockslaw10_awake.mono _
   | exact clusterlockslaw10_made.mono _ _ _ _ _ _
   | exact clusterlocksmill_Resource.mono _ _
   | exact clusterlocksref10_Set.mono _ _ _ _ _ _ _
   | exact holders_Against.mono _ _ _ _ _ _ _ _ _ _ _
   | exact holders_Room.mono _ _ _ _ _ _ _ _ _ _ _
   | exact LeO.none _
   | refine LeO.ite ?_ ?_
   | refine LeO.bind ?_ (fun _ => ?_)
theorem clusterlockslaw10_HoldersYield.mono : ∀ a0 a1 a2 a3 k, LeO (clusterlockslaw10_HoldersYield.f k a0 a1 a2 a3) (clusterlockslaw10_HoldersYield.f (k + 1) a0 a1 a2 a3) := by
 intro a0 a1 a2 a3 k
 have ih0 := clusterlockslaw10_HoldersYield.mono_l k
 unfold clusterlockslaw10_HoldersYield.f
 repeat' first
   | (with_reducible exact ih0 _ _ _ _ _ _ _ _ _ _ _ _ _)
   | (with_reducible exact clusterlockslaw10_awake.mono _)
   | (with_reducible exact clusterlockslaw10_made.mono _ _ _ _ _ _)
   | (with_reducible exact clusterlocksmill_Resource.mono _ _)
   | (with_reducible exact clusterlocksref10_Set.mono _ _ _ _ _ _ _)
   | (with_reducible exact holders_Against.mono _ _ _ _ _ _ _ _ _ _ _)
   | (with_reducible exact holders_Room.mono _ _ _ _ _ _ _ _ _ _ _)
   | (with_reducible exact LeO.refl _)
   | (with_reducible exact LeO.none _)
   | (with_reducible refine LeO.ite ?_ ?_)
   | (with_reducible refine LeO.bind ?_ (fun _ => ?_))
   | exact ih0 _ _ _ _ _ _ _ _ _ _ _ _ _
   | exact clusterlockslaw10_awake.mono _
   | exact clusterlockslaw10_made.mono _ _ _ _ _ _
   | exact clusterlocksmill_Resource.mono _ _
   | exact clusterlocksref10_Set.mono _ _ _ _ _ _ _
   | exact holders_Against.mono _ _ _ _ _ _ _ _ _ _ _
   | exact holders_Room.mono _ _ _ _ _ _ _ _ _ _ _
   | exact LeO.none _
   | refine LeO.ite ?_ ?_
   | refine LeO.bind ?_ (fun _ => ?_)
def clusterlockslaw10_HoldersYield.T5 : Bool × List (List Nat × List Nat) := (true, [([], []), ([0], [0]), ([], []), ([], []), ([2, 3, 1], [2, 3]), ([], []), ([], []), ([5, 1, 4, 0, 1, 5, 6], [1, 5]), ([6, 4, 7, 0, 1, 2, 3, 4, 5, 6, 7], [4, 6])])
def clusterlockslaw10_HoldersYield.B5 : List Nat := [0, 1, 0, 0, 15, 0, 0, 127, 255]
theorem clusterlockslaw10_HoldersYield.tab5 : rtab .any (opsOf Tryd.f6 5) = clusterlockslaw10_HoldersYield.T5 := by kernel_rfl
theorem clusterlockslaw10_HoldersYield.bits5 : waitsOk clusterlockslaw10_HoldersYield.T5.2 clusterlockslaw10_HoldersYield.B5 = true := by kernel_rfl
set_option maxHeartbeats 8000000 in
set_option maxRecDepth 100000 in
theorem clusterlockslaw10_HoldersYield.calls (k : Nat) (a0 : Int) (A1 : Option Addr) (c1 : Nat) (l1 : List Int) (a2 : Int) (a3 : Int) (r : Bool) (w : World) (hr1 : Kd.C (Kd.int .i64) w A1 l1.length l1) (hc1 : l1.length ≤ c1) (hG : GL w) (h : clusterlockslaw10_HoldersYield.f k a0 l1 a2 a3 = some r) (hT : r = true) :
  Calls Tryd.prog 6 #[.int .i64 a0, .slice A1 l1.length c1, .int .i64 a2, .int .i64 a3] w fun e w' => e = .returned (.bool r) ∧ Below w.heap.size w w' := by
 have hu32 := Tryd.underlying32
 have hu24 := Tryd.underlying24
 have hu26 := Tryd.underlying26
 have HG := Aside0.mk hG
 clear hG
 have HR1 := Aside0.mk hr1
 have HC1 := Aside0.mk hc1
 clear hr1 hc1
 have HB := Aside0.mk (Below.refl w.heap.size w)
 have H : ((clusterlocksmill_Light.f l1).bind fun t439 => (if t439 = true then ((clusterlocksmill_Resource.f k a0).bind fun bt441 => ((clusterlockslaw10_made.f k bt441.1 bt441.2.1 bt441.2.2.1 bt441.2.2.2 l1).bind fun t446 => ((clusterlocksmill_Proc.f a2).bind fun bt449 => ((clusterlocksmill_Amount.f bt441.1 bt441.2.1 bt441.2.2.1 bt441.2.2.2 a3).bind fun bt452 => ((holders_Against.f k bt441.1 bt441.2.1 bt441.2.2.1 bt441.2.2.2 t446 bt449.1 bt449.2.1 bt449.2.2 bt452.1 bt452.2).bind fun t456 => (clusterlockslaw10_HoldersYield.l0 k t446 t456 t446 0 bt441.1 bt441.2.1 bt441.2.2.1 bt441.2.2.2 bt449.1 bt449.2.1 bt449.2.2 bt452.1 bt452.2)))))) else ((clusterlockslaw10_awake.f k).bind fun t440 => (some t440)))) = some r := h
 have HRT := Aside0.mk hT
 clear h
 obtain ⟨t439, A50, H⟩ := Option.bind_eq_some_iff.mp H
 have A5 := Aside0.mk A50; clear A50
 by_cases c6 : t439 = true
 ·subst c6
  rw [if_pos rfl] at H
  replace H := Option.bind_eq_some_iff.mp H
  obtain ⟨⟨t441, t442, t443, t444⟩, A70, H⟩ := H
  replace H : ((clusterlockslaw10_made.f k t441 t442 t443 t444 l1).bind fun t446 => ((clusterlocksmill_Proc.f a2).bind fun bt449 => ((clusterlocksmill_Amount.f t441 t442 t443 t444 a3).bind fun bt452 => ((holders_Against.f k t441 t442 t443 t444 t446 bt449.1 bt449.2.1 bt449.2.2 bt452.1 bt452.2).bind fun t456 => (clusterlockslaw10_HoldersYield.l0 k t446 t456 t446 0 t441 t442 t443 t444 bt449.1 bt449.2.1 bt449.2.2 bt452.1 bt452.2))))) = some r := H
  have A7 := Aside0.mk A70; clear A70
  obtain ⟨t446, A80, H⟩ := Option.bind_eq_some_iff.mp H
  have A8 := Aside0.mk A80; clear A80
  replace H := Option.bind_eq_some_iff.mp H
  obtain ⟨⟨t449, t450, t451⟩, A90, H⟩ := H
  replace H : ((clusterlocksmill_Amount.f t441 t442 t443 t444 a3).bind fun bt452 => ((holders_Against.f k t441 t442 t443 t444 t446 t449 t450 t451 bt452.1 bt452.2).bind fun t456 => (clusterlockslaw10_HoldersYield.l0 k t446 t456 t446 0 t441 t442 t443 t444 t449 t450 t451 bt452.1 bt452.2))) = some r := H
  have A9 := Aside0.mk A90; clear A90
  replace H := Option.bind_eq_some_iff.mp H
  obtain ⟨⟨t452, t453⟩, A100, H⟩ := H
  replace H : ((holders_Against.f k t441 t442 t443 t444 t446 t449 t450 t451 t452 t453).bind fun t456 => (clusterlockslaw10_HoldersYield.l0 k t446 t456 t446 0 t441 t442 t443 t444 t449 t450 t451 t452 t453)) = some r := H
  have A10 := Aside0.mk A100; clear A100
  obtain ⟨t456, A110, H⟩ := Option.bind_eq_some_iff.mp H
  have A11 := Aside0.mk A110; clear A110
  have H' := Aside0.mk H
  clear H
  go_enter Tryd.func6, Tryd.ntmps6
  try go_wp2_with (first | ((with_reducible refine gate_callee (f := 20) rfl ?_); refine goesL_ (some 17) rfl rfl Tryd.func20 (by kernel_rfl) rfl #[.slice A1 l1.length c1] rfl (by (try simp only [mA]); first | done | rfl) ?_; (with_reducible refine (clusterlocksmill_Light.calls _ _ l1 true _ ?side1 ?side2 A5.out).mono ?_); (case side1 => repeat (first | exact HR1.out | (with_reducible refine Kd.C_alloc ?_ _) | (with_reducible refine Kd.C_drewN ?_ _) | (with_reducible refine Kd.C_drew ?_))); (case side2 => exact HC1.out); rintro e w' ⟨rfl, ⟨nd, rfl⟩⟩; refine ⟨_, rfl, ?_⟩) | ((with_reducible refine gate_callee (f := 21) rfl ?_); refine goesL_ (some 21) rfl rfl Tryd.func21 (by kernel_rfl) rfl #[.int .i64 a0] rfl (by (try simp only [mA]); first | done | rfl) ?_; (with_reducible refine (clusterlocksmill_Resource.calls k a0 t441 t442 t443 t444 _ A7.out).mono ?_); rintro e w12 ⟨rfl, hb⟩; refine ⟨_, rfl, ?_⟩; replace HB := bB HB hb; (try clear hb); (try clear hk)) | ((with_reducible refine gate_dst (N := 9) rfl ?_); (try (refine gate_guard (by rfl) ?_; dsimp only)); refine box_event ?hg (N := 9) ?hd (cs := #[.string (⟨#[]⟩ : ByteArray), .int .i64 0, .int .i64 0, .int .i64 0]) (t := 32) ?hr ?_; (case hd => rfl); (case hg => rfl); (case hr => first | (go_simp; done) | (go_simp; rfl)); intro gb445 hg w13 hbox hb; have BK445 := Aside0.mk hbox; have GW445 := gE HB hg; replace HB := bB HB hb; have GE445 := GW445; clear hb hbox hg; have hcz14_0 : w13.cell? ⟨gb445, 0, none⟩ = some (.string (⟨#[]⟩ : ByteArray)) := bC BK445 0 rfl; have hcz14_1 : w13.cell? ⟨gb445, 1, none⟩ = some (.int .i64 0) := bC BK445 1 rfl; have hcz14_2 : w13.cell? ⟨gb445, 2, none⟩ = some (.int .i64 0) := bC BK445 2 rfl; have hcz14_3 : w13.cell? ⟨gb445, 3, none⟩ = some (.int .i64 0) := bC BK445 3 rfl; have hfz14_0 := bF BK445 0; have hfz14_1 := bF BK445 1; have hfz14_2 := bF BK445 2; have hfz14_3 := bF BK445 3) | ((with_reducible refine gate_callee (f := 22) rfl ?_); refine goesL_ (some 24) rfl rfl Tryd.func22 (by kernel_rfl) rfl #[.agg #[.string t441, .int .i64 t442, .int .i64 t443, .int .i64 t444], .slice A1 l1.length c1] rfl (by (try simp only [mA]); first | done | rfl) ?_; (with_reducible refine (clusterlockslaw10_made.calls k t441 t442 t443 t444 _ _ l1 t446 _ ?side1 ?side2 A8.out).mono ?_); (case side1 => exact Kd.C_below HR1.out (by repeat (first | (with_reducible first | exact HB.out | apply bL | apply bM | apply bR | refine bS ?_ GE445.out) | exact HB.out))); (case side2 => exact HC1.out); rintro e w15 ⟨v447, rfl, ho0, hb⟩; refine ⟨_, rfl, ?_⟩; have HO448 := Aside0.mk (Kd.R_lower ho0 (below_size (by repeat (first | (with_reducible first | exact HB.out | apply bL | apply bM | apply bR | refine bS ?_ GE445.out) | exact HB.out)))); replace BK445 := Aside0.mk (blk_below (g := gb445) (o := .cells #[.string t441, .int .i64 t442, .int .i64 t443, .int .i64 t444] 32 (0, 0)) (by (with_reducible repeat first | refine bN ?_ _ | refine bD ?_ | refine bA ?_ _); refine blk_put (cs := #[.string t441, .int .i64 t442, .int .i64 t443, .int .i64 0]) ?_ 3 _ rfl; (with_reducible repeat first | refine bN ?_ _ | refine bD ?_ | refine bA ?_ _); refine blk_put (cs := #[.string t441, .int .i64 t442, .int .i64 0, .int .i64 0]) ?_ 2 _ rfl; (with_reducible repeat first | refine bN ?_ _ | refine bD ?_ | refine bA ?_ _); refine blk_put (cs := #[.string t441, .int .i64 0, .int .i64 0, .int .i64 0]) ?_ 1 _ rfl; (with_reducible repeat first | refine bN ?_ _ | refine bD ?_ | refine bA ?_ _); refine blk_put (cs := #[.string (⟨#[]⟩ : ByteArray), .int .i64 0, .int .i64 0, .int .i64 0]) ?_ 0 _ rfl; (with_reducible repeat first | refine bN ?_ _ | refine bD ?_ | refine bA ?_ _); exact BK445.out) hb); replace HB := Aside0.mk (below_step (by repeat (first | (with_reducible first | exact HB.out | apply bL | apply bM | apply bR | refine bS ?_ GE445.out) | exact HB.out)) hb); (try clear hb); (try clear hk); (try clear ho0)))
  replace HO448 := Aside0.mk (Kd.R_drew HO448.out)
  replace BK445 := Aside0.mk (blk_drew BK445.out)
  replace HB := Aside0.mk (below_drew1 HB.out)
  refine start_ (n := 9) (S := fun w' => w'.cell? ⟨gb445, 0, none⟩ = some (.string t441) ∧ w'.cell? ⟨gb445, 1, none⟩ = some (.int .i64 t442) ∧ w'.cell? ⟨gb445, 2, none⟩ = some (.int .i64 t443) ∧ w'.cell? ⟨gb445, 3, none⟩ = some (.int .i64 t444)) (ds := []) #[F,F,F,F,F,F,F,F,F] (by kernel_rfl) rfl rfl ⟨bC BK445 0 rfl, bC BK445 1 rfl, bC BK445 2 rfl, bC BK445 3 rfl⟩ (fun hHeld => ?_); refine with_tabW clusterlockslaw10_HoldersYield.tab5 clusterlockslaw10_HoldersYield.bits5 (fun HT_ HW_ => ?_)
  generalize w15.drew = w16 at HO448 BK445 HB hHeld ⊢
  refine pu HT_ 0 25 #[T,F,F,F,F,F,F,F,F] rfl rfl (by kernel_rfl) (fun _ _ _ => id) (.inl ⟨by rfl, by intro w'; go_simp; with_reducible rfl⟩) (by simp only [sP]; rfl) ?_
  refine pu HT_ 3 28 #[T,F,F,T,F,F,F,F,F] rfl rfl (by kernel_rfl) (fun _ _ _ => id) (.inl ⟨by rfl, by intro w'; go_simp; with_reducible rfl⟩) (by simp only [sP]; rfl) ?_
  refine tk HT_ HW_ 2 27 #[T,F,T,T,F,F,F,F,F] rfl rfl (by kernel_rfl) (fun _ _ _ => id) (.inl ⟨by rfl, by rintro w' ⟨s0, s1, s2, s3⟩; go_simp; with_reducible rfl⟩) hHeld (by simp only [sP]; rfl) ?_
  refine join_ (σ := Nat × Nat) 2 #[T,T,T,T,T,T,T,F,F] (fun s_ => [(26, .agg #[.int .i64 t449, .int .i64 t450, .int .i64 t451]), (29, .agg #[.int .i64 t452, .int .i64 t453]), (11, .pointer (some ⟨s_.1, 0, none⟩)), (12, .pointer (some ⟨s_.2, 0, none⟩))]) (fun s_ w' => (w'.cell? ⟨gb445, 0, none⟩ = some (.string t441) ∧ w'.cell? ⟨gb445, 1, none⟩ = some (.int .i64 t442) ∧ w'.cell? ⟨gb445, 2, none⟩ = some (.int .i64 t443) ∧ w'.cell? ⟨gb445, 3, none⟩ = some (.int .i64 t444)) ∧ (Kd.R k53 53 w' w.heap.size (fun _ => True) v447 t446) ∧ (w'.heap[gb445]? = some (.cells #[.string t441, .int .i64 t442, .int .i64 t443, .int .i64 t444] 32 (0, 0))) ∧ (w'.heap[s_.1]? = some (.cells #[.int .i64 0, .int .i64 0, .int .i64 0] 24 (0, 0))) ∧ (w'.heap[s_.2]? = some (.cells #[.int .i64 0, .int .i64 0] 26 (0, 0))) ∧ (w.heap.size ≤ s_.1) ∧ (w.heap.size ≤ s_.1) ∧ (gb445 ≠ s_.1) ∧ (s_.1 ≠ gb445) ∧ (s_.2 ≠ s_.1) ∧ (s_.1 ≠ s_.2) ∧ (w.heap.size ≤ s_.2) ∧ (w.heap.size ≤ s_.2) ∧ (gb445 ≠ s_.2) ∧ (s_.2 ≠ gb445) ∧ (Below w.heap.size w w')) ?_ ?_
  rotate_left
  ·intro hJ1_4_5_6
   refine join_ (σ := Nat) 3 #[T,T,T,T,T,T,F,F,F] (fun s_ => [(26, .agg #[.int .i64 t449, .int .i64 t450, .int .i64 t451]), (29, .agg #[.int .i64 t452, .int .i64 t453]), (11, .pointer (some ⟨s_, 0, none⟩))]) (fun s_ w' => (w'.cell? ⟨gb445, 0, none⟩ = some (.string t441) ∧ w'.cell? ⟨gb445, 1, none⟩ = some (.int .i64 t442) ∧ w'.cell? ⟨gb445, 2, none⟩ = some (.int .i64 t443) ∧ w'.cell? ⟨gb445, 3, none⟩ = some (.int .i64 t444)) ∧ (Kd.R k53 53 w' w.heap.size (fun _ => True) v447 t446) ∧ (w'.heap[gb445]? = some (.cells #[.string t441, .int .i64 t442, .int .i64 t443, .int .i64 t444] 32 (0, 0))) ∧ (w'.heap[s_]? = some (.cells #[.int .i64 0, .int .i64 0, .int .i64 0] 24 (0, 0))) ∧ (w.heap.size ≤ s_) ∧ (w.heap.size ≤ s_) ∧ (gb445 ≠ s_) ∧ (s_ ≠ gb445) ∧ (Below w.heap.size w w')) ?_ ?_
   rotate_left
   ·intro hJ1_4_5
    refine join_ (σ := Nat) 3 #[T,T,T,T,T,F,T,F,F] (fun s_ => [(26, .agg #[.int .i64 t449, .int .i64 t450, .int .i64 t451]), (29, .agg #[.int .i64 t452, .int .i64 t453]), (12, .pointer (some ⟨s_, 0, none⟩))]) (fun s_ w' => (w'.cell? ⟨gb445, 0, none⟩ = some (.string t441) ∧ w'.cell? ⟨gb445, 1, none⟩ = some (.int .i64 t442) ∧ w'.cell? ⟨gb445, 2, none⟩ = some (.int .i64 t443) ∧ w'.cell? ⟨gb445, 3, none⟩ = some (.int .i64 t444)) ∧ (Kd.R k53 53 w' w.heap.size (fun _ => True) v447 t446) ∧ (w'.heap[gb445]? = some (.cells #[.string t441, .int .i64 t442, .int .i64 t443, .int .i64 t444] 32 (0, 0))) ∧ (w'.heap[s_]? = some (.cells #[.int .i64 0, .int .i64 0] 26 (0, 0))) ∧ (w.heap.size ≤ s_) ∧ (w.heap.size ≤ s_) ∧ (gb445 ≠ s_) ∧ (s_ ≠ gb445) ∧ (Below w.heap.size w w')) ?_ ?_
    rotate_left
    ·intro hJ1_4_6
     refine join_ (σ := Nat × Nat) 3 #[T,T,T,T,F,T,T,F,F] (fun s_ => [(26, .agg #[.int .i64 t449, .int .i64 t450, .int .i64 t451]), (11, .pointer (some ⟨s_.1, 0, none⟩)), (12, .pointer (some ⟨s_.2, 0, none⟩))]) (fun s_ w' => (w'.cell? ⟨gb445, 0, none⟩ = some (.string t441) ∧ w'.cell? ⟨gb445, 1, none⟩ = some (.int .i64 t442) ∧ w'.cell? ⟨gb445, 2, none⟩ = some (.int .i64 t443) ∧ w'.cell? ⟨gb445, 3, none⟩ = some (.int .i64 t444)) ∧ (Kd.R k53 53 w' w.heap.size (fun _ => True) v447 t446) ∧ (w'.heap[gb445]? = some (.cells #[.string t441, .int .i64 t442, .int .i64 t443, .int .i64 t444] 32 (0, 0))) ∧ (w'.heap[s_.1]? = some (.cells #[.int .i64 0, .int .i64 0, .int .i64 0] 24 (0, 0))) ∧ (w'.heap[s_.2]? = some (.cells #[.int .i64 0, .int .i64 0] 26 (0, 0))) ∧ (w.heap.size ≤ s_.1) ∧ (w.heap.size ≤ s_.1) ∧ (gb445 ≠ s_.1) ∧ (s_.1 ≠ gb445) ∧ (s_.2 ≠ s_.1) ∧ (s_.1 ≠ s_.2) ∧ (w.heap.size ≤ s_.2) ∧ (w.heap.size ≤ s_.2) ∧ (gb445 ≠ s_.2) ∧ (s_.2 ≠ gb445) ∧ (Below w.heap.size w w')) ?_ ?_
     rotate_left
     ·intro hJ1_5_6
      refine join_ (σ := Unit) 4 #[T,T,T,T,T,F,F,F,F] (fun s_ => [(26, .agg #[.int .i64 t449, .int .i64 t450, .int .i64 t451]), (29, .agg #[.int .i64 t452, .int .i64 t453])]) (fun s_ w' => (w'.cell? ⟨gb445, 0, none⟩ = some (.string t441) ∧ w'.cell? ⟨gb445, 1, none⟩ = some (.int .i64 t442) ∧ w'.cell? ⟨gb445, 2, none⟩ = some (.int .i64 t443) ∧ w'.cell? ⟨gb445, 3, none⟩ = some (.int .i64 t444)) ∧ (Kd.R k53 53 w' w.heap.size (fun _ => True) v447 t446) ∧ (w'.heap[gb445]? = some (.cells #[.string t441, .int .i64 t442, .int .i64 t443, .int .i64 t444] 32 (0, 0))) ∧ (Below w.heap.size w w')) ?_ ?_
      rotate_left
      ·intro hJ1_4
       refine join_ (σ := Nat) 4 #[T,T,T,T,F,T,F,F,F] (fun s_ => [(26, .agg #[.int .i64 t449, .int .i64 t450, .int .i64 t451]), (11, .pointer (some ⟨s_, 0, none⟩))]) (fun s_ w' => (w'.cell? ⟨gb445, 0, none⟩ = some (.string t441) ∧ w'.cell? ⟨gb445, 1, none⟩ = some (.int .i64 t442) ∧ w'.cell? ⟨gb445, 2, none⟩ = some (.int .i64 t443) ∧ w'.cell? ⟨gb445, 3, none⟩ = some (.int .i64 t444)) ∧ (Kd.R k53 53 w' w.heap.size (fun _ => True) v447 t446) ∧ (w'.heap[gb445]? = some (.cells #[.string t441, .int .i64 t442, .int .i64 t443, .int .i64 t444] 32 (0, 0))) ∧ (w'.heap[s_]? = some (.cells #[.int .i64 0, .int .i64 0, .int .i64 0] 24 (0, 0))) ∧ (w.heap.size ≤ s_) ∧ (w.heap.size ≤ s_) ∧ (gb445 ≠ s_) ∧ (s_ ≠ gb445) ∧ (Below w.heap.size w w')) ?_ ?_
       rotate_left
       ·intro hJ1_5
        refine join_ (σ := Nat) 4 #[T,T,T,T,F,F,T,F,F] (fun s_ => [(26, .agg #[.int .i64 t449, .int .i64 t450, .int .i64 t451]), (12, .pointer (some ⟨s_, 0, none⟩))]) (fun s_ w' => (w'.cell? ⟨gb445, 0, none⟩ = some (.string t441) ∧ w'.cell? ⟨gb445, 1, none⟩ = some (.int .i64 t442) ∧ w'.cell? ⟨gb445, 2, none⟩ = some (.int .i64 t443) ∧ w'.cell? ⟨gb445, 3, none⟩ = some (.int .i64 t444)) ∧ (Kd.R k53 53 w' w.heap.size (fun _ => True) v447 t446) ∧ (w'.heap[gb445]? = some (.cells #[.string t441, .int .i64 t442, .int .i64 t443, .int .i64 t444] 32 (0, 0))) ∧ (w'.heap[s_]? = some (.cells #[.int .i64 0, .int .i64 0] 26 (0, 0))) ∧ (w.heap.size ≤ s_) ∧ (w.heap.size ≤ s_) ∧ (gb445 ≠ s_) ∧ (s_ ≠ gb445) ∧ (Below w.heap.size w w')) ?_ ?_
        rotate_left
        ·intro hJ1_6
         refine join_ (σ := Nat × Nat) 4 #[T,F,T,T,F,T,T,F,F] (fun s_ => [(11, .pointer (some ⟨s_.1, 0, none⟩)), (12, .pointer (some ⟨s_.2, 0, none⟩))]) (fun s_ w' => (w'.cell? ⟨gb445, 0, none⟩ = some (.string t441) ∧ w'.cell? ⟨gb445, 1, none⟩ = some (.int .i64 t442) ∧ w'.cell? ⟨gb445, 2, none⟩ = some (.int .i64 t443) ∧ w'.cell? ⟨gb445, 3, none⟩ = some (.int .i64 t444)) ∧ (Kd.R k53 53 w' w.heap.size (fun _ => True) v447 t446) ∧ (w'.heap[gb445]? = some (.cells #[.string t441, .int .i64 t442, .int .i64 t443, .int .i64 t444] 32 (0, 0))) ∧ (w'.heap[s_.1]? = some (.cells #[.int .i64 0, .int .i64 0, .int .i64 0] 24 (0, 0))) ∧ (w'.heap[s_.2]? = some (.cells #[.int .i64 0, .int .i64 0] 26 (0, 0))) ∧ (w.heap.size ≤ s_.1) ∧ (w.heap.size ≤ s_.1) ∧ (gb445 ≠ s_.1) ∧ (s_.1 ≠ gb445) ∧ (s_.2 ≠ s_.1) ∧ (s_.1 ≠ s_.2) ∧ (w.heap.size ≤ s_.2) ∧ (w.heap.size ≤ s_.2) ∧ (gb445 ≠ s_.2) ∧ (s_.2 ≠ gb445) ∧ (Below w.heap.size w w')) ?_ ?_
         rotate_left
         ·intro hJ5_6
          refine join_ (σ := Unit) 5 #[T,T,T,T,F,F,F,F,F] (fun s_ => [(26, .agg #[.int .i64 t449, .int .i64 t450, .int .i64 t451])]) (fun s_ w' => (w'.cell? ⟨gb445, 0, none⟩ = some (.string t441) ∧ w'.cell? ⟨gb445, 1, none⟩ = some (.int .i64 t442) ∧ w'.cell? ⟨gb445, 2, none⟩ = some (.int .i64 t443) ∧ w'.cell? ⟨gb445, 3, none⟩ = some (.int .i64 t444)) ∧ (Kd.R k53 53 w' w.heap.size (fun _ => True) v447 t446) ∧ (w'.heap[gb445]? = some (.cells #[.string t441, .int .i64 t442, .int .i64 t443, .int .i64 t444] 32 (0, 0))) ∧ (Below w.heap.size w w')) ?_ ?_
          rotate_left
          ·intro hJ1
           refine join_ (σ := Nat) 5 #[T,F,T,T,F,T,F,F,F] (fun s_ => [(11, .pointer (some ⟨s_, 0, none⟩))]) (fun s_ w' => (w'.cell? ⟨gb445, 0, none⟩ = some (.string t441) ∧ w'.cell? ⟨gb445, 1, none⟩ = some (.int .i64 t442) ∧ w'.cell? ⟨gb445, 2, none⟩ = some (.int .i64 t443) ∧ w'.cell? ⟨gb445, 3, none⟩ = some (.int .i64 t444)) ∧ (Kd.R k53 53 w' w.heap.size (fun _ => True) v447 t446) ∧ (w'.heap[gb445]? = some (.cells #[.string t441, .int .i64 t442, .int .i64 t443, .int .i64 t444] 32 (0, 0))) ∧ (w'.heap[s_]? = some (.cells #[.int .i64 0, .int .i64 0, .int .i64 0] 24 (0, 0))) ∧ (w.heap.size ≤ s_) ∧ (w.heap.size ≤ s_) ∧ (gb445 ≠ s_) ∧ (s_ ≠ gb445) ∧ (Below w.heap.size w w')) ?_ ?_
           rotate_left
           ·intro hJ5
            refine join_ (σ := Nat) 5 #[T,F,T,T,F,F,T,F,F] (fun s_ => [(12, .pointer (some ⟨s_, 0, none⟩))]) (fun s_ w' => (w'.cell? ⟨gb445, 0, none⟩ = some (.string t441) ∧ w'.cell? ⟨gb445, 1, none⟩ = some (.int .i64 t442) ∧ w'.cell? ⟨gb445, 2, none⟩ = some (.int .i64 t443) ∧ w'.cell? ⟨gb445, 3, none⟩ = some (.int .i64 t444)) ∧ (Kd.R k53 53 w' w.heap.size (fun _ => True) v447 t446) ∧ (w'.heap[gb445]? = some (.cells #[.string t441, .int .i64 t442, .int .i64 t443, .int .i64 t444] 32 (0, 0))) ∧ (w'.heap[s_]? = some (.cells #[.int .i64 0, .int .i64 0] 26 (0, 0))) ∧ (w.heap.size ≤ s_) ∧ (w.heap.size ≤ s_) ∧ (gb445 ≠ s_) ∧ (s_ ≠ gb445) ∧ (Below w.heap.size w w')) ?_ ?_
            rotate_left
            ·intro hJ6
             refine three_ (i := 1) (j := 5) (k := 6) (Ni := some 26) (Nj := some 11) (Nk := some 12) #[T,T,T,T,F,F,F,F,F] #[T,F,T,T,F,T,F,F,F] #[T,F,T,T,F,F,T,F,F] rfl rfl rfl rfl rfl rfl (three_of HT_.out (by kernel_rfl)) (by decide) (by decide) (by decide) (fun K hK => ?_) (fun K hK => ?_) (fun K hK => ?_)
             ·skip
              refine goes_ Tryd.func23 (by kernel_rfl) rfl #[.int .i64 a2] (by rfl) rfl rfl (by (try simp only [mA]); first | done | rfl) ?_
              with_reducible refine (clusterlocksmill_Proc.calls a2 t449 t450 t451 _ A9.out).mono ?_
              rintro e w17 ⟨rfl, hb⟩
              refine ⟨_, rfl, ?_⟩
              replace HO448 := Aside0.mk (Kd.R_below (by (with_reducible repeat (first | apply Kd.R_alloc | apply Kd.R_drewN | apply Kd.R_drew)); exact HO448.out) hb)
              replace BK445 := bK BK445 hb
              replace HB := Aside0.mk (below_step (by repeat (first | (with_reducible first | exact HB.out | apply bL | apply bM | apply bR | refine bS ?_ GE445.out) | exact HB.out)) hb)
              (try clear hb)
              (try clear hk)
              refine hK.out _ _ ⟨bC BK445 0 rfl, bC BK445 1 rfl, bC BK445 2 rfl, bC BK445 3 rfl⟩ (fun hHeld => ?_)
              clear hK K
              refine norm_ (a' := ?_) ?_ ?_
              rotate_left
              ·show Act.put _ (some 26) _ = _
               simp only [sP]
               rfl
              exact norm_ (by first | (simp only [putAll, sP]; done) | (simp only [putAll, sP]; rfl)) (hJ1 () _ ⟨hHeld, (by (with_reducible repeat (first | apply Kd.R_alloc | apply Kd.R_drewN | apply Kd.R_drew)); exact HO448.out), (uK BK445), (by repeat (first | (with_reducible first | exact HB.out | apply bL | apply bM | apply bR | refine bS ?_ GE445.out) | exact HB.out))⟩)
             ·skip
              refine box_step ?hg (N := 11) ?hd (cs := #[.int .i64 0, .int .i64 0, .int .i64 0]) (t := 24) ?hr ?_; (case hd => rfl); (case hg => rfl); (case hr => first | (go_simp; done) | (go_simp; rfl))
              intro gb454 hg w17 hbox hb
              replace HO448 := Aside0.mk (Kd.R_below (by (with_reducible repeat (first | apply Kd.R_alloc | apply Kd.R_drewN | apply Kd.R_drew)); exact HO448.out) hb)
              have BK454 := Aside0.mk hbox
              have GW454 := Aside0.mk ((by rw [hg]; exact (below_size (by repeat (first | (with_reducible first | exact HB.out | apply bL | apply bM | apply bR | refine bS ?_ GE445.out) | exact HB.out))) : w.heap.size ≤ gb454))
              have GE454 := Aside0.mk ((by rw [hg]; exact (below_size (by repeat (first | (with_reducible first | exact HB.out | apply bL | apply bM | apply bR | refine bS ?_ GE445.out) | exact HB.out))) : w.heap.size ≤ gb454))
              replace HB := Aside0.mk (below_step (by repeat (first | (with_reducible first | exact HB.out | apply bL | apply bM | apply bR | refine bS ?_ GE445.out) | exact HB.out)) hb)
              have NB445_454 := gN BK445 hg
              replace BK445 := bK BK445 hb
              have NB454_445 := Aside0.mk NB445_454.out.symm
              clear hb hbox hg
              refine hK.out _ _ ⟨bC BK445 0 rfl, bC BK445 1 rfl, bC BK445 2 rfl, bC BK445 3 rfl⟩ (fun hHeld => ?_)
              clear hK K
              refine norm_ (a' := ?_) ?_ ?_
              rotate_left
              ·show Act.put _ (some 11) _ = _
               simp only [sP]
               rfl
              exact norm_ (by first | (simp only [putAll, sP]; done) | (simp only [putAll, sP]; rfl)) (hJ5 (gb454) _ ⟨hHeld, (by (with_reducible repeat (first | apply Kd.R_alloc | apply Kd.R_drewN | apply Kd.R_drew)); exact HO448.out), (uK BK445), (uK BK454), GW454.out, GE454.out, NB445_454.out, NB454_445.out, (by repeat (first | (with_reducible first | exact HB.out | apply bL | apply bM | apply bR | refine bS ?_ GE445.out | refine bS ?_ GE454.out) | exact HB.out))⟩)
             ·skip
              refine box_step ?hg (N := 12) ?hd (cs := #[.int .i64 0, .int .i64 0]) (t := 26) ?hr ?_; (case hd => rfl); (case hg => rfl); (case hr => first | (go_simp; done) | (go_simp; rfl))
              intro gb455 hg w17 hbox hb
              replace HO448 := Aside0.mk (Kd.R_below (by (with_reducible repeat (first | apply Kd.R_alloc | apply Kd.R_drewN | apply Kd.R_drew)); exact HO448.out) hb)
              have BK455 := Aside0.mk hbox
              have GW455 := Aside0.mk ((by rw [hg]; exact (below_size (by repeat (first | (with_reducible first | exact HB.out | apply bL | apply bM | apply bR | refine bS ?_ GE445.out) | exact HB.out))) : w.heap.size ≤ gb455))
              have GE455 := Aside0.mk ((by rw [hg]; exact (below_size (by repeat (first | (with_reducible first | exact HB.out | apply bL | apply bM | apply bR | refine bS ?_ GE445.out) | exact HB.out))) : w.heap.size ≤ gb455))
              replace HB := Aside0.mk (below_step (by repeat (first | (with_reducible first | exact HB.out | apply bL | apply bM | apply bR | refine bS ?_ GE445.out) | exact HB.out)) hb)
              have NB445_455 := gN BK445 hg
              replace BK445 := bK BK445 hb
              have NB455_445 := Aside0.mk NB445_455.out.symm
              clear hb hbox hg
              refine hK.out _ _ ⟨bC BK445 0 rfl, bC BK445 1 rfl, bC BK445 2 rfl, bC BK445 3 rfl⟩ (fun hHeld => ?_)
              clear hK K
              refine norm_ (a' := ?_) ?_ ?_
              rotate_left
              ·show Act.put _ (some 12) _ = _
               simp only [sP]
               rfl
              exact norm_ (by first | (simp only [putAll, sP]; done) | (simp only [putAll, sP]; rfl)) (hJ6 (gb455) _ ⟨hHeld, (by (with_reducible repeat (first | apply Kd.R_alloc | apply Kd.R_drewN | apply Kd.R_drew)); exact HO448.out), (uK BK445), (uK BK455), GW455.out, GE455.out, NB445_455.out, NB455_445.out, (by repeat (first | (with_reducible first | exact HB.out | apply bL | apply bM | apply bR | refine bS ?_ GE445.out | refine bS ?_ GE455.out) | exact HB.out))⟩)
            ·skip
             rintro gb455 w18 ⟨hS_, h0_, h1_, h2_, h3_, h4_, h5_, h6_, h7_⟩
             have n0_ : Aside0 (Kd.R k53 53 w18 w.heap.size (fun _ => True) v447 t446) := ⟨h0_⟩
             have n1_ : Aside0 (w18.heap[gb445]? = some (.cells #[.string t441, .int .i64 t442, .int .i64 t443, .int .i64 t444] 32 (0, 0))) := ⟨h1_⟩
             have n2_ : Aside0 (w18.heap[gb455]? = some (.cells #[.int .i64 0, .int .i64 0] 26 (0, 0))) := ⟨h2_⟩
             have n3_ : Aside0 (w.heap.size ≤ gb455) := ⟨h3_⟩
             have n4_ : Aside0 (w.heap.size ≤ gb455) := ⟨h4_⟩
             have n5_ : Aside0 (gb445 ≠ gb455) := ⟨h5_⟩
             have n6_ : Aside0 (gb455 ≠ gb445) := ⟨h6_⟩
             have n7_ : Aside0 (Below w.heap.size w w18) := ⟨h7_⟩
             clear HO448
             clear BK445
             clear HB
             clear h0_ h1_ h2_ h3_ h4_ h5_ h6_ h7_
             have HO448 := n0_
             have BK445 := n1_
             have BK455 := n2_
             have GW455 := n3_
             have GE455 := n4_
             have NB445_455 := n5_
             have NB455_445 := n6_
             have HB := n7_
             clear n0_ n1_ n2_ n3_ n4_ n5_ n6_ n7_
             have hHeld : w18.cell? ⟨gb445, 0, none⟩ = some (.string t441) ∧ w18.cell? ⟨gb445, 1, none⟩ = some (.int .i64 t442) ∧ w18.cell? ⟨gb445, 2, none⟩ = some (.int .i64 t443) ∧ w18.cell? ⟨gb445, 3, none⟩ = some (.int .i64 t444) := hS_
             refine norm_ (a' := ?_) ?_ ?_
             rotate_left
             ·simp only [putAll, sP]
              rfl
             refine two_ (i := 1) (j := 5) (Ni := some 26) (Nj := some 11) #[T,T,T,T,F,F,T,F,F] #[T,F,T,T,F,T,T,F,F] rfl rfl rfl rfl (two_of HT_.out (by kernel_rfl)) (by decide) (by decide) (fun K hK => ?_) (fun K hK => ?_)
             ·skip
              refine goes_ Tryd.func23 (by kernel_rfl) rfl #[.int .i64 a2] (by rfl) rfl rfl (by (try simp only [mA]); first | done | rfl) ?_
              with_reducible refine (clusterlocksmill_Proc.calls a2 t449 t450 t451 _ A9.out).mono ?_
              rintro e w19 ⟨rfl, hb⟩
              refine ⟨_, rfl, ?_⟩
              replace HO448 := Aside0.mk (Kd.R_below (by (with_reducible repeat (first | apply Kd.R_alloc | apply Kd.R_drewN | apply Kd.R_drew)); exact HO448.out) hb)
              replace BK445 := bK BK445 hb
              replace BK455 := bK BK455 hb
              replace HB := Aside0.mk (below_step (by repeat (first | (with_reducible first | exact HB.out | apply bL | apply bM | apply bR | refine bS ?_ GE445.out | refine bS ?_ GE455.out) | exact HB.out)) hb)
              (try clear hb)
              (try clear hk)
              refine hK.out _ _ ⟨bC BK445 0 rfl, bC BK445 1 rfl, bC BK445 2 rfl, bC BK445 3 rfl⟩ (fun hHeld => ?_)
              clear hK K
              refine norm_ (a' := ?_) ?_ ?_
              rotate_left
              ·show Act.put _ (some 26) _ = _
               simp only [sP]
               rfl
              exact norm_ (by first | (simp only [putAll, sP]; done) | (simp only [putAll, sP]; rfl)) (hJ1_6 (gb455) _ ⟨hHeld, (by (with_reducible repeat (first | apply Kd.R_alloc | apply Kd.R_drewN | apply Kd.R_drew)); exact HO448.out), (uK BK445), (uK BK455), GW455.out, GE455.out, NB445_455.out, NB455_445.out, (by repeat (first | (with_reducible first | exact HB.out | apply bL | apply bM | apply bR | refine bS ?_ GE445.out | refine bS ?_ GE455.out) | exact HB.out))⟩)
             ·skip
              refine box_step ?hg (N := 11) ?hd (cs := #[.int .i64 0, .int .i64 0, .int .i64 0]) (t := 24) ?hr ?_; (case hd => rfl); (case hg => rfl); (case hr => first | (go_simp; done) | (go_simp; rfl))
              intro gb454 hg w19 hbox hb
              replace HO448 := Aside0.mk (Kd.R_below (by (with_reducible repeat (first | apply Kd.R_alloc | apply Kd.R_drewN | apply Kd.R_drew)); exact HO448.out) hb)
              have BK454 := Aside0.mk hbox
              have GW454 := Aside0.mk ((by rw [hg]; exact (below_size (by repeat (first | (with_reducible first | exact HB.out | apply bL | apply bM | apply bR | refine bS ?_ GE445.out | refine bS ?_ GE455.out) | exact HB.out))) : w.heap.size ≤ gb454))
              have GE454 := Aside0.mk ((by rw [hg]; exact (below_size (by repeat (first | (with_reducible first | exact HB.out | apply bL | apply bM | apply bR | refine bS ?_ GE445.out | refine bS ?_ GE455.out) | exact HB.out))) : w.heap.size ≤ gb454))
              replace HB := Aside0.mk (below_step (by repeat (first | (with_reducible first | exact HB.out | apply bL | apply bM | apply bR | refine bS ?_ GE445.out | refine bS ?_ GE455.out) | exact HB.out)) hb)
              have NB445_454 := gN BK445 hg
              replace BK445 := bK BK445 hb
              have NB454_445 := Aside0.mk NB445_454.out.symm
              have NB455_454 := gN BK455 hg
              replace BK455 := bK BK455 hb
              have NB454_455 := Aside0.mk NB455_454.out.symm
              clear hb hbox hg
              refine hK.out _ _ ⟨bC BK445 0 rfl, bC BK445 1 rfl, bC BK445 2 rfl, bC BK445 3 rfl⟩ (fun hHeld => ?_)
              clear hK K
              refine norm_ (a' := ?_) ?_ ?_
              rotate_left
              ·show Act.put _ (some 11) _ = _
               simp only [sP]
               rfl
              exact norm_ (by first | (simp only [putAll, sP]; done) | (simp only [putAll, sP]; rfl)) (hJ5_6 (gb454, gb455) _ ⟨hHeld, (by (with_reducible repeat (first | apply Kd.R_alloc | apply Kd.R_drewN | apply Kd.R_drew)); exact HO448.out), (uK BK445), (uK BK454), (uK BK455), GW454.out, GE454.out, NB445_454.out, NB454_445.out, NB455_454.out, NB454_455.out, GW455.out, GE455.out, NB445_455.out, NB455_445.out, (by repeat (first | (with_reducible first | exact HB.out | apply bL | apply bM | apply bR | refine bS ?_ GE445.out | refine bS ?_ GE455.out | refine bS ?_ GE454.out) | exact HB.out))⟩)
           ·skip
            rintro gb454 w18 ⟨hS_, h0_, h1_, h2_, h3_, h4_, h5_, h6_, h7_⟩
            have n0_ : Aside0 (Kd.R k53 53 w18 w.heap.size (fun _ => True) v447 t446) := ⟨h0_⟩
            have n1_ : Aside0 (w18.heap[gb445]? = some (.cells #[.string t441, .int .i64 t442, .int .i64 t443, .int .i64 t444] 32 (0, 0))) := ⟨h1_⟩
            have n2_ : Aside0 (w18.heap[gb454]? = some (.cells #[.int .i64 0, .int .i64 0, .int .i64 0] 24 (0, 0))) := ⟨h2_⟩
            have n3_ : Aside0 (w.heap.size ≤ gb454) := ⟨h3_⟩
            have n4_ : Aside0 (w.heap.size ≤ gb454) := ⟨h4_⟩
            have n5_ : Aside0 (gb445 ≠ gb454) := ⟨h5_⟩
            have n6_ : Aside0 (gb454 ≠ gb445) := ⟨h6_⟩
            have n7_ : Aside0 (Below w.heap.size w w18) := ⟨h7_⟩
            clear HO448
            clear BK445
            clear HB
            clear h0_ h1_ h2_ h3_ h4_ h5_ h6_ h7_
            have HO448 := n0_
            have BK445 := n1_
            have BK454 := n2_
            have GW454 := n3_
            have GE454 := n4_
            have NB445_454 := n5_
            have NB454_445 := n6_
            have HB := n7_
            clear n0_ n1_ n2_ n3_ n4_ n5_ n6_ n7_
            have hHeld : w18.cell? ⟨gb445, 0, none⟩ = some (.string t441) ∧ w18.cell? ⟨gb445, 1, none⟩ = some (.int .i64 t442) ∧ w18.cell? ⟨gb445, 2, none⟩ = some (.int .i64 t443) ∧ w18.cell? ⟨gb445, 3, none⟩ = some (.int .i64 t444) := hS_
            refine norm_ (a' := ?_) ?_ ?_
            rotate_left
            ·simp only [putAll, sP]
             rfl
            refine two_ (i := 1) (j := 6) (Ni := some 26) (Nj := some 12) #[T,T,T,T,F,T,F,F,F] #[T,F,T,T,F,T,T,F,F] rfl rfl rfl rfl (two_of HT_.out (by kernel_rfl)) (by decide) (by decide) (fun K hK => ?_) (fun K hK => ?_)
            ·skip
             refine goes_ Tryd.func23 (by kernel_rfl) rfl #[.int .i64 a2] (by rfl) rfl rfl (by (try simp only [mA]); first | done | rfl) ?_
             with_reducible refine (clusterlocksmill_Proc.calls a2 t449 t450 t451 _ A9.out).mono ?_
             rintro e w19 ⟨rfl, hb⟩
             refine ⟨_, rfl, ?_⟩
             replace HO448 := Aside0.mk (Kd.R_below (by (with_reducible repeat (first | apply Kd.R_alloc | apply Kd.R_drewN | apply Kd.R_drew)); exact HO448.out) hb)
             replace BK445 := bK BK445 hb
             replace BK454 := bK BK454 hb
             replace HB := Aside0.mk (below_step (by repeat (first | (with_reducible first | exact HB.out | apply bL | apply bM | apply bR | refine bS ?_ GE445.out | refine bS ?_ GE454.out) | exact HB.out)) hb)
             (try clear hb)
             (try clear hk)
             refine hK.out _ _ ⟨bC BK445 0 rfl, bC BK445 1 rfl, bC BK445 2 rfl, bC BK445 3 rfl⟩ (fun hHeld => ?_)
             clear hK K
             refine norm_ (a' := ?_) ?_ ?_
             rotate_left
             ·show Act.put _ (some 26) _ = _
              simp only [sP]
              rfl
             exact norm_ (by first | (simp only [putAll, sP]; done) | (simp only [putAll, sP]; rfl)) (hJ1_5 (gb454) _ ⟨hHeld, (by (with_reducible repeat (first | apply Kd.R_alloc | apply Kd.R_drewN | apply Kd.R_drew)); exact HO448.out), (uK BK445), (uK BK454), GW454.out, GE454.out, NB445_454.out, NB454_445.out, (by repeat (first | (with_reducible first | exact HB.out | apply bL | apply bM | apply bR | refine bS ?_ GE445.out | refine bS ?_ GE454.out) | exact HB.out))⟩)
            ·skip
             refine box_step ?hg (N := 12) ?hd (cs := #[.int .i64 0, .int .i64 0]) (t := 26) ?hr ?_; (case hd => rfl); (case hg => rfl); (case hr => first | (go_simp; done) | (go_simp; rfl))
             intro gb455 hg w19 hbox hb
             replace HO448 := Aside0.mk (Kd.R_below (by (with_reducible repeat (first | apply Kd.R_alloc | apply Kd.R_drewN | apply Kd.R_drew)); exact HO448.out) hb)
             have BK455 := Aside0.mk hbox
             have GW455 := Aside0.mk ((by rw [hg]; exact (below_size (by repeat (first | (with_reducible first | exact HB.out | apply bL | apply bM | apply bR | refine bS ?_ GE445.out | refine bS ?_ GE454.out) | exact HB.out))) : w.heap.size ≤ gb455))
             have GE455 := Aside0.mk ((by rw [hg]; exact (below_size (by repeat (first | (with_reducible first | exact HB.out | apply bL | apply bM | apply bR | refine bS ?_ GE445.out | refine bS ?_ GE454.out) | exact HB.out))) : w.heap.size ≤ gb455))
             replace HB := Aside0.mk (below_step (by repeat (first | (with_reducible first | exact HB.out | apply bL | apply bM | apply bR | refine bS ?_ GE445.out | refine bS ?_ GE454.out) | exact HB.out)) hb)
             have NB445_455 := gN BK445 hg
             replace BK445 := bK BK445 hb
             have NB455_445 := Aside0.mk NB445_455.out.symm
             have NB454_455 := gN BK454 hg
             replace BK454 := bK BK454 hb
             have NB455_454 := Aside0.mk NB454_455.out.symm
             clear hb hbox hg
             refine hK.out _ _ ⟨bC BK445 0 rfl, bC BK445 1 rfl, bC BK445 2 rfl, bC BK445 3 rfl⟩ (fun hHeld => ?_)
             clear hK K
             refine norm_ (a' := ?_) ?_ ?_
             rotate_left
             ·show Act.put _ (some 12) _ = _
              simp only [sP]
              rfl
             exact norm_ (by first | (simp only [putAll, sP]; done) | (simp only [putAll, sP]; rfl)) (hJ5_6 (gb454, gb455) _ ⟨hHeld, (by (with_reducible repeat (first | apply Kd.R_alloc | apply Kd.R_drewN | apply Kd.R_drew)); exact HO448.out), (uK BK445), (uK BK454), (uK BK455), GW454.out, GE454.out, NB445_454.out, NB454_445.out, NB455_454.out, NB454_455.out, GW455.out, GE455.out, NB445_455.out, NB455_445.out, (by repeat (first | (with_reducible first | exact HB.out | apply bL | apply bM | apply bR | refine bS ?_ GE445.out | refine bS ?_ GE454.out | refine bS ?_ GE455.out) | exact HB.out))⟩)
          ·skip
           rintro _ w18 ⟨hS_, h0_, h1_, h2_⟩
           have n0_ : Aside0 (Kd.R k53 53 w18 w.heap.size (fun _ => True) v447 t446) := ⟨h0_⟩
           have n1_ : Aside0 (w18.heap[gb445]? = some (.cells #[.string t441, .int .i64 t442, .int .i64 t443, .int .i64 t444] 32 (0, 0))) := ⟨h1_⟩
           have n2_ : Aside0 (Below w.heap.size w w18) := ⟨h2_⟩
           clear HO448
           clear BK445
           clear HB
           clear h0_ h1_ h2_
           have HO448 := n0_
           have BK445 := n1_
           have HB := n2_
           clear n0_ n1_ n2_
           have hHeld : w18.cell? ⟨gb445, 0, none⟩ = some (.string t441) ∧ w18.cell? ⟨gb445, 1, none⟩ = some (.int .i64 t442) ∧ w18.cell? ⟨gb445, 2, none⟩ = some (.int .i64 t443) ∧ w18.cell? ⟨gb445, 3, none⟩ = some (.int .i64 t444) := hS_
           refine norm_ (a' := ?_) ?_ ?_
           rotate_left
           ·simp only [putAll, sP]
            rfl
           refine three_ (i := 4) (j := 5) (k := 6) (Ni := some 29) (Nj := some 11) (Nk := some 12) #[T,T,T,T,T,F,F,F,F] #[T,T,T,T,F,T,F,F,F] #[T,T,T,T,F,F,T,F,F] rfl rfl rfl rfl rfl rfl (three_of HT_.out (by kernel_rfl)) (by decide) (by decide) (by decide) (fun K hK => ?_) (fun K hK => ?_) (fun K hK => ?_)
           ·skip
            refine goes_ Tryd.func24 (by kernel_rfl) rfl #[.agg #[.string t441, .int .i64 t442, .int .i64 t443, .int .i64 t444], .int .i64 a3] (by rfl) rfl rfl (by (try simp only [mA]); first | done | rfl) ?_
            with_reducible refine (clusterlocksmill_Amount.calls t441 t442 t443 t444 a3 t452 t453 _ A10.out).mono ?_
            rintro e w19 ⟨rfl, hb⟩
            refine ⟨_, rfl, ?_⟩
            replace HO448 := Aside0.mk (Kd.R_below (by (with_reducible repeat (first | apply Kd.R_alloc | apply Kd.R_drewN | apply Kd.R_drew)); exact HO448.out) hb)
            replace BK445 := bK BK445 hb
            replace HB := Aside0.mk (below_step (by repeat (first | (with_reducible first | exact HB.out | apply bL | apply bM | apply bR | refine bS ?_ GE445.out) | exact HB.out)) hb)
            (try clear hb)
            (try clear hk)
            refine hK.out _ _ ⟨bC BK445 0 rfl, bC BK445 1 rfl, bC BK445 2 rfl, bC BK445 3 rfl⟩ (fun hHeld => ?_)
            clear hK K
            refine norm_ (a' := ?_) ?_ ?_
            rotate_left
            ·show Act.put _ (some 29) _ = _
             simp only [sP]
             rfl
            exact norm_ (by first | (simp only [putAll, sP]; done) | (simp only [putAll, sP]; rfl)) (hJ1_4 () _ ⟨hHeld, (by (with_reducible repeat (first | apply Kd.R_alloc | apply Kd.R_drewN | apply Kd.R_drew)); exact HO448.out), (uK BK445), (by repeat (first | (with_reducible first | exact HB.out | apply bL | apply bM | apply bR | refine bS ?_ GE445.out) | exact HB.out))⟩)
           ·skip
            refine box_step ?hg (N := 11) ?hd (cs := #[.int .i64 0, .int .i64 0, .int .i64 0]) (t := 24) ?hr ?_; (case hd => rfl); (case hg => rfl); (case hr => first | (go_simp; done) | (go_simp; rfl))
            intro gb454 hg w19 hbox hb
            replace HO448 := Aside0.mk (Kd.R_below (by (with_reducible repeat (first | apply Kd.R_alloc | apply Kd.R_drewN | apply Kd.R_drew)); exact HO448.out) hb)
            have BK454 := Aside0.mk hbox
            have GW454 := Aside0.mk ((by rw [hg]; exact (below_size (by repeat (first | (with_reducible first | exact HB.out | apply bL | apply bM | apply bR | refine bS ?_ GE445.out) | exact HB.out))) : w.heap.size ≤ gb454))
            have GE454 := Aside0.mk ((by rw [hg]; exact (below_size (by repeat (first | (with_reducible first | exact HB.out | apply bL | apply bM | apply bR | refine bS ?_ GE445.out) | exact HB.out))) : w.heap.size ≤ gb454))
            replace HB := Aside0.mk (below_step (by repeat (first | (with_reducible first | exact HB.out | apply bL | apply bM | apply bR | refine bS ?_ GE445.out) | exact HB.out)) hb)
            have NB445_454 := gN BK445 hg
            replace BK445 := bK BK445 hb
            have NB454_445 := Aside0.mk NB445_454.out.symm
            clear hb hbox hg
            refine hK.out _ _ ⟨bC BK445 0 rfl, bC BK445 1 rfl, bC BK445 2 rfl, bC BK445 3 rfl⟩ (fun hHeld => ?_)
            clear hK K
            refine norm_ (a' := ?_) ?_ ?_
            rotate_left
            ·show Act.put _ (some 11) _ = _
             simp only [sP]
             rfl
            exact norm_ (by first | (simp only [putAll, sP]; done) | (simp only [putAll, sP]; rfl)) (hJ1_5 (gb454) _ ⟨hHeld, (by (with_reducible repeat (first | apply Kd.R_alloc | apply Kd.R_drewN | apply Kd.R_drew)); exact HO448.out), (uK BK445), (uK BK454), GW454.out, GE454.out, NB445_454.out, NB454_445.out, (by repeat (first | (with_reducible first | exact HB.out | apply bL | apply bM | apply bR | refine bS ?_ GE445.out | refine bS ?_ GE454.out) | exact HB.out))⟩)
           ·skip
            refine box_step ?hg (N := 12) ?hd (cs := #[.int .i64 0, .int .i64 0]) (t := 26) ?hr ?_; (case hd => rfl); (case hg => rfl); (case hr => first | (go_simp; done) | (go_simp; rfl))
            intro gb455 hg w19 hbox hb
            replace HO448 := Aside0.mk (Kd.R_below (by (with_reducible repeat (first | apply Kd.R_alloc | apply Kd.R_drewN | apply Kd.R_drew)); exact HO448.out) hb)
            have BK455 := Aside0.mk hbox
            have GW455 := Aside0.mk ((by rw [hg]; exact (below_size (by repeat (first | (with_reducible first | exact HB.out | apply bL | apply bM | apply bR | refine bS ?_ GE445.out) | exact HB.out))) : w.heap.size ≤ gb455))
            have GE455 := Aside0.mk ((by rw [hg]; exact (below_size (by repeat (first | (with_reducible first | exact HB.out | apply bL | apply bM | apply bR | refine bS ?_ GE445.out) | exact HB.out))) : w.heap.size ≤ gb455))
            replace HB := Aside0.mk (below_step (by repeat (first | (with_reducible first | exact HB.out | apply bL | apply bM | apply bR | refine bS ?_ GE445.out) | exact HB.out)) hb)
            have NB445_455 := gN BK445 hg
            replace BK445 := bK BK445 hb
            have NB455_445 := Aside0.mk NB445_455.out.symm
            clear hb hbox hg
            refine hK.out _ _ ⟨bC BK445 0 rfl, bC BK445 1 rfl, bC BK445 2 rfl, bC BK445 3 rfl⟩ (fun hHeld => ?_)
            clear hK K
            refine norm_ (a' := ?_) ?_ ?_
            rotate_left
            ·show Act.put _ (some 12) _ = _
             simp only [sP]
             rfl
            exact norm_ (by first | (simp only [putAll, sP]; done) | (simp only [putAll, sP]; rfl)) (hJ1_6 (gb455) _ ⟨hHeld, (by (with_reducible repeat (first | apply Kd.R_alloc | apply Kd.R_drewN | apply Kd.R_drew)); exact HO448.out), (uK BK445), (uK BK455), GW455.out, GE455.out, NB445_455.out, NB455_445.out, (by repeat (first | (with_reducible first | exact HB.out | apply bL | apply bM | apply bR | refine bS ?_ GE445.out | refine bS ?_ GE455.out) | exact HB.out))⟩)
         ·skip
          rintro ⟨gb454, gb455⟩ w19 ⟨hS_, h0_, h1_, h2_, h3_, h4_, h5_, h6_, h7_, h8_, h9_, h10_, h11_, h12_, h13_, h14_⟩
          have n0_ : Aside0 (Kd.R k53 53 w19 w.heap.size (fun _ => True) v447 t446) := ⟨h0_⟩
          have n1_ : Aside0 (w19.heap[gb445]? = some (.cells #[.string t441, .int .i64 t442, .int .i64 t443, .int .i64 t444] 32 (0, 0))) := ⟨h1_⟩
          have n2_ : Aside0 (w19.heap[gb454]? = some (.cells #[.int .i64 0, .int .i64 0, .int .i64 0] 24 (0, 0))) := ⟨h2_⟩
          have n3_ : Aside0 (w19.heap[gb455]? = some (.cells #[.int .i64 0, .int .i64 0] 26 (0, 0))) := ⟨h3_⟩
          have n4_ : Aside0 (w.heap.size ≤ gb454) := ⟨h4_⟩
          have n5_ : Aside0 (w.heap.size ≤ gb454) := ⟨h5_⟩
          have n6_ : Aside0 (gb445 ≠ gb454) := ⟨h6_⟩
          have n7_ : Aside0 (gb454 ≠ gb445) := ⟨h7_⟩
          have n8_ : Aside0 (gb455 ≠ gb454) := ⟨h8_⟩
          have n9_ : Aside0 (gb454 ≠ gb455) := ⟨h9_⟩
          have n10_ : Aside0 (w.heap.size ≤ gb455) := ⟨h10_⟩
          have n11_ : Aside0 (w.heap.size ≤ gb455) := ⟨h11_⟩
          have n12_ : Aside0 (gb445 ≠ gb455) := ⟨h12_⟩
          have n13_ : Aside0 (gb455 ≠ gb445) := ⟨h13_⟩
          have n14_ : Aside0 (Below w.heap.size w w19) := ⟨h14_⟩
          clear HO448
          clear BK445
          clear HB
          clear h0_ h1_ h2_ h3_ h4_ h5_ h6_ h7_ h8_ h9_ h10_ h11_ h12_ h13_ h14_
          have HO448 := n0_
          have BK445 := n1_
          have BK454 := n2_
          have BK455 := n3_
          have GW454 := n4_
          have GE454 := n5_
          have NB445_454 := n6_
          have NB454_445 := n7_
          have NB455_454 := n8_
          have NB454_455 := n9_
          have GW455 := n10_
          have GE455 := n11_
          have NB445_455 := n12_
          have NB455_445 := n13_
          have HB := n14_
          clear n0_ n1_ n2_ n3_ n4_ n5_ n6_ n7_ n8_ n9_ n10_ n11_ n12_ n13_ n14_
          have hHeld : w19.cell? ⟨gb445, 0, none⟩ = some (.string t441) ∧ w19.cell? ⟨gb445, 1, none⟩ = some (.int .i64 t442) ∧ w19.cell? ⟨gb445, 2, none⟩ = some (.int .i64 t443) ∧ w19.cell? ⟨gb445, 3, none⟩ = some (.int .i64 t444) := hS_
          refine norm_ (a' := ?_) ?_ ?_
          rotate_left
          ·simp only [putAll, sP]
           rfl
          refine one_ (i := 1) (N := some 26) #[T,T,T,T,F,T,T,F,F] rfl rfl (one_of HT_.out (by kernel_rfl)) (by decide) (fun K hK => ?_)
          refine goes_ Tryd.func23 (by kernel_rfl) rfl #[.int .i64 a2] (by rfl) rfl rfl (by (try simp only [mA]); first | done | rfl) ?_
          with_reducible refine (clusterlocksmill_Proc.calls a2 t449 t450 t451 _ A9.out).mono ?_
          rintro e w20 ⟨rfl, hb⟩
          refine ⟨_, rfl, ?_⟩
          replace HO448 := Aside0.mk (Kd.R_below (by (with_reducible repeat (first | apply Kd.R_alloc | apply Kd.R_drewN | apply Kd.R_drew)); exact HO448.out) hb)
          replace BK445 := bK BK445 hb
          replace BK454 := bK BK454 hb
          replace BK455 := bK BK455 hb
          replace HB := Aside0.mk (below_step (by repeat (first | (with_reducible first | exact HB.out | apply bL | apply bM | apply bR | refine bS ?_ GE445.out | refine bS ?_ GE454.out | refine bS ?_ GE455.out) | exact HB.out)) hb)
          (try clear hb)
          (try clear hk)
          refine hK.out _ _ ⟨bC BK445 0 rfl, bC BK445 1 rfl, bC BK445 2 rfl, bC BK445 3 rfl⟩ (fun hHeld => ?_)
          clear hK K
          refine norm_ (a' := ?_) ?_ ?_
          rotate_left
          ·show Act.put _ (some 26) _ = _
           simp only [sP]
           rfl
          exact norm_ (by first | (simp only [putAll, sP]; done) | (simp only [putAll, sP]; rfl)) (hJ1_5_6 (gb454, gb455) _ ⟨hHeld, (by (with_reducible repeat (first | apply Kd.R_alloc | apply Kd.R_drewN | apply Kd.R_drew)); exact HO448.out), (uK BK445), (uK BK454), (uK BK455), GW454.out, GE454.out, NB445_454.out, NB454_445.out, NB455_454.out, NB454_455.out, GW455.out, GE455.out, NB445_455.out, NB455_445.out, (by repeat (first | (with_reducible first | exact HB.out | apply bL | apply bM | apply bR | refine bS ?_ GE445.out | refine bS ?_ GE454.out | refine bS ?_ GE455.out) | exact HB.out))⟩)
        ·skip
         rintro gb455 w19 ⟨hS_, h0_, h1_, h2_, h3_, h4_, h5_, h6_, h7_⟩
         have n0_ : Aside0 (Kd.R k53 53 w19 w.heap.size (fun _ => True) v447 t446) := ⟨h0_⟩
         have n1_ : Aside0 (w19.heap[gb445]? = some (.cells #[.string t441, .int .i64 t442, .int .i64 t443, .int .i64 t444] 32 (0, 0))) := ⟨h1_⟩
         have n2_ : Aside0 (w19.heap[gb455]? = some (.cells #[.int .i64 0, .int .i64 0] 26 (0, 0))) := ⟨h2_⟩
         have n3_ : Aside0 (w.heap.size ≤ gb455) := ⟨h3_⟩
         have n4_ : Aside0 (w.heap.size ≤ gb455) := ⟨h4_⟩
         have n5_ : Aside0 (gb445 ≠ gb455) := ⟨h5_⟩
         have n6_ : Aside0 (gb455 ≠ gb445) := ⟨h6_⟩
         have n7_ : Aside0 (Below w.heap.size w w19) := ⟨h7_⟩
         clear HO448
         clear BK445
         clear HB
         clear h0_ h1_ h2_ h3_ h4_ h5_ h6_ h7_
         have HO448 := n0_
         have BK445 := n1_
         have BK455 := n2_
         have GW455 := n3_
         have GE455 := n4_
         have NB445_455 := n5_
         have NB455_445 := n6_
         have HB := n7_
         clear n0_ n1_ n2_ n3_ n4_ n5_ n6_ n7_
         have hHeld : w19.cell? ⟨gb445, 0, none⟩ = some (.string t441) ∧ w19.cell? ⟨gb445, 1, none⟩ = some (.int .i64 t442) ∧ w19.cell? ⟨gb445, 2, none⟩ = some (.int .i64 t443) ∧ w19.cell? ⟨gb445, 3, none⟩ = some (.int .i64 t444) := hS_
         refine norm_ (a' := ?_) ?_ ?_
         rotate_left
         ·simp only [putAll, sP]
          rfl
         refine two_ (i := 4) (j := 5) (Ni := some 29) (Nj := some 11) #[T,T,T,T,T,F,T,F,F] #[T,T,T,T,F,T,T,F,F] rfl rfl rfl rfl (two_of HT_.out (by kernel_rfl)) (by decide) (by decide) (fun K hK => ?_) (fun K hK => ?_)
         ·skip
          refine goes_ Tryd.func24 (by kernel_rfl) rfl #[.agg #[.string t441, .int .i64 t442, .int .i64 t443, .int .i64 t444], .int .i64 a3] (by rfl) rfl rfl (by (try simp only [mA]); first | done | rfl) ?_
          with_reducible refine (clusterlocksmill_Amount.calls t441 t442 t443 t444 a3 t452 t453 _ A10.out).mono ?_
          rintro e w20 ⟨rfl, hb⟩
          refine ⟨_, rfl, ?_⟩
          replace HO448 := Aside0.mk (Kd.R_below (by (with_reducible repeat (first | apply Kd.R_alloc | apply Kd.R_drewN | apply Kd.R_drew)); exact HO448.out) hb)
          replace BK445 := bK BK445 hb
          replace BK455 := bK BK455 hb
          replace HB := Aside0.mk (below_step (by repeat (first | (with_reducible first | exact HB.out | apply bL | apply bM | apply bR | refine bS ?_ GE445.out | refine bS ?_ GE455.out) | exact HB.out)) hb)
          (try clear hb)
          (try clear hk)
          refine hK.out _ _ ⟨bC BK445 0 rfl, bC BK445 1 rfl, bC BK445 2 rfl, bC BK445 3 rfl⟩ (fun hHeld => ?_)
          clear hK K
          refine norm_ (a' := ?_) ?_ ?_
          rotate_left
          ·show Act.put _ (some 29) _ = _
           simp only [sP]
           rfl
          exact norm_ (by first | (simp only [putAll, sP]; done) | (simp only [putAll, sP]; rfl)) (hJ1_4_6 (gb455) _ ⟨hHeld, (by (with_reducible repeat (first | apply Kd.R_alloc | apply Kd.R_drewN | apply Kd.R_drew)); exact HO448.out), (uK BK445), (uK BK455), GW455.out, GE455.out, NB445_455.out, NB455_445.out, (by repeat (first | (with_reducible first | exact HB.out | apply bL | apply bM | apply bR | refine bS ?_ GE445.out | refine bS ?_ GE455.out) | exact HB.out))⟩)
         ·skip
          refine box_step ?hg (N := 11) ?hd (cs := #[.int .i64 0, .int .i64 0, .int .i64 0]) (t := 24) ?hr ?_; (case hd => rfl); (case hg => rfl); (case hr => first | (go_simp; done) | (go_simp; rfl))
          intro gb454 hg w20 hbox hb
          replace HO448 := Aside0.mk (Kd.R_below (by (with_reducible repeat (first | apply Kd.R_alloc | apply Kd.R_drewN | apply Kd.R_drew)); exact HO448.out) hb)
          have BK454 := Aside0.mk hbox
          have GW454 := Aside0.mk ((by rw [hg]; exact (below_size (by repeat (first | (with_reducible first | exact HB.out | apply bL | apply bM | apply bR | refine bS ?_ GE445.out | refine bS ?_ GE455.out) | exact HB.out))) : w.heap.size ≤ gb454))
          have GE454 := Aside0.mk ((by rw [hg]; exact (below_size (by repeat (first | (with_reducible first | exact HB.out | apply bL | apply bM | apply bR | refine bS ?_ GE445.out | refine bS ?_ GE455.out) | exact HB.out))) : w.heap.size ≤ gb454))
          replace HB := Aside0.mk (below_step (by repeat (first | (with_reducible first | exact HB.out | apply bL | apply bM | apply bR | refine bS ?_ GE445.out | refine bS ?_ GE455.out) | exact HB.out)) hb)
          have NB445_454 := gN BK445 hg
          replace BK445 := bK BK445 hb
          have NB454_445 := Aside0.mk NB445_454.out.symm
          have NB455_454 := gN BK455 hg
          replace BK455 := bK BK455 hb
          have NB454_455 := Aside0.mk NB455_454.out.symm
          clear hb hbox hg
          refine hK.out _ _ ⟨bC BK445 0 rfl, bC BK445 1 rfl, bC BK445 2 rfl, bC BK445 3 rfl⟩ (fun hHeld => ?_)
          clear hK K
          refine norm_ (a' := ?_) ?_ ?_
          rotate_left
          ·show Act.put _ (some 11) _ = _
           simp only [sP]
           rfl
          exact norm_ (by first | (simp only [putAll, sP]; done) | (simp only [putAll, sP]; rfl)) (hJ1_5_6 (gb454, gb455) _ ⟨hHeld, (by (with_reducible repeat (first | apply Kd.R_alloc | apply Kd.R_drewN | apply Kd.R_drew)); exact HO448.out), (uK BK445), (uK BK454), (uK BK455), GW454.out, GE454.out, NB445_454.out, NB454_445.out, NB455_454.out, NB454_455.out, GW455.out, GE455.out, NB445_455.out, NB455_445.out, (by repeat (first | (with_reducible first | exact HB.out | apply bL | apply bM | apply bR | refine bS ?_ GE445.out | refine bS ?_ GE455.out | refine bS ?_ GE454.out) | exact HB.out))⟩)
       ·skip
        rintro gb454 w19 ⟨hS_, h0_, h1_, h2_, h3_, h4_, h5_, h6_, h7_⟩
        have n0_ : Aside0 (Kd.R k53 53 w19 w.heap.size (fun _ => True) v447 t446) := ⟨h0_⟩
        have n1_ : Aside0 (w19.heap[gb445]? = some (.cells #[.string t441, .int .i64 t442, .int .i64 t443, .int .i64 t444] 32 (0, 0))) := ⟨h1_⟩
        have n2_ : Aside0 (w19.heap[gb454]? = some (.cells #[.int .i64 0, .int .i64 0, .int .i64 0] 24 (0, 0))) := ⟨h2_⟩
        have n3_ : Aside0 (w.heap.size ≤ gb454) := ⟨h3_⟩
        have n4_ : Aside0 (w.heap.size ≤ gb454) := ⟨h4_⟩
        have n5_ : Aside0 (gb445 ≠ gb454) := ⟨h5_⟩
        have n6_ : Aside0 (gb454 ≠ gb445) := ⟨h6_⟩
        have n7_ : Aside0 (Below w.heap.size w w19) := ⟨h7_⟩
        clear HO448
        clear BK445
        clear HB
        clear h0_ h1_ h2_ h3_ h4_ h5_ h6_ h7_
        have HO448 := n0_
        have BK445 := n1_
        have BK454 := n2_
        have GW454 := n3_
        have GE454 := n4_
        have NB445_454 := n5_
        have NB454_445 := n6_
        have HB := n7_
        clear n0_ n1_ n2_ n3_ n4_ n5_ n6_ n7_
        have hHeld : w19.cell? ⟨gb445, 0, none⟩ = some (.string t441) ∧ w19.cell? ⟨gb445, 1, none⟩ = some (.int .i64 t442) ∧ w19.cell? ⟨gb445, 2, none⟩ = some (.int .i64 t443) ∧ w19.cell? ⟨gb445, 3, none⟩ = some (.int .i64 t444) := hS_
        refine norm_ (a' := ?_) ?_ ?_
        rotate_left
        ·simp only [putAll, sP]
         rfl
        refine two_ (i := 4) (j := 6) (Ni := some 29) (Nj := some 12) #[T,T,T,T,T,T,F,F,F] #[T,T,T,T,F,T,T,F,F] rfl rfl rfl rfl (two_of HT_.out (by kernel_rfl)) (by decide) (by decide) (fun K hK => ?_) (fun K hK => ?_)
        ·skip
         refine goes_ Tryd.func24 (by kernel_rfl) rfl #[.agg #[.string t441, .int .i64 t442, .int .i64 t443, .int .i64 t444], .int .i64 a3] (by rfl) rfl rfl (by (try simp only [mA]); first | done | rfl) ?_
         with_reducible refine (clusterlocksmill_Amount.calls t441 t442 t443 t444 a3 t452 t453 _ A10.out).mono ?_
         rintro e w20 ⟨rfl, hb⟩
         refine ⟨_, rfl, ?_⟩
         replace HO448 := Aside0.mk (Kd.R_below (by (with_reducible repeat (first | apply Kd.R_alloc | apply Kd.R_drewN | apply Kd.R_drew)); exact HO448.out) hb)
         replace BK445 := bK BK445 hb
         replace BK454 := bK BK454 hb
         replace HB := Aside0.mk (below_step (by repeat (first | (with_reducible first | exact HB.out | apply bL | apply bM | apply bR | refine bS ?_ GE445.out | refine bS ?_ GE454.out) | exact HB.out)) hb)
         (try clear hb)
         (try clear hk)
         refine hK.out _ _ ⟨bC BK445 0 rfl, bC BK445 1 rfl, bC BK445 2 rfl, bC BK445 3 rfl⟩ (fun hHeld => ?_)
         clear hK K
         refine norm_ (a' := ?_) ?_ ?_
         rotate_left
         ·show Act.put _ (some 29) _ = _
          simp only [sP]
          rfl
         exact norm_ (by first | (simp only [putAll, sP]; done) | (simp only [putAll, sP]; rfl)) (hJ1_4_5 (gb454) _ ⟨hHeld, (by (with_reducible repeat (first | apply Kd.R_alloc | apply Kd.R_drewN | apply Kd.R_drew)); exact HO448.out), (uK BK445), (uK BK454), GW454.out, GE454.out, NB445_454.out, NB454_445.out, (by repeat (first | (with_reducible first | exact HB.out | apply bL | apply bM | apply bR | refine bS ?_ GE445.out | refine bS ?_ GE454.out) | exact HB.out))⟩)
        ·skip
         refine box_step ?hg (N := 12) ?hd (cs := #[.int .i64 0, .int .i64 0]) (t := 26) ?hr ?_; (case hd => rfl); (case hg => rfl); (case hr => first | (go_simp; done) | (go_simp; rfl))
         intro gb455 hg w20 hbox hb
         replace HO448 := Aside0.mk (Kd.R_below (by (with_reducible repeat (first | apply Kd.R_alloc | apply Kd.R_drewN | apply Kd.R_drew)); exact HO448.out) hb)
         have BK455 := Aside0.mk hbox
         have GW455 := Aside0.mk ((by rw [hg]; exact (below_size (by repeat (first | (with_reducible first | exact HB.out | apply bL | apply bM | apply bR | refine bS ?_ GE445.out | refine bS ?_ GE454.out) | exact HB.out))) : w.heap.size ≤ gb455))
         have GE455 := Aside0.mk ((by rw [hg]; exact (below_size (by repeat (first | (with_reducible first | exact HB.out | apply bL | apply bM | apply bR | refine bS ?_ GE445.out | refine bS ?_ GE454.out) | exact HB.out))) : w.heap.size ≤ gb455))
         replace HB := Aside0.mk (below_step (by repeat (first | (with_reducible first | exact HB.out | apply bL | apply bM | apply bR | refine bS ?_ GE445.out | refine bS ?_ GE454.out) | exact HB.out)) hb)
         have NB445_455 := gN BK445 hg
         replace BK445 := bK BK445 hb
         have NB455_445 := Aside0.mk NB445_455.out.symm
         have NB454_455 := gN BK454 hg
         replace BK454 := bK BK454 hb
         have NB455_454 := Aside0.mk NB454_455.out.symm
         clear hb hbox hg
         refine hK.out _ _ ⟨bC BK445 0 rfl, bC BK445 1 rfl, bC BK445 2 rfl, bC BK445 3 rfl⟩ (fun hHeld => ?_)
         clear hK K
         refine norm_ (a' := ?_) ?_ ?_
         rotate_left
         ·show Act.put _ (some 12) _ = _
          simp only [sP]
          rfl
         exact norm_ (by first | (simp only [putAll, sP]; done) | (simp only [putAll, sP]; rfl)) (hJ1_5_6 (gb454, gb455) _ ⟨hHeld, (by (with_reducible repeat (first | apply Kd.R_alloc | apply Kd.R_drewN | apply Kd.R_drew)); exact HO448.out), (uK BK445), (uK BK454), (uK BK455), GW454.out, GE454.out, NB445_454.out, NB454_445.out, NB455_454.out, NB454_455.out, GW455.out, GE455.out, NB445_455.out, NB455_445.out, (by repeat (first | (with_reducible first | exact HB.out | apply bL | apply bM | apply bR | refine bS ?_ GE445.out | refine bS ?_ GE454.out | refine bS ?_ GE455.out) | exact HB.out))⟩)
      ·skip
       rintro _ w19 ⟨hS_, h0_, h1_, h2_⟩
       have n0_ : Aside0 (Kd.R k53 53 w19 w.heap.size (fun _ => True) v447 t446) := ⟨h0_⟩
       have n1_ : Aside0 (w19.heap[gb445]? = some (.cells #[.string t441, .int .i64 t442, .int .i64 t443, .int .i64 t444] 32 (0, 0))) := ⟨h1_⟩
       have n2_ : Aside0 (Below w.heap.size w w19) := ⟨h2_⟩
       clear HO448
       clear BK445
       clear HB
       clear h0_ h1_ h2_
       have HO448 := n0_
       have BK445 := n1_
       have HB := n2_
       clear n0_ n1_ n2_
       have hHeld : w19.cell? ⟨gb445, 0, none⟩ = some (.string t441) ∧ w19.cell? ⟨gb445, 1, none⟩ = some (.int .i64 t442) ∧ w19.cell? ⟨gb445, 2, none⟩ = some (.int .i64 t443) ∧ w19.cell? ⟨gb445, 3, none⟩ = some (.int .i64 t444) := hS_
       refine norm_ (a' := ?_) ?_ ?_
       rotate_left
       ·simp only [putAll, sP]
        rfl
       refine two_ (i := 5) (j := 6) (Ni := some 11) (Nj := some 12) #[T,T,T,T,T,T,F,F,F] #[T,T,T,T,T,F,T,F,F] rfl rfl rfl rfl (two_of HT_.out (by kernel_rfl)) (by decide) (by decide) (fun K hK => ?_) (fun K hK => ?_)
       ·skip
        refine box_step ?hg (N := 11) ?hd (cs := #[.int .i64 0, .int .i64 0, .int .i64 0]) (t := 24) ?hr ?_; (case hd => rfl); (case hg => rfl); (case hr => first | (go_simp; done) | (go_simp; rfl))
        intro gb454 hg w20 hbox hb
        replace HO448 := Aside0.mk (Kd.R_below (by (with_reducible repeat (first | apply Kd.R_alloc | apply Kd.R_drewN | apply Kd.R_drew)); exact HO448.out) hb)
        have BK454 := Aside0.mk hbox
        have GW454 := Aside0.mk ((by rw [hg]; exact (below_size (by repeat (first | (with_reducible first | exact HB.out | apply bL | apply bM | apply bR | refine bS ?_ GE445.out) | exact HB.out))) : w.heap.size ≤ gb454))
        have GE454 := Aside0.mk ((by rw [hg]; exact (below_size (by repeat (first | (with_reducible first | exact HB.out | apply bL | apply bM | apply bR | refine bS ?_ GE445.out) | exact HB.out))) : w.heap.size ≤ gb454))
        replace HB := Aside0.mk (below_step (by repeat (first | (with_reducible first | exact HB.out | apply bL | apply bM | apply bR | refine bS ?_ GE445.out) | exact HB.out)) hb)
        have NB445_454 := gN BK445 hg
        replace BK445 := bK BK445 hb
        have NB454_445 := Aside0.mk NB445_454.out.symm
        clear hb hbox hg
        refine hK.out _ _ ⟨bC BK445 0 rfl, bC BK445 1 rfl, bC BK445 2 rfl, bC BK445 3 rfl⟩ (fun hHeld => ?_)
        clear hK K
        refine norm_ (a' := ?_) ?_ ?_
        rotate_left
        ·show Act.put _ (some 11) _ = _
         simp only [sP]
         rfl
        exact norm_ (by first | (simp only [putAll, sP]; done) | (simp only [putAll, sP]; rfl)) (hJ1_4_5 (gb454) _ ⟨hHeld, (by (with_reducible repeat (first | apply Kd.R_alloc | apply Kd.R_drewN | apply Kd.R_drew)); exact HO448.out), (uK BK445), (uK BK454), GW454.out, GE454.out, NB445_454.out, NB454_445.out, (by repeat (first | (with_reducible first | exact HB.out | apply bL | apply bM | apply bR | refine bS ?_ GE445.out | refine bS ?_ GE454.out) | exact HB.out))⟩)
       ·skip
        refine box_step ?hg (N := 12) ?hd (cs := #[.int .i64 0, .int .i64 0]) (t := 26) ?hr ?_; (case hd => rfl); (case hg => rfl); (case hr => first | (go_simp; done) | (go_simp; rfl))
        intro gb455 hg w20 hbox hb
        replace HO448 := Aside0.mk (Kd.R_below (by (with_reducible repeat (first | apply Kd.R_alloc | apply Kd.R_drewN | apply Kd.R_drew)); exact HO448.out) hb)
        have BK455 := Aside0.mk hbox
        have GW455 := Aside0.mk ((by rw [hg]; exact (below_size (by repeat (first | (with_reducible first | exact HB.out | apply bL | apply bM | apply bR | refine bS ?_ GE445.out) | exact HB.out))) : w.heap.size ≤ gb455))
        have GE455 := Aside0.mk ((by rw [hg]; exact (below_size (by repeat (first | (with_reducible first | exact HB.out | apply bL | apply bM | apply bR | refine bS ?_ GE445.out) | exact HB.out))) : w.heap.size ≤ gb455))
        replace HB := Aside0.mk (below_step (by repeat (first | (with_reducible first | exact HB.out | apply bL | apply bM | apply bR | refine bS ?_ GE445.out) | exact HB.out)) hb)
        have NB445_455 := gN BK445 hg
        replace BK445 := bK BK445 hb
        have NB455_445 := Aside0.mk NB445_455.out.symm
        clear hb hbox hg
        refine hK.out _ _ ⟨bC BK445 0 rfl, bC BK445 1 rfl, bC BK445 2 rfl, bC BK445 3 rfl⟩ (fun hHeld => ?_)
        clear hK K
        refine norm_ (a' := ?_) ?_ ?_
        rotate_left
        ·show Act.put _ (some 12) _ = _
         simp only [sP]
         rfl
        exact norm_ (by first | (simp only [putAll, sP]; done) | (simp only [putAll, sP]; rfl)) (hJ1_4_6 (gb455) _ ⟨hHeld, (by (with_reducible repeat (first | apply Kd.R_alloc | apply Kd.R_drewN | apply Kd.R_drew)); exact HO448.out), (uK BK445), (uK BK455), GW455.out, GE455.out, NB445_455.out, NB455_445.out, (by repeat (first | (with_reducible first | exact HB.out | apply bL | apply bM | apply bR | refine bS ?_ GE445.out | refine bS ?_ GE455.out) | exact HB.out))⟩)
     ·skip
      rintro ⟨gb454, gb455⟩ w20 ⟨hS_, h0_, h1_, h2_, h3_, h4_, h5_, h6_, h7_, h8_, h9_, h10_, h11_, h12_, h13_, h14_⟩
      have n0_ : Aside0 (Kd.R k53 53 w20 w.heap.size (fun _ => True) v447 t446) := ⟨h0_⟩
      have n1_ : Aside0 (w20.heap[gb445]? = some (.cells #[.string t441, .int .i64 t442, .int .i64 t443, .int .i64 t444] 32 (0, 0))) := ⟨h1_⟩
      have n2_ : Aside0 (w20.heap[gb454]? = some (.cells #[.int .i64 0, .int .i64 0, .int .i64 0] 24 (0, 0))) := ⟨h2_⟩
      have n3_ : Aside0 (w20.heap[gb455]? = some (.cells #[.int .i64 0, .int .i64 0] 26 (0, 0))) := ⟨h3_⟩
      have n4_ : Aside0 (w.heap.size ≤ gb454) := ⟨h4_⟩
      have n5_ : Aside0 (w.heap.size ≤ gb454) := ⟨h5_⟩
      have n6_ : Aside0 (gb445 ≠ gb454) := ⟨h6_⟩
      have n7_ : Aside0 (gb454 ≠ gb445) := ⟨h7_⟩
      have n8_ : Aside0 (gb455 ≠ gb454) := ⟨h8_⟩
      have n9_ : Aside0 (gb454 ≠ gb455) := ⟨h9_⟩
      have n10_ : Aside0 (w.heap.size ≤ gb455) := ⟨h10_⟩
      have n11_ : Aside0 (w.heap.size ≤ gb455) := ⟨h11_⟩
      have n12_ : Aside0 (gb445 ≠ gb455) := ⟨h12_⟩
      have n13_ : Aside0 (gb455 ≠ gb445) := ⟨h13_⟩
      have n14_ : Aside0 (Below w.heap.size w w20) := ⟨h14_⟩
      clear HO448
      clear BK445
      clear HB
      clear h0_ h1_ h2_ h3_ h4_ h5_ h6_ h7_ h8_ h9_ h10_ h11_ h12_ h13_ h14_
      have HO448 := n0_
      have BK445 := n1_
      have BK454 := n2_
      have BK455 := n3_
      have GW454 := n4_
      have GE454 := n5_
      have NB445_454 := n6_
      have NB454_445 := n7_
      have NB455_454 := n8_
      have NB454_455 := n9_
      have GW455 := n10_
      have GE455 := n11_
      have NB445_455 := n12_
      have NB455_445 := n13_
      have HB := n14_
      clear n0_ n1_ n2_ n3_ n4_ n5_ n6_ n7_ n8_ n9_ n10_ n11_ n12_ n13_ n14_
      have hHeld : w20.cell? ⟨gb445, 0, none⟩ = some (.string t441) ∧ w20.cell? ⟨gb445, 1, none⟩ = some (.int .i64 t442) ∧ w20.cell? ⟨gb445, 2, none⟩ = some (.int .i64 t443) ∧ w20.cell? ⟨gb445, 3, none⟩ = some (.int .i64 t444) := hS_
      refine norm_ (a' := ?_) ?_ ?_
      rotate_left
      ·simp only [putAll, sP]
       rfl
      refine one_ (i := 4) (N := some 29) #[T,T,T,T,T,T,T,F,F] rfl rfl (one_of HT_.out (by kernel_rfl)) (by decide) (fun K hK => ?_)
      refine goes_ Tryd.func24 (by kernel_rfl) rfl #[.agg #[.string t441, .int .i64 t442, .int .i64 t443, .int .i64 t444], .int .i64 a3] (by rfl) rfl rfl (by (try simp only [mA]); first | done | rfl) ?_
      with_reducible refine (clusterlocksmill_Amount.calls t441 t442 t443 t444 a3 t452 t453 _ A10.out).mono ?_
      rintro e w21 ⟨rfl, hb⟩
      refine ⟨_, rfl, ?_⟩
      replace HO448 := Aside0.mk (Kd.R_below (by (with_reducible repeat (first | apply Kd.R_alloc | apply Kd.R_drewN | apply Kd.R_drew)); exact HO448.out) hb)
      replace BK445 := bK BK445 hb
      replace BK454 := bK BK454 hb
      replace BK455 := bK BK455 hb
      replace HB := Aside0.mk (below_step (by repeat (first | (with_reducible first | exact HB.out | apply bL | apply bM | apply bR | refine bS ?_ GE445.out | refine bS ?_ GE454.out | refine bS ?_ GE455.out) | exact HB.out)) hb)
      (try clear hb)
      (try clear hk)
      refine hK.out _ _ ⟨bC BK445 0 rfl, bC BK445 1 rfl, bC BK445 2 rfl, bC BK445 3 rfl⟩ (fun hHeld => ?_)
      clear hK K
      refine norm_ (a' := ?_) ?_ ?_
      rotate_left
      ·show Act.put _ (some 29) _ = _
       simp only [sP]
       rfl
      exact norm_ (by first | (simp only [putAll, sP]; done) | (simp only [putAll, sP]; rfl)) (hJ1_4_5_6 (gb454, gb455) _ ⟨hHeld, (by (with_reducible repeat (first | apply Kd.R_alloc | apply Kd.R_drewN | apply Kd.R_drew)); exact HO448.out), (uK BK445), (uK BK454), (uK BK455), GW454.out, GE454.out, NB445_454.out, NB454_445.out, NB455_454.out, NB454_455.out, GW455.out, GE455.out, NB445_455.out, NB455_445.out, (by repeat (first | (with_reducible first | exact HB.out | apply bL | apply bM | apply bR | refine bS ?_ GE445.out | refine bS ?_ GE454.out | refine bS ?_ GE455.out) | exact HB.out))⟩)
    ·skip
     rintro gb455 w20 ⟨hS_, h0_, h1_, h2_, h3_, h4_, h5_, h6_, h7_⟩
     have n0_ : Aside0 (Kd.R k53 53 w20 w.heap.size (fun _ => True) v447 t446) := ⟨h0_⟩
     have n1_ : Aside0 (w20.heap[gb445]? = some (.cells #[.string t441, .int .i64 t442, .int .i64 t443, .int .i64 t444] 32 (0, 0))) := ⟨h1_⟩
     have n2_ : Aside0 (w20.heap[gb455]? = some (.cells #[.int .i64 0, .int .i64 0] 26 (0, 0))) := ⟨h2_⟩
     have n3_ : Aside0 (w.heap.size ≤ gb455) := ⟨h3_⟩
     have n4_ : Aside0 (w.heap.size ≤ gb455) := ⟨h4_⟩
     have n5_ : Aside0 (gb445 ≠ gb455) := ⟨h5_⟩
     have n6_ : Aside0 (gb455 ≠ gb445) := ⟨h6_⟩
     have n7_ : Aside0 (Below w.heap.size w w20) := ⟨h7_⟩
     clear HO448
     clear BK445
     clear HB
     clear h0_ h1_ h2_ h3_ h4_ h5_ h6_ h7_
     have HO448 := n0_
     have BK445 := n1_
     have BK455 := n2_
     have GW455 := n3_
     have GE455 := n4_
     have NB445_455 := n5_
     have NB455_445 := n6_
     have HB := n7_
     clear n0_ n1_ n2_ n3_ n4_ n5_ n6_ n7_
     have hHeld : w20.cell? ⟨gb445, 0, none⟩ = some (.string t441) ∧ w20.cell? ⟨gb445, 1, none⟩ = some (.int .i64 t442) ∧ w20.cell? ⟨gb445, 2, none⟩ = some (.int .i64 t443) ∧ w20.cell? ⟨gb445, 3, none⟩ = some (.int .i64 t444) := hS_
     refine norm_ (a' := ?_) ?_ ?_
     rotate_left
     ·simp only [putAll, sP]
      rfl
     refine one_ (i := 5) (N := some 11) #[T,T,T,T,T,T,T,F,F] rfl rfl (one_of HT_.out (by kernel_rfl)) (by decide) (fun K hK => ?_)
     refine box_step ?hg (N := 11) ?hd (cs := #[.int .i64 0, .int .i64 0, .int .i64 0]) (t := 24) ?hr ?_; (case hd => rfl); (case hg => rfl); (case hr => first | (go_simp; done) | (go_simp; rfl))
     intro gb454 hg w21 hbox hb
     replace HO448 := Aside0.mk (Kd.R_below (by (with_reducible repeat (first | apply Kd.R_alloc | apply Kd.R_drewN | apply Kd.R_drew)); exact HO448.out) hb)
     have BK454 := Aside0.mk hbox
     have GW454 := Aside0.mk ((by rw [hg]; exact (below_size (by repeat (first | (with_reducible first | exact HB.out | apply bL | apply bM | apply bR | refine bS ?_ GE445.out | refine bS ?_ GE455.out) | exact HB.out))) : w.heap.size ≤ gb454))
     have GE454 := Aside0.mk ((by rw [hg]; exact (below_size (by repeat (first | (with_reducible first | exact HB.out | apply bL | apply bM | apply bR | refine bS ?_ GE445.out | refine bS ?_ GE455.out) | exact HB.out))) : w.heap.size ≤ gb454))
     replace HB := Aside0.mk (below_step (by repeat (first | (with_reducible first | exact HB.out | apply bL | apply bM | apply bR | refine bS ?_ GE445.out | refine bS ?_ GE455.out) | exact HB.out)) hb)
     have NB445_454 := gN BK445 hg
     replace BK445 := bK BK445 hb
     have NB454_445 := Aside0.mk NB445_454.out.symm
     have NB455_454 := gN BK455 hg
     replace BK455 := bK BK455 hb
     have NB454_455 := Aside0.mk NB455_454.out.symm
     clear hb hbox hg
     refine hK.out _ _ ⟨bC BK445 0 rfl, bC BK445 1 rfl, bC BK445 2 rfl, bC BK445 3 rfl⟩ (fun hHeld => ?_)
     clear hK K
     refine norm_ (a' := ?_) ?_ ?_
     rotate_left
     ·show Act.put _ (some 11) _ = _
      simp only [sP]
      rfl
     exact norm_ (by first | (simp only [putAll, sP]; done) | (simp only [putAll, sP]; rfl)) (hJ1_4_5_6 (gb454, gb455) _ ⟨hHeld, (by (with_reducible repeat (first | apply Kd.R_alloc | apply Kd.R_drewN | apply Kd.R_drew)); exact HO448.out), (uK BK445), (uK BK454), (uK BK455), GW454.out, GE454.out, NB445_454.out, NB454_445.out, NB455_454.out, NB454_455.out, GW455.out, GE455.out, NB445_455.out, NB455_445.out, (by repeat (first | (with_reducible first | exact HB.out | apply bL | apply bM | apply bR | refine bS ?_ GE445.out | refine bS ?_ GE455.out | refine bS ?_ GE454.out) | exact HB.out))⟩)
   ·skip
    rintro gb454 w20 ⟨hS_, h0_, h1_, h2_, h3_, h4_, h5_, h6_, h7_⟩
    have n0_ : Aside0 (Kd.R k53 53 w20 w.heap.size (fun _ => True) v447 t446) := ⟨h0_⟩
    have n1_ : Aside0 (w20.heap[gb445]? = some (.cells #[.string t441, .int .i64 t442, .int .i64 t443, .int .i64 t444] 32 (0, 0))) := ⟨h1_⟩
    have n2_ : Aside0 (w20.heap[gb454]? = some (.cells #[.int .i64 0, .int .i64 0, .int .i64 0] 24 (0, 0))) := ⟨h2_⟩
    have n3_ : Aside0 (w.heap.size ≤ gb454) := ⟨h3_⟩
    have n4_ : Aside0 (w.heap.size ≤ gb454) := ⟨h4_⟩
    have n5_ : Aside0 (gb445 ≠ gb454) := ⟨h5_⟩
    have n6_ : Aside0 (gb454 ≠ gb445) := ⟨h6_⟩
    have n7_ : Aside0 (Below w.heap.size w w20) := ⟨h7_⟩
    clear HO448
    clear BK445
    clear HB
    clear h0_ h1_ h2_ h3_ h4_ h5_ h6_ h7_
    have HO448 := n0_
    have BK445 := n1_
    have BK454 := n2_
    have GW454 := n3_
    have GE454 := n4_
    have NB445_454 := n5_
    have NB454_445 := n6_
    have HB := n7_
    clear n0_ n1_ n2_ n3_ n4_ n5_ n6_ n7_
    have hHeld : w20.cell? ⟨gb445, 0, none⟩ = some (.string t441) ∧ w20.cell? ⟨gb445, 1, none⟩ = some (.int .i64 t442) ∧ w20.cell? ⟨gb445, 2, none⟩ = some (.int .i64 t443) ∧ w20.cell? ⟨gb445, 3, none⟩ = some (.int .i64 t444) := hS_
    refine norm_ (a' := ?_) ?_ ?_
    rotate_left
    ·simp only [putAll, sP]
     rfl
    refine one_ (i := 6) (N := some 12) #[T,T,T,T,T,T,T,F,F] rfl rfl (one_of HT_.out (by kernel_rfl)) (by decide) (fun K hK => ?_)
    refine box_step ?hg (N := 12) ?hd (cs := #[.int .i64 0, .int .i64 0]) (t := 26) ?hr ?_; (case hd => rfl); (case hg => rfl); (case hr => first | (go_simp; done) | (go_simp; rfl))
    intro gb455 hg w21 hbox hb
    replace HO448 := Aside0.mk (Kd.R_below (by (with_reducible repeat (first | apply Kd.R_alloc | apply Kd.R_drewN | apply Kd.R_drew)); exact HO448.out) hb)
    have BK455 := Aside0.mk hbox
    have GW455 := Aside0.mk ((by rw [hg]; exact (below_size (by repeat (first | (with_reducible first | exact HB.out | apply bL | apply bM | apply bR | refine bS ?_ GE445.out | refine bS ?_ GE454.out) | exact HB.out))) : w.heap.size ≤ gb455))
    have GE455 := Aside0.mk ((by rw [hg]; exact (below_size (by repeat (first | (with_reducible first | exact HB.out | apply bL | apply bM | apply bR | refine bS ?_ GE445.out | refine bS ?_ GE454.out) | exact HB.out))) : w.heap.size ≤ gb455))
    replace HB := Aside0.mk (below_step (by repeat (first | (with_reducible first | exact HB.out | apply bL | apply bM | apply bR | refine bS ?_ GE445.out | refine bS ?_ GE454.out) | exact HB.out)) hb)
    have NB445_455 := gN BK445 hg
    replace BK445 := bK BK445 hb
    have NB455_445 := Aside0.mk NB445_455.out.symm
    have NB454_455 := gN BK454 hg
    replace BK454 := bK BK454 hb
    have NB455_454 := Aside0.mk NB454_455.out.symm
    clear hb hbox hg
    refine hK.out _ _ ⟨bC BK445 0 rfl, bC BK445 1 rfl, bC BK445 2 rfl, bC BK445 3 rfl⟩ (fun hHeld => ?_)
    clear hK K
    refine norm_ (a' := ?_) ?_ ?_
    rotate_left
    ·show Act.put _ (some 12) _ = _
     simp only [sP]
     rfl
    exact norm_ (by first | (simp only [putAll, sP]; done) | (simp only [putAll, sP]; rfl)) (hJ1_4_5_6 (gb454, gb455) _ ⟨hHeld, (by (with_reducible repeat (first | apply Kd.R_alloc | apply Kd.R_drewN | apply Kd.R_drew)); exact HO448.out), (uK BK445), (uK BK454), (uK BK455), GW454.out, GE454.out, NB445_454.out, NB454_445.out, NB455_454.out, NB454_455.out, GW455.out, GE455.out, NB445_455.out, NB455_445.out, (by repeat (first | (with_reducible first | exact HB.out | apply bL | apply bM | apply bR | refine bS ?_ GE445.out | refine bS ?_ GE454.out | refine bS ?_ GE455.out) | exact HB.out))⟩)
  rintro ⟨gb454, gb455⟩ w21 ⟨hS_, h0_, h1_, h2_, h3_, h4_, h5_, h6_, h7_, h8_, h9_, h10_, h11_, h12_, h13_, h14_⟩
  have n0_ : Aside0 (Kd.R k53 53 w21 w.heap.size (fun _ => True) v447 t446) := ⟨h0_⟩
  have n1_ : Aside0 (w21.heap[gb445]? = some (.cells #[.string t441, .int .i64 t442, .int .i64 t443, .int .i64 t444] 32 (0, 0))) := ⟨h1_⟩
  have n2_ : Aside0 (w21.heap[gb454]? = some (.cells #[.int .i64 0, .int .i64 0, .int .i64 0] 24 (0, 0))) := ⟨h2_⟩
  have n3_ : Aside0 (w21.heap[gb455]? = some (.cells #[.int .i64 0, .int .i64 0] 26 (0, 0))) := ⟨h3_⟩
  have n4_ : Aside0 (w.heap.size ≤ gb454) := ⟨h4_⟩
  have n5_ : Aside0 (w.heap.size ≤ gb454) := ⟨h5_⟩
  have n6_ : Aside0 (gb445 ≠ gb454) := ⟨h6_⟩
  have n7_ : Aside0 (gb454 ≠ gb445) := ⟨h7_⟩
  have n8_ : Aside0 (gb455 ≠ gb454) := ⟨h8_⟩
  have n9_ : Aside0 (gb454 ≠ gb455) := ⟨h9_⟩
  have n10_ : Aside0 (w.heap.size ≤ gb455) := ⟨h10_⟩
  have n11_ : Aside0 (w.heap.size ≤ gb455) := ⟨h11_⟩
  have n12_ : Aside0 (gb445 ≠ gb455) := ⟨h12_⟩
  have n13_ : Aside0 (gb455 ≠ gb445) := ⟨h13_⟩
  have n14_ : Aside0 (Below w.heap.size w w21) := ⟨h14_⟩
  clear HO448
  clear BK445
  clear HB
  clear h0_ h1_ h2_ h3_ h4_ h5_ h6_ h7_ h8_ h9_ h10_ h11_ h12_ h13_ h14_
  have HO448 := n0_
  have BK445 := n1_
  have BK454 := n2_
  have BK455 := n3_
  have GW454 := n4_
  have GE454 := n5_
  have NB445_454 := n6_
  have NB454_445 := n7_
  have NB455_454 := n8_
  have NB454_455 := n9_
  have GW455 := n10_
  have GE455 := n11_
  have NB445_455 := n12_
  have NB455_445 := n13_
  have HB := n14_
  clear n0_ n1_ n2_ n3_ n4_ n5_ n6_ n7_ n8_ n9_ n10_ n11_ n12_ n13_ n14_
  have hHeld : w21.cell? ⟨gb445, 0, none⟩ = some (.string t441) ∧ w21.cell? ⟨gb445, 1, none⟩ = some (.int .i64 t442) ∧ w21.cell? ⟨gb445, 2, none⟩ = some (.int .i64 t443) ∧ w21.cell? ⟨gb445, 3, none⟩ = some (.int .i64 t444) := hS_
  refine norm_ (a' := ?_) ?_ ?_
  rotate_left
  ·simp only [putAll, sP]
   rfl
  refine one_ (i := 7) (N := none) #[T,T,T,T,T,T,T,T,F] rfl rfl (one_of HT_.out (by kernel_rfl)) (by decide) (fun K hK => ?_)
  have hs22 : w21.cell? ⟨gb454, 0, none⟩ = some (.int .i64 0) := bC BK454 0 rfl
  have hfs22 := bF BK454 0
  have hns22_0 := NB445_454.out
  have hns22_2 := NB455_454.out
  have hms22_0 := NB454_445.out
  have hms22_2 := NB454_455.out
  have hs23 : w21.cell? ⟨gb454, 1, none⟩ = some (.int .i64 0) := bC BK454 1 rfl
  have hfs23 := bF BK454 1
  have hns23_0 := NB445_454.out
  have hns23_2 := NB455_454.out
  have hms23_0 := NB454_445.out
  have hms23_2 := NB454_455.out
  have hs24 : w21.cell? ⟨gb454, 2, none⟩ = some (.int .i64 0) := bC BK454 2 rfl
  have hfs24 := bF BK454 2
  have hns24_0 := NB445_454.out
  have hns24_2 := NB455_454.out
  have hms24_0 := NB454_445.out
  have hms24_2 := NB454_455.out
  refine skip_ (w1 := ?_) (by rfl) rfl ?_ ?_
  rotate_left
  ·go_simp
   rfl
  refine hK.out _ _ ⟨((cell_far (p := ⟨gb454, _, none⟩) NB445_454.out _).trans (((cell_far (p := ⟨gb454, _, none⟩) NB445_454.out _).trans (((cell_far (p := ⟨gb454, _, none⟩) NB445_454.out _).trans (hHeld.1)))))), ((cell_far (p := ⟨gb454, _, none⟩) NB445_454.out _).trans (((cell_far (p := ⟨gb454, _, none⟩) NB445_454.out _).trans (((cell_far (p := ⟨gb454, _, none⟩) NB445_454.out _).trans (hHeld.2.1)))))), ((cell_far (p := ⟨gb454, _, none⟩) NB445_454.out _).trans (((cell_far (p := ⟨gb454, _, none⟩) NB445_454.out _).trans (((cell_far (p := ⟨gb454, _, none⟩) NB445_454.out _).trans (hHeld.2.2.1)))))), ((cell_far (p := ⟨gb454, _, none⟩) NB445_454.out _).trans (((cell_far (p := ⟨gb454, _, none⟩) NB445_454.out _).trans (((cell_far (p := ⟨gb454, _, none⟩) NB445_454.out _).trans (hHeld.2.2.2))))))⟩ (fun hHeld => ?_)
  clear hK K
  refine one_ (i := 8) (N := none) #[T,T,T,T,T,T,T,T,T] rfl rfl (one_of HT_.out (by kernel_rfl)) (by decide) (fun K hK => ?_)
  have hs25 : w21.cell? ⟨gb455, 0, none⟩ = some (.int .i64 0) := bC BK455 0 rfl
  have hfs25 := bF BK455 0
  have hns25_0 := NB445_455.out
  have hns25_1 := NB454_455.out
  have hms25_0 := NB455_445.out
  have hms25_1 := NB455_454.out
  have hs26 : w21.cell? ⟨gb455, 1, none⟩ = some (.int .i64 0) := bC BK455 1 rfl
  have hfs26 := bF BK455 1
  have hns26_0 := NB445_455.out
  have hns26_1 := NB454_455.out
  have hms26_0 := NB455_445.out
  have hms26_1 := NB455_454.out
  refine skip_ (w1 := ?_) (by rfl) rfl ?_ ?_
  rotate_left
  ·go_simp
   rfl
  refine hK.out _ _ ⟨((cell_far (p := ⟨gb455, _, none⟩) NB445_455.out _).trans (((cell_far (p := ⟨gb455, _, none⟩) NB445_455.out _).trans (hHeld.1)))), ((cell_far (p := ⟨gb455, _, none⟩) NB445_455.out _).trans (((cell_far (p := ⟨gb455, _, none⟩) NB445_455.out _).trans (hHeld.2.1)))), ((cell_far (p := ⟨gb455, _, none⟩) NB445_455.out _).trans (((cell_far (p := ⟨gb455, _, none⟩) NB445_455.out _).trans (hHeld.2.2.1)))), ((cell_far (p := ⟨gb455, _, none⟩) NB445_455.out _).trans (((cell_far (p := ⟨gb455, _, none⟩) NB445_455.out _).trans (hHeld.2.2.2))))⟩ (fun hHeld => ?_)
  clear hK K
  refine done_ (done_of HT_.out (by kernel_rfl)) ?_
  have hnb27 := NB445_454.out
  have hnc27 := NB454_445.out
  have hnb28 := NB445_455.out
  have hnc28 := NB455_445.out
  obtain ⟨hcz29_0, hcz29_1, hcz29_2, hcz29_3, hfz29_0, hfz29_1, hfz29_2, hfz29_3⟩ := d4 BK445
  have hnb30 := NB454_455.out
  have hnc30 := NB455_454.out
  obtain ⟨hcz31_0, hcz31_1, hcz31_2, hfz31_0, hfz31_1, hfz31_2⟩ := d3 BK454
  obtain ⟨hcz32_0, hcz32_1, hfz32_0, hfz32_1⟩ := d2 BK455
  obtain ⟨Ao33, co33, eo33⟩ := Kd.R_slice HO448.out
  subst eo33
  try go_wp2_with (first | ((with_reducible refine gate_callee (f := 18) rfl ?_); refine goesL_ (some 34) rfl rfl Tryd.func18 (by kernel_rfl) rfl #[.agg #[.string t441, .int .i64 t442, .int .i64 t443, .int .i64 t444], .slice Ao33 t446.length co33, .agg #[.int .i64 t449, .int .i64 t450, .int .i64 t451], .agg #[.int .i64 t452, .int .i64 t453]] rfl (by (try simp only [mA]); first | done | rfl) ?_; (with_reducible refine (holders_Against.calls k t441 t442 t443 t444 _ _ t446 t449 t450 t451 t452 t453 t456 _ ?side1 ?side2 ?side3 A11.out).mono ?_); (case side1 => refine (Kd.R_reads' (e := 53) (base := w.heap.size) (ok := fun k_ => True) (n := t446.length) (c := co33) ?_).2.2; exact (by (with_reducible repeat (first | apply Kd.R_alloc | apply Kd.R_drewN | apply Kd.R_drew)); exact (Kd.R_mono (Kd.R_mono (Kd.R_far (p := ⟨gb455, 1, none⟩) (Kd.R_far (p := ⟨gb455, 0, none⟩) (Kd.R_far (p := ⟨gb454, 2, none⟩) (Kd.R_far (p := ⟨gb454, 1, none⟩) (Kd.R_far (p := ⟨gb454, 0, none⟩) (Kd.R_types (Kd.R_types HO448.out BK454.out (by decide)) BK455.out (by decide)) (fun _ hk => hk.1.2) (.int .i64 t449)) (fun _ hk => hk.1.2) (.int .i64 t450)) (fun _ hk => hk.1.2) (.int .i64 t451)) (fun _ hk => hk.2) (.int .i64 t452)) (fun _ hk => hk.2) (.int .i64 t453)) (fun _ h_ => h_.1)) (fun _ h_ => h_.1)))); (case side2 => exact (Kd.R_reads' HO448.out).2.1); (case side3 => exact GL.below HG.out (by repeat (first | (with_reducible first | exact HB.out | apply bL | apply bM | apply bR | refine bS ?_ GE445.out | refine bS ?_ GE454.out | refine bS ?_ GE455.out) | exact HB.out))); rintro e w34 ⟨v457, rfl, ho0, hb⟩; refine ⟨_, rfl, ?_⟩; replace HO448 := Aside0.mk (Kd.R_below (by (with_reducible repeat (first | apply Kd.R_alloc | apply Kd.R_drewN | apply Kd.R_drew)); exact (Kd.R_mono (Kd.R_mono (Kd.R_far (p := ⟨gb455, 1, none⟩) (Kd.R_far (p := ⟨gb455, 0, none⟩) (Kd.R_far (p := ⟨gb454, 2, none⟩) (Kd.R_far (p := ⟨gb454, 1, none⟩) (Kd.R_far (p := ⟨gb454, 0, none⟩) (Kd.R_types (Kd.R_types HO448.out BK454.out (by decide)) BK455.out (by decide)) (fun _ hk => hk.1.2) (.int .i64 t449)) (fun _ hk => hk.1.2) (.int .i64 t450)) (fun _ hk => hk.1.2) (.int .i64 t451)) (fun _ hk => hk.2) (.int .i64 t452)) (fun _ hk => hk.2) (.int .i64 t453)) (fun _ h_ => h_.1)) (fun _ h_ => h_.1))) hb); have HO458 := Aside0.mk (Kd.R_lower (Kd.R_newB ho0 (g := gb454) (o := .cells #[.int .i64 t449, .int .i64 t450, .int .i64 t451] 24 (0, 0)) (by (with_reducible repeat first | refine bN ?_ _ | refine bD ?_ | refine bA ?_ _); refine blk_far ?_ NB454_455.out _; (with_reducible repeat first | refine bN ?_ _ | refine bD ?_ | refine bA ?_ _); refine blk_far ?_ NB454_455.out _; (with_reducible repeat first | refine bN ?_ _ | refine bD ?_ | refine bA ?_ _); refine blk_put (cs := #[.int .i64 t449, .int .i64 t450, .int .i64 0]) ?_ 2 _ rfl; (with_reducible repeat first | refine bN ?_ _ | refine bD ?_ | refine bA ?_ _); refine blk_put (cs := #[.int .i64 t449, .int .i64 0, .int .i64 0]) ?_ 1 _ rfl; (with_reducible repeat first | refine bN ?_ _ | refine bD ?_ | refine bA ?_ _); refine blk_put (cs := #[.int .i64 0, .int .i64 0, .int .i64 0]) ?_ 0 _ rfl; (with_reducible repeat first | refine bN ?_ _ | refine bD ?_ | refine bA ?_ _); exact BK454.out)) (below_size (by repeat (first | (with_reducible first | exact HB.out | apply bL | apply bM | apply bR | refine bS ?_ GE445.out | refine bS ?_ GE454.out | refine bS ?_ GE455.out) | exact HB.out)))); replace BK445 := Aside0.mk (blk_below (g := gb445) (o := .cells #[.string t441, .int .i64 t442, .int .i64 t443, .int .i64 t444] 32 (0, 0)) (by (with_reducible repeat first | refine bN ?_ _ | refine bD ?_ | refine bA ?_ _); refine blk_far ?_ NB445_455.out _; (with_reducible repeat first | refine bN ?_ _ | refine bD ?_ | refine bA ?_ _); refine blk_far ?_ NB445_455.out _; (with_reducible repeat first | refine bN ?_ _ | refine bD ?_ | refine bA ?_ _); refine blk_far ?_ NB445_454.out _; (with_reducible repeat first | refine bN ?_ _ | refine bD ?_ | refine bA ?_ _); refine blk_far ?_ NB445_454.out _; (with_reducible repeat first | refine bN ?_ _ | refine bD ?_ | refine bA ?_ _); refine blk_far ?_ NB445_454.out _; (with_reducible repeat first | refine bN ?_ _ | refine bD ?_ | refine bA ?_ _); exact BK445.out) hb); replace BK454 := Aside0.mk (blk_below (g := gb454) (o := .cells #[.int .i64 t449, .int .i64 t450, .int .i64 t451] 24 (0, 0)) (by (with_reducible repeat first | refine bN ?_ _ | refine bD ?_ | refine bA ?_ _); refine blk_far ?_ NB454_455.out _; (with_reducible repeat first | refine bN ?_ _ | refine bD ?_ | refine bA ?_ _); refine blk_far ?_ NB454_455.out _; (with_reducible repeat first | refine bN ?_ _ | refine bD ?_ | refine bA ?_ _); refine blk_put (cs := #[.int .i64 t449, .int .i64 t450, .int .i64 0]) ?_ 2 _ rfl; (with_reducible repeat first | refine bN ?_ _ | refine bD ?_ | refine bA ?_ _); refine blk_put (cs := #[.int .i64 t449, .int .i64 0, .int .i64 0]) ?_ 1 _ rfl; (with_reducible repeat first | refine bN ?_ _ | refine bD ?_ | refine bA ?_ _); refine blk_put (cs := #[.int .i64 0, .int .i64 0, .int .i64 0]) ?_ 0 _ rfl; (with_reducible repeat first | refine bN ?_ _ | refine bD ?_ | refine bA ?_ _); exact BK454.out) hb); replace BK455 := Aside0.mk (blk_below (g := gb455) (o := .cells #[.int .i64 t452, .int .i64 t453] 26 (0, 0)) (by (with_reducible repeat first | refine bN ?_ _ | refine bD ?_ | refine bA ?_ _); refine blk_put (cs := #[.int .i64 t452, .int .i64 0]) ?_ 1 _ rfl; (with_reducible repeat first | refine bN ?_ _ | refine bD ?_ | refine bA ?_ _); refine blk_put (cs := #[.int .i64 0, .int .i64 0]) ?_ 0 _ rfl; (with_reducible repeat first | refine bN ?_ _ | refine bD ?_ | refine bA ?_ _); refine blk_far ?_ NB455_454.out _; (with_reducible repeat first | refine bN ?_ _ | refine bD ?_ | refine bA ?_ _); refine blk_far ?_ NB455_454.out _; (with_reducible repeat first | refine bN ?_ _ | refine bD ?_ | refine bA ?_ _); refine blk_far ?_ NB455_454.out _; (with_reducible repeat first | refine bN ?_ _ | refine bD ?_ | refine bA ?_ _); exact BK455.out) hb); replace HB := Aside0.mk (below_step (by repeat (first | (with_reducible first | exact HB.out | apply bL | apply bM | apply bR | refine bS ?_ GE445.out | refine bS ?_ GE454.out | refine bS ?_ GE455.out) | exact HB.out)) hb); (try clear hb); (try clear hk); (try clear ho0)))
  go_loopg [14, 15] k (fun kq v14 v15 w' => ∃ (x14_1 : List (S53)) (x15_1 : Int), v15 = .int .i64 x15_1 ∧ Aside0 (clusterlockslaw10_HoldersYield.l0 kq t446 t456 x14_1 x15_1 t441 t442 t443 t444 t449 t450 t451 t452 t453 = some r) ∧ Aside0 (kq ≤ k) ∧ Aside0 (Kd.R k53 53 w' w.heap.size (fun _ => True) (.slice Ao33 t446.length co33) t446) ∧ Aside0 (Kd.R k24 24 w' w.heap.size (fun k_ => k_ ≠ gb454) v457 t456) ∧ Aside0 (Kd.R k53 53 w' w.heap.size (fun _ => True) v14 x14_1) ∧ Aside0 (w'.heap[gb445]? = some (.cells #[.string t441, .int .i64 t442, .int .i64 t443, .int .i64 t444] 32 (0, 0))) ∧ Aside0 (w'.heap[gb454]? = some (.cells #[.int .i64 t449, .int .i64 t450, .int .i64 t451] 24 (0, 0))) ∧ Aside0 (w'.heap[gb455]? = some (.cells #[.int .i64 t452, .int .i64 t453] 26 (0, 0))) ∧ Aside0 (Below w.heap.size w w'))
  case atStart => exact ⟨(t446), (0), (by first | rfl | (simp; done) | (simp [*]; done)), H', ⟨Nat.le_refl _⟩, ⟨by (with_reducible repeat (first | apply Kd.R_alloc | apply Kd.R_drewN | apply Kd.R_drew)); exact HO448.out⟩, ⟨by (with_reducible repeat (first | apply Kd.R_alloc | apply Kd.R_drewN | apply Kd.R_drew)); exact Kd.R_mono HO458.out (fun _ hk => hk.2)⟩, ⟨by (with_reducible repeat (first | apply Kd.R_alloc | apply Kd.R_drewN | apply Kd.R_drew)); exact HO448.out⟩, ⟨by (with_reducible repeat first | refine bN ?_ _ | refine bD ?_ | refine bA ?_ _); exact BK445.out⟩, ⟨by (with_reducible repeat first | refine bN ?_ _ | refine bD ?_ | refine bA ?_ _); exact BK454.out⟩, ⟨by (with_reducible repeat first | refine bN ?_ _ | refine bD ?_ | refine bA ?_ _); exact BK455.out⟩, ⟨by repeat (first | (with_reducible first | exact HB.out | apply bL | apply bM | apply bR | refine bS ?_ GE445.out | refine bS ?_ GE454.out | refine bS ?_ GE455.out) | exact HB.out)⟩⟩
  case round =>
   clear H'
   try clear c1
   try clear c2
   try clear p2
   try clear c3
   try clear c18
   try clear c24
   try clear c27
   try clear c28
   try clear c30
   try clear hcz29_0
   try clear hcz29_1
   try clear hcz29_2
   try clear hcz29_3
   try clear hcz31_0
   try clear hcz31_1
   try clear hcz31_2
   try clear hcz32_0
   try clear hcz32_1
   try clear hfz29_0
   try clear hfz29_1
   try clear hfz29_2
   try clear hfz29_3
   try clear hfz31_0
   try clear hfz31_1
   try clear hfz31_2
   try clear hfz32_0
   try clear hfz32_1
   obtain ⟨x14_1, x15_1, rfl, HA, HK1, HO_10, HO_13, HO_14, BK445, BK454, BK455, HB⟩ := hrel
   cases gk with
   | zero => exact absurd HA.out (by simp [clusterlockslaw10_HoldersYield.l0])
   | succ k1 =>
    have H := HA.out
    clear HA
    simp only [clusterlockslaw10_HoldersYield.l0] at H
    by_cases c35 : x15_1 < (t456.length : Int)
    ·rw [if_pos c35] at H
     have c35b0 : decide (x15_1 < (t456.length : Int)) = true := decide_eq_true c35
     clear c35
     have HH_ := Aside0.mk H
     clear H
     obtain ⟨Ao38, co38, eo38⟩ := Kd.R_slice HO_13.out
     subst eo38
     have H := HH_.out
     clear HH_
     by_cases c36 : 0 ≤ x15_1
     ·rw [if_pos c36] at H
      have c36b0 : decide (0 ≤ x15_1) = true := decide_eq_true c36
      clear c36
      obtain ⟨t460, A370, H⟩ := Option.bind_eq_some_iff.mp H
      have A37 := Aside0.mk A370; clear A370
      have H' := Aside0.mk H
      clear H
      (try simp only [c36b0])
      have p459 : 0 ≤ (x15_1 : Int) := of_decide_eq_true (by first | (with_reducible assumption) | assumption)
      have q459 : x15_1 < (t456.length : Int) := of_decide_eq_true (by first | (with_reducible assumption) | assumption)
      obtain ⟨ad459, e459, hx459_0, hx459_1, hx459_2⟩ := at_T24 (Kd.R_reads' HO_13.out).2.2 x15_1 p459 q459
      cases e459
      replace p459 := eq_true p459
      replace q459 := eq_true q459
      obtain ⟨Ao39, co39, eo39⟩ := Kd.R_slice HO_14.out
      subst eo39
      go_wp2_with (first | ((with_reducible refine gate_callee (f := 14) rfl ?_); refine goesL_ (some 48) rfl rfl Tryd.func14 (by kernel_rfl) rfl #[.slice Ao39 x14_1.length co39, .agg #[.int .i64 ((rd_T24 t456 x15_1).f0), .int .i64 ((rd_T24 t456 x15_1).f1), .int .i64 ((rd_T24 t456 x15_1).f2)], .agg #[.int .i64 0, .int .i64 0]] rfl (by (try simp only [mA]); first | done | rfl) ?_; (with_reducible refine (clusterlocksref10_Set.calls k1 _ _ x14_1 ((rd_T24 t456 x15_1).f0) ((rd_T24 t456 x15_1).f1) ((rd_T24 t456 x15_1).f2) 0 0 t460 _ ?side1 ?side2 A37.out).mono ?_); (case side1 => repeat (first | exact (Kd.R_reads' HO_14.out).2.2 | (with_reducible refine Kd.C_alloc ?_ _) | (with_reducible refine Kd.C_drewN ?_ _) | (with_reducible refine Kd.C_drew ?_))); (case side2 => exact (Kd.R_reads' HO_14.out).2.1); rintro e w40 ⟨v461, rfl, ho0, hb⟩; refine ⟨_, rfl, ?_⟩; replace HO_13 := Aside0.mk (Kd.R_below (by (with_reducible repeat (first | apply Kd.R_alloc | apply Kd.R_drewN | apply Kd.R_drew)); exact HO_13.out) hb); have HO462 := Aside0.mk (Kd.R_lower (Kd.R_new' (Kd.R_new' ho0 (Kd.R_lt (by (with_reducible repeat (first | apply Kd.R_alloc | apply Kd.R_drewN | apply Kd.R_drew)); exact HO_10.out))) (Kd.R_lt (by (with_reducible repeat (first | apply Kd.R_alloc | apply Kd.R_drewN | apply Kd.R_drew)); exact HO_14.out))) (below_size (by repeat (first | (with_reducible first | exact HB.out | apply bL | apply bM | apply bR | refine bS ?_ GE445.out | refine bS ?_ GE454.out | refine bS ?_ GE455.out) | exact HB.out)))); replace HO_10 := Aside0.mk (Kd.R_elder' (by (with_reducible repeat (first | apply Kd.R_alloc | apply Kd.R_drewN | apply Kd.R_drew)); exact HO_10.out) (Kd.R_base ho0) hb); replace HO_14 := Aside0.mk (Kd.R_elder' (by (with_reducible repeat (first | apply Kd.R_alloc | apply Kd.R_drewN | apply Kd.R_drew)); exact HO_14.out) (Kd.R_base ho0) hb); replace BK445 := bK BK445 hb; replace BK454 := bK BK454 hb; replace BK455 := bK BK455 hb; replace HB := Aside0.mk (below_step (by repeat (first | (with_reducible first | exact HB.out | apply bL | apply bM | apply bR | refine bS ?_ GE445.out | refine bS ?_ GE454.out | refine bS ?_ GE455.out) | exact HB.out)) hb); (try clear hb); (try clear hk); (try clear ho0)))
      go_roundg k1
      case measure => have := HK1.out; omega
      case rel => exact ⟨(t460), (wrap64 (x15_1 + 1)), (by first | rfl | (simp; done) | (simp [*]; done)), H', ⟨by have := HK1.out; omega⟩, ⟨by (with_reducible repeat (first | apply Kd.R_alloc | apply Kd.R_drewN | apply Kd.R_drew)); exact Kd.R_mono HO_10.out (fun _ _ => trivial)⟩, ⟨by (with_reducible repeat (first | apply Kd.R_alloc | apply Kd.R_drewN | apply Kd.R_drew)); exact HO_13.out⟩, ⟨by (with_reducible repeat (first | apply Kd.R_alloc | apply Kd.R_drewN | apply Kd.R_drew)); exact Kd.R_mono HO462.out (fun _ _ => trivial)⟩, ⟨by (with_reducible repeat first | refine bN ?_ _ | refine bD ?_ | refine bA ?_ _); exact BK445.out⟩, ⟨by (with_reducible repeat first | refine bN ?_ _ | refine bD ?_ | refine bA ?_ _); exact BK454.out⟩, ⟨by (with_reducible repeat first | refine bN ?_ _ | refine bD ?_ | refine bA ?_ _); exact BK455.out⟩, ⟨by repeat (first | (with_reducible first | exact HB.out | apply bL | apply bM | apply bR | refine bS ?_ GE445.out | refine bS ?_ GE454.out | refine bS ?_ GE455.out) | exact HB.out)⟩⟩
     ·rw [if_neg c36] at H
      exact absurd H (by simp)
    ·rw [if_neg c35] at H
     have c35b0 : decide (x15_1 < (t456.length : Int)) = false := decide_eq_false c35
     clear c35
     obtain ⟨t463, A410, H⟩ := Option.bind_eq_some_iff.mp H
     have A41 := Aside0.mk A410; clear A410
     have HH_ := Aside0.mk H
     clear H
     obtain ⟨Ao46, co46, eo46⟩ := Kd.R_slice HO_13.out
     subst eo46
     have H := HH_.out
     clear HH_
     by_cases c42 : t463 = true
     ·subst c42
      rw [if_pos rfl] at H
      obtain ⟨t464, A430, H⟩ := Option.bind_eq_some_iff.mp H
      have A43 := Aside0.mk A430; clear A430
      by_cases c44 : (t464 == ((t456.length : Int) == 0)) = true
      ·rw [if_pos c44] at H
       have c44b0 : (t464 == ((t456.length : Int) == 0)) = true := c44
       (try (have c44b1 : decide (t464 = ((t456.length : Int) == 0)) = true := by simpa using c44))
       (try (have c44b2 : (t464 == ((t456.length : Int) == 0)) = true := by simpa using c44))
       clear c44
       obtain ⟨t465, A450, H⟩ := Option.bind_eq_some_iff.mp H
       have A45 := Aside0.mk A450; clear A450
       obtain rfl := Option.some.inj H
       (try simp only [c44b0, c44b1, c44b2])
       go_wp2_with (first | ((with_reducible refine gate_callee (f := 11) rfl ?_); refine goesL_ (some 49) rfl rfl Tryd.func11 (by kernel_rfl) rfl #[] rfl (by (try simp only [mA]); first | done | rfl) ?_; (with_reducible refine (clusterlockslaw10_awake.calls k1  true _ ?side1 A41.out).mono ?_); (case side1 => exact GL.below HG.out (by repeat (first | (with_reducible first | exact HB.out | apply bL | apply bM | apply bR | refine bS ?_ GE445.out | refine bS ?_ GE454.out | refine bS ?_ GE455.out) | exact HB.out))); rintro e w47 ⟨rfl, hb⟩; refine ⟨_, rfl, ?_⟩; replace HO_10 := Aside0.mk (Kd.R_below (by (with_reducible repeat (first | apply Kd.R_alloc | apply Kd.R_drewN | apply Kd.R_drew)); exact HO_10.out) hb); replace HO_13 := Aside0.mk (Kd.R_below (by (with_reducible repeat (first | apply Kd.R_alloc | apply Kd.R_drewN | apply Kd.R_drew)); exact HO_13.out) hb); replace HO_14 := Aside0.mk (Kd.R_below (by (with_reducible repeat (first | apply Kd.R_alloc | apply Kd.R_drewN | apply Kd.R_drew)); exact HO_14.out) hb); replace BK445 := bK BK445 hb; replace BK454 := bK BK454 hb; replace BK455 := bK BK455 hb; replace HB := Aside0.mk (below_step (by repeat (first | (with_reducible first | exact HB.out | apply bL | apply bM | apply bR | refine bS ?_ GE445.out | refine bS ?_ GE454.out | refine bS ?_ GE455.out) | exact HB.out)) hb); (try clear hb); (try clear hk); have hnb48 := NB445_454.out; have hnc48 := NB454_445.out; have hnb49 := NB445_455.out; have hnc49 := NB455_445.out; obtain ⟨hcz50_0, hcz50_1, hcz50_2, hcz50_3, hfz50_0, hfz50_1, hfz50_2, hfz50_3⟩ := d4 BK445; have hnb51 := NB454_455.out; have hnc51 := NB455_454.out; obtain ⟨hcz52_0, hcz52_1, hcz52_2, hfz52_0, hfz52_1, hfz52_2⟩ := d3 BK454; have hcz53_0 : w47.cell? ⟨gb455, 0, none⟩ = some (.int .i64 t452) := bC BK455 0 rfl; have hcz53_1 : w47.cell? ⟨gb455, 1, none⟩ = some (.int .i64 t453) := bC BK455 1 rfl; have hfz53_0 := bF BK455 0; have hfz53_1 := bF BK455 1) | (go_at_call 15; (with_reducible refine (holders_Room.calls k1 t441 t442 t443 t444 _ _ t446 t449 t450 t451 t452 t453 t464 _ ?side1 ?side2 ?side3 A43.out).mono ?_); (case side1 => repeat (first | exact (Kd.R_reads' HO_10.out).2.2 | (with_reducible refine Kd.C_alloc ?_ _) | (with_reducible refine Kd.C_drewN ?_ _) | (with_reducible refine Kd.C_drew ?_))); (case side2 => exact (Kd.R_reads' HO_10.out).2.1); (case side3 => exact GL.below HG.out (by repeat (first | (with_reducible first | exact HB.out | apply bL | apply bM | apply bR | refine bS ?_ GE445.out | refine bS ?_ GE454.out | refine bS ?_ GE455.out) | exact HB.out))); rintro e w54 ⟨rfl, hb⟩; replace HO_10 := Aside0.mk (Kd.R_below (by (with_reducible repeat (first | apply Kd.R_alloc | apply Kd.R_drewN | apply Kd.R_drew)); exact HO_10.out) hb); replace HO_13 := Aside0.mk (Kd.R_below (by (with_reducible repeat (first | apply Kd.R_alloc | apply Kd.R_drewN | apply Kd.R_drew)); exact HO_13.out) hb); replace HO_14 := Aside0.mk (Kd.R_below (by (with_reducible repeat (first | apply Kd.R_alloc | apply Kd.R_drewN | apply Kd.R_drew)); exact HO_14.out) hb); replace BK445 := bK BK445 hb; replace BK454 := bK BK454 hb; replace BK455 := bK BK455 hb; replace HB := Aside0.mk (below_step (by repeat (first | (with_reducible first | exact HB.out | apply bL | apply bM | apply bR | refine bS ?_ GE445.out | refine bS ?_ GE454.out | refine bS ?_ GE455.out) | exact HB.out)) hb); (try clear hb); (try clear hk); obtain ⟨hcz55_0, hcz55_1, hcz55_2, hcz55_3, hfz55_0, hfz55_1, hfz55_2, hfz55_3⟩ := d4 BK445; obtain ⟨hcz56_0, hcz56_1, hcz56_2, hfz56_0, hfz56_1, hfz56_2⟩ := d3 BK454; obtain ⟨hcz57_0, hcz57_1, hfz57_0, hfz57_1⟩ := d2 BK455; obtain ⟨Ao58, co58, eo58⟩ := Kd.R_slice HO_14.out; subst eo58) | (go_at_call 15; (with_reducible refine (holders_Room.calls k1 t441 t442 t443 t444 _ _ x14_1 t449 t450 t451 t452 t453 t465 _ ?side1 ?side2 ?side3 A45.out).mono ?_); (case side1 => repeat (first | exact (Kd.R_reads' HO_14.out).2.2 | (with_reducible refine Kd.C_alloc ?_ _) | (with_reducible refine Kd.C_drewN ?_ _) | (with_reducible refine Kd.C_drew ?_))); (case side2 => exact (Kd.R_reads' HO_14.out).2.1); (case side3 => exact GL.below HG.out (by repeat (first | (with_reducible first | exact HB.out | apply bL | apply bM | apply bR | refine bS ?_ GE445.out | refine bS ?_ GE454.out | refine bS ?_ GE455.out) | exact HB.out))); rintro e w59 ⟨rfl, hb⟩; replace HO_10 := Aside0.mk (Kd.R_below (by (with_reducible repeat (first | apply Kd.R_alloc | apply Kd.R_drewN | apply Kd.R_drew)); exact HO_10.out) hb); replace HO_13 := Aside0.mk (Kd.R_below (by (with_reducible repeat (first | apply Kd.R_alloc | apply Kd.R_drewN | apply Kd.R_drew)); exact HO_13.out) hb); replace HO_14 := Aside0.mk (Kd.R_below (by (with_reducible repeat (first | apply Kd.R_alloc | apply Kd.R_drewN | apply Kd.R_drew)); exact HO_14.out) hb); replace BK445 := bK BK445 hb; replace BK454 := bK BK454 hb; replace BK455 := bK BK455 hb; replace HB := Aside0.mk (below_step (by repeat (first | (with_reducible first | exact HB.out | apply bL | apply bM | apply bR | refine bS ?_ GE445.out | refine bS ?_ GE454.out | refine bS ?_ GE455.out) | exact HB.out)) hb); (try clear hb); (try clear hk)))
       go_ret
       exact ⟨by first | rfl | (simp [errW_none, errW_some] <;> rfl) | (simp [*, errW_none, errW_some] <;> rfl), by repeat (first | (with_reducible first | exact HB.out | apply bL | apply bM | apply bR | refine bS ?_ GE445.out | refine bS ?_ GE454.out | refine bS ?_ GE455.out) | exact HB.out)⟩
      ·rw [if_neg c44] at H
       have c44b0 : (t464 == ((t456.length : Int) == 0)) = false := by simpa using c44
       (try (have c44b1 : decide (t464 = ((t456.length : Int) == 0)) = false := by simpa using c44))
       (try (have c44b2 : (t464 == ((t456.length : Int) == 0)) = false := by simpa using c44))
       (try (have c44b3 : ¬ (t464 = ((t456.length : Int) == 0)) := by simpa using c44))
       clear c44
       exact absurd (Option.some.inj H) (by rw [HRT.out]; decide)
     ·replace c42 := Bool.eq_false_iff.mpr c42
      subst c42
      rw [if_neg (show ¬ (false = true) by decide)] at H
      exact absurd (Option.some.inj H) (by rw [HRT.out]; decide)
 ·replace c6 := Bool.eq_false_iff.mpr c6
  subst c6
  rw [if_neg (show ¬ (false = true) by decide)] at H
  obtain ⟨t440, A710, H⟩ := Option.bind_eq_some_iff.mp H
  have A71 := Aside0.mk A710; clear A710
  obtain rfl := Option.some.inj H
  go_enter Tryd.func6, Tryd.ntmps6
  go_wp2_with (first | ((with_reducible refine gate_callee (f := 20) rfl ?_); refine goesL_ (some 17) rfl rfl Tryd.func20 (by kernel_rfl) rfl #[.slice A1 l1.length c1] rfl (by (try simp only [mA]); first | done | rfl) ?_; (with_reducible refine (clusterlocksmill_Light.calls _ _ l1 false _ ?side1 ?side2 A5.out).mono ?_); (case side1 => repeat (first | exact HR1.out | (with_reducible refine Kd.C_alloc ?_ _) | (with_reducible refine Kd.C_drewN ?_ _) | (with_reducible refine Kd.C_drew ?_))); (case side2 => exact HC1.out); rintro e w' ⟨rfl, ⟨nd, rfl⟩⟩; refine ⟨_, rfl, ?_⟩) | ((with_reducible refine gate_callee (f := 11) rfl ?_); refine goesL_ (some 19) rfl rfl Tryd.func11 (by kernel_rfl) rfl #[] rfl (by (try simp only [mA]); first | done | rfl) ?_; (with_reducible refine (clusterlockslaw10_awake.calls k  t440 _ ?side1 A71.out).mono ?_); (case side1 => exact GL.below HG.out (uB HB)); rintro e w72 ⟨rfl, hb⟩; refine ⟨_, rfl, ?_⟩; replace HB := bB HB hb; (try clear hb); (try clear hk)))
  go_ret
  exact ⟨by first | rfl | (simp [errW_none, errW_some] <;> rfl) | (simp [*, errW_none, errW_some] <;> rfl), by repeat (first | (with_reducible first | exact HB.out | apply bL | apply bM | apply bR) | exact HB.out)⟩
end Go.Proofs.YtnmemkphfgdplaaDoor.PA
