-- Printed by wip/tool/myprint.py for this claim; Lean checks it.
import Derived.Test.YtnmemkphfgdplaaDoorPAx0
import Derived.Test.YtnmemkphfgdplaaDoorSlim
import Derived.Test.YtnmemkphfgdplaaDoorPAx1
import Derived.Test.YtnmemkphfgdplaaDoorPAx12
import Derived.Test.YtnmemkphfgdplaaDoorPAx14
import Derived.Test.YtnmemkphfgdplaaDoorPAx16
namespace Go.Proofs.YtnmemkphfgdplaaDoor.PA
open Go.RowKit Go.Proofs.YtnmemkphfgdplaaDoorW.PrintWords Go.Proofs.YtnmemkphfgdplaaDoorW.PrintLast Go.Proofs.YtnmemkphfgdplaaDoorW.PrintMore
attribute [local go_sem] max2_int min2_int max_two min_two max_three min_three max_four min_four   -- for this text's walks alone
set_option linter.unusedVariables false
set_option linter.unusedSimpArgs false

attribute [local go_sem high] eqA24
/-! ### clusterlocksref10_Against: function 19 -/
mutual
def clusterlocksref10_Against.j0 : Nat → List (S53) → Bool → ByteArray → Int → Int → Int → Int → Int → Int → Int → Int → Option ((List (S24)))
 | 0, _, _, _, _, _, _, _, _, _, _, _ => none
 | k + 1, x1, x32, x323000, x323001, x323002, x323003, x324000, x324001, x324002, x325000, x325001 => if x32 = true then (some ([] : List (S24))) else (clusterlocksref10_Against.l0 k x1 ([] : List (S24)) 0 x323000 x323001 x323002 x323003 x324000 x324001 x324002 x325000 x325001)
def clusterlocksref10_Against.l0 : Nat → List (S53) → List (S24) → Int → ByteArray → Int → Int → Int → Int → Int → Int → Int → Int → Option ((List (S24)))
 | 0, _, _, _, _, _, _, _, _, _, _, _, _ => none
 | k + 1, x1, x9, x10, x323000, x323001, x323002, x323003, x324000, x324001, x324002, x325000, x325001 => if x10 < (x1.length : Int) then (if 0 ≤ x10 then (if (((rd_T53 x1 x10).f0.f0) == x324000 && (((rd_T53 x1 x10).f0.f1) == x324001 && (((rd_T53 x1 x10).f0.f2) == x324002))) = true then (clusterlocksref10_Against.l0 k x1 x9 (wrap64 (x10 + 1)) x323000 x323001 x323002 x323003 x324000 x324001 x324002 x325000 x325001) else (if x323001 = 2 then (if x9.length < 5864062014805 then (clusterlocksref10_Against.l0 k x1 (x9 ++ [(⟨(rd_T53 x1 x10).f0.f0, (rd_T53 x1 x10).f0.f1, (rd_T53 x1 x10).f0.f2⟩ : S24)]) (wrap64 (x10 + 1)) x323000 x323001 x323002 x323003 x324000 x324001 x324002 x325000 x325001) else (none)) else ((clusterlocksref04_Compatible.f k x323000 x323001 x323002 x323003 (([(⟨(rd_T53 x1 x10).f1.f0, (rd_T53 x1 x10).f1.f1⟩ : S26), (⟨x325000, x325001⟩ : S26)] : List (S26)))).bind fun t338 => (if t338 = true then (clusterlocksref10_Against.l0 k x1 x9 (wrap64 (x10 + 1)) x323000 x323001 x323002 x323003 x324000 x324001 x324002 x325000 x325001) else (if x9.length < 5864062014805 then (clusterlocksref10_Against.l0 k x1 (x9 ++ [(⟨(rd_T53 x1 x10).f0.f0, (rd_T53 x1 x10).f0.f1, (rd_T53 x1 x10).f0.f2⟩ : S24)]) (wrap64 (x10 + 1)) x323000 x323001 x323002 x323003 x324000 x324001 x324002 x325000 x325001) else (none)))))) else (none)) else (some x9)
end
def clusterlocksref10_Against.f (k : Nat) (a0_0 : ByteArray) (a0_1 : Int) (a0_2 : Int) (a0_3 : Int) (l1 : List (S53)) (a2_0 : Int) (a2_1 : Int) (a2_2 : Int) (a3_0 : Int) (a3_1 : Int) : Option ((List (S24))) := (clusterlocksref10_Valid.f k a0_0 a0_1 a0_2 a0_3 l1).bind fun t325 => (if t325 = true then ((clusterlocksref02_ValidProc.f a2_0 a2_1 a2_2).bind fun t326 => (if t326 = true then ((clusterlocksref04_Fits.f a0_0 a0_1 a0_2 a0_3 a3_0 a3_1).bind fun t327 => (if t327 = true then ((clusterlocksref10_Room.f k a0_0 a0_1 a0_2 a0_3 l1 a2_0 a2_1 a2_2 a3_0 a3_1).bind fun t328 => (clusterlocksref10_Against.j0 k l1 t328 a0_0 a0_1 a0_2 a0_3 a2_0 a2_1 a2_2 a3_0 a3_1)) else (clusterlocksref10_Against.j0 k l1 true a0_0 a0_1 a0_2 a0_3 a2_0 a2_1 a2_2 a3_0 a3_1))) else (clusterlocksref10_Against.j0 k l1 true a0_0 a0_1 a0_2 a0_3 a2_0 a2_1 a2_2 a3_0 a3_1))) else (clusterlocksref10_Against.j0 k l1 true a0_0 a0_1 a0_2 a0_3 a2_0 a2_1 a2_2 a3_0 a3_1))
theorem clusterlocksref10_Against.mono_l : ∀ k, (∀ y0 y1 y2 y3 y4 y5 y6 y7 y8 y9 y10, LeO (clusterlocksref10_Against.j0 k y0 y1 y2 y3 y4 y5 y6 y7 y8 y9 y10) (clusterlocksref10_Against.j0 (k + 1) y0 y1 y2 y3 y4 y5 y6 y7 y8 y9 y10)) ∧ (∀ y0 y1 y2 y3 y4 y5 y6 y7 y8 y9 y10 y11, LeO (clusterlocksref10_Against.l0 k y0 y1 y2 y3 y4 y5 y6 y7 y8 y9 y10 y11) (clusterlocksref10_Against.l0 (k + 1) y0 y1 y2 y3 y4 y5 y6 y7 y8 y9 y10 y11))
 | 0 => ⟨fun _ _ _ _ _ _ _ _ _ _ _ r h => by simp [clusterlocksref10_Against.j0] at h, fun _ _ _ _ _ _ _ _ _ _ _ _ r h => by simp [clusterlocksref10_Against.l0] at h⟩
 | k + 1 => by
  obtain ⟨ih0, ih1⟩ := clusterlocksref10_Against.mono_l k
  refine ⟨?_, ?_⟩
  ·intro y0 y1 y2 y3 y4 y5 y6 y7 y8 y9 y10
   unfold clusterlocksref10_Against.j0
   repeat' first
   | (with_reducible exact ih0 _ _ _ _ _ _ _ _ _ _ _)
   | (with_reducible exact ih1 _ _ _ _ _ _ _ _ _ _ _ _)
   | (with_reducible exact clusterlocksref04_Compatible.mono _ _ _ _ _ _)
   | (with_reducible exact clusterlocksref10_Room.mono _ _ _ _ _ _ _ _ _ _ _)
   | (with_reducible exact clusterlocksref10_Valid.mono _ _ _ _ _ _)
   | (with_reducible exact LeO.refl _)
   | (with_reducible exact LeO.none _)
   | (with_reducible refine LeO.ite ?_ ?_)
   | (with_reducible refine LeO.bind ?_ (fun _ => ?_))
   | exact ih0 _ _ _ _ _ _ _ _ _ _ _
   | exact ih1 _ _ _ _ _ _ _ _ _ _ _ _
   | exact clusterlocksref04_Compatible.mono _ _ _ _ _ _
   | exact clusterlocksref10_Room.mono _ _ _ _ _ _ _ _ _ _ _
   | exact clusterlocksref10_Valid.mono _ _ _ _ _ _
   | exact LeO.none _
   | refine LeO.ite ?_ ?_
   | refine LeO.bind ?_ (fun _ => ?_)
  ·intro y0 y1 y2 y3 y4 y5 y6 y7 y8 y9 y10 y11
   unfold clusterlocksref10_Against.l0
   repeat' first
   | (with_reducible exact ih0 _ _ _ _ _ _ _ _ _ _ _)
   | (with_reducible exact ih1 _ _ _ _ _ _ _ _ _ _ _ _)
   | (with_reducible exact clusterlocksref04_Compatible.mono _ _ _ _ _ _)
   | (with_reducible exact clusterlocksref10_Room.mono _ _ _ _ _ _ _ _ _ _ _)
   | (with_reducible exact clusterlocksref10_Valid.mono _ _ _ _ _ _)
   | (with_reducible exact LeO.refl _)
   | (with_reducible exact LeO.none _)
   | (with_reducible refine LeO.ite ?_ ?_)
   | (with_reducible refine LeO.bind ?_ (fun _ => ?_))
   | exact ih0 _ _ _ _ _ _ _ _ _ _ _
   | exact ih1 _ _ _ _ _ _ _ _ _ _ _ _
   | exact clusterlocksref04_Compatible.mono _ _ _ _ _ _
   | exact clusterlocksref10_Room.mono _ _ _ _ _ _ _ _ _ _ _
   | exact clusterlocksref10_Valid.mono _ _ _ _ _ _
   | exact LeO.none _
   | refine LeO.ite ?_ ?_
   | refine LeO.bind ?_ (fun _ => ?_)
theorem clusterlocksref10_Against.mono : ∀ a0 a1 a2 a3 a4 a5 a6 a7 a8 a9 k, LeO (clusterlocksref10_Against.f k a0 a1 a2 a3 a4 a5 a6 a7 a8 a9) (clusterlocksref10_Against.f (k + 1) a0 a1 a2 a3 a4 a5 a6 a7 a8 a9) := by
 intro a0 a1 a2 a3 a4 a5 a6 a7 a8 a9 k
 obtain ⟨ih0, ih1⟩ := clusterlocksref10_Against.mono_l k
 unfold clusterlocksref10_Against.f
 repeat' first
   | (with_reducible exact ih0 _ _ _ _ _ _ _ _ _ _ _)
   | (with_reducible exact ih1 _ _ _ _ _ _ _ _ _ _ _ _)
   | (with_reducible exact clusterlocksref04_Compatible.mono _ _ _ _ _ _)
   | (with_reducible exact clusterlocksref10_Room.mono _ _ _ _ _ _ _ _ _ _ _)
   | (with_reducible exact clusterlocksref10_Valid.mono _ _ _ _ _ _)
   | (with_reducible exact LeO.refl _)
   | (with_reducible exact LeO.none _)
   | (with_reducible refine LeO.ite ?_ ?_)
   | (with_reducible refine LeO.bind ?_ (fun _ => ?_))
   | exact ih0 _ _ _ _ _ _ _ _ _ _ _
   | exact ih1 _ _ _ _ _ _ _ _ _ _ _ _
   | exact clusterlocksref04_Compatible.mono _ _ _ _ _ _
   | exact clusterlocksref10_Room.mono _ _ _ _ _ _ _ _ _ _ _
   | exact clusterlocksref10_Valid.mono _ _ _ _ _ _
   | exact LeO.none _
   | refine LeO.ite ?_ ?_
   | refine LeO.bind ?_ (fun _ => ?_)
def clusterlocksref10_Against.T8 : Bool × List (List Nat × List Nat) := (true, [([], []), ([0], [0]), ([1], [1]), ([2], [2]), ([3], [3]), ([3], [3]), ([3], [3]), ([5, 6, 3], [3, 5, 6]), ([7, 3], [3, 7]), ([8, 3], [3, 8]), ([3], [3]), ([9, 10, 3], [3, 9, 10]), ([4, 11, 3, 3], [3, 4, 11]), ([12, 3], [3, 12]), ([3, 13], [3, 13])])
def clusterlocksref10_Against.B8 : List Nat := [0, 1, 3, 7, 15, 15, 15, 111, 239, 495, 15, 2031, 4095, 8191, 16383]
theorem clusterlocksref10_Against.tab8 : rtab .any (opsOf Tryd.f19 8) = clusterlocksref10_Against.T8 := by kernel_rfl
theorem clusterlocksref10_Against.bits8 : waitsOk clusterlocksref10_Against.T8.2 clusterlocksref10_Against.B8 = true := by kernel_rfl
set_option maxHeartbeats 8000000 in
set_option maxRecDepth 100000 in
theorem clusterlocksref10_Against.calls (k : Nat) (a0_0 : ByteArray) (a0_1 : Int) (a0_2 : Int) (a0_3 : Int) (A1 : Option Addr) (c1 : Nat) (l1 : List (S53)) (a2_0 : Int) (a2_1 : Int) (a2_2 : Int) (a3_0 : Int) (a3_1 : Int) (r : List (S24)) (w : World) (hr1 : Kd.C k53 w A1 l1.length l1) (hc1 : l1.length ≤ c1) (h : clusterlocksref10_Against.f k a0_0 a0_1 a0_2 a0_3 l1 a2_0 a2_1 a2_2 a3_0 a3_1 = some r) :
  Calls Tryd.prog 19 #[.agg #[.string a0_0, .int .i64 a0_1, .int .i64 a0_2, .int .i64 a0_3], .slice A1 l1.length c1, .agg #[.int .i64 a2_0, .int .i64 a2_1, .int .i64 a2_2], .agg #[.int .i64 a3_0, .int .i64 a3_1]] w fun e w' => ∃ v0_ : Value, e = .returned (v0_) ∧ Kd.R k24 24 w' w.heap.size (fun _ => True) v0_ r ∧ Below w.heap.size w w' := by
 have hu32 := Tryd.underlying32
 have hu24 := Tryd.underlying24
 have hu26 := Tryd.underlying26
 have HR1 := Aside0.mk hr1
 have HC1 := Aside0.mk hc1
 clear hr1 hc1
 have HB := Aside0.mk (Below.refl w.heap.size w)
 have H : ((clusterlocksref10_Valid.f k a0_0 a0_1 a0_2 a0_3 l1).bind fun t325 => (if t325 = true then ((clusterlocksref02_ValidProc.f a2_0 a2_1 a2_2).bind fun t326 => (if t326 = true then ((clusterlocksref04_Fits.f a0_0 a0_1 a0_2 a0_3 a3_0 a3_1).bind fun t327 => (if t327 = true then ((clusterlocksref10_Room.f k a0_0 a0_1 a0_2 a0_3 l1 a2_0 a2_1 a2_2 a3_0 a3_1).bind fun t328 => (clusterlocksref10_Against.j0 k l1 t328 a0_0 a0_1 a0_2 a0_3 a2_0 a2_1 a2_2 a3_0 a3_1)) else (clusterlocksref10_Against.j0 k l1 true a0_0 a0_1 a0_2 a0_3 a2_0 a2_1 a2_2 a3_0 a3_1))) else (clusterlocksref10_Against.j0 k l1 true a0_0 a0_1 a0_2 a0_3 a2_0 a2_1 a2_2 a3_0 a3_1))) else (clusterlocksref10_Against.j0 k l1 true a0_0 a0_1 a0_2 a0_3 a2_0 a2_1 a2_2 a3_0 a3_1))) = some r := h
 clear h
 have HC5 := Aside0.mk H
 clear H
 go_enter Tryd.func19, Tryd.ntmps19
 go_upto_region 1 with (first | ((with_reducible refine gate_dst (N := 4) rfl ?_); (try (refine gate_guard (by rfl) ?_; dsimp only)); refine box_event ?hg (N := 4) ?hd (cs := #[.string a0_0, .int .i64 a0_1, .int .i64 a0_2, .int .i64 a0_3]) (t := 32) ?hr ?_; (case hd => rfl); (case hg => rfl); (case hr => first | (go_simp; done) | (go_simp; rfl)); intro gb322 hg w6 hbox hb; have BK322 := Aside0.mk hbox; have GW322 := gE HB hg; replace HB := bB HB hb; have GE322 := GW322; clear hb hbox hg) | ((with_reducible refine gate_dst (N := 6) rfl ?_); (try (refine gate_guard (by rfl) ?_; dsimp only)); refine box_event ?hg (N := 6) ?hd (cs := #[.int .i64 a2_0, .int .i64 a2_1, .int .i64 a2_2]) (t := 24) ?hr ?_; (case hd => rfl); (case hg => rfl); (case hr => first | (go_simp; done) | (go_simp; rfl)); intro gb323 hg w7 hbox hb; have BK323 := Aside0.mk hbox; have GW323 := gE HB hg; replace HB := bB HB hb; have GE323 := GW323; have NB322_323 := gN BK322 hg; replace BK322 := bK BK322 hb; have NB323_322 := Aside0.mk NB322_323.out.symm; clear hb hbox hg) | ((with_reducible refine gate_dst (N := 7) rfl ?_); (try (refine gate_guard (by rfl) ?_; dsimp only)); refine box_event ?hg (N := 7) ?hd (cs := #[.int .i64 a3_0, .int .i64 a3_1]) (t := 26) ?hr ?_; (case hd => rfl); (case hg => rfl); (case hr => first | (go_simp; done) | (go_simp; rfl)); intro gb324 hg w8 hbox hb; have BK324 := Aside0.mk hbox; have GW324 := gE HB hg; replace HB := bB HB hb; have GE324 := GW324; have NB322_324 := gN BK322 hg; replace BK322 := bK BK322 hb; have NB324_322 := Aside0.mk NB322_324.out.symm; have NB323_324 := gN BK323 hg; replace BK323 := bK BK323 hb; have NB324_323 := Aside0.mk NB323_324.out.symm; clear hb hbox hg))
 (try simp only [Act.put, List.setIfInBounds_toArray, List.set_cons_zero, List.set_cons_succ])
 go_cut [32] (fun v32 wc => ∃ (kq : Nat) (x32_4 : Bool), v32 = .bool x32_4 ∧ Aside0 (clusterlocksref10_Against.j0 kq l1 x32_4 a0_0 a0_1 a0_2 a0_3 a2_0 a2_1 a2_2 a3_0 a3_1 = some r) ∧ Aside0 (kq ≤ k) ∧ Aside0 (wc.heap[gb322]? = some (.cells #[.string a0_0, .int .i64 a0_1, .int .i64 a0_2, .int .i64 a0_3] 32 (0, 0))) ∧ Aside0 (wc.heap[gb323]? = some (.cells #[.int .i64 a2_0, .int .i64 a2_1, .int .i64 a2_2] 24 (0, 0))) ∧ Aside0 (wc.heap[gb324]? = some (.cells #[.int .i64 a3_0, .int .i64 a3_1] 26 (0, 0))) ∧ Aside0 (Below w.heap.size w wc))
 case first =>
  have H := HC5.out
  clear HC5
  obtain ⟨t325, A90, H⟩ := Option.bind_eq_some_iff.mp H
  have A9 := Aside0.mk A90; clear A90
  have HH_ := Aside0.mk H
  clear H
  have hnb16 := NB322_323.out
  have hnc16 := NB323_322.out
  have hnb17 := NB322_324.out
  have hnc17 := NB324_322.out
  obtain ⟨hcz18_0, hcz18_1, hcz18_2, hcz18_3, hfz18_0, hfz18_1, hfz18_2, hfz18_3⟩ := d4 BK322
  have H := HH_.out
  clear HH_
  by_cases c10 : t325 = true
  ·subst c10
   rw [if_pos rfl] at H
   obtain ⟨t326, A110, H⟩ := Option.bind_eq_some_iff.mp H
   have A11 := Aside0.mk A110; clear A110
   by_cases c12 : t326 = true
   ·subst c12
    rw [if_pos rfl] at H
    obtain ⟨t327, A130, H⟩ := Option.bind_eq_some_iff.mp H
    have A13 := Aside0.mk A130; clear A130
    by_cases c14 : t327 = true
    ·subst c14
     rw [if_pos rfl] at H
     obtain ⟨t328, A150, H⟩ := Option.bind_eq_some_iff.mp H
     have A15 := Aside0.mk A150; clear A150
     have H' := Aside0.mk H
     clear H
     go_wp2_with (first | ((with_reducible refine gate_callee (f := 26) rfl ?_); refine goesL_ (some 13) rfl rfl Tryd.func26 (by kernel_rfl) rfl #[.agg #[.string a0_0, .int .i64 a0_1, .int .i64 a0_2, .int .i64 a0_3], .slice A1 l1.length c1] rfl (by (try simp only [mA]); first | done | rfl) ?_; (with_reducible refine (clusterlocksref10_Valid.calls k a0_0 a0_1 a0_2 a0_3 _ _ l1 true _ ?side1 ?side2 A9.out).mono ?_); (case side1 => repeat (first | exact (Kd.C_below HR1.out HB.out) | (with_reducible refine Kd.C_alloc ?_ _) | (with_reducible refine Kd.C_drewN ?_ _) | (with_reducible refine Kd.C_drew ?_))); (case side2 => exact HC1.out); rintro e w19 ⟨rfl, hb⟩; refine ⟨_, rfl, ?_⟩; replace BK322 := bK BK322 hb; replace BK323 := bK BK323 hb; replace BK324 := bK BK324 hb; replace HB := bB HB hb; (try clear hb); (try clear hk); have hnb20 := NB323_324.out; have hnc20 := NB324_323.out; have hcz21_0 : w19.cell? ⟨gb323, 0, none⟩ = some (.int .i64 a2_0) := bC BK323 0 rfl; have hcz21_1 : w19.cell? ⟨gb323, 1, none⟩ = some (.int .i64 a2_1) := bC BK323 1 rfl; have hcz21_2 : w19.cell? ⟨gb323, 2, none⟩ = some (.int .i64 a2_2) := bC BK323 2 rfl; have hfz21_0 := bF BK323 0; have hfz21_1 := bF BK323 1; have hfz21_2 := bF BK323 2) | (go_at_call 36; (with_reducible refine (clusterlocksref02_ValidProc.calls a2_0 a2_1 a2_2 true _ A11.out).mono ?_); rintro e w22 ⟨rfl, hb⟩; replace BK322 := bK BK322 hb; replace BK323 := bK BK323 hb; replace BK324 := bK BK324 hb; replace HB := bB HB hb; (try clear hb); (try clear hk); obtain ⟨hcz23_0, hcz23_1, hcz23_2, hcz23_3, hfz23_0, hfz23_1, hfz23_2, hfz23_3⟩ := d4 BK322; have hcz24_0 : w22.cell? ⟨gb324, 0, none⟩ = some (.int .i64 a3_0) := bC BK324 0 rfl; have hcz24_1 : w22.cell? ⟨gb324, 1, none⟩ = some (.int .i64 a3_1) := bC BK324 1 rfl; have hfz24_0 := bF BK324 0; have hfz24_1 := bF BK324 1) | (go_at_call 37; (with_reducible refine (clusterlocksref04_Fits.calls a0_0 a0_1 a0_2 a0_3 a3_0 a3_1 true _ A13.out).mono ?_); rintro e w25 ⟨rfl, hb⟩; replace BK322 := bK BK322 hb; replace BK323 := bK BK323 hb; replace BK324 := bK BK324 hb; replace HB := bB HB hb; (try clear hb); (try clear hk); obtain ⟨hcz26_0, hcz26_1, hcz26_2, hcz26_3, hfz26_0, hfz26_1, hfz26_2, hfz26_3⟩ := d4 BK322; obtain ⟨hcz27_0, hcz27_1, hcz27_2, hfz27_0, hfz27_1, hfz27_2⟩ := d3 BK323; have hcz28_0 : w25.cell? ⟨gb324, 0, none⟩ = some (.int .i64 a3_0) := bC BK324 0 rfl; have hcz28_1 : w25.cell? ⟨gb324, 1, none⟩ = some (.int .i64 a3_1) := bC BK324 1 rfl; have hfz28_0 := bF BK324 0; have hfz28_1 := bF BK324 1) | (go_at_call 16; (with_reducible refine (clusterlocksref10_Room.calls k a0_0 a0_1 a0_2 a0_3 _ _ l1 a2_0 a2_1 a2_2 a3_0 a3_1 t328 _ ?side1 ?side2 A15.out).mono ?_); (case side1 => repeat (first | exact (Kd.C_below HR1.out HB.out) | (with_reducible refine Kd.C_alloc ?_ _) | (with_reducible refine Kd.C_drewN ?_ _) | (with_reducible refine Kd.C_drew ?_))); (case side2 => exact HC1.out); rintro e w29 ⟨rfl, hb⟩; replace BK322 := bK BK322 hb; replace BK323 := bK BK323 hb; replace BK324 := bK BK324 hb; replace HB := bB HB hb; (try clear hb); (try clear hk)))
     go_meet
     case rel => exact ⟨_, (t328), (by first | rfl | (simp; done) | (simp [*]; done)), H', ⟨by first | omega | exact Nat.le_refl _⟩, ⟨by (with_reducible repeat first | refine bN ?_ _ | refine bD ?_ | refine bA ?_ _); exact BK322.out⟩, ⟨by (with_reducible repeat first | refine bN ?_ _ | refine bD ?_ | refine bA ?_ _); exact BK323.out⟩, ⟨by (with_reducible repeat first | refine bN ?_ _ | refine bD ?_ | refine bA ?_ _); exact BK324.out⟩, ⟨by repeat (first | (with_reducible first | exact HB.out | apply bL | apply bM | apply bR) | exact HB.out)⟩⟩
    ·replace c14 := Bool.eq_false_iff.mpr c14
     subst c14
     rw [if_neg (show ¬ (false = true) by decide)] at H
     have H' := Aside0.mk H
     clear H
     go_wp2_with (first | ((with_reducible refine gate_callee (f := 26) rfl ?_); refine goesL_ (some 13) rfl rfl Tryd.func26 (by kernel_rfl) rfl #[.agg #[.string a0_0, .int .i64 a0_1, .int .i64 a0_2, .int .i64 a0_3], .slice A1 l1.length c1] rfl (by (try simp only [mA]); first | done | rfl) ?_; (with_reducible refine (clusterlocksref10_Valid.calls k a0_0 a0_1 a0_2 a0_3 _ _ l1 true _ ?side1 ?side2 A9.out).mono ?_); (case side1 => repeat (first | exact (Kd.C_below HR1.out HB.out) | (with_reducible refine Kd.C_alloc ?_ _) | (with_reducible refine Kd.C_drewN ?_ _) | (with_reducible refine Kd.C_drew ?_))); (case side2 => exact HC1.out); rintro e w33 ⟨rfl, hb⟩; refine ⟨_, rfl, ?_⟩; replace BK322 := bK BK322 hb; replace BK323 := bK BK323 hb; replace BK324 := bK BK324 hb; replace HB := bB HB hb; (try clear hb); (try clear hk); have hnb34 := NB323_324.out; have hnc34 := NB324_323.out; have hcz35_0 : w33.cell? ⟨gb323, 0, none⟩ = some (.int .i64 a2_0) := bC BK323 0 rfl; have hcz35_1 : w33.cell? ⟨gb323, 1, none⟩ = some (.int .i64 a2_1) := bC BK323 1 rfl; have hcz35_2 : w33.cell? ⟨gb323, 2, none⟩ = some (.int .i64 a2_2) := bC BK323 2 rfl; have hfz35_0 := bF BK323 0; have hfz35_1 := bF BK323 1; have hfz35_2 := bF BK323 2) | (go_at_call 36; (with_reducible refine (clusterlocksref02_ValidProc.calls a2_0 a2_1 a2_2 true _ A11.out).mono ?_); rintro e w36 ⟨rfl, hb⟩; replace BK322 := bK BK322 hb; replace BK323 := bK BK323 hb; replace BK324 := bK BK324 hb; replace HB := bB HB hb; (try clear hb); (try clear hk); obtain ⟨hcz37_0, hcz37_1, hcz37_2, hcz37_3, hfz37_0, hfz37_1, hfz37_2, hfz37_3⟩ := d4 BK322; have hcz38_0 : w36.cell? ⟨gb324, 0, none⟩ = some (.int .i64 a3_0) := bC BK324 0 rfl; have hcz38_1 : w36.cell? ⟨gb324, 1, none⟩ = some (.int .i64 a3_1) := bC BK324 1 rfl; have hfz38_0 := bF BK324 0; have hfz38_1 := bF BK324 1) | (go_at_call 37; (with_reducible refine (clusterlocksref04_Fits.calls a0_0 a0_1 a0_2 a0_3 a3_0 a3_1 false _ A13.out).mono ?_); rintro e w39 ⟨rfl, hb⟩; replace BK322 := bK BK322 hb; replace BK323 := bK BK323 hb; replace BK324 := bK BK324 hb; replace HB := bB HB hb; (try clear hb); (try clear hk)))
     go_meet
     case rel => exact ⟨_, (true), (by first | rfl | (simp; done) | (simp [*]; done)), H', ⟨by first | omega | exact Nat.le_refl _⟩, ⟨by (with_reducible repeat first | refine bN ?_ _ | refine bD ?_ | refine bA ?_ _); exact BK322.out⟩, ⟨by (with_reducible repeat first | refine bN ?_ _ | refine bD ?_ | refine bA ?_ _); exact BK323.out⟩, ⟨by (with_reducible repeat first | refine bN ?_ _ | refine bD ?_ | refine bA ?_ _); exact BK324.out⟩, ⟨by repeat (first | (with_reducible first | exact HB.out | apply bL | apply bM | apply bR) | exact HB.out)⟩⟩
   ·replace c12 := Bool.eq_false_iff.mpr c12
    subst c12
    rw [if_neg (show ¬ (false = true) by decide)] at H
    have H' := Aside0.mk H
    clear H
    go_wp2_with (first | ((with_reducible refine gate_callee (f := 26) rfl ?_); refine goesL_ (some 13) rfl rfl Tryd.func26 (by kernel_rfl) rfl #[.agg #[.string a0_0, .int .i64 a0_1, .int .i64 a0_2, .int .i64 a0_3], .slice A1 l1.length c1] rfl (by (try simp only [mA]); first | done | rfl) ?_; (with_reducible refine (clusterlocksref10_Valid.calls k a0_0 a0_1 a0_2 a0_3 _ _ l1 true _ ?side1 ?side2 A9.out).mono ?_); (case side1 => repeat (first | exact (Kd.C_below HR1.out HB.out) | (with_reducible refine Kd.C_alloc ?_ _) | (with_reducible refine Kd.C_drewN ?_ _) | (with_reducible refine Kd.C_drew ?_))); (case side2 => exact HC1.out); rintro e w43 ⟨rfl, hb⟩; refine ⟨_, rfl, ?_⟩; replace BK322 := bK BK322 hb; replace BK323 := bK BK323 hb; replace BK324 := bK BK324 hb; replace HB := bB HB hb; (try clear hb); (try clear hk); have hnb44 := NB323_324.out; have hnc44 := NB324_323.out; have hcz45_0 : w43.cell? ⟨gb323, 0, none⟩ = some (.int .i64 a2_0) := bC BK323 0 rfl; have hcz45_1 : w43.cell? ⟨gb323, 1, none⟩ = some (.int .i64 a2_1) := bC BK323 1 rfl; have hcz45_2 : w43.cell? ⟨gb323, 2, none⟩ = some (.int .i64 a2_2) := bC BK323 2 rfl; have hfz45_0 := bF BK323 0; have hfz45_1 := bF BK323 1; have hfz45_2 := bF BK323 2) | (go_at_call 36; (with_reducible refine (clusterlocksref02_ValidProc.calls a2_0 a2_1 a2_2 false _ A11.out).mono ?_); rintro e w46 ⟨rfl, hb⟩; replace BK322 := bK BK322 hb; replace BK323 := bK BK323 hb; replace BK324 := bK BK324 hb; replace HB := bB HB hb; (try clear hb); (try clear hk)))
    go_meet
    case rel => exact ⟨_, (true), (by first | rfl | (simp; done) | (simp [*]; done)), H', ⟨by first | omega | exact Nat.le_refl _⟩, ⟨by (with_reducible repeat first | refine bN ?_ _ | refine bD ?_ | refine bA ?_ _); exact BK322.out⟩, ⟨by (with_reducible repeat first | refine bN ?_ _ | refine bD ?_ | refine bA ?_ _); exact BK323.out⟩, ⟨by (with_reducible repeat first | refine bN ?_ _ | refine bD ?_ | refine bA ?_ _); exact BK324.out⟩, ⟨by repeat (first | (with_reducible first | exact HB.out | apply bL | apply bM | apply bR) | exact HB.out)⟩⟩
  ·replace c10 := Bool.eq_false_iff.mpr c10
   subst c10
   rw [if_neg (show ¬ (false = true) by decide)] at H
   have H' := Aside0.mk H
   clear H
   go_wp2_with (first | ((with_reducible refine gate_callee (f := 26) rfl ?_); refine goesL_ (some 13) rfl rfl Tryd.func26 (by kernel_rfl) rfl #[.agg #[.string a0_0, .int .i64 a0_1, .int .i64 a0_2, .int .i64 a0_3], .slice A1 l1.length c1] rfl (by (try simp only [mA]); first | done | rfl) ?_; (with_reducible refine (clusterlocksref10_Valid.calls k a0_0 a0_1 a0_2 a0_3 _ _ l1 false _ ?side1 ?side2 A9.out).mono ?_); (case side1 => repeat (first | exact (Kd.C_below HR1.out HB.out) | (with_reducible refine Kd.C_alloc ?_ _) | (with_reducible refine Kd.C_drewN ?_ _) | (with_reducible refine Kd.C_drew ?_))); (case side2 => exact HC1.out); rintro e w50 ⟨rfl, hb⟩; refine ⟨_, rfl, ?_⟩; replace BK322 := bK BK322 hb; replace BK323 := bK BK323 hb; replace BK324 := bK BK324 hb; replace HB := bB HB hb; (try clear hb); (try clear hk)))
   go_meet
   case rel => exact ⟨_, (true), (by first | rfl | (simp; done) | (simp [*]; done)), H', ⟨by first | omega | exact Nat.le_refl _⟩, ⟨by (with_reducible repeat first | refine bN ?_ _ | refine bD ?_ | refine bA ?_ _); exact BK322.out⟩, ⟨by (with_reducible repeat first | refine bN ?_ _ | refine bD ?_ | refine bA ?_ _); exact BK323.out⟩, ⟨by (with_reducible repeat first | refine bN ?_ _ | refine bD ?_ | refine bA ?_ _); exact BK324.out⟩, ⟨by repeat (first | (with_reducible first | exact HB.out | apply bL | apply bM | apply bR) | exact HB.out)⟩⟩
 case rest =>
  clear HC5
  try clear c1
  try clear c2
  try clear p2
  try clear c3
  try clear c4
  try clear c10
  try clear c12
  try clear c14
  try clear c16
  try clear c17
  try clear c19
  try clear c20
  try clear c26
  try clear c30
  try clear c31
  try clear c34
  try clear c40
  try clear c41
  try clear c44
  try clear c47
  try clear c48
  try clear hcz18_0
  try clear hcz18_1
  try clear hcz18_2
  try clear hcz18_3
  try clear hcz21_0
  try clear hcz21_1
  try clear hcz21_2
  try clear hcz23_0
  try clear hcz23_1
  try clear hcz23_2
  try clear hcz23_3
  try clear hcz24_0
  try clear hcz24_1
  try clear hcz26_0
  try clear hcz26_1
  try clear hcz26_2
  try clear hcz26_3
  try clear hcz27_0
  try clear hcz27_1
  try clear hcz27_2
  try clear hcz28_0
  try clear hcz28_1
  try clear hcz32_0
  try clear hcz32_1
  try clear hcz32_2
  try clear hcz32_3
  try clear hcz35_0
  try clear hcz35_1
  try clear hcz35_2
  try clear hcz37_0
  try clear hcz37_1
  try clear hcz37_2
  try clear hcz37_3
  try clear hcz38_0
  try clear hcz38_1
  try clear hcz42_0
  try clear hcz42_1
  try clear hcz42_2
  try clear hcz42_3
  try clear hcz45_0
  try clear hcz45_1
  try clear hcz45_2
  try clear hcz49_0
  try clear hcz49_1
  try clear hcz49_2
  try clear hcz49_3
  try clear hfz18_0
  try clear hfz18_1
  try clear hfz18_2
  try clear hfz18_3
  try clear hfz21_0
  try clear hfz21_1
  try clear hfz21_2
  try clear hfz23_0
  try clear hfz23_1
  try clear hfz23_2
  try clear hfz23_3
  try clear hfz24_0
  try clear hfz24_1
  try clear hfz26_0
  try clear hfz26_1
  try clear hfz26_2
  try clear hfz26_3
  try clear hfz27_0
  try clear hfz27_1
  try clear hfz27_2
  try clear hfz28_0
  try clear hfz28_1
  try clear hfz32_0
  try clear hfz32_1
  try clear hfz32_2
  try clear hfz32_3
  try clear hfz35_0
  try clear hfz35_1
  try clear hfz35_2
  try clear hfz37_0
  try clear hfz37_1
  try clear hfz37_2
  try clear hfz37_3
  try clear hfz38_0
  try clear hfz38_1
  try clear hfz42_0
  try clear hfz42_1
  try clear hfz42_2
  try clear hfz42_3
  try clear hfz45_0
  try clear hfz45_1
  try clear hfz45_2
  try clear hfz49_0
  try clear hfz49_1
  try clear hfz49_2
  try clear hfz49_3
  obtain ⟨kq, x32_4, rfl, HA, HJ4, BK322, BK323, BK324, HB⟩ := hcut
  cases kq with
  | zero => exact absurd HA.out (by simp [clusterlocksref10_Against.j0])
  | succ kj4 =>
   have H := HA.out
   clear HA
   simp only [clusterlocksref10_Against.j0] at H
   by_cases c51 : x32_4 = true
   ·subst c51
    rw [if_pos rfl] at H
    obtain rfl := Option.some.inj H
    go_wp2
    go_ret
    exact ⟨_, by first | rfl | (simp [errW_none, errW_some] <;> rfl) | (simp [*, errW_none, errW_some] <;> rfl), by first | exact Kd.R_nil _ _ _ _ _ | exact Kd.N_nil _ _ _ _ _ | exact Kd.V_nil _ _ _ _ _ | exact Kd.Q_nil _ _ _ _ _ | exact Kd.S_nil _ _ _ _ _, by repeat (first | (with_reducible first | exact HB.out | apply bL | apply bM | apply bR) | exact HB.out)⟩
   ·replace c51 := Bool.eq_false_iff.mpr c51
    subst c51
    rw [if_neg (show ¬ (false = true) by decide)] at H
    have H' := Aside0.mk H
    clear H
    go_wp2
    go_loopg [9, 10] kj4 (fun kq v9 v10 w' => ∃ (x9_2 : List (S24)) (x10_2 : Int), v10 = .int .i64 x10_2 ∧ Aside0 (clusterlocksref10_Against.l0 kq l1 x9_2 x10_2 a0_0 a0_1 a0_2 a0_3 a2_0 a2_1 a2_2 a3_0 a3_1 = some r) ∧ Aside0 (kq ≤ kj4) ∧ Aside0 (Kd.R k24 24 w' w.heap.size (fun k_ => k_ ≠ gb323) v9 x9_2) ∧ Aside0 (w'.heap[gb322]? = some (.cells #[.string a0_0, .int .i64 a0_1, .int .i64 a0_2, .int .i64 a0_3] 32 (0, 0))) ∧ Aside0 (w'.heap[gb323]? = some (.cells #[.int .i64 a2_0, .int .i64 a2_1, .int .i64 a2_2] 24 (0, 0))) ∧ Aside0 (w'.heap[gb324]? = some (.cells #[.int .i64 a3_0, .int .i64 a3_1] 26 (0, 0))) ∧ Aside0 (Below w.heap.size w w'))
    case atStart => exact ⟨(([] : List (S24))), (0), (by first | rfl | (simp; done) | (simp [*]; done)), H', ⟨Nat.le_refl _⟩, ⟨by first | exact Kd.R_nil _ _ _ _ _ | exact Kd.N_nil _ _ _ _ _ | exact Kd.V_nil _ _ _ _ _ | exact Kd.Q_nil _ _ _ _ _ | exact Kd.S_nil _ _ _ _ _⟩, ⟨by (with_reducible repeat first | refine bN ?_ _ | refine bD ?_ | refine bA ?_ _); exact BK322.out⟩, ⟨by (with_reducible repeat first | refine bN ?_ _ | refine bD ?_ | refine bA ?_ _); exact BK323.out⟩, ⟨by (with_reducible repeat first | refine bN ?_ _ | refine bD ?_ | refine bA ?_ _); exact BK324.out⟩, ⟨by repeat (first | (with_reducible first | exact HB.out | apply bL | apply bM | apply bR) | exact HB.out)⟩⟩
    case round =>
     clear H'
     try clear c1
     try clear c2
     try clear p2
     try clear c3
     try clear c4
     try clear c5
     try clear c10
     try clear c12
     try clear c14
     try clear c16
     try clear c17
     try clear c19
     try clear c20
     try clear c26
     try clear c30
     try clear c31
     try clear c34
     try clear c40
     try clear c41
     try clear c44
     try clear c47
     try clear c48
     try clear c51
     try clear hcz18_0
     try clear hcz18_1
     try clear hcz18_2
     try clear hcz18_3
     try clear hcz21_0
     try clear hcz21_1
     try clear hcz21_2
     try clear hcz23_0
     try clear hcz23_1
     try clear hcz23_2
     try clear hcz23_3
     try clear hcz24_0
     try clear hcz24_1
     try clear hcz26_0
     try clear hcz26_1
     try clear hcz26_2
     try clear hcz26_3
     try clear hcz27_0
     try clear hcz27_1
     try clear hcz27_2
     try clear hcz28_0
     try clear hcz28_1
     try clear hcz32_0
     try clear hcz32_1
     try clear hcz32_2
     try clear hcz32_3
     try clear hcz35_0
     try clear hcz35_1
     try clear hcz35_2
     try clear hcz37_0
     try clear hcz37_1
     try clear hcz37_2
     try clear hcz37_3
     try clear hcz38_0
     try clear hcz38_1
     try clear hcz42_0
     try clear hcz42_1
     try clear hcz42_2
     try clear hcz42_3
     try clear hcz45_0
     try clear hcz45_1
     try clear hcz45_2
     try clear hcz49_0
     try clear hcz49_1
     try clear hcz49_2
     try clear hcz49_3
     try clear hfz18_0
     try clear hfz18_1
     try clear hfz18_2
     try clear hfz18_3
     try clear hfz21_0
     try clear hfz21_1
     try clear hfz21_2
     try clear hfz23_0
     try clear hfz23_1
     try clear hfz23_2
     try clear hfz23_3
     try clear hfz24_0
     try clear hfz24_1
     try clear hfz26_0
     try clear hfz26_1
     try clear hfz26_2
     try clear hfz26_3
     try clear hfz27_0
     try clear hfz27_1
     try clear hfz27_2
     try clear hfz28_0
     try clear hfz28_1
     try clear hfz32_0
     try clear hfz32_1
     try clear hfz32_2
     try clear hfz32_3
     try clear hfz35_0
     try clear hfz35_1
     try clear hfz35_2
     try clear hfz37_0
     try clear hfz37_1
     try clear hfz37_2
     try clear hfz37_3
     try clear hfz38_0
     try clear hfz38_1
     try clear hfz42_0
     try clear hfz42_1
     try clear hfz42_2
     try clear hfz42_3
     try clear hfz45_0
     try clear hfz45_1
     try clear hfz45_2
     try clear hfz49_0
     try clear hfz49_1
     try clear hfz49_2
     try clear hfz49_3
     try clear p2
     obtain ⟨x9_2, x10_2, rfl, HA, HK2, HO_9, BK322, BK323, BK324, HB⟩ := hrel
     cases gk with
     | zero => exact absurd HA.out (by simp [clusterlocksref10_Against.l0])
     | succ k2 =>
      have H := HA.out
      clear HA
      simp only [clusterlocksref10_Against.l0] at H
      by_cases c52 : x10_2 < (l1.length : Int)
      ·rw [if_pos c52] at H
       have c52b0 : decide (x10_2 < (l1.length : Int)) = true := decide_eq_true c52
       clear c52
       by_cases c53 : 0 ≤ x10_2
       ·rw [if_pos c53] at H
        have c53b0 : decide (0 ≤ x10_2) = true := decide_eq_true c53
        clear c53
        by_cases c54 : (((rd_T53 l1 x10_2).f0.f0) == a2_0 && (((rd_T53 l1 x10_2).f0.f1) == a2_1 && (((rd_T53 l1 x10_2).f0.f2) == a2_2))) = true
        ·rw [if_pos c54] at H
         have c54b0 : (((rd_T53 l1 x10_2).f0.f0) == a2_0 && (((rd_T53 l1 x10_2).f0.f1) == a2_1 && (((rd_T53 l1 x10_2).f0.f2) == a2_2))) = true := c54
         (try (have c54b1 : decide (((rd_T53 l1 x10_2).f0.f0) = a2_0 && (((rd_T53 l1 x10_2).f0.f1) == a2_1 && (((rd_T53 l1 x10_2).f0.f2) == a2_2))) = true := by simpa using c54))
         (try (have c54b2 : (((rd_T53 l1 x10_2).f0.f0) == a2_0 && (((rd_T53 l1 x10_2).f0.f1) == a2_1 && (((rd_T53 l1 x10_2).f0.f2) == a2_2))) = true := by simpa using c54))
         clear c54
         have H' := Aside0.mk H
         clear H
         try go_wp2
         replace HO_9 := Aside0.mk (Kd.R_drew HO_9.out)
         replace BK322 := Aside0.mk (blk_drew BK322.out)
         replace BK323 := Aside0.mk (blk_drew BK323.out)
         replace BK324 := Aside0.mk (blk_drew BK324.out)
         replace HB := Aside0.mk (below_drew1 HB.out)
         have p329 : 0 ≤ (x10_2 : Int) := of_decide_eq_true (by first | (with_reducible assumption) | assumption)
         have q329 : x10_2 < (l1.length : Int) := of_decide_eq_true (by first | (with_reducible assumption) | assumption)
         obtain ⟨ad329, e329, hx329_0, hx329_1, hx329_2, hx329_3, hx329_4⟩ := at_T53 HR1.out x10_2 p329 q329
         have hw329_4 := hx329_4
         have hw329_3 := hx329_3
         have hw329_2 := hx329_2
         have hw329_1 := hx329_1
         have hw329_0 := hx329_0
         cases e329
         replace hx329_0 := kC HB hx329_0
         replace hx329_1 := kC HB hx329_1
         replace hx329_2 := kC HB hx329_2
         replace hx329_3 := kC HB hx329_3
         replace hx329_4 := kC HB hx329_4
         replace p329 := eq_true p329
         replace q329 := eq_true q329
         refine start_ (n := 7) (S := fun w' => w'.cell? ⟨gb323, 0, none⟩ = some (.int .i64 a2_0) ∧ w'.cell? ⟨gb323, 1, none⟩ = some (.int .i64 a2_1) ∧ w'.cell? ⟨gb323, 2, none⟩ = some (.int .i64 a2_2) ∧ w'.cell? (ad329.add ((x10_2).toNat * 5)) = some (.int .i64 ((rd_T53 l1 x10_2).f0.f0)) ∧ w'.cell? ⟨(ad329.add ((x10_2).toNat * 5)).block, (ad329.add ((x10_2).toNat * 5)).off + 1, none⟩ = some (.int .i64 ((rd_T53 l1 x10_2).f0.f1)) ∧ w'.cell? ⟨(ad329.add ((x10_2).toNat * 5)).block, (ad329.add ((x10_2).toNat * 5)).off + 2, none⟩ = some (.int .i64 ((rd_T53 l1 x10_2).f0.f2)) ∧ w'.cell? ⟨(ad329.add ((x10_2).toNat * 5)).block, (ad329.add ((x10_2).toNat * 5)).off + 3, none⟩ = some (.int .i64 ((rd_T53 l1 x10_2).f1.f0)) ∧ w'.cell? ⟨(ad329.add ((x10_2).toNat * 5)).block, (ad329.add ((x10_2).toNat * 5)).off + 4, none⟩ = some (.int .i64 ((rd_T53 l1 x10_2).f1.f1))) (ds := []) #[F,F,F,F,F,F,F] (by kernel_rfl) rfl rfl ⟨bC BK323 0 rfl, bC BK323 1 rfl, bC BK323 2 rfl, (kC HB hw329_0), (kC HB hw329_1), (kC HB hw329_2), (kC HB hw329_3), (kC HB hw329_4)⟩ (fun hHeld => ?_)
         generalize wr.drew = w55 at HO_9 BK322 BK323 BK324 HB hx329_0 hx329_1 hx329_2 hx329_3 hx329_4 hHeld ⊢
         refine pure_ (i := 0) (N := some 39) (v := ?_) (a' := ?_) #[T,F,F,F,F,F,F] rfl rfl (by kernel_rfl) (fun _ _ _ h => h) (Or.inl ⟨by rfl, ?_⟩) ?_ ?_
         rotate_left
         ·intro w'; go_simp; with_reducible rfl
         rotate_left
         ·simp only [sP]; rfl
         refine pure_ (i := 1) (N := some 40) (v := ?_) (a' := ?_) #[T,T,F,F,F,F,F] rfl rfl (by kernel_rfl) (fun _ _ _ h => h) (Or.inl ⟨by rfl, ?_⟩) ?_ ?_
         rotate_left
         ·intro w'; go_simp; with_reducible rfl
         rotate_left
         ·simp only [sP]; rfl
         refine pure_ (i := 2) (N := some 41) (v := ?_) (a' := ?_) #[T,T,T,F,F,F,F] rfl rfl (by kernel_rfl) (fun _ _ _ h => h) (Or.inl ⟨by rfl, ?_⟩) ?_ ?_
         rotate_left
         ·intro w'; go_simp; with_reducible rfl
         rotate_left
         ·simp only [sP]; rfl
         refine pure_ (i := 3) (N := some 42) (v := ?_) (a' := ?_) #[T,T,T,T,F,F,F] rfl rfl (by kernel_rfl) (fun _ _ _ h => h) (Or.inl ⟨by rfl, ?_⟩) ?_ ?_
         rotate_left
         ·intro w'; go_simp; with_reducible rfl
         rotate_left
         ·simp only [sP]; rfl
         refine take_ (i := 4) (N := some 43) (v := ?_) (a' := ?_) #[T,T,T,T,T,F,F] rfl rfl (by kernel_rfl) (fun _ _ _ h => h) (Or.inl ⟨by rfl, ?_⟩) hHeld ?_ ?_
         rotate_left
         ·rintro w' ⟨s0, s1, s2, s3, s4, s5, s6, s7⟩; go_simp; with_reducible rfl
         rotate_left
         ·simp only [sP]; rfl
         refine take_ (i := 5) (N := some 44) (v := ?_) (a' := ?_) #[T,T,T,T,T,T,F] rfl rfl (by kernel_rfl) (fun _ _ _ h => h) (Or.inl ⟨by rfl, ?_⟩) hHeld ?_ ?_
         rotate_left
         ·rintro w' ⟨s0, s1, s2, s3, s4, s5, s6, s7⟩; go_simp; with_reducible rfl
         rotate_left
         ·simp only [sP]; rfl
         refine pure_ (i := 6) (N := some 45) (v := ?_) (a' := ?_) #[T,T,T,T,T,T,T] rfl rfl (by kernel_rfl) (fun _ _ _ h => h) (Or.inl ⟨by rfl, ?_⟩) ?_ ?_
         rotate_left
         ·intro w'; go_simp; with_reducible rfl
         rotate_left
         ·simp only [sP]; rfl
         refine done_ (by kernel_rfl) ?_
         try go_wp2
         go_roundg k2
         case measure => have := HJ4.out; have := HK2.out; omega
         case rel => exact ⟨(x9_2), (wrap64 (x10_2 + 1)), (by first | rfl | (simp; done) | (simp [*]; done)), H', ⟨by have := HJ4.out; have := HK2.out; omega⟩, ⟨by (with_reducible repeat (first | apply Kd.R_alloc | apply Kd.R_drewN | apply Kd.R_drew)); exact HO_9.out⟩, ⟨by (with_reducible repeat first | refine bN ?_ _ | refine bD ?_ | refine bA ?_ _); exact BK322.out⟩, ⟨by (with_reducible repeat first | refine bN ?_ _ | refine bD ?_ | refine bA ?_ _); exact BK323.out⟩, ⟨by (with_reducible repeat first | refine bN ?_ _ | refine bD ?_ | refine bA ?_ _); exact BK324.out⟩, ⟨by repeat (first | (with_reducible first | exact HB.out | apply bL | apply bM | apply bR) | exact HB.out)⟩⟩
        ·rw [if_neg c54] at H
         have c54b0 : (((rd_T53 l1 x10_2).f0.f0) == a2_0 && (((rd_T53 l1 x10_2).f0.f1) == a2_1 && (((rd_T53 l1 x10_2).f0.f2) == a2_2))) = false := by simpa using c54
         (try (have c54b1 : decide (((rd_T53 l1 x10_2).f0.f0) = a2_0 && (((rd_T53 l1 x10_2).f0.f1) == a2_1 && (((rd_T53 l1 x10_2).f0.f2) == a2_2))) = false := by simpa using c54))
         (try (have c54b2 : (((rd_T53 l1 x10_2).f0.f0) == a2_0 && (((rd_T53 l1 x10_2).f0.f1) == a2_1 && (((rd_T53 l1 x10_2).f0.f2) == a2_2))) = false := by simpa using c54))
         (try (have c54b3 : ¬ (((rd_T53 l1 x10_2).f0.f0) = a2_0 && (((rd_T53 l1 x10_2).f0.f1) == a2_1 && (((rd_T53 l1 x10_2).f0.f2) == a2_2))) := by simpa using c54))
         clear c54
         by_cases c56 : a0_1 = 2
         ·rw [if_pos c56] at H
          have c56b0 : (a0_1 == 2) = true := beq_iff_eq.mpr c56
          have c56b1 : (a0_1 != 2) = false := bne_eq_false_iff_eq.mpr c56
          clear c56
          by_cases c57 : x9_2.length < 5864062014805
          ·rw [if_pos c57] at H
           have LMc57 := Aside0.mk c57
           clear c57
           obtain ⟨y331, hy331⟩ : ∃ y_ : List (S24), y_ = (x9_2 ++ [(⟨(rd_T53 l1 x10_2).f0.f0, (rd_T53 l1 x10_2).f0.f1, (rd_T53 l1 x10_2).f0.f2⟩ : S24)]) := ⟨_, rfl⟩
           replace H : (clusterlocksref10_Against.l0 k2 l1 y331 (wrap64 (x10_2 + 1)) a0_0 a0_1 a0_2 a0_3 a2_0 a2_1 a2_2 a3_0 a3_1) = some r := by first | (rw [hy331]; with_reducible exact H) | (have H2_ := (Option.bind_some _ _).symm.trans H; rw [hy331]; with_reducible exact H2_) | (have H2_ := (Option.bind_some _ _).symm.trans H; with_reducible exact H2_) | with_reducible exact H | (rw [hy331]; exact H) | exact H
           have Ny331 := Aside0.mk hy331
           clear hy331
           have H' := Aside0.mk H
           clear H
           try go_wp2
           replace HO_9 := Aside0.mk (Kd.R_drew HO_9.out)
           replace BK322 := Aside0.mk (blk_drew BK322.out)
           replace BK323 := Aside0.mk (blk_drew BK323.out)
           replace BK324 := Aside0.mk (blk_drew BK324.out)
           replace HB := Aside0.mk (below_drew1 HB.out)
           have p329 : 0 ≤ (x10_2 : Int) := of_decide_eq_true (by first | (with_reducible assumption) | assumption)
           have q329 : x10_2 < (l1.length : Int) := of_decide_eq_true (by first | (with_reducible assumption) | assumption)
           obtain ⟨ad329, e329, hx329_0, hx329_1, hx329_2, hx329_3, hx329_4⟩ := at_T53 HR1.out x10_2 p329 q329
           have hw329_4 := hx329_4
           have hw329_3 := hx329_3
           have hw329_2 := hx329_2
           have hw329_1 := hx329_1
           have hw329_0 := hx329_0
           cases e329
           replace hx329_0 := kC HB hx329_0
           replace hx329_1 := kC HB hx329_1
           replace hx329_2 := kC HB hx329_2
           replace hx329_3 := kC HB hx329_3
           replace hx329_4 := kC HB hx329_4
           replace p329 := eq_true p329
           replace q329 := eq_true q329
           refine start_ (n := 7) (S := fun w' => w'.cell? ⟨gb323, 0, none⟩ = some (.int .i64 a2_0) ∧ w'.cell? ⟨gb323, 1, none⟩ = some (.int .i64 a2_1) ∧ w'.cell? ⟨gb323, 2, none⟩ = some (.int .i64 a2_2) ∧ w'.cell? (ad329.add ((x10_2).toNat * 5)) = some (.int .i64 ((rd_T53 l1 x10_2).f0.f0)) ∧ w'.cell? ⟨(ad329.add ((x10_2).toNat * 5)).block, (ad329.add ((x10_2).toNat * 5)).off + 1, none⟩ = some (.int .i64 ((rd_T53 l1 x10_2).f0.f1)) ∧ w'.cell? ⟨(ad329.add ((x10_2).toNat * 5)).block, (ad329.add ((x10_2).toNat * 5)).off + 2, none⟩ = some (.int .i64 ((rd_T53 l1 x10_2).f0.f2)) ∧ w'.cell? ⟨(ad329.add ((x10_2).toNat * 5)).block, (ad329.add ((x10_2).toNat * 5)).off + 3, none⟩ = some (.int .i64 ((rd_T53 l1 x10_2).f1.f0)) ∧ w'.cell? ⟨(ad329.add ((x10_2).toNat * 5)).block, (ad329.add ((x10_2).toNat * 5)).off + 4, none⟩ = some (.int .i64 ((rd_T53 l1 x10_2).f1.f1))) (ds := []) #[F,F,F,F,F,F,F] (by kernel_rfl) rfl rfl ⟨bC BK323 0 rfl, bC BK323 1 rfl, bC BK323 2 rfl, (kC HB hw329_0), (kC HB hw329_1), (kC HB hw329_2), (kC HB hw329_3), (kC HB hw329_4)⟩ (fun hHeld => ?_)
           generalize wr.drew = w58 at HO_9 BK322 BK323 BK324 HB hx329_0 hx329_1 hx329_2 hx329_3 hx329_4 hHeld ⊢
           refine pure_ (i := 0) (N := some 39) (v := ?_) (a' := ?_) #[T,F,F,F,F,F,F] rfl rfl (by kernel_rfl) (fun _ _ _ h => h) (Or.inl ⟨by rfl, ?_⟩) ?_ ?_
           rotate_left
           ·intro w'; go_simp; with_reducible rfl
           rotate_left
           ·simp only [sP]; rfl
           refine pure_ (i := 1) (N := some 40) (v := ?_) (a' := ?_) #[T,T,F,F,F,F,F] rfl rfl (by kernel_rfl) (fun _ _ _ h => h) (Or.inl ⟨by rfl, ?_⟩) ?_ ?_
           rotate_left
           ·intro w'; go_simp; with_reducible rfl
           rotate_left
           ·simp only [sP]; rfl
           refine pure_ (i := 2) (N := some 41) (v := ?_) (a' := ?_) #[T,T,T,F,F,F,F] rfl rfl (by kernel_rfl) (fun _ _ _ h => h) (Or.inl ⟨by rfl, ?_⟩) ?_ ?_
           rotate_left
           ·intro w'; go_simp; with_reducible rfl
           rotate_left
           ·simp only [sP]; rfl
           refine pure_ (i := 3) (N := some 42) (v := ?_) (a' := ?_) #[T,T,T,T,F,F,F] rfl rfl (by kernel_rfl) (fun _ _ _ h => h) (Or.inl ⟨by rfl, ?_⟩) ?_ ?_
           rotate_left
           ·intro w'; go_simp; with_reducible rfl
           rotate_left
           ·simp only [sP]; rfl
           refine take_ (i := 4) (N := some 43) (v := ?_) (a' := ?_) #[T,T,T,T,T,F,F] rfl rfl (by kernel_rfl) (fun _ _ _ h => h) (Or.inl ⟨by rfl, ?_⟩) hHeld ?_ ?_
           rotate_left
           ·rintro w' ⟨s0, s1, s2, s3, s4, s5, s6, s7⟩; go_simp; with_reducible rfl
           rotate_left
           ·simp only [sP]; rfl
           refine take_ (i := 5) (N := some 44) (v := ?_) (a' := ?_) #[T,T,T,T,T,T,F] rfl rfl (by kernel_rfl) (fun _ _ _ h => h) (Or.inl ⟨by rfl, ?_⟩) hHeld ?_ ?_
           rotate_left
           ·rintro w' ⟨s0, s1, s2, s3, s4, s5, s6, s7⟩; go_simp; with_reducible rfl
           rotate_left
           ·simp only [sP]; rfl
           refine pure_ (i := 6) (N := some 45) (v := ?_) (a' := ?_) #[T,T,T,T,T,T,T] rfl rfl (by kernel_rfl) (fun _ _ _ h => h) (Or.inl ⟨by rfl, ?_⟩) ?_ ?_
           rotate_left
           ·intro w'; go_simp; with_reducible rfl
           rotate_left
           ·simp only [sP]; rfl
           refine done_ (by kernel_rfl) ?_
           try go_wp2
           replace HO_9 := Aside0.mk (Kd.R_drew HO_9.out)
           replace BK322 := Aside0.mk (blk_drew BK322.out)
           replace BK323 := Aside0.mk (blk_drew BK323.out)
           replace BK324 := Aside0.mk (blk_drew BK324.out)
           replace HB := Aside0.mk (below_drew1 HB.out)
           refine start_ (n := 15) (S := fun w' => w'.cell? ⟨gb322, 0, none⟩ = some (.string a0_0) ∧ w'.cell? ⟨gb322, 1, none⟩ = some (.int .i64 a0_1) ∧ w'.cell? ⟨gb322, 2, none⟩ = some (.int .i64 a0_2) ∧ w'.cell? ⟨gb322, 3, none⟩ = some (.int .i64 a0_3)) (ds := []) #[F,F,F,F,F,F,F,F,F,F,F,F,F,F,F] (by kernel_rfl) rfl rfl ⟨bC BK322 0 rfl, bC BK322 1 rfl, bC BK322 2 rfl, bC BK322 3 rfl⟩ (fun hHeld => ?_); refine with_tabW clusterlocksref10_Against.tab8 clusterlocksref10_Against.bits8 (fun HT_ HW_ => ?_)
           generalize w58.drew = w59 at HO_9 BK322 BK323 BK324 HB hHeld ⊢
           refine pu HT_ 0 46 #[T,F,F,F,F,F,F,F,F,F,F,F,F,F,F] rfl rfl (by kernel_rfl) (fun _ _ _ => id) (.inl ⟨by rfl, by intro w'; go_simp; with_reducible rfl⟩) (by simp only [sP]; rfl) ?_
           refine tk HT_ HW_ 1 47 #[T,T,F,F,F,F,F,F,F,F,F,F,F,F,F] rfl rfl (by kernel_rfl) (fun _ _ _ => id) (.inl ⟨by rfl, by rintro w' ⟨s0, s1, s2, s3⟩; go_simp; with_reducible rfl⟩) hHeld (by simp only [sP]; rfl) ?_
           refine pu HT_ 2 48 #[T,T,T,F,F,F,F,F,F,F,F,F,F,F,F] rfl rfl (by kernel_rfl) (fun _ _ _ => id) (.inl ⟨by rfl, by intro w'; go_simp; with_reducible rfl⟩) (by simp only [sP]; rfl) ?_
           refine pu HT_ 3 49 #[T,T,T,T,F,F,F,F,F,F,F,F,F,F,F] rfl rfl (by kernel_rfl) (fun _ _ _ => id) (.inl ⟨by rfl, by intro w'; go_simp; with_reducible rfl⟩) (by simp only [sP]; rfl) ?_
           refine pu HT_ 4 50 #[T,T,T,T,T,F,F,F,F,F,F,F,F,F,F] rfl rfl (by kernel_rfl) (fun _ _ _ => id) (.inr ⟨by rfl, rfl⟩) (by simp only [sP]; rfl) ?_
           refine pu HT_ 5 51 #[T,T,T,T,T,T,F,F,F,F,F,F,F,F,F] rfl rfl (by kernel_rfl) (fun _ _ _ => id) (.inr ⟨by rfl, rfl⟩) (by simp only [sP]; rfl) ?_
           refine pu HT_ 6 52 #[T,T,T,T,T,T,T,F,F,F,F,F,F,F,F] rfl rfl (by kernel_rfl) (fun _ _ _ => id) (.inr ⟨by rfl, rfl⟩) (by simp only [sP]; rfl) ?_
           refine pu HT_ 7 53 #[T,T,T,T,T,T,T,T,F,F,F,F,F,F,F] rfl rfl (by kernel_rfl) (fun _ _ _ => id) (.inr ⟨by rfl, rfl⟩) (by simp only [sP]; rfl) ?_
           refine pu HT_ 8 54 #[T,T,T,T,T,T,T,T,T,F,F,F,F,F,F] rfl rfl (by kernel_rfl) (fun _ _ _ => id) (.inr ⟨by rfl, rfl⟩) (by simp only [sP]; rfl) ?_
           refine pu HT_ 9 55 #[T,T,T,T,T,T,T,T,T,T,F,F,F,F,F] rfl rfl (by kernel_rfl) (fun _ _ _ => id) (.inr ⟨by rfl, rfl⟩) (by simp only [sP]; rfl) ?_
           refine pu HT_ 10 56 #[T,T,T,T,T,T,T,T,T,T,T,F,F,F,F] rfl rfl (by kernel_rfl) (fun _ _ _ => id) (.inr ⟨by rfl, rfl⟩) (by simp only [sP]; rfl) ?_
           refine pu HT_ 11 57 #[T,T,T,T,T,T,T,T,T,T,T,T,F,F,F] rfl rfl (by kernel_rfl) (fun _ _ _ => id) (.inr ⟨by rfl, rfl⟩) (by simp only [sP]; rfl) ?_
           refine pu HT_ 12 58 #[T,T,T,T,T,T,T,T,T,T,T,T,T,F,F] rfl rfl (by kernel_rfl) (fun _ _ _ => id) (.inr ⟨by rfl, rfl⟩) (by simp only [sP]; rfl) ?_
           refine pu HT_ 13 59 #[T,T,T,T,T,T,T,T,T,T,T,T,T,T,F] rfl rfl (by kernel_rfl) (fun _ _ _ => id) (.inr ⟨by rfl, rfl⟩) (by simp only [sP]; rfl) ?_
           refine pu HT_ 14 60 #[T,T,T,T,T,T,T,T,T,T,T,T,T,T,T] rfl rfl (by kernel_rfl) (fun _ _ _ => id) (.inl ⟨by rfl, by intro w'; go_simp; with_reducible rfl⟩) (by simp only [sP]; rfl) ?_
           refine done_ (done_of HT_.out (by kernel_rfl)) ?_
           have p330 : 0 ≤ (x10_2 : Int) := of_decide_eq_true (by first | (with_reducible assumption) | assumption)
           have q330 : x10_2 < (l1.length : Int) := of_decide_eq_true (by first | (with_reducible assumption) | assumption)
           obtain ⟨ad330, e330, hx330_0, hx330_1, hx330_2, hx330_3, hx330_4⟩ := at_T53 HR1.out x10_2 p330 q330
           obtain rfl : ad329 = ad330 := (by injection e330)
           replace hx330_0 := kC HB hx330_0
           replace hx330_1 := kC HB hx330_1
           replace hx330_2 := kC HB hx330_2
           replace hx330_3 := kC HB hx330_3
           replace hx330_4 := kC HB hx330_4
           replace p330 := eq_true p330
           replace q330 := eq_true q330
           try go_wp2_with (first | ((with_reducible refine gate_builtin (b := .append) (xs := #[.tmp 61, .tmp 67]) rfl ?_); (try (refine gate_guard (by rfl) ?_; dsimp only)); at_builtin; refine Kd.R_append k24 (w0 := w) w.heap.size rfl (.tmp 61) (.tmp 67) 35 24 (.agg #[(.int .i64 0), (.int .i64 0), (.int .i64 0)]) 24 rfl Tryd.underlying35 info24 rfl (by decide) (by omega) u9 x9_2 (⟨(rd_T53 l1 x10_2).f0.f0, (rd_T53 l1 x10_2).f0.f1, (rd_T53 l1 x10_2).f0.f2⟩ : S24) [.int .i64 ((rd_T53 l1 x10_2).f0.f0), .int .i64 ((rd_T53 l1 x10_2).f0.f1), .int .i64 ((rd_T53 l1 x10_2).f0.f2)] (fun k_ => k_ ≠ gb323) (fun _ => False) rfl rfl ?aP (fun _ hk => hk.elim) ?aF ?aO ?aB ?aS ?aL ?_; (case aP => exact k24_mkM _ _ _ (⟨(rd_T53 l1 x10_2).f0.f0, (rd_T53 l1 x10_2).f0.f1, (rd_T53 l1 x10_2).f0.f2⟩ : S24)); (case aB => exact (uB HB)); (case aF => exact (fun k_ hk => Kd.freshB (g := gb323) (o := .cells #[.int .i64 a2_0, .int .i64 a2_1, .int .i64 a2_2] 24 (0, 0)) (uK BK323) k_ hk)); (case aO => exact (by (with_reducible repeat (first | apply Kd.R_alloc | apply Kd.R_drewN | apply Kd.R_drew)); exact HO_9.out)); (case aS => exact (below_size (uB HB))); (case aL => have := LMc57.out; omega); intro v332 w60 ho hb hg hat; rw [← Ny331.out] at ho; replace BK322 := Aside0.mk (blk_grown (g := gb322) (o := .cells #[.string a0_0, .int .i64 a0_1, .int .i64 a0_2, .int .i64 a0_3] 32 (0, 0)) (uK BK322) hg (Kd.R_ne HO_9.out BK322.out (by decide))); replace BK323 := Aside0.mk (blk_grown (g := gb323) (o := .cells #[.int .i64 a2_0, .int .i64 a2_1, .int .i64 a2_2] 24 (0, 0)) (uK BK323) hg (Kd.R_away HO_9.out (fun _ hk => hk))); replace BK324 := Aside0.mk (blk_grown (g := gb324) (o := .cells #[.int .i64 a3_0, .int .i64 a3_1] 26 (0, 0)) (uK BK324) hg (Kd.R_ne HO_9.out BK324.out (by decide))); replace HB := Aside0.mk (hb); have HO333 := Aside0.mk (ho); clear HO_9; clear ho hb hg hat))
           go_roundg k2
           case measure => have := HJ4.out; have := HK2.out; omega
           case rel => exact ⟨(y331), (wrap64 (x10_2 + 1)), (by first | rfl | (simp; done) | (simp [*]; done)), H', ⟨by have := HJ4.out; have := HK2.out; omega⟩, ⟨by (with_reducible repeat (first | apply Kd.R_alloc | apply Kd.R_drewN | apply Kd.R_drew)); exact HO333.out⟩, ⟨by (with_reducible repeat first | refine bN ?_ _ | refine bD ?_ | refine bA ?_ _); exact BK322.out⟩, ⟨by (with_reducible repeat first | refine bN ?_ _ | refine bD ?_ | refine bA ?_ _); exact BK323.out⟩, ⟨by (with_reducible repeat first | refine bN ?_ _ | refine bD ?_ | refine bA ?_ _); exact BK324.out⟩, ⟨by repeat (first | (with_reducible first | exact HB.out | apply bL | apply bM | apply bR) | exact HB.out)⟩⟩
          ·rw [if_neg c57] at H
           exact absurd H (by simp)
         ·rw [if_neg c56] at H
          have c56b0 : (a0_1 == 2) = false := beq_eq_false_iff_ne.mpr c56
          have c56b1 : (a0_1 != 2) = true := bne_iff_ne.mpr c56
          obtain ⟨y335, hy335⟩ : ∃ y_ : List (S26), y_ = (([(⟨(rd_T53 l1 x10_2).f1.f0, (rd_T53 l1 x10_2).f1.f1⟩ : S26), (⟨a3_0, a3_1⟩ : S26)] : List (S26))) := ⟨_, rfl⟩
          replace H : ((clusterlocksref04_Compatible.f k2 a0_0 a0_1 a0_2 a0_3 y335).bind fun t338 => (if t338 = true then (clusterlocksref10_Against.l0 k2 l1 x9_2 (wrap64 (x10_2 + 1)) a0_0 a0_1 a0_2 a0_3 a2_0 a2_1 a2_2 a3_0 a3_1) else (if x9_2.length < 5864062014805 then (clusterlocksref10_Against.l0 k2 l1 (x9_2 ++ [(⟨(rd_T53 l1 x10_2).f0.f0, (rd_T53 l1 x10_2).f0.f1, (rd_T53 l1 x10_2).f0.f2⟩ : S24)]) (wrap64 (x10_2 + 1)) a0_0 a0_1 a0_2 a0_3 a2_0 a2_1 a2_2 a3_0 a3_1) else (none)))) = some r := by first | (rw [hy335]; with_reducible exact H) | (have H2_ := (Option.bind_some _ _).symm.trans H; rw [hy335]; with_reducible exact H2_) | (have H2_ := (Option.bind_some _ _).symm.trans H; with_reducible exact H2_) | with_reducible exact H | (rw [hy335]; exact H) | exact H
          have Ny335 := Aside0.mk hy335
          clear hy335
          obtain ⟨t338, A610, H⟩ := Option.bind_eq_some_iff.mp H
          have A61 := Aside0.mk A610; clear A610
          by_cases c62 : t338 = true
          ·subst c62
           rw [if_pos rfl] at H
           have H' := Aside0.mk H
           clear H
           try go_wp2
           replace HO_9 := Aside0.mk (Kd.R_drew HO_9.out)
           replace BK322 := Aside0.mk (blk_drew BK322.out)
           replace BK323 := Aside0.mk (blk_drew BK323.out)
           replace BK324 := Aside0.mk (blk_drew BK324.out)
           replace HB := Aside0.mk (below_drew1 HB.out)
           have p329 : 0 ≤ (x10_2 : Int) := of_decide_eq_true (by first | (with_reducible assumption) | assumption)
           have q329 : x10_2 < (l1.length : Int) := of_decide_eq_true (by first | (with_reducible assumption) | assumption)
           obtain ⟨ad329, e329, hx329_0, hx329_1, hx329_2, hx329_3, hx329_4⟩ := at_T53 HR1.out x10_2 p329 q329
           have hw329_4 := hx329_4
           have hw329_3 := hx329_3
           have hw329_2 := hx329_2
           have hw329_1 := hx329_1
           have hw329_0 := hx329_0
           cases e329
           replace hx329_0 := kC HB hx329_0
           replace hx329_1 := kC HB hx329_1
           replace hx329_2 := kC HB hx329_2
           replace hx329_3 := kC HB hx329_3
           replace hx329_4 := kC HB hx329_4
           replace p329 := eq_true p329
           replace q329 := eq_true q329
           refine start_ (n := 7) (S := fun w' => w'.cell? ⟨gb323, 0, none⟩ = some (.int .i64 a2_0) ∧ w'.cell? ⟨gb323, 1, none⟩ = some (.int .i64 a2_1) ∧ w'.cell? ⟨gb323, 2, none⟩ = some (.int .i64 a2_2) ∧ w'.cell? (ad329.add ((x10_2).toNat * 5)) = some (.int .i64 ((rd_T53 l1 x10_2).f0.f0)) ∧ w'.cell? ⟨(ad329.add ((x10_2).toNat * 5)).block, (ad329.add ((x10_2).toNat * 5)).off + 1, none⟩ = some (.int .i64 ((rd_T53 l1 x10_2).f0.f1)) ∧ w'.cell? ⟨(ad329.add ((x10_2).toNat * 5)).block, (ad329.add ((x10_2).toNat * 5)).off + 2, none⟩ = some (.int .i64 ((rd_T53 l1 x10_2).f0.f2)) ∧ w'.cell? ⟨(ad329.add ((x10_2).toNat * 5)).block, (ad329.add ((x10_2).toNat * 5)).off + 3, none⟩ = some (.int .i64 ((rd_T53 l1 x10_2).f1.f0)) ∧ w'.cell? ⟨(ad329.add ((x10_2).toNat * 5)).block, (ad329.add ((x10_2).toNat * 5)).off + 4, none⟩ = some (.int .i64 ((rd_T53 l1 x10_2).f1.f1))) (ds := []) #[F,F,F,F,F,F,F] (by kernel_rfl) rfl rfl ⟨bC BK323 0 rfl, bC BK323 1 rfl, bC BK323 2 rfl, (kC HB hw329_0), (kC HB hw329_1), (kC HB hw329_2), (kC HB hw329_3), (kC HB hw329_4)⟩ (fun hHeld => ?_)
           generalize wr.drew = w63 at HO_9 BK322 BK323 BK324 HB hx329_0 hx329_1 hx329_2 hx329_3 hx329_4 hHeld ⊢
           refine pure_ (i := 0) (N := some 39) (v := ?_) (a' := ?_) #[T,F,F,F,F,F,F] rfl rfl (by kernel_rfl) (fun _ _ _ h => h) (Or.inl ⟨by rfl, ?_⟩) ?_ ?_
           rotate_left
           ·intro w'; go_simp; with_reducible rfl
           rotate_left
           ·simp only [sP]; rfl
           refine pure_ (i := 1) (N := some 40) (v := ?_) (a' := ?_) #[T,T,F,F,F,F,F] rfl rfl (by kernel_rfl) (fun _ _ _ h => h) (Or.inl ⟨by rfl, ?_⟩) ?_ ?_
           rotate_left
           ·intro w'; go_simp; with_reducible rfl
           rotate_left
           ·simp only [sP]; rfl
           refine pure_ (i := 2) (N := some 41) (v := ?_) (a' := ?_) #[T,T,T,F,F,F,F] rfl rfl (by kernel_rfl) (fun _ _ _ h => h) (Or.inl ⟨by rfl, ?_⟩) ?_ ?_
           rotate_left
           ·intro w'; go_simp; with_reducible rfl
           rotate_left
           ·simp only [sP]; rfl
           refine pure_ (i := 3) (N := some 42) (v := ?_) (a' := ?_) #[T,T,T,T,F,F,F] rfl rfl (by kernel_rfl) (fun _ _ _ h => h) (Or.inl ⟨by rfl, ?_⟩) ?_ ?_
           rotate_left
           ·intro w'; go_simp; with_reducible rfl
           rotate_left
           ·simp only [sP]; rfl
           refine take_ (i := 4) (N := some 43) (v := ?_) (a' := ?_) #[T,T,T,T,T,F,F] rfl rfl (by kernel_rfl) (fun _ _ _ h => h) (Or.inl ⟨by rfl, ?_⟩) hHeld ?_ ?_
           rotate_left
           ·rintro w' ⟨s0, s1, s2, s3, s4, s5, s6, s7⟩; go_simp; with_reducible rfl
           rotate_left
           ·simp only [sP]; rfl
           refine take_ (i := 5) (N := some 44) (v := ?_) (a' := ?_) #[T,T,T,T,T,T,F] rfl rfl (by kernel_rfl) (fun _ _ _ h => h) (Or.inl ⟨by rfl, ?_⟩) hHeld ?_ ?_
           rotate_left
           ·rintro w' ⟨s0, s1, s2, s3, s4, s5, s6, s7⟩; go_simp; with_reducible rfl
           rotate_left
           ·simp only [sP]; rfl
           refine pure_ (i := 6) (N := some 45) (v := ?_) (a' := ?_) #[T,T,T,T,T,T,T] rfl rfl (by kernel_rfl) (fun _ _ _ h => h) (Or.inl ⟨by rfl, ?_⟩) ?_ ?_
           rotate_left
           ·intro w'; go_simp; with_reducible rfl
           rotate_left
           ·simp only [sP]; rfl
           refine done_ (by kernel_rfl) ?_
           try go_wp2
           replace HO_9 := Aside0.mk (Kd.R_drew HO_9.out)
           replace BK322 := Aside0.mk (blk_drew BK322.out)
           replace BK323 := Aside0.mk (blk_drew BK323.out)
           replace BK324 := Aside0.mk (blk_drew BK324.out)
           replace HB := Aside0.mk (below_drew1 HB.out)
           have p334 : 0 ≤ (x10_2 : Int) := of_decide_eq_true (by first | (with_reducible assumption) | assumption)
           have q334 : x10_2 < (l1.length : Int) := of_decide_eq_true (by first | (with_reducible assumption) | assumption)
           obtain ⟨ad334, e334, hx334_0, hx334_1, hx334_2, hx334_3, hx334_4⟩ := at_T53 HR1.out x10_2 p334 q334
           have hw334_4 := hx334_4
           have hw334_3 := hx334_3
           have hw334_2 := hx334_2
           have hw334_1 := hx334_1
           have hw334_0 := hx334_0
           obtain rfl : ad329 = ad334 := (by injection e334)
           replace hx334_0 := kC HB hx334_0
           replace hx334_1 := kC HB hx334_1
           replace hx334_2 := kC HB hx334_2
           replace hx334_3 := kC HB hx334_3
           replace hx334_4 := kC HB hx334_4
           replace p334 := eq_true p334
           replace q334 := eq_true q334
           refine start_ (n := 15) (S := fun w' => w'.cell? ⟨gb322, 0, none⟩ = some (.string a0_0) ∧ w'.cell? ⟨gb322, 1, none⟩ = some (.int .i64 a0_1) ∧ w'.cell? ⟨gb322, 2, none⟩ = some (.int .i64 a0_2) ∧ w'.cell? ⟨gb322, 3, none⟩ = some (.int .i64 a0_3) ∧ w'.cell? ⟨gb324, 0, none⟩ = some (.int .i64 a3_0) ∧ w'.cell? ⟨gb324, 1, none⟩ = some (.int .i64 a3_1) ∧ w'.cell? (ad329.add ((x10_2).toNat * 5)) = some (.int .i64 ((rd_T53 l1 x10_2).f0.f0)) ∧ w'.cell? ⟨(ad329.add ((x10_2).toNat * 5)).block, (ad329.add ((x10_2).toNat * 5)).off + 1, none⟩ = some (.int .i64 ((rd_T53 l1 x10_2).f0.f1)) ∧ w'.cell? ⟨(ad329.add ((x10_2).toNat * 5)).block, (ad329.add ((x10_2).toNat * 5)).off + 2, none⟩ = some (.int .i64 ((rd_T53 l1 x10_2).f0.f2)) ∧ w'.cell? ⟨(ad329.add ((x10_2).toNat * 5)).block, (ad329.add ((x10_2).toNat * 5)).off + 3, none⟩ = some (.int .i64 ((rd_T53 l1 x10_2).f1.f0)) ∧ w'.cell? ⟨(ad329.add ((x10_2).toNat * 5)).block, (ad329.add ((x10_2).toNat * 5)).off + 4, none⟩ = some (.int .i64 ((rd_T53 l1 x10_2).f1.f1))) (ds := []) #[F,F,F,F,F,F,F,F,F,F,F,F,F,F,F] (by kernel_rfl) rfl rfl ⟨bC BK322 0 rfl, bC BK322 1 rfl, bC BK322 2 rfl, bC BK322 3 rfl, bC BK324 0 rfl, bC BK324 1 rfl, (kC HB hw334_0), (kC HB hw334_1), (kC HB hw334_2), (kC HB hw334_3), (kC HB hw334_4)⟩ (fun hHeld => ?_); refine with_tabW clusterlocksref10_Against.tab8 clusterlocksref10_Against.bits8 (fun HT_ HW_ => ?_)
           generalize w63.drew = w64 at HO_9 BK322 BK323 BK324 HB hx334_0 hx334_1 hx334_2 hx334_3 hx334_4 hHeld ⊢
           refine pu HT_ 0 46 #[T,F,F,F,F,F,F,F,F,F,F,F,F,F,F] rfl rfl (by kernel_rfl) (fun _ _ _ => id) (.inl ⟨by rfl, by intro w'; go_simp; with_reducible rfl⟩) (by simp only [sP]; rfl) ?_
           refine tk HT_ HW_ 1 47 #[T,T,F,F,F,F,F,F,F,F,F,F,F,F,F] rfl rfl (by kernel_rfl) (fun _ _ _ => id) (.inl ⟨by rfl, by rintro w' ⟨s0, s1, s2, s3, s4, s5, s6, s7, s8, s9, s10⟩; go_simp; with_reducible rfl⟩) hHeld (by simp only [sP]; rfl) ?_
           refine pu HT_ 2 48 #[T,T,T,F,F,F,F,F,F,F,F,F,F,F,F] rfl rfl (by kernel_rfl) (fun _ _ _ => id) (.inl ⟨by rfl, by intro w'; go_simp; with_reducible rfl⟩) (by simp only [sP]; rfl) ?_
           refine pu HT_ 3 49 #[T,T,T,T,F,F,F,F,F,F,F,F,F,F,F] rfl rfl (by kernel_rfl) (fun _ _ _ => id) (.inl ⟨by rfl, by intro w'; go_simp; with_reducible rfl⟩) (by simp only [sP]; rfl) ?_
           refine pu HT_ 5 51 #[T,T,T,T,F,T,F,F,F,F,F,F,F,F,F] rfl rfl (by kernel_rfl) (fun _ _ _ => id) (.inl ⟨by rfl, by intro w'; go_simp; with_reducible rfl⟩) (by simp only [sP]; rfl) ?_
           refine pu HT_ 6 52 #[T,T,T,T,F,T,T,F,F,F,F,F,F,F,F] rfl rfl (by kernel_rfl) (fun _ _ _ => id) (.inl ⟨by rfl, by intro w'; go_simp; with_reducible rfl⟩) (by simp only [sP]; rfl) ?_
           refine pu HT_ 7 53 #[T,T,T,T,F,T,T,T,F,F,F,F,F,F,F] rfl rfl (by kernel_rfl) (fun _ _ _ => id) (.inl ⟨by rfl, by intro w'; go_simp; with_reducible rfl⟩) (by simp only [sP]; rfl) ?_
           refine pu HT_ 8 54 #[T,T,T,T,F,T,T,T,T,F,F,F,F,F,F] rfl rfl (by kernel_rfl) (fun _ _ _ => id) (.inl ⟨by rfl, by intro w'; go_simp; with_reducible rfl⟩) (by simp only [sP]; rfl) ?_
           refine tk HT_ HW_ 4 50 #[T,T,T,T,T,T,T,T,T,F,F,F,F,F,F] rfl rfl (by kernel_rfl) (fun _ _ _ => id) (.inl ⟨by rfl, by rintro w' ⟨s0, s1, s2, s3, s4, s5, s6, s7, s8, s9, s10⟩; go_simp; with_reducible rfl⟩) hHeld (by simp only [sP]; rfl) ?_
           refine tk HT_ HW_ 9 55 #[T,T,T,T,T,T,T,T,T,T,F,F,F,F,F] rfl rfl (by kernel_rfl) (fun _ _ _ => id) (.inl ⟨by rfl, by rintro w' ⟨s0, s1, s2, s3, s4, s5, s6, s7, s8, s9, s10⟩; go_simp; with_reducible rfl⟩) hHeld (by simp only [sP]; rfl) ?_
           refine tk HT_ HW_ 10 56 #[T,T,T,T,T,T,T,T,T,T,T,F,F,F,F] rfl rfl (by kernel_rfl) (fun _ _ _ => id) (.inl ⟨by rfl, by rintro w' ⟨s0, s1, s2, s3, s4, s5, s6, s7, s8, s9, s10⟩; go_simp; with_reducible rfl⟩) hHeld (by simp only [sP]; rfl) ?_
           refine one_ (i := 11) (N := some 57) #[T,T,T,T,T,T,T,T,T,T,T,T,F,F,F] rfl rfl (one_of HT_.out (by kernel_rfl)) (by decide) (fun K hK => ?_)
           refine Kd.R_lit_step k26 _ 26 ?hg (N := 57) ?hd (xs := ([(⟨(rd_T53 l1 x10_2).f1.f0, (rd_T53 l1 x10_2).f1.f1⟩ : S26), (⟨a3_0, a3_1⟩ : S26)] : List (S26))) (inner := [.int .i64 ((rd_T53 l1 x10_2).f1.f0), .int .i64 ((rd_T53 l1 x10_2).f1.f1), .int .i64 a3_0, .int .i64 a3_1]) (ok := fun _ => True) (okp := fun _ => True) ?hr ?hp (fun _ hk => hk) trivial (Below.refl _ _) (Nat.le_refl _) (by simp) ?_; (case hd => rfl); (case hg => rfl); (case hr => first | (go_simp; done) | (go_simp; rfl)); (case hp => exact (Reps.c2 (show Kd.M k26 _ _ _ (⟨(rd_T53 l1 x10_2).f1.f0, (rd_T53 l1 x10_2).f1.f1⟩ : S26) [.int .i64 ((rd_T53 l1 x10_2).f1.f0), .int .i64 ((rd_T53 l1 x10_2).f1.f1)] from (k26_mkM _ _ _ (⟨(rd_T53 l1 x10_2).f1.f0, (rd_T53 l1 x10_2).f1.f1⟩ : S26) )) (Reps.c2 (show Kd.M k26 _ _ _ (⟨a3_0, a3_1⟩ : S26) [.int .i64 a3_0, .int .i64 a3_1] from (k26_mkM _ _ _ (⟨a3_0, a3_1⟩ : S26) )) (Reps.none _ _))))
           intro v336 w65 ho66 hb hg_ hnew_
           clear hg_ hnew_
           (first | rw [← Ny335.out] at ho66 | (simp only [Int.reduceToNat] at ho66; rw [← Ny335.out] at ho66))
           replace HO_9 := Aside0.mk (Kd.R_below (by (with_reducible repeat (first | apply Kd.R_alloc | apply Kd.R_drewN | apply Kd.R_drew)); exact HO_9.out) hb)
           have HO337 := Aside0.mk (Kd.R_lower (Kd.R_newB ho66 (g := gb324) (o := .cells #[.int .i64 a3_0, .int .i64 a3_1] 26 (0, 0)) (uK BK324)) (below_size (uB HB)))
           replace BK322 := bK BK322 hb
           replace BK323 := bK BK323 hb
           replace BK324 := bK BK324 hb
           replace HB := bB HB hb
           clear hb ho66
           obtain ⟨Ao67, co67, eo67⟩ := Kd.R_slice HO337.out
           (first | subst eo67 | (injection eo67 with f1_ f2_ f3_; have f4_ := f1_.symm; have f5_ := f3_.symm; clear f1_ f2_ f3_; subst f4_; subst f5_))
           refine hK.out _ _ ⟨bC BK322 0 rfl, bC BK322 1 rfl, bC BK322 2 rfl, bC BK322 3 rfl, bC BK324 0 rfl, bC BK324 1 rfl, (kC HB hw334_0), (kC HB hw334_1), (kC HB hw334_2), (kC HB hw334_3), (kC HB hw334_4)⟩ (fun hHeld => ?_)
           clear hK K
           refine norm_ (a' := ?_) ?_ ?_
           rotate_left
           ·show Act.put _ (some 57) _ = _
            simp only [sP]
            rfl
           refine one_ (i := 12) (N := some 58) #[T,T,T,T,T,T,T,T,T,T,T,T,T,F,F] rfl rfl (one_of HT_.out (by kernel_rfl)) (by decide) (fun K hK => ?_)
           refine goes_ Tryd.func39 (by kernel_rfl) rfl #[.agg #[.string a0_0, .int .i64 a0_1, .int .i64 a0_2, .int .i64 a0_3], .slice Ao67 y335.length co67] (by rfl) rfl rfl (by (try simp only [mA]); first | done | rfl) ?_
           with_reducible refine (clusterlocksref04_Compatible.calls k2 a0_0 a0_1 a0_2 a0_3 _ _ y335 true _ ?side1 ?side2 A61.out).mono ?_
           (case side1 => repeat (first | exact (Kd.R_reads' HO337.out).2.2 | (with_reducible refine Kd.C_alloc ?_ _) | (with_reducible refine Kd.C_drewN ?_ _) | (with_reducible refine Kd.C_drew ?_)))
           (case side2 => exact (Kd.R_reads' HO337.out).2.1)
           rintro e w68 ⟨rfl, hb⟩
           refine ⟨_, rfl, ?_⟩
           replace HO_9 := Aside0.mk (Kd.R_below (by (with_reducible repeat (first | apply Kd.R_alloc | apply Kd.R_drewN | apply Kd.R_drew)); exact HO_9.out) hb)
           replace HO337 := Aside0.mk (Kd.R_below (by (with_reducible repeat (first | apply Kd.R_alloc | apply Kd.R_drewN | apply Kd.R_drew)); exact HO337.out) hb)
           replace BK322 := bK BK322 hb
           replace BK323 := bK BK323 hb
           replace BK324 := bK BK324 hb
           replace HB := bB HB hb
           (try clear hb)
           (try clear hk)
           refine hK.out _ _ ⟨bC BK322 0 rfl, bC BK322 1 rfl, bC BK322 2 rfl, bC BK322 3 rfl, bC BK324 0 rfl, bC BK324 1 rfl, (kC HB hw334_0), (kC HB hw334_1), (kC HB hw334_2), (kC HB hw334_3), (kC HB hw334_4)⟩ (fun hHeld => ?_)
           clear hK K
           refine norm_ (a' := ?_) ?_ ?_
           rotate_left
           ·show Act.put _ (some 58) _ = _
            simp only [sP]
            rfl
           refine pu HT_ 13 59 #[T,T,T,T,T,T,T,T,T,T,T,T,T,T,F] rfl rfl (by kernel_rfl) (fun _ _ _ => id) (.inl ⟨by rfl, by intro w'; go_simp; with_reducible rfl⟩) (by simp only [sP]; rfl) ?_
           refine pu HT_ 14 60 #[T,T,T,T,T,T,T,T,T,T,T,T,T,T,T] rfl rfl (by kernel_rfl) (fun _ _ _ => id) (.inl ⟨by rfl, by intro w'; go_simp; with_reducible rfl⟩) (by simp only [sP]; rfl) ?_
           refine done_ (done_of HT_.out (by kernel_rfl)) ?_
           try go_wp2
           go_roundg k2
           case measure => have := HJ4.out; have := HK2.out; omega
           case rel => exact ⟨(x9_2), (wrap64 (x10_2 + 1)), (by first | rfl | (simp; done) | (simp [*]; done)), H', ⟨by have := HJ4.out; have := HK2.out; omega⟩, ⟨by (with_reducible repeat (first | apply Kd.R_alloc | apply Kd.R_drewN | apply Kd.R_drew)); exact HO_9.out⟩, ⟨by (with_reducible repeat first | refine bN ?_ _ | refine bD ?_ | refine bA ?_ _); exact BK322.out⟩, ⟨by (with_reducible repeat first | refine bN ?_ _ | refine bD ?_ | refine bA ?_ _); exact BK323.out⟩, ⟨by (with_reducible repeat first | refine bN ?_ _ | refine bD ?_ | refine bA ?_ _); exact BK324.out⟩, ⟨by repeat (first | (with_reducible first | exact HB.out | apply bL | apply bM | apply bR) | exact HB.out)⟩⟩
          ·replace c62 := Bool.eq_false_iff.mpr c62
           subst c62
           rw [if_neg (show ¬ (false = true) by decide)] at H
           by_cases c69 : x9_2.length < 5864062014805
           ·rw [if_pos c69] at H
            have LMc69 := Aside0.mk c69
            clear c69
            obtain ⟨y340, hy340⟩ : ∃ y_ : List (S24), y_ = (x9_2 ++ [(⟨(rd_T53 l1 x10_2).f0.f0, (rd_T53 l1 x10_2).f0.f1, (rd_T53 l1 x10_2).f0.f2⟩ : S24)]) := ⟨_, rfl⟩
            replace H : (clusterlocksref10_Against.l0 k2 l1 y340 (wrap64 (x10_2 + 1)) a0_0 a0_1 a0_2 a0_3 a2_0 a2_1 a2_2 a3_0 a3_1) = some r := by first | (rw [hy340]; with_reducible exact H) | (have H2_ := (Option.bind_some _ _).symm.trans H; rw [hy340]; with_reducible exact H2_) | (have H2_ := (Option.bind_some _ _).symm.trans H; with_reducible exact H2_) | with_reducible exact H | (rw [hy340]; exact H) | exact H
            have Ny340 := Aside0.mk hy340
            clear hy340
            have H' := Aside0.mk H
            clear H
            try go_wp2
            replace HO_9 := Aside0.mk (Kd.R_drew HO_9.out)
            replace BK322 := Aside0.mk (blk_drew BK322.out)
            replace BK323 := Aside0.mk (blk_drew BK323.out)
            replace BK324 := Aside0.mk (blk_drew BK324.out)
            replace HB := Aside0.mk (below_drew1 HB.out)
            have p329 : 0 ≤ (x10_2 : Int) := of_decide_eq_true (by first | (with_reducible assumption) | assumption)
            have q329 : x10_2 < (l1.length : Int) := of_decide_eq_true (by first | (with_reducible assumption) | assumption)
            obtain ⟨ad329, e329, hx329_0, hx329_1, hx329_2, hx329_3, hx329_4⟩ := at_T53 HR1.out x10_2 p329 q329
            have hw329_4 := hx329_4
            have hw329_3 := hx329_3
            have hw329_2 := hx329_2
            have hw329_1 := hx329_1
            have hw329_0 := hx329_0
            cases e329
            replace hx329_0 := kC HB hx329_0
            replace hx329_1 := kC HB hx329_1
            replace hx329_2 := kC HB hx329_2
            replace hx329_3 := kC HB hx329_3
            replace hx329_4 := kC HB hx329_4
            replace p329 := eq_true p329
            replace q329 := eq_true q329
            refine start_ (n := 7) (S := fun w' => w'.cell? ⟨gb323, 0, none⟩ = some (.int .i64 a2_0) ∧ w'.cell? ⟨gb323, 1, none⟩ = some (.int .i64 a2_1) ∧ w'.cell? ⟨gb323, 2, none⟩ = some (.int .i64 a2_2) ∧ w'.cell? (ad329.add ((x10_2).toNat * 5)) = some (.int .i64 ((rd_T53 l1 x10_2).f0.f0)) ∧ w'.cell? ⟨(ad329.add ((x10_2).toNat * 5)).block, (ad329.add ((x10_2).toNat * 5)).off + 1, none⟩ = some (.int .i64 ((rd_T53 l1 x10_2).f0.f1)) ∧ w'.cell? ⟨(ad329.add ((x10_2).toNat * 5)).block, (ad329.add ((x10_2).toNat * 5)).off + 2, none⟩ = some (.int .i64 ((rd_T53 l1 x10_2).f0.f2)) ∧ w'.cell? ⟨(ad329.add ((x10_2).toNat * 5)).block, (ad329.add ((x10_2).toNat * 5)).off + 3, none⟩ = some (.int .i64 ((rd_T53 l1 x10_2).f1.f0)) ∧ w'.cell? ⟨(ad329.add ((x10_2).toNat * 5)).block, (ad329.add ((x10_2).toNat * 5)).off + 4, none⟩ = some (.int .i64 ((rd_T53 l1 x10_2).f1.f1))) (ds := []) #[F,F,F,F,F,F,F] (by kernel_rfl) rfl rfl ⟨bC BK323 0 rfl, bC BK323 1 rfl, bC BK323 2 rfl, (kC HB hw329_0), (kC HB hw329_1), (kC HB hw329_2), (kC HB hw329_3), (kC HB hw329_4)⟩ (fun hHeld => ?_)
            generalize wr.drew = w70 at HO_9 BK322 BK323 BK324 HB hx329_0 hx329_1 hx329_2 hx329_3 hx329_4 hHeld ⊢
            refine pure_ (i := 0) (N := some 39) (v := ?_) (a' := ?_) #[T,F,F,F,F,F,F] rfl rfl (by kernel_rfl) (fun _ _ _ h => h) (Or.inl ⟨by rfl, ?_⟩) ?_ ?_
            rotate_left
            ·intro w'; go_simp; with_reducible rfl
            rotate_left
            ·simp only [sP]; rfl
            refine pure_ (i := 1) (N := some 40) (v := ?_) (a' := ?_) #[T,T,F,F,F,F,F] rfl rfl (by kernel_rfl) (fun _ _ _ h => h) (Or.inl ⟨by rfl, ?_⟩) ?_ ?_
            rotate_left
            ·intro w'; go_simp; with_reducible rfl
            rotate_left
            ·simp only [sP]; rfl
            refine pure_ (i := 2) (N := some 41) (v := ?_) (a' := ?_) #[T,T,T,F,F,F,F] rfl rfl (by kernel_rfl) (fun _ _ _ h => h) (Or.inl ⟨by rfl, ?_⟩) ?_ ?_
            rotate_left
            ·intro w'; go_simp; with_reducible rfl
            rotate_left
            ·simp only [sP]; rfl
            refine pure_ (i := 3) (N := some 42) (v := ?_) (a' := ?_) #[T,T,T,T,F,F,F] rfl rfl (by kernel_rfl) (fun _ _ _ h => h) (Or.inl ⟨by rfl, ?_⟩) ?_ ?_
            rotate_left
            ·intro w'; go_simp; with_reducible rfl
            rotate_left
            ·simp only [sP]; rfl
            refine take_ (i := 4) (N := some 43) (v := ?_) (a' := ?_) #[T,T,T,T,T,F,F] rfl rfl (by kernel_rfl) (fun _ _ _ h => h) (Or.inl ⟨by rfl, ?_⟩) hHeld ?_ ?_
            rotate_left
            ·rintro w' ⟨s0, s1, s2, s3, s4, s5, s6, s7⟩; go_simp; with_reducible rfl
            rotate_left
            ·simp only [sP]; rfl
            refine take_ (i := 5) (N := some 44) (v := ?_) (a' := ?_) #[T,T,T,T,T,T,F] rfl rfl (by kernel_rfl) (fun _ _ _ h => h) (Or.inl ⟨by rfl, ?_⟩) hHeld ?_ ?_
            rotate_left
            ·rintro w' ⟨s0, s1, s2, s3, s4, s5, s6, s7⟩; go_simp; with_reducible rfl
            rotate_left
            ·simp only [sP]; rfl
            refine pure_ (i := 6) (N := some 45) (v := ?_) (a' := ?_) #[T,T,T,T,T,T,T] rfl rfl (by kernel_rfl) (fun _ _ _ h => h) (Or.inl ⟨by rfl, ?_⟩) ?_ ?_
            rotate_left
            ·intro w'; go_simp; with_reducible rfl
            rotate_left
            ·simp only [sP]; rfl
            refine done_ (by kernel_rfl) ?_
            try go_wp2
            replace HO_9 := Aside0.mk (Kd.R_drew HO_9.out)
            replace BK322 := Aside0.mk (blk_drew BK322.out)
            replace BK323 := Aside0.mk (blk_drew BK323.out)
            replace BK324 := Aside0.mk (blk_drew BK324.out)
            replace HB := Aside0.mk (below_drew1 HB.out)
            have p334 : 0 ≤ (x10_2 : Int) := of_decide_eq_true (by first | (with_reducible assumption) | assumption)
            have q334 : x10_2 < (l1.length : Int) := of_decide_eq_true (by first | (with_reducible assumption) | assumption)
            obtain ⟨ad334, e334, hx334_0, hx334_1, hx334_2, hx334_3, hx334_4⟩ := at_T53 HR1.out x10_2 p334 q334
            have hw334_4 := hx334_4
            have hw334_3 := hx334_3
            have hw334_2 := hx334_2
            have hw334_1 := hx334_1
            have hw334_0 := hx334_0
            obtain rfl : ad329 = ad334 := (by injection e334)
            replace hx334_0 := kC HB hx334_0
            replace hx334_1 := kC HB hx334_1
            replace hx334_2 := kC HB hx334_2
            replace hx334_3 := kC HB hx334_3
            replace hx334_4 := kC HB hx334_4
            replace p334 := eq_true p334
            replace q334 := eq_true q334
            refine start_ (n := 15) (S := fun w' => w'.cell? ⟨gb322, 0, none⟩ = some (.string a0_0) ∧ w'.cell? ⟨gb322, 1, none⟩ = some (.int .i64 a0_1) ∧ w'.cell? ⟨gb322, 2, none⟩ = some (.int .i64 a0_2) ∧ w'.cell? ⟨gb322, 3, none⟩ = some (.int .i64 a0_3) ∧ w'.cell? ⟨gb324, 0, none⟩ = some (.int .i64 a3_0) ∧ w'.cell? ⟨gb324, 1, none⟩ = some (.int .i64 a3_1) ∧ w'.cell? (ad329.add ((x10_2).toNat * 5)) = some (.int .i64 ((rd_T53 l1 x10_2).f0.f0)) ∧ w'.cell? ⟨(ad329.add ((x10_2).toNat * 5)).block, (ad329.add ((x10_2).toNat * 5)).off + 1, none⟩ = some (.int .i64 ((rd_T53 l1 x10_2).f0.f1)) ∧ w'.cell? ⟨(ad329.add ((x10_2).toNat * 5)).block, (ad329.add ((x10_2).toNat * 5)).off + 2, none⟩ = some (.int .i64 ((rd_T53 l1 x10_2).f0.f2)) ∧ w'.cell? ⟨(ad329.add ((x10_2).toNat * 5)).block, (ad329.add ((x10_2).toNat * 5)).off + 3, none⟩ = some (.int .i64 ((rd_T53 l1 x10_2).f1.f0)) ∧ w'.cell? ⟨(ad329.add ((x10_2).toNat * 5)).block, (ad329.add ((x10_2).toNat * 5)).off + 4, none⟩ = some (.int .i64 ((rd_T53 l1 x10_2).f1.f1))) (ds := []) #[F,F,F,F,F,F,F,F,F,F,F,F,F,F,F] (by kernel_rfl) rfl rfl ⟨bC BK322 0 rfl, bC BK322 1 rfl, bC BK322 2 rfl, bC BK322 3 rfl, bC BK324 0 rfl, bC BK324 1 rfl, (kC HB hw334_0), (kC HB hw334_1), (kC HB hw334_2), (kC HB hw334_3), (kC HB hw334_4)⟩ (fun hHeld => ?_); refine with_tabW clusterlocksref10_Against.tab8 clusterlocksref10_Against.bits8 (fun HT_ HW_ => ?_)
            generalize w70.drew = w71 at HO_9 BK322 BK323 BK324 HB hx334_0 hx334_1 hx334_2 hx334_3 hx334_4 hHeld ⊢
            refine pu HT_ 0 46 #[T,F,F,F,F,F,F,F,F,F,F,F,F,F,F] rfl rfl (by kernel_rfl) (fun _ _ _ => id) (.inl ⟨by rfl, by intro w'; go_simp; with_reducible rfl⟩) (by simp only [sP]; rfl) ?_
            refine tk HT_ HW_ 1 47 #[T,T,F,F,F,F,F,F,F,F,F,F,F,F,F] rfl rfl (by kernel_rfl) (fun _ _ _ => id) (.inl ⟨by rfl, by rintro w' ⟨s0, s1, s2, s3, s4, s5, s6, s7, s8, s9, s10⟩; go_simp; with_reducible rfl⟩) hHeld (by simp only [sP]; rfl) ?_
            refine pu HT_ 2 48 #[T,T,T,F,F,F,F,F,F,F,F,F,F,F,F] rfl rfl (by kernel_rfl) (fun _ _ _ => id) (.inl ⟨by rfl, by intro w'; go_simp; with_reducible rfl⟩) (by simp only [sP]; rfl) ?_
            refine pu HT_ 3 49 #[T,T,T,T,F,F,F,F,F,F,F,F,F,F,F] rfl rfl (by kernel_rfl) (fun _ _ _ => id) (.inl ⟨by rfl, by intro w'; go_simp; with_reducible rfl⟩) (by simp only [sP]; rfl) ?_
            refine pu HT_ 5 51 #[T,T,T,T,F,T,F,F,F,F,F,F,F,F,F] rfl rfl (by kernel_rfl) (fun _ _ _ => id) (.inl ⟨by rfl, by intro w'; go_simp; with_reducible rfl⟩) (by simp only [sP]; rfl) ?_
            refine pu HT_ 6 52 #[T,T,T,T,F,T,T,F,F,F,F,F,F,F,F] rfl rfl (by kernel_rfl) (fun _ _ _ => id) (.inl ⟨by rfl, by intro w'; go_simp; with_reducible rfl⟩) (by simp only [sP]; rfl) ?_
            refine pu HT_ 7 53 #[T,T,T,T,F,T,T,T,F,F,F,F,F,F,F] rfl rfl (by kernel_rfl) (fun _ _ _ => id) (.inl ⟨by rfl, by intro w'; go_simp; with_reducible rfl⟩) (by simp only [sP]; rfl) ?_
            refine pu HT_ 8 54 #[T,T,T,T,F,T,T,T,T,F,F,F,F,F,F] rfl rfl (by kernel_rfl) (fun _ _ _ => id) (.inl ⟨by rfl, by intro w'; go_simp; with_reducible rfl⟩) (by simp only [sP]; rfl) ?_
            refine tk HT_ HW_ 4 50 #[T,T,T,T,T,T,T,T,T,F,F,F,F,F,F] rfl rfl (by kernel_rfl) (fun _ _ _ => id) (.inl ⟨by rfl, by rintro w' ⟨s0, s1, s2, s3, s4, s5, s6, s7, s8, s9, s10⟩; go_simp; with_reducible rfl⟩) hHeld (by simp only [sP]; rfl) ?_
            refine tk HT_ HW_ 9 55 #[T,T,T,T,T,T,T,T,T,T,F,F,F,F,F] rfl rfl (by kernel_rfl) (fun _ _ _ => id) (.inl ⟨by rfl, by rintro w' ⟨s0, s1, s2, s3, s4, s5, s6, s7, s8, s9, s10⟩; go_simp; with_reducible rfl⟩) hHeld (by simp only [sP]; rfl) ?_
            refine tk HT_ HW_ 10 56 #[T,T,T,T,T,T,T,T,T,T,T,F,F,F,F] rfl rfl (by kernel_rfl) (fun _ _ _ => id) (.inl ⟨by rfl, by rintro w' ⟨s0, s1, s2, s3, s4, s5, s6, s7, s8, s9, s10⟩; go_simp; with_reducible rfl⟩) hHeld (by simp only [sP]; rfl) ?_
            refine one_ (i := 11) (N := some 57) #[T,T,T,T,T,T,T,T,T,T,T,T,F,F,F] rfl rfl (one_of HT_.out (by kernel_rfl)) (by decide) (fun K hK => ?_)
            refine Kd.R_lit_step k26 _ 26 ?hg (N := 57) ?hd (xs := ([(⟨(rd_T53 l1 x10_2).f1.f0, (rd_T53 l1 x10_2).f1.f1⟩ : S26), (⟨a3_0, a3_1⟩ : S26)] : List (S26))) (inner := [.int .i64 ((rd_T53 l1 x10_2).f1.f0), .int .i64 ((rd_T53 l1 x10_2).f1.f1), .int .i64 a3_0, .int .i64 a3_1]) (ok := fun _ => True) (okp := fun _ => True) ?hr ?hp (fun _ hk => hk) trivial (Below.refl _ _) (Nat.le_refl _) (by simp) ?_; (case hd => rfl); (case hg => rfl); (case hr => first | (go_simp; done) | (go_simp; rfl)); (case hp => exact (Reps.c2 (show Kd.M k26 _ _ _ (⟨(rd_T53 l1 x10_2).f1.f0, (rd_T53 l1 x10_2).f1.f1⟩ : S26) [.int .i64 ((rd_T53 l1 x10_2).f1.f0), .int .i64 ((rd_T53 l1 x10_2).f1.f1)] from (k26_mkM _ _ _ (⟨(rd_T53 l1 x10_2).f1.f0, (rd_T53 l1 x10_2).f1.f1⟩ : S26) )) (Reps.c2 (show Kd.M k26 _ _ _ (⟨a3_0, a3_1⟩ : S26) [.int .i64 a3_0, .int .i64 a3_1] from (k26_mkM _ _ _ (⟨a3_0, a3_1⟩ : S26) )) (Reps.none _ _))))
            intro v336 w72 ho73 hb hg_ hnew_
            clear hg_ hnew_
            (first | rw [← Ny335.out] at ho73 | (simp only [Int.reduceToNat] at ho73; rw [← Ny335.out] at ho73))
            replace HO_9 := Aside0.mk (Kd.R_below (by (with_reducible repeat (first | apply Kd.R_alloc | apply Kd.R_drewN | apply Kd.R_drew)); exact HO_9.out) hb)
            have HO337 := Aside0.mk (Kd.R_lower (Kd.R_newB ho73 (g := gb324) (o := .cells #[.int .i64 a3_0, .int .i64 a3_1] 26 (0, 0)) (uK BK324)) (below_size (uB HB)))
            replace BK322 := bK BK322 hb
            replace BK323 := bK BK323 hb
            replace BK324 := bK BK324 hb
            replace HB := bB HB hb
            clear hb ho73
            obtain ⟨Ao74, co74, eo74⟩ := Kd.R_slice HO337.out
            (first | subst eo74 | (injection eo74 with f1_ f2_ f3_; have f4_ := f1_.symm; have f5_ := f3_.symm; clear f1_ f2_ f3_; subst f4_; subst f5_))
            refine hK.out _ _ ⟨bC BK322 0 rfl, bC BK322 1 rfl, bC BK322 2 rfl, bC BK322 3 rfl, bC BK324 0 rfl, bC BK324 1 rfl, (kC HB hw334_0), (kC HB hw334_1), (kC HB hw334_2), (kC HB hw334_3), (kC HB hw334_4)⟩ (fun hHeld => ?_)
            clear hK K
            refine norm_ (a' := ?_) ?_ ?_
            rotate_left
            ·show Act.put _ (some 57) _ = _
             simp only [sP]
             rfl
            refine one_ (i := 12) (N := some 58) #[T,T,T,T,T,T,T,T,T,T,T,T,T,F,F] rfl rfl (one_of HT_.out (by kernel_rfl)) (by decide) (fun K hK => ?_)
            refine goes_ Tryd.func39 (by kernel_rfl) rfl #[.agg #[.string a0_0, .int .i64 a0_1, .int .i64 a0_2, .int .i64 a0_3], .slice Ao74 y335.length co74] (by rfl) rfl rfl (by (try simp only [mA]); first | done | rfl) ?_
            with_reducible refine (clusterlocksref04_Compatible.calls k2 a0_0 a0_1 a0_2 a0_3 _ _ y335 false _ ?side1 ?side2 A61.out).mono ?_
            (case side1 => repeat (first | exact (Kd.R_reads' HO337.out).2.2 | (with_reducible refine Kd.C_alloc ?_ _) | (with_reducible refine Kd.C_drewN ?_ _) | (with_reducible refine Kd.C_drew ?_)))
            (case side2 => exact (Kd.R_reads' HO337.out).2.1)
            rintro e w75 ⟨rfl, hb⟩
            refine ⟨_, rfl, ?_⟩
            replace HO_9 := Aside0.mk (Kd.R_below (by (with_reducible repeat (first | apply Kd.R_alloc | apply Kd.R_drewN | apply Kd.R_drew)); exact HO_9.out) hb)
            replace HO337 := Aside0.mk (Kd.R_below (by (with_reducible repeat (first | apply Kd.R_alloc | apply Kd.R_drewN | apply Kd.R_drew)); exact HO337.out) hb)
            replace BK322 := bK BK322 hb
            replace BK323 := bK BK323 hb
            replace BK324 := bK BK324 hb
            replace HB := bB HB hb
            (try clear hb)
            (try clear hk)
            refine hK.out _ _ ⟨bC BK322 0 rfl, bC BK322 1 rfl, bC BK322 2 rfl, bC BK322 3 rfl, bC BK324 0 rfl, bC BK324 1 rfl, (kC HB hw334_0), (kC HB hw334_1), (kC HB hw334_2), (kC HB hw334_3), (kC HB hw334_4)⟩ (fun hHeld => ?_)
            clear hK K
            refine norm_ (a' := ?_) ?_ ?_
            rotate_left
            ·show Act.put _ (some 58) _ = _
             simp only [sP]
             rfl
            refine pu HT_ 13 59 #[T,T,T,T,T,T,T,T,T,T,T,T,T,T,F] rfl rfl (by kernel_rfl) (fun _ _ _ => id) (.inl ⟨by rfl, by intro w'; go_simp; with_reducible rfl⟩) (by simp only [sP]; rfl) ?_
            refine pu HT_ 14 60 #[T,T,T,T,T,T,T,T,T,T,T,T,T,T,T] rfl rfl (by kernel_rfl) (fun _ _ _ => id) (.inl ⟨by rfl, by intro w'; go_simp; with_reducible rfl⟩) (by simp only [sP]; rfl) ?_
            refine done_ (done_of HT_.out (by kernel_rfl)) ?_
            have p339 : 0 ≤ (x10_2 : Int) := of_decide_eq_true (by first | (with_reducible assumption) | assumption)
            have q339 : x10_2 < (l1.length : Int) := of_decide_eq_true (by first | (with_reducible assumption) | assumption)
            obtain ⟨ad339, e339, hx339_0, hx339_1, hx339_2, hx339_3, hx339_4⟩ := at_T53 HR1.out x10_2 p339 q339
            obtain rfl : ad329 = ad339 := (by injection e339)
            replace hx339_0 := kC HB hx339_0
            replace hx339_1 := kC HB hx339_1
            replace hx339_2 := kC HB hx339_2
            replace hx339_3 := kC HB hx339_3
            replace hx339_4 := kC HB hx339_4
            replace p339 := eq_true p339
            replace q339 := eq_true q339
            try go_wp2_with (first | ((with_reducible refine gate_builtin (b := .append) (xs := #[.tmp 61, .tmp 67]) rfl ?_); (try (refine gate_guard (by rfl) ?_; dsimp only)); at_builtin; refine Kd.R_append k24 (w0 := w) w.heap.size rfl (.tmp 61) (.tmp 67) 35 24 (.agg #[(.int .i64 0), (.int .i64 0), (.int .i64 0)]) 24 rfl Tryd.underlying35 info24 rfl (by decide) (by omega) u9 x9_2 (⟨(rd_T53 l1 x10_2).f0.f0, (rd_T53 l1 x10_2).f0.f1, (rd_T53 l1 x10_2).f0.f2⟩ : S24) [.int .i64 ((rd_T53 l1 x10_2).f0.f0), .int .i64 ((rd_T53 l1 x10_2).f0.f1), .int .i64 ((rd_T53 l1 x10_2).f0.f2)] (fun k_ => k_ ≠ gb323) (fun _ => False) rfl rfl ?aP (fun _ hk => hk.elim) ?aF ?aO ?aB ?aS ?aL ?_; (case aP => exact k24_mkM _ _ _ (⟨(rd_T53 l1 x10_2).f0.f0, (rd_T53 l1 x10_2).f0.f1, (rd_T53 l1 x10_2).f0.f2⟩ : S24)); (case aB => exact (uB HB)); (case aF => exact (fun k_ hk => Kd.freshB (g := gb323) (o := .cells #[.int .i64 a2_0, .int .i64 a2_1, .int .i64 a2_2] 24 (0, 0)) (uK BK323) k_ hk)); (case aO => exact (by (with_reducible repeat (first | apply Kd.R_alloc | apply Kd.R_drewN | apply Kd.R_drew)); exact HO_9.out)); (case aS => exact (below_size (uB HB))); (case aL => have := LMc69.out; omega); intro v341 w76 ho hb hg hat; rw [← Ny340.out] at ho; replace BK322 := Aside0.mk (blk_grown (g := gb322) (o := .cells #[.string a0_0, .int .i64 a0_1, .int .i64 a0_2, .int .i64 a0_3] 32 (0, 0)) (uK BK322) hg (Kd.R_ne HO_9.out BK322.out (by decide))); replace BK323 := Aside0.mk (blk_grown (g := gb323) (o := .cells #[.int .i64 a2_0, .int .i64 a2_1, .int .i64 a2_2] 24 (0, 0)) (uK BK323) hg (Kd.R_away HO_9.out (fun _ hk => hk))); replace BK324 := Aside0.mk (blk_grown (g := gb324) (o := .cells #[.int .i64 a3_0, .int .i64 a3_1] 26 (0, 0)) (uK BK324) hg (Kd.R_ne HO_9.out BK324.out (by decide))); replace HO337 := Aside0.mk (Kd.R_over' (by (with_reducible repeat (first | apply Kd.R_alloc | apply Kd.R_drewN | apply Kd.R_drew)); exact HO337.out) (Kd.R_typed (by (with_reducible repeat (first | apply Kd.R_alloc | apply Kd.R_drewN | apply Kd.R_drew)); exact HO_9.out)) (by decide) hg); replace HB := Aside0.mk (hb); have HO342 := Aside0.mk (ho); clear HO_9; clear ho hb hg hat))
            go_roundg k2
            case measure => have := HJ4.out; have := HK2.out; omega
            case rel => exact ⟨(y340), (wrap64 (x10_2 + 1)), (by first | rfl | (simp; done) | (simp [*]; done)), H', ⟨by have := HJ4.out; have := HK2.out; omega⟩, ⟨by (with_reducible repeat (first | apply Kd.R_alloc | apply Kd.R_drewN | apply Kd.R_drew)); exact HO342.out⟩, ⟨by (with_reducible repeat first | refine bN ?_ _ | refine bD ?_ | refine bA ?_ _); exact BK322.out⟩, ⟨by (with_reducible repeat first | refine bN ?_ _ | refine bD ?_ | refine bA ?_ _); exact BK323.out⟩, ⟨by (with_reducible repeat first | refine bN ?_ _ | refine bD ?_ | refine bA ?_ _); exact BK324.out⟩, ⟨by repeat (first | (with_reducible first | exact HB.out | apply bL | apply bM | apply bR) | exact HB.out)⟩⟩
           ·rw [if_neg c69] at H
            exact absurd H (by simp)
       ·rw [if_neg c53] at H
        exact absurd H (by simp)
      ·rw [if_neg c52] at H
       have c52b0 : decide (x10_2 < (l1.length : Int)) = false := decide_eq_false c52
       clear c52
       obtain rfl := Option.some.inj H
       go_wp2
       go_ret
       exact ⟨_, by first | rfl | (simp [errW_none, errW_some] <;> rfl) | (simp [*, errW_none, errW_some] <;> rfl), by (with_reducible repeat (first | apply Kd.R_alloc | apply Kd.R_drewN | apply Kd.R_drew)); exact Kd.R_mono HO_9.out (fun _ hk => trivial), by repeat (first | (with_reducible first | exact HB.out | apply bL | apply bM | apply bR) | exact HB.out)⟩
end Go.Proofs.YtnmemkphfgdplaaDoor.PA
