-- Printed by wip/tool/myprint.py for this claim; Lean checks it.
import Derived.Test.YtbiapfjhdggkpaaDoorPAx0
import Derived.Test.YtbiapfjhdggkpaaDoorPAx1
import Derived.Test.YtbiapfjhdggkpaaDoorPAx4
import Derived.Test.YtbiapfjhdggkpaaDoorPAx5
import Derived.Test.YtbiapfjhdggkpaaDoorPAx6
import Derived.Test.YtbiapfjhdggkpaaDoorSlim
namespace Go.Proofs.YtbiapfjhdggkpaaDoor.PA
open Go.RowKit Go.Proofs.YtbiapfjhdggkpaaDoorW.PrintWords Go.Proofs.YtbiapfjhdggkpaaDoorW.PrintLast Go.Proofs.YtbiapfjhdggkpaaDoorW.PrintMore
attribute [local go_sem] max2_int min2_int max_two min_two max_three min_three max_four min_four   -- for this text's walks alone
set_option linter.unusedVariables false
set_option linter.unusedSimpArgs false

attribute [local go_sem high] eqA26
/-! ### clusterlocksref05_Insert: function 23 -/
def clusterlocksref05_Insert.l0 : Nat → List (S26) → List (S26) → Bool → Int → ByteArray → Int → Int → Int → Option ((List (S26)) × Int)
 | 0, _, _, _, _, _, _, _, _ => none
 | k + 1, x0, x8, x9, x10, x144000, x144001, x144002, x144003 => if x10 < (x0.length : Int) then (if x9 = true then (if 0 ≤ x10 then (if x8.length < 3518437208883 then (clusterlocksref05_Insert.l0 k x0 (x8 ++ [(⟨(rd_T26 x0 x10).f0, (rd_T26 x0 x10).f1, (rd_T26 x0 x10).f2, (rd_T26 x0 x10).f3⟩ : S26)]) x9 (wrap64 (x10 + 1)) x144000 x144001 x144002 x144003) else (none)) else (none)) else (if 0 ≤ x10 then (if (Op.bytesLess x144000.toList (((rd_T26 x0 x10).f0).toList)) = true then (if x8.length < 3518437208883 then ((some (x8 ++ [(⟨x144000, x144001, x144002, x144003⟩ : S26)] : List (S26))).bind fun y158 => (if y158.length < 3518437208883 then (clusterlocksref05_Insert.l0 k x0 (y158 ++ [(⟨(rd_T26 x0 x10).f0, (rd_T26 x0 x10).f1, (rd_T26 x0 x10).f2, (rd_T26 x0 x10).f3⟩ : S26)]) true (wrap64 (x10 + 1)) x144000 x144001 x144002 x144003) else (none))) else (none)) else (if x8.length < 3518437208883 then (clusterlocksref05_Insert.l0 k x0 (x8 ++ [(⟨(rd_T26 x0 x10).f0, (rd_T26 x0 x10).f1, (rd_T26 x0 x10).f2, (rd_T26 x0 x10).f3⟩ : S26)]) x9 (wrap64 (x10 + 1)) x144000 x144001 x144002 x144003) else (none))) else (none))) else (if x9 = true then (some (x8, 0)) else (if x8.length < 3518437208883 then (some ((x8 ++ [(⟨x144000, x144001, x144002, x144003⟩ : S26)]), 0)) else (none)))
def clusterlocksref05_Insert.f (k : Nat) (l0 : List (S26)) (a1_0 : ByteArray) (a1_1 : Int) (a1_2 : Int) (a1_3 : Int) : Option ((List (S26)) × Int) := (clusterlocksref05_Valid.f k l0).bind fun t144 => (if t144 = true then ((clusterlocksref05_ValidName.f k a1_0).bind fun t145 => (if t145 = true then ((clusterlocksref05_ValidResource.f k a1_0 a1_1 a1_2 a1_3).bind fun t146 => (if t146 = true then ((clusterlocksref05_Find.f k l0 a1_0).bind fun bt147 => (if bt147.2.2.2.2 = true then (some (([] : List (S26)), 11)) else (if (l0.length : Int) = 8 then (some (([] : List (S26)), 4)) else (clusterlocksref05_Insert.l0 k l0 ([] : List (S26)) false 0 a1_0 a1_1 a1_2 a1_3)))) else (some (([] : List (S26)), 1)))) else (some (([] : List (S26)), 9)))) else (some (([] : List (S26)), 2)))
theorem clusterlocksref05_Insert.mono_l : ∀ k, (∀ y0 y1 y2 y3 y4 y5 y6 y7, LeO (clusterlocksref05_Insert.l0 k y0 y1 y2 y3 y4 y5 y6 y7) (clusterlocksref05_Insert.l0 (k + 1) y0 y1 y2 y3 y4 y5 y6 y7))
 | 0 => fun _ _ _ _ _ _ _ _ r h => by simp [clusterlocksref05_Insert.l0] at h
 | k + 1 => by
  have ih0 := clusterlocksref05_Insert.mono_l k
  ·intro y0 y1 y2 y3 y4 y5 y6 y7
   unfold clusterlocksref05_Insert.l0
   repeat' first
   | (with_reducible exact ih0 _ _ _ _ _ _ _ _)
   | (with_reducible exact clusterlocksref05_Find.mono _ _ _)
   | (with_reducible exact clusterlocksref05_Valid.mono _ _)
   | (with_reducible exact clusterlocksref05_ValidName.mono _ _)
   | (with_reducible exact clusterlocksref05_ValidResource.mono _ _ _ _ _)
   | (with_reducible exact LeO.refl _)
   | (with_reducible exact LeO.none _)
   | (with_reducible refine LeO.ite ?_ ?_)
   | (with_reducible refine LeO.bind ?_ (fun _ => ?_))
   | exact ih0 _ _ _ _ _ _ _ _
   | exact clusterlocksref05_Find.mono _ _ _
   | exact clusterlocksref05_Valid.mono _ _
   | exact clusterlocksref05_ValidName.mono _ _
   | exact clusterlocksref05_ValidResource.mono _ _ _ _ _
   | exact LeO.none _
   | refine LeO.ite ?_ ?_
   | refine LeO.bind ?_ (fun _ => ?_)
theorem clusterlocksref05_Insert.mono : ∀ a0 a1 a2 a3 a4 k, LeO (clusterlocksref05_Insert.f k a0 a1 a2 a3 a4) (clusterlocksref05_Insert.f (k + 1) a0 a1 a2 a3 a4) := by
 intro a0 a1 a2 a3 a4 k
 have ih0 := clusterlocksref05_Insert.mono_l k
 unfold clusterlocksref05_Insert.f
 repeat' first
   | (with_reducible exact ih0 _ _ _ _ _ _ _ _)
   | (with_reducible exact clusterlocksref05_Find.mono _ _ _)
   | (with_reducible exact clusterlocksref05_Valid.mono _ _)
   | (with_reducible exact clusterlocksref05_ValidName.mono _ _)
   | (with_reducible exact clusterlocksref05_ValidResource.mono _ _ _ _ _)
   | (with_reducible exact LeO.refl _)
   | (with_reducible exact LeO.none _)
   | (with_reducible refine LeO.ite ?_ ?_)
   | (with_reducible refine LeO.bind ?_ (fun _ => ?_))
   | exact ih0 _ _ _ _ _ _ _ _
   | exact clusterlocksref05_Find.mono _ _ _
   | exact clusterlocksref05_Valid.mono _ _
   | exact clusterlocksref05_ValidName.mono _ _
   | exact clusterlocksref05_ValidResource.mono _ _ _ _ _
   | exact LeO.none _
   | refine LeO.ite ?_ ?_
   | refine LeO.bind ?_ (fun _ => ?_)
set_option maxHeartbeats 8000000 in
set_option maxRecDepth 100000 in
theorem clusterlocksref05_Insert.calls (k : Nat) (A0 : Option Addr) (c0 : Nat) (l0 : List (S26)) (a1_0 : ByteArray) (a1_1 : Int) (a1_2 : Int) (a1_3 : Int) (r1 : List (S26)) (r2 : Int) (w : World) (hr0 : Kd.C k26 w A0 l0.length l0) (hc0 : l0.length ≤ c0) (h : clusterlocksref05_Insert.f k l0 a1_0 a1_1 a1_2 a1_3 = some (r1, r2)) :
  Calls Tryd.prog 23 #[.slice A0 l0.length c0, .agg #[.string a1_0, .int .i64 a1_1, .int .i64 a1_2, .int .i64 a1_3]] w fun e w' => ∃ v0_ : Value, e = .returned (.tuple #[v0_, .int .i64 r2]) ∧ Kd.R k26 26 w' w.heap.size (fun _ => True) v0_ r1 ∧ Below w.heap.size w w' := by
 have hu26 := Tryd.underlying26
 have HR0 := Aside0.mk hr0
 have HC0 := Aside0.mk hc0
 clear hr0 hc0
 have HB := Aside0.mk (Below.refl w.heap.size w)
 have H : ((clusterlocksref05_Valid.f k l0).bind fun t144 => (if t144 = true then ((clusterlocksref05_ValidName.f k a1_0).bind fun t145 => (if t145 = true then ((clusterlocksref05_ValidResource.f k a1_0 a1_1 a1_2 a1_3).bind fun t146 => (if t146 = true then ((clusterlocksref05_Find.f k l0 a1_0).bind fun bt147 => (if bt147.2.2.2.2 = true then (some (([] : List (S26)), 11)) else (if (l0.length : Int) = 8 then (some (([] : List (S26)), 4)) else (clusterlocksref05_Insert.l0 k l0 ([] : List (S26)) false 0 a1_0 a1_1 a1_2 a1_3)))) else (some (([] : List (S26)), 1)))) else (some (([] : List (S26)), 9)))) else (some (([] : List (S26)), 2)))) = some (r1, r2) := h
 clear h
 obtain ⟨t144, A30, H⟩ := Option.bind_eq_some_iff.mp H
 have A3 := Aside0.mk A30; clear A30
 by_cases c4 : t144 = true
 ·subst c4
  have H1 : ((clusterlocksref05_ValidName.f k a1_0).bind fun t145 => (if t145 = true then ((clusterlocksref05_ValidResource.f k a1_0 a1_1 a1_2 a1_3).bind fun t146 => (if t146 = true then ((clusterlocksref05_Find.f k l0 a1_0).bind fun bt147 => (if bt147.2.2.2.2 = true then (some (([] : List (S26)), 11)) else (if (l0.length : Int) = 8 then (some (([] : List (S26)), 4)) else (clusterlocksref05_Insert.l0 k l0 ([] : List (S26)) false 0 a1_0 a1_1 a1_2 a1_3)))) else (some (([] : List (S26)), 1)))) else (some (([] : List (S26)), 9)))) = some (r1, r2) := by rw [if_pos rfl] at H; exact H
  clear H
  have H := H1
  clear H1
  obtain ⟨t145, A50, H⟩ := Option.bind_eq_some_iff.mp H
  have A5 := Aside0.mk A50; clear A50
  by_cases c6 : t145 = true
  ·subst c6
   have H1 : ((clusterlocksref05_ValidResource.f k a1_0 a1_1 a1_2 a1_3).bind fun t146 => (if t146 = true then ((clusterlocksref05_Find.f k l0 a1_0).bind fun bt147 => (if bt147.2.2.2.2 = true then (some (([] : List (S26)), 11)) else (if (l0.length : Int) = 8 then (some (([] : List (S26)), 4)) else (clusterlocksref05_Insert.l0 k l0 ([] : List (S26)) false 0 a1_0 a1_1 a1_2 a1_3)))) else (some (([] : List (S26)), 1)))) = some (r1, r2) := by rw [if_pos rfl] at H; exact H
   clear H
   have H := H1
   clear H1
   obtain ⟨t146, A70, H⟩ := Option.bind_eq_some_iff.mp H
   have A7 := Aside0.mk A70; clear A70
   by_cases c8 : t146 = true
   ·subst c8
    have H1 : ((clusterlocksref05_Find.f k l0 a1_0).bind fun bt147 => (if bt147.2.2.2.2 = true then (some (([] : List (S26)), 11)) else (if (l0.length : Int) = 8 then (some (([] : List (S26)), 4)) else (clusterlocksref05_Insert.l0 k l0 ([] : List (S26)) false 0 a1_0 a1_1 a1_2 a1_3)))) = some (r1, r2) := by rw [if_pos rfl] at H; exact H
    clear H
    have H := H1
    clear H1
    replace H := Option.bind_eq_some_iff.mp H
    obtain ⟨⟨t147, t148, t149, t150, t151⟩, A90, H⟩ := H
    replace H : (if t151 = true then (some (([] : List (S26)), 11)) else (if (l0.length : Int) = 8 then (some (([] : List (S26)), 4)) else (clusterlocksref05_Insert.l0 k l0 ([] : List (S26)) false 0 a1_0 a1_1 a1_2 a1_3))) = some (r1, r2) := H
    have A9 := Aside0.mk A90; clear A90
    by_cases c10 : t151 = true
    ·subst c10
     have H1 : (some (([] : List (S26)), 11)) = some (r1, r2) := by rw [if_pos rfl] at H; exact H
     clear H
     have H := H1
     clear H1
     simp only [Option.some.injEq, Prod.mk.injEq] at H
     obtain ⟨rfl, rfl⟩ := H
     go_enter Tryd.func23, Tryd.ntmps23
     go_wp2_with (first | ((with_reducible refine gate_dst (N := 3) rfl ?_); refine box_event ?hg (N := 3) ?hd (cs := #[.string a1_0, .int .i64 a1_1, .int .i64 a1_2, .int .i64 a1_3]) (t := 26) ?hr ?_; (case hd => rfl); (case hg => rfl); (case hr => first | (go_simp; done) | (go_simp; rfl)); intro gb143 hg w11 hbox hb; have BK143 := Aside0.mk hbox; have GW143 := gE HB hg; replace HB := bB HB hb; have GE143 := GW143; clear hb hbox hg) | (go_at_call 21; (with_reducible refine (clusterlocksref05_Valid.calls k _ _ l0 true _ ?side1 ?side2 A3.out).mono ?_); (case side1 => repeat (first | exact (Kd.C_below HR0.out HB.out) | (with_reducible refine Kd.C_alloc ?_ _) | (with_reducible refine Kd.C_drewN ?_ _) | (with_reducible refine Kd.C_drew ?_))); (case side2 => exact HC0.out); rintro e w12 ⟨rfl, hb⟩; replace BK143 := bK BK143 hb; replace HB := bB HB hb; (try clear hb); (try clear hk); have hcz13_0 : w12.cell? ⟨gb143, 0, none⟩ = some (.string a1_0) := bC BK143 0 rfl; have hcz13_1 : w12.cell? ⟨gb143, 1, none⟩ = some (.int .i64 a1_1) := bC BK143 1 rfl; have hcz13_2 : w12.cell? ⟨gb143, 2, none⟩ = some (.int .i64 a1_2) := bC BK143 2 rfl; have hcz13_3 : w12.cell? ⟨gb143, 3, none⟩ = some (.int .i64 a1_3) := bC BK143 3 rfl; have hfz13_0 := bF BK143 0; have hfz13_1 := bF BK143 1; have hfz13_2 := bF BK143 2; have hfz13_3 := bF BK143 3) | (go_at_call 17; (with_reducible refine (clusterlocksref05_ValidName.calls k a1_0 true _ A5.out).mono ?_); rintro e w' ⟨rfl, ⟨nd, rfl⟩⟩; (try first | exact ⟨rfl, _, World.drewN_drewN _ _ _⟩ | exact ⟨rfl, _, Eq.trans (World.drewN_drewN _ _ _) (congrArg (World.drewN _) (Nat.add_assoc _ _ _))⟩)) | (go_at_call 19; (with_reducible refine (clusterlocksref05_ValidResource.calls k a1_0 a1_1 a1_2 a1_3 true _ A7.out).mono ?_); rintro e w14 ⟨rfl, hb⟩; replace BK143 := bK BK143 hb; replace HB := bB HB hb; (try clear hb); (try clear hk); have hcz15_0 : w14.cell? ⟨gb143, 0, none⟩ = some (.string a1_0) := bC BK143 0 rfl; have hcz15_1 : w14.cell? ⟨gb143, 1, none⟩ = some (.int .i64 a1_1) := bC BK143 1 rfl; have hcz15_2 : w14.cell? ⟨gb143, 2, none⟩ = some (.int .i64 a1_2) := bC BK143 2 rfl; have hcz15_3 : w14.cell? ⟨gb143, 3, none⟩ = some (.int .i64 a1_3) := bC BK143 3 rfl; have hfz15_0 := bF BK143 0; have hfz15_1 := bF BK143 1; have hfz15_2 := bF BK143 2; have hfz15_3 := bF BK143 3) | (go_at_call 29; (with_reducible refine (clusterlocksref05_Find.calls k _ _ l0 a1_0 t147 t148 t149 t150 true _ ?side1 ?side2 A9.out).mono ?_); (case side1 => repeat (first | exact (Kd.C_below HR0.out HB.out) | (with_reducible refine Kd.C_alloc ?_ _) | (with_reducible refine Kd.C_drewN ?_ _) | (with_reducible refine Kd.C_drew ?_))); (case side2 => exact HC0.out); rintro e w16 ⟨rfl, hb⟩; replace BK143 := bK BK143 hb; replace HB := bB HB hb; (try clear hb); (try clear hk)) | ((with_reducible refine gate_dst (N := 6) rfl ?_); refine box_event ?hg (N := 6) ?hd (cs := #[.string (⟨#[]⟩ : ByteArray), .int .i64 0, .int .i64 0, .int .i64 0]) (t := 26) ?hr ?_; (case hd => rfl); (case hg => rfl); (case hr => first | (go_simp; done) | (go_simp; rfl)); intro gb152 hg w17 hbox hb; have BK152 := Aside0.mk hbox; have GW152 := gE HB hg; replace HB := bB HB hb; have GE152 := GW152; have NB143_152 := gN BK143 hg; replace BK143 := bK BK143 hb; have NB152_143 := Aside0.mk NB143_152.out.symm; clear hb hbox hg; have hnb18 := NB152_143.out; have hnc18 := NB143_152.out; have hcz19_0 : w17.cell? ⟨gb152, 0, none⟩ = some (.string (⟨#[]⟩ : ByteArray)) := bC BK152 0 rfl; have hcz19_1 : w17.cell? ⟨gb152, 1, none⟩ = some (.int .i64 0) := bC BK152 1 rfl; have hcz19_2 : w17.cell? ⟨gb152, 2, none⟩ = some (.int .i64 0) := bC BK152 2 rfl; have hcz19_3 : w17.cell? ⟨gb152, 3, none⟩ = some (.int .i64 0) := bC BK152 3 rfl; have hfz19_0 := bF BK152 0; have hfz19_1 := bF BK152 1; have hfz19_2 := bF BK152 2; have hfz19_3 := bF BK152 3))
     repeat (go_quiet (first | ((with_reducible refine gate_dst (N := 3) rfl ?_); refine box_event ?hg (N := 3) ?hd (cs := #[.string a1_0, .int .i64 a1_1, .int .i64 a1_2, .int .i64 a1_3]) (t := 26) ?hr ?_; (case hd => rfl); (case hg => rfl); (case hr => first | (go_simp; done) | (go_simp; rfl)); intro gb143 hg w11 hbox hb; have BK143 := Aside0.mk hbox; have GW143 := gE HB hg; replace HB := bB HB hb; have GE143 := GW143; clear hb hbox hg) | (go_at_call 21; (with_reducible refine (clusterlocksref05_Valid.calls k _ _ l0 true _ ?side1 ?side2 A3.out).mono ?_); (case side1 => repeat (first | exact (Kd.C_below HR0.out HB.out) | (with_reducible refine Kd.C_alloc ?_ _) | (with_reducible refine Kd.C_drewN ?_ _) | (with_reducible refine Kd.C_drew ?_))); (case side2 => exact HC0.out); rintro e w12 ⟨rfl, hb⟩; replace BK143 := bK BK143 hb; replace HB := bB HB hb; (try clear hb); (try clear hk); have hcz13_0 : w12.cell? ⟨gb143, 0, none⟩ = some (.string a1_0) := bC BK143 0 rfl; have hcz13_1 : w12.cell? ⟨gb143, 1, none⟩ = some (.int .i64 a1_1) := bC BK143 1 rfl; have hcz13_2 : w12.cell? ⟨gb143, 2, none⟩ = some (.int .i64 a1_2) := bC BK143 2 rfl; have hcz13_3 : w12.cell? ⟨gb143, 3, none⟩ = some (.int .i64 a1_3) := bC BK143 3 rfl; have hfz13_0 := bF BK143 0; have hfz13_1 := bF BK143 1; have hfz13_2 := bF BK143 2; have hfz13_3 := bF BK143 3) | (go_at_call 17; (with_reducible refine (clusterlocksref05_ValidName.calls k a1_0 true _ A5.out).mono ?_); rintro e w' ⟨rfl, ⟨nd, rfl⟩⟩; (try first | exact ⟨rfl, _, World.drewN_drewN _ _ _⟩ | exact ⟨rfl, _, Eq.trans (World.drewN_drewN _ _ _) (congrArg (World.drewN _) (Nat.add_assoc _ _ _))⟩)) | (go_at_call 19; (with_reducible refine (clusterlocksref05_ValidResource.calls k a1_0 a1_1 a1_2 a1_3 true _ A7.out).mono ?_); rintro e w14 ⟨rfl, hb⟩; replace BK143 := bK BK143 hb; replace HB := bB HB hb; (try clear hb); (try clear hk); have hcz15_0 : w14.cell? ⟨gb143, 0, none⟩ = some (.string a1_0) := bC BK143 0 rfl; have hcz15_1 : w14.cell? ⟨gb143, 1, none⟩ = some (.int .i64 a1_1) := bC BK143 1 rfl; have hcz15_2 : w14.cell? ⟨gb143, 2, none⟩ = some (.int .i64 a1_2) := bC BK143 2 rfl; have hcz15_3 : w14.cell? ⟨gb143, 3, none⟩ = some (.int .i64 a1_3) := bC BK143 3 rfl; have hfz15_0 := bF BK143 0; have hfz15_1 := bF BK143 1; have hfz15_2 := bF BK143 2; have hfz15_3 := bF BK143 3) | (go_at_call 29; (with_reducible refine (clusterlocksref05_Find.calls k _ _ l0 a1_0 t147 t148 t149 t150 true _ ?side1 ?side2 A9.out).mono ?_); (case side1 => repeat (first | exact (Kd.C_below HR0.out HB.out) | (with_reducible refine Kd.C_alloc ?_ _) | (with_reducible refine Kd.C_drewN ?_ _) | (with_reducible refine Kd.C_drew ?_))); (case side2 => exact HC0.out); rintro e w16 ⟨rfl, hb⟩; replace BK143 := bK BK143 hb; replace HB := bB HB hb; (try clear hb); (try clear hk)) | ((with_reducible refine gate_dst (N := 6) rfl ?_); refine box_event ?hg (N := 6) ?hd (cs := #[.string (⟨#[]⟩ : ByteArray), .int .i64 0, .int .i64 0, .int .i64 0]) (t := 26) ?hr ?_; (case hd => rfl); (case hg => rfl); (case hr => first | (go_simp; done) | (go_simp; rfl)); intro gb152 hg w17 hbox hb; have BK152 := Aside0.mk hbox; have GW152 := gE HB hg; replace HB := bB HB hb; have GE152 := GW152; have NB143_152 := gN BK143 hg; replace BK143 := bK BK143 hb; have NB152_143 := Aside0.mk NB143_152.out.symm; clear hb hbox hg; have hnb18 := NB152_143.out; have hnc18 := NB143_152.out; have hcz19_0 : w17.cell? ⟨gb152, 0, none⟩ = some (.string (⟨#[]⟩ : ByteArray)) := bC BK152 0 rfl; have hcz19_1 : w17.cell? ⟨gb152, 1, none⟩ = some (.int .i64 0) := bC BK152 1 rfl; have hcz19_2 : w17.cell? ⟨gb152, 2, none⟩ = some (.int .i64 0) := bC BK152 2 rfl; have hcz19_3 : w17.cell? ⟨gb152, 3, none⟩ = some (.int .i64 0) := bC BK152 3 rfl; have hfz19_0 := bF BK152 0; have hfz19_1 := bF BK152 1; have hfz19_2 := bF BK152 2; have hfz19_3 := bF BK152 3)); try go_wp2_with (first | ((with_reducible refine gate_dst (N := 3) rfl ?_); refine box_event ?hg (N := 3) ?hd (cs := #[.string a1_0, .int .i64 a1_1, .int .i64 a1_2, .int .i64 a1_3]) (t := 26) ?hr ?_; (case hd => rfl); (case hg => rfl); (case hr => first | (go_simp; done) | (go_simp; rfl)); intro gb143 hg w11 hbox hb; have BK143 := Aside0.mk hbox; have GW143 := gE HB hg; replace HB := bB HB hb; have GE143 := GW143; clear hb hbox hg) | (go_at_call 21; (with_reducible refine (clusterlocksref05_Valid.calls k _ _ l0 true _ ?side1 ?side2 A3.out).mono ?_); (case side1 => repeat (first | exact (Kd.C_below HR0.out HB.out) | (with_reducible refine Kd.C_alloc ?_ _) | (with_reducible refine Kd.C_drewN ?_ _) | (with_reducible refine Kd.C_drew ?_))); (case side2 => exact HC0.out); rintro e w12 ⟨rfl, hb⟩; replace BK143 := bK BK143 hb; replace HB := bB HB hb; (try clear hb); (try clear hk); have hcz13_0 : w12.cell? ⟨gb143, 0, none⟩ = some (.string a1_0) := bC BK143 0 rfl; have hcz13_1 : w12.cell? ⟨gb143, 1, none⟩ = some (.int .i64 a1_1) := bC BK143 1 rfl; have hcz13_2 : w12.cell? ⟨gb143, 2, none⟩ = some (.int .i64 a1_2) := bC BK143 2 rfl; have hcz13_3 : w12.cell? ⟨gb143, 3, none⟩ = some (.int .i64 a1_3) := bC BK143 3 rfl; have hfz13_0 := bF BK143 0; have hfz13_1 := bF BK143 1; have hfz13_2 := bF BK143 2; have hfz13_3 := bF BK143 3) | (go_at_call 17; (with_reducible refine (clusterlocksref05_ValidName.calls k a1_0 true _ A5.out).mono ?_); rintro e w' ⟨rfl, ⟨nd, rfl⟩⟩; (try first | exact ⟨rfl, _, World.drewN_drewN _ _ _⟩ | exact ⟨rfl, _, Eq.trans (World.drewN_drewN _ _ _) (congrArg (World.drewN _) (Nat.add_assoc _ _ _))⟩)) | (go_at_call 19; (with_reducible refine (clusterlocksref05_ValidResource.calls k a1_0 a1_1 a1_2 a1_3 true _ A7.out).mono ?_); rintro e w14 ⟨rfl, hb⟩; replace BK143 := bK BK143 hb; replace HB := bB HB hb; (try clear hb); (try clear hk); have hcz15_0 : w14.cell? ⟨gb143, 0, none⟩ = some (.string a1_0) := bC BK143 0 rfl; have hcz15_1 : w14.cell? ⟨gb143, 1, none⟩ = some (.int .i64 a1_1) := bC BK143 1 rfl; have hcz15_2 : w14.cell? ⟨gb143, 2, none⟩ = some (.int .i64 a1_2) := bC BK143 2 rfl; have hcz15_3 : w14.cell? ⟨gb143, 3, none⟩ = some (.int .i64 a1_3) := bC BK143 3 rfl; have hfz15_0 := bF BK143 0; have hfz15_1 := bF BK143 1; have hfz15_2 := bF BK143 2; have hfz15_3 := bF BK143 3) | (go_at_call 29; (with_reducible refine (clusterlocksref05_Find.calls k _ _ l0 a1_0 t147 t148 t149 t150 true _ ?side1 ?side2 A9.out).mono ?_); (case side1 => repeat (first | exact (Kd.C_below HR0.out HB.out) | (with_reducible refine Kd.C_alloc ?_ _) | (with_reducible refine Kd.C_drewN ?_ _) | (with_reducible refine Kd.C_drew ?_))); (case side2 => exact HC0.out); rintro e w16 ⟨rfl, hb⟩; replace BK143 := bK BK143 hb; replace HB := bB HB hb; (try clear hb); (try clear hk)) | ((with_reducible refine gate_dst (N := 6) rfl ?_); refine box_event ?hg (N := 6) ?hd (cs := #[.string (⟨#[]⟩ : ByteArray), .int .i64 0, .int .i64 0, .int .i64 0]) (t := 26) ?hr ?_; (case hd => rfl); (case hg => rfl); (case hr => first | (go_simp; done) | (go_simp; rfl)); intro gb152 hg w17 hbox hb; have BK152 := Aside0.mk hbox; have GW152 := gE HB hg; replace HB := bB HB hb; have GE152 := GW152; have NB143_152 := gN BK143 hg; replace BK143 := bK BK143 hb; have NB152_143 := Aside0.mk NB143_152.out.symm; clear hb hbox hg; have hnb18 := NB152_143.out; have hnc18 := NB143_152.out; have hcz19_0 : w17.cell? ⟨gb152, 0, none⟩ = some (.string (⟨#[]⟩ : ByteArray)) := bC BK152 0 rfl; have hcz19_1 : w17.cell? ⟨gb152, 1, none⟩ = some (.int .i64 0) := bC BK152 1 rfl; have hcz19_2 : w17.cell? ⟨gb152, 2, none⟩ = some (.int .i64 0) := bC BK152 2 rfl; have hcz19_3 : w17.cell? ⟨gb152, 3, none⟩ = some (.int .i64 0) := bC BK152 3 rfl; have hfz19_0 := bF BK152 0; have hfz19_1 := bF BK152 1; have hfz19_2 := bF BK152 2; have hfz19_3 := bF BK152 3)))
     go_ret2
     exact ⟨_, by first | rfl | (simp [errW_none, errW_some] <;> rfl) | (simp [*, errW_none, errW_some] <;> rfl), by first | exact Kd.R_nil _ _ _ _ _ | exact Kd.N_nil _ _ _ _ _ | exact Kd.V_nil _ _ _ _ _ | exact Kd.Q_nil _ _ _ _ _ | exact Kd.S_nil _ _ _ _ _, (haveI := gI GE152; uS HB)⟩
    ·replace c10 := Bool.eq_false_iff.mpr c10
     subst c10
     have H1 : (if (l0.length : Int) = 8 then (some (([] : List (S26)), 4)) else (clusterlocksref05_Insert.l0 k l0 ([] : List (S26)) false 0 a1_0 a1_1 a1_2 a1_3)) = some (r1, r2) := by rw [if_neg (show ¬ (false = true) by decide)] at H; exact H
     clear H
     have H := H1
     clear H1
     by_cases c20 : (l0.length : Int) = 8
     ·rw [if_pos c20] at H
      have c20b0 : ((l0.length : Int) == 8) = true := beq_iff_eq.mpr c20
      have c20b1 : ((l0.length : Int) != 8) = false := bne_eq_false_iff_eq.mpr c20
      clear c20
      simp only [Option.some.injEq, Prod.mk.injEq] at H
      obtain ⟨rfl, rfl⟩ := H
      go_enter Tryd.func23, Tryd.ntmps23
      go_wp2_with (first | ((with_reducible refine gate_dst (N := 3) rfl ?_); refine box_event ?hg (N := 3) ?hd (cs := #[.string a1_0, .int .i64 a1_1, .int .i64 a1_2, .int .i64 a1_3]) (t := 26) ?hr ?_; (case hd => rfl); (case hg => rfl); (case hr => first | (go_simp; done) | (go_simp; rfl)); intro gb143 hg w21 hbox hb; have BK143 := Aside0.mk hbox; have GW143 := gE HB hg; replace HB := bB HB hb; have GE143 := GW143; clear hb hbox hg) | (go_at_call 21; (with_reducible refine (clusterlocksref05_Valid.calls k _ _ l0 true _ ?side1 ?side2 A3.out).mono ?_); (case side1 => repeat (first | exact (Kd.C_below HR0.out HB.out) | (with_reducible refine Kd.C_alloc ?_ _) | (with_reducible refine Kd.C_drewN ?_ _) | (with_reducible refine Kd.C_drew ?_))); (case side2 => exact HC0.out); rintro e w22 ⟨rfl, hb⟩; replace BK143 := bK BK143 hb; replace HB := bB HB hb; (try clear hb); (try clear hk); have hcz23_0 : w22.cell? ⟨gb143, 0, none⟩ = some (.string a1_0) := bC BK143 0 rfl; have hcz23_1 : w22.cell? ⟨gb143, 1, none⟩ = some (.int .i64 a1_1) := bC BK143 1 rfl; have hcz23_2 : w22.cell? ⟨gb143, 2, none⟩ = some (.int .i64 a1_2) := bC BK143 2 rfl; have hcz23_3 : w22.cell? ⟨gb143, 3, none⟩ = some (.int .i64 a1_3) := bC BK143 3 rfl; have hfz23_0 := bF BK143 0; have hfz23_1 := bF BK143 1; have hfz23_2 := bF BK143 2; have hfz23_3 := bF BK143 3) | (go_at_call 17; (with_reducible refine (clusterlocksref05_ValidName.calls k a1_0 true _ A5.out).mono ?_); rintro e w' ⟨rfl, ⟨nd, rfl⟩⟩; (try first | exact ⟨rfl, _, World.drewN_drewN _ _ _⟩ | exact ⟨rfl, _, Eq.trans (World.drewN_drewN _ _ _) (congrArg (World.drewN _) (Nat.add_assoc _ _ _))⟩)) | (go_at_call 19; (with_reducible refine (clusterlocksref05_ValidResource.calls k a1_0 a1_1 a1_2 a1_3 true _ A7.out).mono ?_); rintro e w24 ⟨rfl, hb⟩; replace BK143 := bK BK143 hb; replace HB := bB HB hb; (try clear hb); (try clear hk); have hcz25_0 : w24.cell? ⟨gb143, 0, none⟩ = some (.string a1_0) := bC BK143 0 rfl; have hcz25_1 : w24.cell? ⟨gb143, 1, none⟩ = some (.int .i64 a1_1) := bC BK143 1 rfl; have hcz25_2 : w24.cell? ⟨gb143, 2, none⟩ = some (.int .i64 a1_2) := bC BK143 2 rfl; have hcz25_3 : w24.cell? ⟨gb143, 3, none⟩ = some (.int .i64 a1_3) := bC BK143 3 rfl; have hfz25_0 := bF BK143 0; have hfz25_1 := bF BK143 1; have hfz25_2 := bF BK143 2; have hfz25_3 := bF BK143 3) | (go_at_call 29; (with_reducible refine (clusterlocksref05_Find.calls k _ _ l0 a1_0 t147 t148 t149 t150 false _ ?side1 ?side2 A9.out).mono ?_); (case side1 => repeat (first | exact (Kd.C_below HR0.out HB.out) | (with_reducible refine Kd.C_alloc ?_ _) | (with_reducible refine Kd.C_drewN ?_ _) | (with_reducible refine Kd.C_drew ?_))); (case side2 => exact HC0.out); rintro e w26 ⟨rfl, hb⟩; replace BK143 := bK BK143 hb; replace HB := bB HB hb; (try clear hb); (try clear hk)) | ((with_reducible refine gate_dst (N := 6) rfl ?_); refine box_event ?hg (N := 6) ?hd (cs := #[.string (⟨#[]⟩ : ByteArray), .int .i64 0, .int .i64 0, .int .i64 0]) (t := 26) ?hr ?_; (case hd => rfl); (case hg => rfl); (case hr => first | (go_simp; done) | (go_simp; rfl)); intro gb152 hg w27 hbox hb; have BK152 := Aside0.mk hbox; have GW152 := gE HB hg; replace HB := bB HB hb; have GE152 := GW152; have NB143_152 := gN BK143 hg; replace BK143 := bK BK143 hb; have NB152_143 := Aside0.mk NB143_152.out.symm; clear hb hbox hg; have hnb28 := NB152_143.out; have hnc28 := NB143_152.out; have hcz29_0 : w27.cell? ⟨gb152, 0, none⟩ = some (.string (⟨#[]⟩ : ByteArray)) := bC BK152 0 rfl; have hcz29_1 : w27.cell? ⟨gb152, 1, none⟩ = some (.int .i64 0) := bC BK152 1 rfl; have hcz29_2 : w27.cell? ⟨gb152, 2, none⟩ = some (.int .i64 0) := bC BK152 2 rfl; have hcz29_3 : w27.cell? ⟨gb152, 3, none⟩ = some (.int .i64 0) := bC BK152 3 rfl; have hfz29_0 := bF BK152 0; have hfz29_1 := bF BK152 1; have hfz29_2 := bF BK152 2; have hfz29_3 := bF BK152 3))
      repeat (go_quiet (first | ((with_reducible refine gate_dst (N := 3) rfl ?_); refine box_event ?hg (N := 3) ?hd (cs := #[.string a1_0, .int .i64 a1_1, .int .i64 a1_2, .int .i64 a1_3]) (t := 26) ?hr ?_; (case hd => rfl); (case hg => rfl); (case hr => first | (go_simp; done) | (go_simp; rfl)); intro gb143 hg w21 hbox hb; have BK143 := Aside0.mk hbox; have GW143 := gE HB hg; replace HB := bB HB hb; have GE143 := GW143; clear hb hbox hg) | (go_at_call 21; (with_reducible refine (clusterlocksref05_Valid.calls k _ _ l0 true _ ?side1 ?side2 A3.out).mono ?_); (case side1 => repeat (first | exact (Kd.C_below HR0.out HB.out) | (with_reducible refine Kd.C_alloc ?_ _) | (with_reducible refine Kd.C_drewN ?_ _) | (with_reducible refine Kd.C_drew ?_))); (case side2 => exact HC0.out); rintro e w22 ⟨rfl, hb⟩; replace BK143 := bK BK143 hb; replace HB := bB HB hb; (try clear hb); (try clear hk); have hcz23_0 : w22.cell? ⟨gb143, 0, none⟩ = some (.string a1_0) := bC BK143 0 rfl; have hcz23_1 : w22.cell? ⟨gb143, 1, none⟩ = some (.int .i64 a1_1) := bC BK143 1 rfl; have hcz23_2 : w22.cell? ⟨gb143, 2, none⟩ = some (.int .i64 a1_2) := bC BK143 2 rfl; have hcz23_3 : w22.cell? ⟨gb143, 3, none⟩ = some (.int .i64 a1_3) := bC BK143 3 rfl; have hfz23_0 := bF BK143 0; have hfz23_1 := bF BK143 1; have hfz23_2 := bF BK143 2; have hfz23_3 := bF BK143 3) | (go_at_call 17; (with_reducible refine (clusterlocksref05_ValidName.calls k a1_0 true _ A5.out).mono ?_); rintro e w' ⟨rfl, ⟨nd, rfl⟩⟩; (try first | exact ⟨rfl, _, World.drewN_drewN _ _ _⟩ | exact ⟨rfl, _, Eq.trans (World.drewN_drewN _ _ _) (congrArg (World.drewN _) (Nat.add_assoc _ _ _))⟩)) | (go_at_call 19; (with_reducible refine (clusterlocksref05_ValidResource.calls k a1_0 a1_1 a1_2 a1_3 true _ A7.out).mono ?_); rintro e w24 ⟨rfl, hb⟩; replace BK143 := bK BK143 hb; replace HB := bB HB hb; (try clear hb); (try clear hk); have hcz25_0 : w24.cell? ⟨gb143, 0, none⟩ = some (.string a1_0) := bC BK143 0 rfl; have hcz25_1 : w24.cell? ⟨gb143, 1, none⟩ = some (.int .i64 a1_1) := bC BK143 1 rfl; have hcz25_2 : w24.cell? ⟨gb143, 2, none⟩ = some (.int .i64 a1_2) := bC BK143 2 rfl; have hcz25_3 : w24.cell? ⟨gb143, 3, none⟩ = some (.int .i64 a1_3) := bC BK143 3 rfl; have hfz25_0 := bF BK143 0; have hfz25_1 := bF BK143 1; have hfz25_2 := bF BK143 2; have hfz25_3 := bF BK143 3) | (go_at_call 29; (with_reducible refine (clusterlocksref05_Find.calls k _ _ l0 a1_0 t147 t148 t149 t150 false _ ?side1 ?side2 A9.out).mono ?_); (case side1 => repeat (first | exact (Kd.C_below HR0.out HB.out) | (with_reducible refine Kd.C_alloc ?_ _) | (with_reducible refine Kd.C_drewN ?_ _) | (with_reducible refine Kd.C_drew ?_))); (case side2 => exact HC0.out); rintro e w26 ⟨rfl, hb⟩; replace BK143 := bK BK143 hb; replace HB := bB HB hb; (try clear hb); (try clear hk)) | ((with_reducible refine gate_dst (N := 6) rfl ?_); refine box_event ?hg (N := 6) ?hd (cs := #[.string (⟨#[]⟩ : ByteArray), .int .i64 0, .int .i64 0, .int .i64 0]) (t := 26) ?hr ?_; (case hd => rfl); (case hg => rfl); (case hr => first | (go_simp; done) | (go_simp; rfl)); intro gb152 hg w27 hbox hb; have BK152 := Aside0.mk hbox; have GW152 := gE HB hg; replace HB := bB HB hb; have GE152 := GW152; have NB143_152 := gN BK143 hg; replace BK143 := bK BK143 hb; have NB152_143 := Aside0.mk NB143_152.out.symm; clear hb hbox hg; have hnb28 := NB152_143.out; have hnc28 := NB143_152.out; have hcz29_0 : w27.cell? ⟨gb152, 0, none⟩ = some (.string (⟨#[]⟩ : ByteArray)) := bC BK152 0 rfl; have hcz29_1 : w27.cell? ⟨gb152, 1, none⟩ = some (.int .i64 0) := bC BK152 1 rfl; have hcz29_2 : w27.cell? ⟨gb152, 2, none⟩ = some (.int .i64 0) := bC BK152 2 rfl; have hcz29_3 : w27.cell? ⟨gb152, 3, none⟩ = some (.int .i64 0) := bC BK152 3 rfl; have hfz29_0 := bF BK152 0; have hfz29_1 := bF BK152 1; have hfz29_2 := bF BK152 2; have hfz29_3 := bF BK152 3)); try go_wp2_with (first | ((with_reducible refine gate_dst (N := 3) rfl ?_); refine box_event ?hg (N := 3) ?hd (cs := #[.string a1_0, .int .i64 a1_1, .int .i64 a1_2, .int .i64 a1_3]) (t := 26) ?hr ?_; (case hd => rfl); (case hg => rfl); (case hr => first | (go_simp; done) | (go_simp; rfl)); intro gb143 hg w21 hbox hb; have BK143 := Aside0.mk hbox; have GW143 := gE HB hg; replace HB := bB HB hb; have GE143 := GW143; clear hb hbox hg) | (go_at_call 21; (with_reducible refine (clusterlocksref05_Valid.calls k _ _ l0 true _ ?side1 ?side2 A3.out).mono ?_); (case side1 => repeat (first | exact (Kd.C_below HR0.out HB.out) | (with_reducible refine Kd.C_alloc ?_ _) | (with_reducible refine Kd.C_drewN ?_ _) | (with_reducible refine Kd.C_drew ?_))); (case side2 => exact HC0.out); rintro e w22 ⟨rfl, hb⟩; replace BK143 := bK BK143 hb; replace HB := bB HB hb; (try clear hb); (try clear hk); have hcz23_0 : w22.cell? ⟨gb143, 0, none⟩ = some (.string a1_0) := bC BK143 0 rfl; have hcz23_1 : w22.cell? ⟨gb143, 1, none⟩ = some (.int .i64 a1_1) := bC BK143 1 rfl; have hcz23_2 : w22.cell? ⟨gb143, 2, none⟩ = some (.int .i64 a1_2) := bC BK143 2 rfl; have hcz23_3 : w22.cell? ⟨gb143, 3, none⟩ = some (.int .i64 a1_3) := bC BK143 3 rfl; have hfz23_0 := bF BK143 0; have hfz23_1 := bF BK143 1; have hfz23_2 := bF BK143 2; have hfz23_3 := bF BK143 3) | (go_at_call 17; (with_reducible refine (clusterlocksref05_ValidName.calls k a1_0 true _ A5.out).mono ?_); rintro e w' ⟨rfl, ⟨nd, rfl⟩⟩; (try first | exact ⟨rfl, _, World.drewN_drewN _ _ _⟩ | exact ⟨rfl, _, Eq.trans (World.drewN_drewN _ _ _) (congrArg (World.drewN _) (Nat.add_assoc _ _ _))⟩)) | (go_at_call 19; (with_reducible refine (clusterlocksref05_ValidResource.calls k a1_0 a1_1 a1_2 a1_3 true _ A7.out).mono ?_); rintro e w24 ⟨rfl, hb⟩; replace BK143 := bK BK143 hb; replace HB := bB HB hb; (try clear hb); (try clear hk); have hcz25_0 : w24.cell? ⟨gb143, 0, none⟩ = some (.string a1_0) := bC BK143 0 rfl; have hcz25_1 : w24.cell? ⟨gb143, 1, none⟩ = some (.int .i64 a1_1) := bC BK143 1 rfl; have hcz25_2 : w24.cell? ⟨gb143, 2, none⟩ = some (.int .i64 a1_2) := bC BK143 2 rfl; have hcz25_3 : w24.cell? ⟨gb143, 3, none⟩ = some (.int .i64 a1_3) := bC BK143 3 rfl; have hfz25_0 := bF BK143 0; have hfz25_1 := bF BK143 1; have hfz25_2 := bF BK143 2; have hfz25_3 := bF BK143 3) | (go_at_call 29; (with_reducible refine (clusterlocksref05_Find.calls k _ _ l0 a1_0 t147 t148 t149 t150 false _ ?side1 ?side2 A9.out).mono ?_); (case side1 => repeat (first | exact (Kd.C_below HR0.out HB.out) | (with_reducible refine Kd.C_alloc ?_ _) | (with_reducible refine Kd.C_drewN ?_ _) | (with_reducible refine Kd.C_drew ?_))); (case side2 => exact HC0.out); rintro e w26 ⟨rfl, hb⟩; replace BK143 := bK BK143 hb; replace HB := bB HB hb; (try clear hb); (try clear hk)) | ((with_reducible refine gate_dst (N := 6) rfl ?_); refine box_event ?hg (N := 6) ?hd (cs := #[.string (⟨#[]⟩ : ByteArray), .int .i64 0, .int .i64 0, .int .i64 0]) (t := 26) ?hr ?_; (case hd => rfl); (case hg => rfl); (case hr => first | (go_simp; done) | (go_simp; rfl)); intro gb152 hg w27 hbox hb; have BK152 := Aside0.mk hbox; have GW152 := gE HB hg; replace HB := bB HB hb; have GE152 := GW152; have NB143_152 := gN BK143 hg; replace BK143 := bK BK143 hb; have NB152_143 := Aside0.mk NB143_152.out.symm; clear hb hbox hg; have hnb28 := NB152_143.out; have hnc28 := NB143_152.out; have hcz29_0 : w27.cell? ⟨gb152, 0, none⟩ = some (.string (⟨#[]⟩ : ByteArray)) := bC BK152 0 rfl; have hcz29_1 : w27.cell? ⟨gb152, 1, none⟩ = some (.int .i64 0) := bC BK152 1 rfl; have hcz29_2 : w27.cell? ⟨gb152, 2, none⟩ = some (.int .i64 0) := bC BK152 2 rfl; have hcz29_3 : w27.cell? ⟨gb152, 3, none⟩ = some (.int .i64 0) := bC BK152 3 rfl; have hfz29_0 := bF BK152 0; have hfz29_1 := bF BK152 1; have hfz29_2 := bF BK152 2; have hfz29_3 := bF BK152 3)))
      go_ret2
      exact ⟨_, by first | rfl | (simp [errW_none, errW_some] <;> rfl) | (simp [*, errW_none, errW_some] <;> rfl), by first | exact Kd.R_nil _ _ _ _ _ | exact Kd.N_nil _ _ _ _ _ | exact Kd.V_nil _ _ _ _ _ | exact Kd.Q_nil _ _ _ _ _ | exact Kd.S_nil _ _ _ _ _, (haveI := gI GE152; uS HB)⟩
     ·rw [if_neg c20] at H
      have c20b0 : ((l0.length : Int) == 8) = false := beq_eq_false_iff_ne.mpr c20
      have c20b1 : ((l0.length : Int) != 8) = true := bne_iff_ne.mpr c20
      have H' := Aside0.mk H
      clear H
      go_enter Tryd.func23, Tryd.ntmps23
      go_wp2_with (first | ((with_reducible refine gate_dst (N := 3) rfl ?_); refine box_event ?hg (N := 3) ?hd (cs := #[.string a1_0, .int .i64 a1_1, .int .i64 a1_2, .int .i64 a1_3]) (t := 26) ?hr ?_; (case hd => rfl); (case hg => rfl); (case hr => first | (go_simp; done) | (go_simp; rfl)); intro gb143 hg w30 hbox hb; have BK143 := Aside0.mk hbox; have GW143 := gE HB hg; replace HB := bB HB hb; have GE143 := GW143; clear hb hbox hg) | (go_at_call 21; (with_reducible refine (clusterlocksref05_Valid.calls k _ _ l0 true _ ?side1 ?side2 A3.out).mono ?_); (case side1 => repeat (first | exact (Kd.C_below HR0.out HB.out) | (with_reducible refine Kd.C_alloc ?_ _) | (with_reducible refine Kd.C_drewN ?_ _) | (with_reducible refine Kd.C_drew ?_))); (case side2 => exact HC0.out); rintro e w31 ⟨rfl, hb⟩; replace BK143 := bK BK143 hb; replace HB := bB HB hb; (try clear hb); (try clear hk); have hcz32_0 : w31.cell? ⟨gb143, 0, none⟩ = some (.string a1_0) := bC BK143 0 rfl; have hcz32_1 : w31.cell? ⟨gb143, 1, none⟩ = some (.int .i64 a1_1) := bC BK143 1 rfl; have hcz32_2 : w31.cell? ⟨gb143, 2, none⟩ = some (.int .i64 a1_2) := bC BK143 2 rfl; have hcz32_3 : w31.cell? ⟨gb143, 3, none⟩ = some (.int .i64 a1_3) := bC BK143 3 rfl; have hfz32_0 := bF BK143 0; have hfz32_1 := bF BK143 1; have hfz32_2 := bF BK143 2; have hfz32_3 := bF BK143 3) | (go_at_call 17; (with_reducible refine (clusterlocksref05_ValidName.calls k a1_0 true _ A5.out).mono ?_); rintro e w' ⟨rfl, ⟨nd, rfl⟩⟩; (try first | exact ⟨rfl, _, World.drewN_drewN _ _ _⟩ | exact ⟨rfl, _, Eq.trans (World.drewN_drewN _ _ _) (congrArg (World.drewN _) (Nat.add_assoc _ _ _))⟩)) | (go_at_call 19; (with_reducible refine (clusterlocksref05_ValidResource.calls k a1_0 a1_1 a1_2 a1_3 true _ A7.out).mono ?_); rintro e w33 ⟨rfl, hb⟩; replace BK143 := bK BK143 hb; replace HB := bB HB hb; (try clear hb); (try clear hk); have hcz34_0 : w33.cell? ⟨gb143, 0, none⟩ = some (.string a1_0) := bC BK143 0 rfl; have hcz34_1 : w33.cell? ⟨gb143, 1, none⟩ = some (.int .i64 a1_1) := bC BK143 1 rfl; have hcz34_2 : w33.cell? ⟨gb143, 2, none⟩ = some (.int .i64 a1_2) := bC BK143 2 rfl; have hcz34_3 : w33.cell? ⟨gb143, 3, none⟩ = some (.int .i64 a1_3) := bC BK143 3 rfl; have hfz34_0 := bF BK143 0; have hfz34_1 := bF BK143 1; have hfz34_2 := bF BK143 2; have hfz34_3 := bF BK143 3) | (go_at_call 29; (with_reducible refine (clusterlocksref05_Find.calls k _ _ l0 a1_0 t147 t148 t149 t150 false _ ?side1 ?side2 A9.out).mono ?_); (case side1 => repeat (first | exact (Kd.C_below HR0.out HB.out) | (with_reducible refine Kd.C_alloc ?_ _) | (with_reducible refine Kd.C_drewN ?_ _) | (with_reducible refine Kd.C_drew ?_))); (case side2 => exact HC0.out); rintro e w35 ⟨rfl, hb⟩; replace BK143 := bK BK143 hb; replace HB := bB HB hb; (try clear hb); (try clear hk)) | ((with_reducible refine gate_dst (N := 6) rfl ?_); refine box_event ?hg (N := 6) ?hd (cs := #[.string (⟨#[]⟩ : ByteArray), .int .i64 0, .int .i64 0, .int .i64 0]) (t := 26) ?hr ?_; (case hd => rfl); (case hg => rfl); (case hr => first | (go_simp; done) | (go_simp; rfl)); intro gb152 hg w36 hbox hb; have BK152 := Aside0.mk hbox; have GW152 := gE HB hg; replace HB := bB HB hb; have GE152 := GW152; have NB143_152 := gN BK143 hg; replace BK143 := bK BK143 hb; have NB152_143 := Aside0.mk NB143_152.out.symm; clear hb hbox hg; have hnb37 := NB152_143.out; have hnc37 := NB143_152.out; have hcz38_0 : w36.cell? ⟨gb152, 0, none⟩ = some (.string (⟨#[]⟩ : ByteArray)) := bC BK152 0 rfl; have hcz38_1 : w36.cell? ⟨gb152, 1, none⟩ = some (.int .i64 0) := bC BK152 1 rfl; have hcz38_2 : w36.cell? ⟨gb152, 2, none⟩ = some (.int .i64 0) := bC BK152 2 rfl; have hcz38_3 : w36.cell? ⟨gb152, 3, none⟩ = some (.int .i64 0) := bC BK152 3 rfl; have hfz38_0 := bF BK152 0; have hfz38_1 := bF BK152 1; have hfz38_2 := bF BK152 2; have hfz38_3 := bF BK152 3))
      repeat (go_quiet (first | ((with_reducible refine gate_dst (N := 3) rfl ?_); refine box_event ?hg (N := 3) ?hd (cs := #[.string a1_0, .int .i64 a1_1, .int .i64 a1_2, .int .i64 a1_3]) (t := 26) ?hr ?_; (case hd => rfl); (case hg => rfl); (case hr => first | (go_simp; done) | (go_simp; rfl)); intro gb143 hg w30 hbox hb; have BK143 := Aside0.mk hbox; have GW143 := gE HB hg; replace HB := bB HB hb; have GE143 := GW143; clear hb hbox hg) | (go_at_call 21; (with_reducible refine (clusterlocksref05_Valid.calls k _ _ l0 true _ ?side1 ?side2 A3.out).mono ?_); (case side1 => repeat (first | exact (Kd.C_below HR0.out HB.out) | (with_reducible refine Kd.C_alloc ?_ _) | (with_reducible refine Kd.C_drewN ?_ _) | (with_reducible refine Kd.C_drew ?_))); (case side2 => exact HC0.out); rintro e w31 ⟨rfl, hb⟩; replace BK143 := bK BK143 hb; replace HB := bB HB hb; (try clear hb); (try clear hk); have hcz32_0 : w31.cell? ⟨gb143, 0, none⟩ = some (.string a1_0) := bC BK143 0 rfl; have hcz32_1 : w31.cell? ⟨gb143, 1, none⟩ = some (.int .i64 a1_1) := bC BK143 1 rfl; have hcz32_2 : w31.cell? ⟨gb143, 2, none⟩ = some (.int .i64 a1_2) := bC BK143 2 rfl; have hcz32_3 : w31.cell? ⟨gb143, 3, none⟩ = some (.int .i64 a1_3) := bC BK143 3 rfl; have hfz32_0 := bF BK143 0; have hfz32_1 := bF BK143 1; have hfz32_2 := bF BK143 2; have hfz32_3 := bF BK143 3) | (go_at_call 17; (with_reducible refine (clusterlocksref05_ValidName.calls k a1_0 true _ A5.out).mono ?_); rintro e w' ⟨rfl, ⟨nd, rfl⟩⟩; (try first | exact ⟨rfl, _, World.drewN_drewN _ _ _⟩ | exact ⟨rfl, _, Eq.trans (World.drewN_drewN _ _ _) (congrArg (World.drewN _) (Nat.add_assoc _ _ _))⟩)) | (go_at_call 19; (with_reducible refine (clusterlocksref05_ValidResource.calls k a1_0 a1_1 a1_2 a1_3 true _ A7.out).mono ?_); rintro e w33 ⟨rfl, hb⟩; replace BK143 := bK BK143 hb; replace HB := bB HB hb; (try clear hb); (try clear hk); have hcz34_0 : w33.cell? ⟨gb143, 0, none⟩ = some (.string a1_0) := bC BK143 0 rfl; have hcz34_1 : w33.cell? ⟨gb143, 1, none⟩ = some (.int .i64 a1_1) := bC BK143 1 rfl; have hcz34_2 : w33.cell? ⟨gb143, 2, none⟩ = some (.int .i64 a1_2) := bC BK143 2 rfl; have hcz34_3 : w33.cell? ⟨gb143, 3, none⟩ = some (.int .i64 a1_3) := bC BK143 3 rfl; have hfz34_0 := bF BK143 0; have hfz34_1 := bF BK143 1; have hfz34_2 := bF BK143 2; have hfz34_3 := bF BK143 3) | (go_at_call 29; (with_reducible refine (clusterlocksref05_Find.calls k _ _ l0 a1_0 t147 t148 t149 t150 false _ ?side1 ?side2 A9.out).mono ?_); (case side1 => repeat (first | exact (Kd.C_below HR0.out HB.out) | (with_reducible refine Kd.C_alloc ?_ _) | (with_reducible refine Kd.C_drewN ?_ _) | (with_reducible refine Kd.C_drew ?_))); (case side2 => exact HC0.out); rintro e w35 ⟨rfl, hb⟩; replace BK143 := bK BK143 hb; replace HB := bB HB hb; (try clear hb); (try clear hk)) | ((with_reducible refine gate_dst (N := 6) rfl ?_); refine box_event ?hg (N := 6) ?hd (cs := #[.string (⟨#[]⟩ : ByteArray), .int .i64 0, .int .i64 0, .int .i64 0]) (t := 26) ?hr ?_; (case hd => rfl); (case hg => rfl); (case hr => first | (go_simp; done) | (go_simp; rfl)); intro gb152 hg w36 hbox hb; have BK152 := Aside0.mk hbox; have GW152 := gE HB hg; replace HB := bB HB hb; have GE152 := GW152; have NB143_152 := gN BK143 hg; replace BK143 := bK BK143 hb; have NB152_143 := Aside0.mk NB143_152.out.symm; clear hb hbox hg; have hnb37 := NB152_143.out; have hnc37 := NB143_152.out; have hcz38_0 : w36.cell? ⟨gb152, 0, none⟩ = some (.string (⟨#[]⟩ : ByteArray)) := bC BK152 0 rfl; have hcz38_1 : w36.cell? ⟨gb152, 1, none⟩ = some (.int .i64 0) := bC BK152 1 rfl; have hcz38_2 : w36.cell? ⟨gb152, 2, none⟩ = some (.int .i64 0) := bC BK152 2 rfl; have hcz38_3 : w36.cell? ⟨gb152, 3, none⟩ = some (.int .i64 0) := bC BK152 3 rfl; have hfz38_0 := bF BK152 0; have hfz38_1 := bF BK152 1; have hfz38_2 := bF BK152 2; have hfz38_3 := bF BK152 3)); try go_wp2_with (first | ((with_reducible refine gate_dst (N := 3) rfl ?_); refine box_event ?hg (N := 3) ?hd (cs := #[.string a1_0, .int .i64 a1_1, .int .i64 a1_2, .int .i64 a1_3]) (t := 26) ?hr ?_; (case hd => rfl); (case hg => rfl); (case hr => first | (go_simp; done) | (go_simp; rfl)); intro gb143 hg w30 hbox hb; have BK143 := Aside0.mk hbox; have GW143 := gE HB hg; replace HB := bB HB hb; have GE143 := GW143; clear hb hbox hg) | (go_at_call 21; (with_reducible refine (clusterlocksref05_Valid.calls k _ _ l0 true _ ?side1 ?side2 A3.out).mono ?_); (case side1 => repeat (first | exact (Kd.C_below HR0.out HB.out) | (with_reducible refine Kd.C_alloc ?_ _) | (with_reducible refine Kd.C_drewN ?_ _) | (with_reducible refine Kd.C_drew ?_))); (case side2 => exact HC0.out); rintro e w31 ⟨rfl, hb⟩; replace BK143 := bK BK143 hb; replace HB := bB HB hb; (try clear hb); (try clear hk); have hcz32_0 : w31.cell? ⟨gb143, 0, none⟩ = some (.string a1_0) := bC BK143 0 rfl; have hcz32_1 : w31.cell? ⟨gb143, 1, none⟩ = some (.int .i64 a1_1) := bC BK143 1 rfl; have hcz32_2 : w31.cell? ⟨gb143, 2, none⟩ = some (.int .i64 a1_2) := bC BK143 2 rfl; have hcz32_3 : w31.cell? ⟨gb143, 3, none⟩ = some (.int .i64 a1_3) := bC BK143 3 rfl; have hfz32_0 := bF BK143 0; have hfz32_1 := bF BK143 1; have hfz32_2 := bF BK143 2; have hfz32_3 := bF BK143 3) | (go_at_call 17; (with_reducible refine (clusterlocksref05_ValidName.calls k a1_0 true _ A5.out).mono ?_); rintro e w' ⟨rfl, ⟨nd, rfl⟩⟩; (try first | exact ⟨rfl, _, World.drewN_drewN _ _ _⟩ | exact ⟨rfl, _, Eq.trans (World.drewN_drewN _ _ _) (congrArg (World.drewN _) (Nat.add_assoc _ _ _))⟩)) | (go_at_call 19; (with_reducible refine (clusterlocksref05_ValidResource.calls k a1_0 a1_1 a1_2 a1_3 true _ A7.out).mono ?_); rintro e w33 ⟨rfl, hb⟩; replace BK143 := bK BK143 hb; replace HB := bB HB hb; (try clear hb); (try clear hk); have hcz34_0 : w33.cell? ⟨gb143, 0, none⟩ = some (.string a1_0) := bC BK143 0 rfl; have hcz34_1 : w33.cell? ⟨gb143, 1, none⟩ = some (.int .i64 a1_1) := bC BK143 1 rfl; have hcz34_2 : w33.cell? ⟨gb143, 2, none⟩ = some (.int .i64 a1_2) := bC BK143 2 rfl; have hcz34_3 : w33.cell? ⟨gb143, 3, none⟩ = some (.int .i64 a1_3) := bC BK143 3 rfl; have hfz34_0 := bF BK143 0; have hfz34_1 := bF BK143 1; have hfz34_2 := bF BK143 2; have hfz34_3 := bF BK143 3) | (go_at_call 29; (with_reducible refine (clusterlocksref05_Find.calls k _ _ l0 a1_0 t147 t148 t149 t150 false _ ?side1 ?side2 A9.out).mono ?_); (case side1 => repeat (first | exact (Kd.C_below HR0.out HB.out) | (with_reducible refine Kd.C_alloc ?_ _) | (with_reducible refine Kd.C_drewN ?_ _) | (with_reducible refine Kd.C_drew ?_))); (case side2 => exact HC0.out); rintro e w35 ⟨rfl, hb⟩; replace BK143 := bK BK143 hb; replace HB := bB HB hb; (try clear hb); (try clear hk)) | ((with_reducible refine gate_dst (N := 6) rfl ?_); refine box_event ?hg (N := 6) ?hd (cs := #[.string (⟨#[]⟩ : ByteArray), .int .i64 0, .int .i64 0, .int .i64 0]) (t := 26) ?hr ?_; (case hd => rfl); (case hg => rfl); (case hr => first | (go_simp; done) | (go_simp; rfl)); intro gb152 hg w36 hbox hb; have BK152 := Aside0.mk hbox; have GW152 := gE HB hg; replace HB := bB HB hb; have GE152 := GW152; have NB143_152 := gN BK143 hg; replace BK143 := bK BK143 hb; have NB152_143 := Aside0.mk NB143_152.out.symm; clear hb hbox hg; have hnb37 := NB152_143.out; have hnc37 := NB143_152.out; have hcz38_0 : w36.cell? ⟨gb152, 0, none⟩ = some (.string (⟨#[]⟩ : ByteArray)) := bC BK152 0 rfl; have hcz38_1 : w36.cell? ⟨gb152, 1, none⟩ = some (.int .i64 0) := bC BK152 1 rfl; have hcz38_2 : w36.cell? ⟨gb152, 2, none⟩ = some (.int .i64 0) := bC BK152 2 rfl; have hcz38_3 : w36.cell? ⟨gb152, 3, none⟩ = some (.int .i64 0) := bC BK152 3 rfl; have hfz38_0 := bF BK152 0; have hfz38_1 := bF BK152 1; have hfz38_2 := bF BK152 2; have hfz38_3 := bF BK152 3)))
      go_loopg [8, 9, 10] k (fun kq v8 v9 v10 w' => ∃ (x8_1 : List (S26)) (x9_1 : Bool) (x10_1 : Int), v9 = .bool x9_1 ∧ v10 = .int .i64 x10_1 ∧ Aside0 (clusterlocksref05_Insert.l0 kq l0 x8_1 x9_1 x10_1 a1_0 a1_1 a1_2 a1_3 = some (r1, r2)) ∧ Aside0 (kq ≤ k) ∧ Aside0 (Kd.R k26 26 w' w.heap.size (fun k_ => k_ ≠ gb143 ∧ k_ ≠ gb152) v8 x8_1) ∧ Aside0 (w'.heap[gb143]? = some (.cells #[.string a1_0, .int .i64 a1_1, .int .i64 a1_2, .int .i64 a1_3] 26 (0, 0))) ∧ Aside0 (w'.heap[gb152]? = some (.cells #[.string t147, .int .i64 t148, .int .i64 t149, .int .i64 t150] 26 (0, 0))) ∧ Aside0 (Below w.heap.size w w'))
      case atStart => exact ⟨(([] : List (S26))), (false), (0), (by first | rfl | (simp; done) | (simp [*]; done)), (by first | rfl | (simp; done) | (simp [*]; done)), H', ⟨Nat.le_refl _⟩, ⟨by first | exact Kd.R_nil _ _ _ _ _ | exact Kd.N_nil _ _ _ _ _ | exact Kd.V_nil _ _ _ _ _ | exact Kd.Q_nil _ _ _ _ _ | exact Kd.S_nil _ _ _ _ _⟩, ⟨by (with_reducible repeat first | refine bN ?_ _ | refine bD ?_ | refine bA ?_ _); refine blk_far ?_ NB143_152.out _; (with_reducible repeat first | refine bN ?_ _ | refine bD ?_ | refine bA ?_ _); refine blk_far ?_ NB143_152.out _; (with_reducible repeat first | refine bN ?_ _ | refine bD ?_ | refine bA ?_ _); refine blk_far ?_ NB143_152.out _; (with_reducible repeat first | refine bN ?_ _ | refine bD ?_ | refine bA ?_ _); refine blk_far ?_ NB143_152.out _; (with_reducible repeat first | refine bN ?_ _ | refine bD ?_ | refine bA ?_ _); exact BK143.out⟩, ⟨by (with_reducible repeat first | refine bN ?_ _ | refine bD ?_ | refine bA ?_ _); refine blk_put (cs := #[.string t147, .int .i64 t148, .int .i64 t149, .int .i64 0]) ?_ 3 _ rfl; (with_reducible repeat first | refine bN ?_ _ | refine bD ?_ | refine bA ?_ _); refine blk_put (cs := #[.string t147, .int .i64 t148, .int .i64 0, .int .i64 0]) ?_ 2 _ rfl; (with_reducible repeat first | refine bN ?_ _ | refine bD ?_ | refine bA ?_ _); refine blk_put (cs := #[.string t147, .int .i64 0, .int .i64 0, .int .i64 0]) ?_ 1 _ rfl; (with_reducible repeat first | refine bN ?_ _ | refine bD ?_ | refine bA ?_ _); refine blk_put (cs := #[.string (⟨#[]⟩ : ByteArray), .int .i64 0, .int .i64 0, .int .i64 0]) ?_ 0 _ rfl; (with_reducible repeat first | refine bN ?_ _ | refine bD ?_ | refine bA ?_ _); exact BK152.out⟩, ⟨(haveI := gI GE152; uS HB)⟩⟩
      case round =>
       clear H'
       try clear c1
       try clear c2
       try clear p2
       try clear c3
       try clear c4
       try clear c6
       try clear c8
       try clear c10
       try clear c18
       try clear c20
       try clear c20b0
       try clear c20b1
       try clear c23
       try clear c28
       try clear c37
       try clear hcz13_0
       try clear hcz13_1
       try clear hcz13_2
       try clear hcz13_3
       try clear hcz15_0
       try clear hcz15_1
       try clear hcz15_2
       try clear hcz15_3
       try clear hcz19_0
       try clear hcz19_1
       try clear hcz19_2
       try clear hcz19_3
       try clear hcz23_0
       try clear hcz23_1
       try clear hcz23_2
       try clear hcz23_3
       try clear hcz25_0
       try clear hcz25_1
       try clear hcz25_2
       try clear hcz25_3
       try clear hcz29_0
       try clear hcz29_1
       try clear hcz29_2
       try clear hcz29_3
       try clear hcz32_0
       try clear hcz32_1
       try clear hcz32_2
       try clear hcz32_3
       try clear hcz34_0
       try clear hcz34_1
       try clear hcz34_2
       try clear hcz34_3
       try clear hcz38_0
       try clear hcz38_1
       try clear hcz38_2
       try clear hcz38_3
       try clear hfz13_0
       try clear hfz13_1
       try clear hfz13_2
       try clear hfz13_3
       try clear hfz15_0
       try clear hfz15_1
       try clear hfz15_2
       try clear hfz15_3
       try clear hfz19_0
       try clear hfz19_1
       try clear hfz19_2
       try clear hfz19_3
       try clear hfz23_0
       try clear hfz23_1
       try clear hfz23_2
       try clear hfz23_3
       try clear hfz25_0
       try clear hfz25_1
       try clear hfz25_2
       try clear hfz25_3
       try clear hfz29_0
       try clear hfz29_1
       try clear hfz29_2
       try clear hfz29_3
       try clear hfz32_0
       try clear hfz32_1
       try clear hfz32_2
       try clear hfz32_3
       try clear hfz34_0
       try clear hfz34_1
       try clear hfz34_2
       try clear hfz34_3
       try clear hfz38_0
       try clear hfz38_1
       try clear hfz38_2
       try clear hfz38_3
       obtain ⟨x8_1, x9_1, x10_1, rfl, rfl, HA, HK1, HO_8, BK143, BK152, HB⟩ := hrel
       cases gk with
       | zero => exact absurd HA.out (by simp [clusterlocksref05_Insert.l0])
       | succ k1 =>
        have H := HA.out
        clear HA
        simp only [clusterlocksref05_Insert.l0] at H
        by_cases c39 : x10_1 < (l0.length : Int)
        ·rw [if_pos c39] at H
         have c39b0 : decide (x10_1 < (l0.length : Int)) = true := decide_eq_true c39
         clear c39
         by_cases c40 : x9_1 = true
         ·subst c40
          have H1 : (if 0 ≤ x10_1 then (if x8_1.length < 3518437208883 then (clusterlocksref05_Insert.l0 k1 l0 (x8_1 ++ [(⟨(rd_T26 l0 x10_1).f0, (rd_T26 l0 x10_1).f1, (rd_T26 l0 x10_1).f2, (rd_T26 l0 x10_1).f3⟩ : S26)]) true (wrap64 (x10_1 + 1)) a1_0 a1_1 a1_2 a1_3) else (none)) else (none)) = some (r1, r2) := by rw [if_pos rfl] at H; exact H
          clear H
          have H := H1
          clear H1
          by_cases c41 : 0 ≤ x10_1
          ·rw [if_pos c41] at H
           have c41b0 : decide (0 ≤ x10_1) = true := decide_eq_true c41
           clear c41
           by_cases c42 : x8_1.length < 3518437208883
           ·rw [if_pos c42] at H
            have LMc42 := Aside0.mk c42
            clear c42
            obtain ⟨y154, hy154⟩ : ∃ y_ : List (S26), y_ = (x8_1 ++ [(⟨(rd_T26 l0 x10_1).f0, (rd_T26 l0 x10_1).f1, (rd_T26 l0 x10_1).f2, (rd_T26 l0 x10_1).f3⟩ : S26)]) := ⟨_, rfl⟩
            replace H : (clusterlocksref05_Insert.l0 k1 l0 y154 true (wrap64 (x10_1 + 1)) a1_0 a1_1 a1_2 a1_3) = some (r1, r2) := by first | (rw [hy154]; with_reducible exact H) | (have H2_ := (Option.bind_some _ _).symm.trans H; rw [hy154]; with_reducible exact H2_) | (have H2_ := (Option.bind_some _ _).symm.trans H; with_reducible exact H2_) | with_reducible exact H | (rw [hy154]; exact H) | exact H
            have Ny154 := Aside0.mk hy154
            clear hy154
            have H' := Aside0.mk H
            clear H
            have p153 : 0 ≤ (x10_1 : Int) := of_decide_eq_true (by first | (with_reducible assumption) | assumption)
            have q153 : x10_1 < (l0.length : Int) := of_decide_eq_true (by first | (with_reducible assumption) | assumption)
            obtain ⟨ad153, e153, hx153_0, hx153_1, hx153_2, hx153_3⟩ := at_T26 HR0.out x10_1 p153 q153
            cases e153
            replace hx153_0 := kC HB hx153_0
            replace hx153_1 := kC HB hx153_1
            replace hx153_2 := kC HB hx153_2
            replace hx153_3 := kC HB hx153_3
            replace p153 := eq_true p153
            replace q153 := eq_true q153
            go_wp2_with (first | ((with_reducible refine gate_builtin (b := .append) (xs := #[.tmp 54, .tmp 59]) rfl ?_); at_builtin; refine Kd.R_append k26 (w0 := w) w.heap.size rfl (.tmp 54) (.tmp 59) 24 26 (.agg #[(.string ⟨#[]⟩), (.int .i64 0), (.int .i64 0), (.int .i64 0)]) 40 rfl Tryd.underlying24 info26 rfl (by decide) (by omega) u8 x8_1 (⟨(rd_T26 l0 x10_1).f0, (rd_T26 l0 x10_1).f1, (rd_T26 l0 x10_1).f2, (rd_T26 l0 x10_1).f3⟩ : S26) [.string ((rd_T26 l0 x10_1).f0), .int .i64 ((rd_T26 l0 x10_1).f1), .int .i64 ((rd_T26 l0 x10_1).f2), .int .i64 ((rd_T26 l0 x10_1).f3)] (fun k_ => k_ ≠ gb143 ∧ k_ ≠ gb152) (fun _ => False) rfl rfl ?aP (fun _ hk => hk.elim) ?aF ?aO ?aB ?aS ?aL ?_; (case aP => exact k26_mkM _ _ _ (⟨(rd_T26 l0 x10_1).f0, (rd_T26 l0 x10_1).f1, (rd_T26 l0 x10_1).f2, (rd_T26 l0 x10_1).f3⟩ : S26)); (case aB => exact (haveI := gI GE152; uS HB)); (case aF => exact (fun k_ hk => ⟨Kd.freshB (g := gb143) (o := .cells #[.string a1_0, .int .i64 a1_1, .int .i64 a1_2, .int .i64 a1_3] 26 (0, 0)) (uK BK143) k_ hk, Kd.freshB (g := gb152) (o := .cells #[.string t147, .int .i64 t148, .int .i64 t149, .int .i64 t150] 26 (0, 0)) (uK BK152) k_ hk⟩)); (case aO => exact (by (with_reducible repeat (first | apply Kd.R_alloc | apply Kd.R_drewN | apply Kd.R_drew)); exact HO_8.out)); (case aS => exact (below_size (haveI := gI GE152; uS HB))); (case aL => have := LMc42.out; omega); intro v155 w43 ho hb hg hat; rw [← Ny154.out] at ho; replace BK143 := Aside0.mk (blk_grown (g := gb143) (o := .cells #[.string a1_0, .int .i64 a1_1, .int .i64 a1_2, .int .i64 a1_3] 26 (0, 0)) (uK BK143) hg (Kd.R_away HO_8.out (fun _ hk => hk.1))); replace BK152 := Aside0.mk (blk_grown (g := gb152) (o := .cells #[.string t147, .int .i64 t148, .int .i64 t149, .int .i64 t150] 26 (0, 0)) (uK BK152) hg (Kd.R_away HO_8.out (fun _ hk => hk.2))); replace HB := Aside0.mk (hb); have HO156 := Aside0.mk (ho); clear HO_8; clear ho hb hg hat))
            repeat (go_quiet (first | ((with_reducible refine gate_builtin (b := .append) (xs := #[.tmp 54, .tmp 59]) rfl ?_); at_builtin; refine Kd.R_append k26 (w0 := w) w.heap.size rfl (.tmp 54) (.tmp 59) 24 26 (.agg #[(.string ⟨#[]⟩), (.int .i64 0), (.int .i64 0), (.int .i64 0)]) 40 rfl Tryd.underlying24 info26 rfl (by decide) (by omega) u8 x8_1 (⟨(rd_T26 l0 x10_1).f0, (rd_T26 l0 x10_1).f1, (rd_T26 l0 x10_1).f2, (rd_T26 l0 x10_1).f3⟩ : S26) [.string ((rd_T26 l0 x10_1).f0), .int .i64 ((rd_T26 l0 x10_1).f1), .int .i64 ((rd_T26 l0 x10_1).f2), .int .i64 ((rd_T26 l0 x10_1).f3)] (fun k_ => k_ ≠ gb143 ∧ k_ ≠ gb152) (fun _ => False) rfl rfl ?aP (fun _ hk => hk.elim) ?aF ?aO ?aB ?aS ?aL ?_; (case aP => exact k26_mkM _ _ _ (⟨(rd_T26 l0 x10_1).f0, (rd_T26 l0 x10_1).f1, (rd_T26 l0 x10_1).f2, (rd_T26 l0 x10_1).f3⟩ : S26)); (case aB => exact (haveI := gI GE152; uS HB)); (case aF => exact (fun k_ hk => ⟨Kd.freshB (g := gb143) (o := .cells #[.string a1_0, .int .i64 a1_1, .int .i64 a1_2, .int .i64 a1_3] 26 (0, 0)) (uK BK143) k_ hk, Kd.freshB (g := gb152) (o := .cells #[.string t147, .int .i64 t148, .int .i64 t149, .int .i64 t150] 26 (0, 0)) (uK BK152) k_ hk⟩)); (case aO => exact (by (with_reducible repeat (first | apply Kd.R_alloc | apply Kd.R_drewN | apply Kd.R_drew)); exact HO_8.out)); (case aS => exact (below_size (haveI := gI GE152; uS HB))); (case aL => have := LMc42.out; omega); intro v155 w43 ho hb hg hat; rw [← Ny154.out] at ho; replace BK143 := Aside0.mk (blk_grown (g := gb143) (o := .cells #[.string a1_0, .int .i64 a1_1, .int .i64 a1_2, .int .i64 a1_3] 26 (0, 0)) (uK BK143) hg (Kd.R_away HO_8.out (fun _ hk => hk.1))); replace BK152 := Aside0.mk (blk_grown (g := gb152) (o := .cells #[.string t147, .int .i64 t148, .int .i64 t149, .int .i64 t150] 26 (0, 0)) (uK BK152) hg (Kd.R_away HO_8.out (fun _ hk => hk.2))); replace HB := Aside0.mk (hb); have HO156 := Aside0.mk (ho); clear HO_8; clear ho hb hg hat)); try go_wp2_with (first | ((with_reducible refine gate_builtin (b := .append) (xs := #[.tmp 54, .tmp 59]) rfl ?_); at_builtin; refine Kd.R_append k26 (w0 := w) w.heap.size rfl (.tmp 54) (.tmp 59) 24 26 (.agg #[(.string ⟨#[]⟩), (.int .i64 0), (.int .i64 0), (.int .i64 0)]) 40 rfl Tryd.underlying24 info26 rfl (by decide) (by omega) u8 x8_1 (⟨(rd_T26 l0 x10_1).f0, (rd_T26 l0 x10_1).f1, (rd_T26 l0 x10_1).f2, (rd_T26 l0 x10_1).f3⟩ : S26) [.string ((rd_T26 l0 x10_1).f0), .int .i64 ((rd_T26 l0 x10_1).f1), .int .i64 ((rd_T26 l0 x10_1).f2), .int .i64 ((rd_T26 l0 x10_1).f3)] (fun k_ => k_ ≠ gb143 ∧ k_ ≠ gb152) (fun _ => False) rfl rfl ?aP (fun _ hk => hk.elim) ?aF ?aO ?aB ?aS ?aL ?_; (case aP => exact k26_mkM _ _ _ (⟨(rd_T26 l0 x10_1).f0, (rd_T26 l0 x10_1).f1, (rd_T26 l0 x10_1).f2, (rd_T26 l0 x10_1).f3⟩ : S26)); (case aB => exact (haveI := gI GE152; uS HB)); (case aF => exact (fun k_ hk => ⟨Kd.freshB (g := gb143) (o := .cells #[.string a1_0, .int .i64 a1_1, .int .i64 a1_2, .int .i64 a1_3] 26 (0, 0)) (uK BK143) k_ hk, Kd.freshB (g := gb152) (o := .cells #[.string t147, .int .i64 t148, .int .i64 t149, .int .i64 t150] 26 (0, 0)) (uK BK152) k_ hk⟩)); (case aO => exact (by (with_reducible repeat (first | apply Kd.R_alloc | apply Kd.R_drewN | apply Kd.R_drew)); exact HO_8.out)); (case aS => exact (below_size (haveI := gI GE152; uS HB))); (case aL => have := LMc42.out; omega); intro v155 w43 ho hb hg hat; rw [← Ny154.out] at ho; replace BK143 := Aside0.mk (blk_grown (g := gb143) (o := .cells #[.string a1_0, .int .i64 a1_1, .int .i64 a1_2, .int .i64 a1_3] 26 (0, 0)) (uK BK143) hg (Kd.R_away HO_8.out (fun _ hk => hk.1))); replace BK152 := Aside0.mk (blk_grown (g := gb152) (o := .cells #[.string t147, .int .i64 t148, .int .i64 t149, .int .i64 t150] 26 (0, 0)) (uK BK152) hg (Kd.R_away HO_8.out (fun _ hk => hk.2))); replace HB := Aside0.mk (hb); have HO156 := Aside0.mk (ho); clear HO_8; clear ho hb hg hat)))
            go_roundg k1
            case measure => have := HK1.out; omega
            case rel => exact ⟨(y154), (true), (wrap64 (x10_1 + 1)), (by first | rfl | (simp; done) | (simp [*]; done)), (by first | rfl | (simp; done) | (simp [*]; done)), H', ⟨by have := HK1.out; omega⟩, ⟨by (with_reducible repeat (first | apply Kd.R_alloc | apply Kd.R_drewN | apply Kd.R_drew)); exact HO156.out⟩, ⟨uK BK143⟩, ⟨uK BK152⟩, ⟨(haveI := gI GE152; uS HB)⟩⟩
           ·rw [if_neg c42] at H
            exact absurd H (by simp)
          ·rw [if_neg c41] at H
           exact absurd H (by simp)
         ·replace c40 := Bool.eq_false_iff.mpr c40
          subst c40
          have H1 : (if 0 ≤ x10_1 then (if (Op.bytesLess a1_0.toList (((rd_T26 l0 x10_1).f0).toList)) = true then (if x8_1.length < 3518437208883 then ((some (x8_1 ++ [(⟨a1_0, a1_1, a1_2, a1_3⟩ : S26)] : List (S26))).bind fun y158 => (if y158.length < 3518437208883 then (clusterlocksref05_Insert.l0 k1 l0 (y158 ++ [(⟨(rd_T26 l0 x10_1).f0, (rd_T26 l0 x10_1).f1, (rd_T26 l0 x10_1).f2, (rd_T26 l0 x10_1).f3⟩ : S26)]) true (wrap64 (x10_1 + 1)) a1_0 a1_1 a1_2 a1_3) else (none))) else (none)) else (if x8_1.length < 3518437208883 then (clusterlocksref05_Insert.l0 k1 l0 (x8_1 ++ [(⟨(rd_T26 l0 x10_1).f0, (rd_T26 l0 x10_1).f1, (rd_T26 l0 x10_1).f2, (rd_T26 l0 x10_1).f3⟩ : S26)]) false (wrap64 (x10_1 + 1)) a1_0 a1_1 a1_2 a1_3) else (none))) else (none)) = some (r1, r2) := by rw [if_neg (show ¬ (false = true) by decide)] at H; exact H
          clear H
          have H := H1
          clear H1
          by_cases c44 : 0 ≤ x10_1
          ·rw [if_pos c44] at H
           have c44b0 : decide (0 ≤ x10_1) = true := decide_eq_true c44
           clear c44
           by_cases c45 : (Op.bytesLess a1_0.toList (((rd_T26 l0 x10_1).f0).toList)) = true
           ·rw [if_pos c45] at H
            have c45b0 : (Op.bytesLess a1_0.toList (((rd_T26 l0 x10_1).f0).toList)) = true := c45
            clear c45
            by_cases c46 : x8_1.length < 3518437208883
            ·rw [if_pos c46] at H
             have LMc46 := Aside0.mk c46
             clear c46
             obtain ⟨y158, hy158⟩ : ∃ y_ : List (S26), y_ = (x8_1 ++ [(⟨a1_0, a1_1, a1_2, a1_3⟩ : S26)]) := ⟨_, rfl⟩
             replace H : (if y158.length < 3518437208883 then (clusterlocksref05_Insert.l0 k1 l0 (y158 ++ [(⟨(rd_T26 l0 x10_1).f0, (rd_T26 l0 x10_1).f1, (rd_T26 l0 x10_1).f2, (rd_T26 l0 x10_1).f3⟩ : S26)]) true (wrap64 (x10_1 + 1)) a1_0 a1_1 a1_2 a1_3) else (none)) = some (r1, r2) := by first | (rw [hy158]; with_reducible exact H) | (have H2_ := (Option.bind_some _ _).symm.trans H; rw [hy158]; with_reducible exact H2_) | (have H2_ := (Option.bind_some _ _).symm.trans H; with_reducible exact H2_) | with_reducible exact H | (rw [hy158]; exact H) | exact H
             have Ny158 := Aside0.mk hy158
             clear hy158
             by_cases c47 : y158.length < 3518437208883
             ·rw [if_pos c47] at H
              have LMc47 := Aside0.mk c47
              clear c47
              obtain ⟨y162, hy162⟩ : ∃ y_ : List (S26), y_ = (y158 ++ [(⟨(rd_T26 l0 x10_1).f0, (rd_T26 l0 x10_1).f1, (rd_T26 l0 x10_1).f2, (rd_T26 l0 x10_1).f3⟩ : S26)]) := ⟨_, rfl⟩
              replace H : (clusterlocksref05_Insert.l0 k1 l0 y162 true (wrap64 (x10_1 + 1)) a1_0 a1_1 a1_2 a1_3) = some (r1, r2) := by first | (rw [hy162]; with_reducible exact H) | (have H2_ := (Option.bind_some _ _).symm.trans H; rw [hy162]; with_reducible exact H2_) | (have H2_ := (Option.bind_some _ _).symm.trans H; with_reducible exact H2_) | with_reducible exact H | (rw [hy162]; exact H) | exact H
              have Ny162 := Aside0.mk hy162
              clear hy162
              have H' := Aside0.mk H
              clear H
              have hnb48 := NB143_152.out
              have hnc48 := NB152_143.out
              obtain ⟨hcz49_0, hcz49_1, hcz49_2, hcz49_3, hfz49_0, hfz49_1, hfz49_2, hfz49_3⟩ := d4 BK143
              have p157 : 0 ≤ (x10_1 : Int) := of_decide_eq_true (by first | (with_reducible assumption) | assumption)
              have q157 : x10_1 < (l0.length : Int) := of_decide_eq_true (by first | (with_reducible assumption) | assumption)
              obtain ⟨ad157, e157, hx157_0, hx157_1, hx157_2, hx157_3⟩ := at_T26 HR0.out x10_1 p157 q157
              cases e157
              replace hx157_0 := kC HB hx157_0
              replace hx157_1 := kC HB hx157_1
              replace hx157_2 := kC HB hx157_2
              replace hx157_3 := kC HB hx157_3
              replace p157 := eq_true p157
              replace q157 := eq_true q157
              go_wp2_with (first | ((with_reducible refine gate_builtin (b := .append) (xs := #[.tmp 50, .tmp 52]) rfl ?_); at_builtin; refine Kd.R_append k26 (w0 := w) w.heap.size rfl (.tmp 50) (.tmp 52) 24 26 (.agg #[(.string ⟨#[]⟩), (.int .i64 0), (.int .i64 0), (.int .i64 0)]) 40 rfl Tryd.underlying24 info26 rfl (by decide) (by omega) u8 x8_1 (⟨a1_0, a1_1, a1_2, a1_3⟩ : S26) [.string a1_0, .int .i64 a1_1, .int .i64 a1_2, .int .i64 a1_3] (fun k_ => k_ ≠ gb143 ∧ k_ ≠ gb152) (fun _ => False) rfl rfl ?aP (fun _ hk => hk.elim) ?aF ?aO ?aB ?aS ?aL ?_; (case aP => exact k26_mkM _ _ _ (⟨a1_0, a1_1, a1_2, a1_3⟩ : S26)); (case aB => exact (haveI := gI GE152; uS HB)); (case aF => exact (fun k_ hk => ⟨Kd.freshB (g := gb143) (o := .cells #[.string a1_0, .int .i64 a1_1, .int .i64 a1_2, .int .i64 a1_3] 26 (0, 0)) (uK BK143) k_ hk, Kd.freshB (g := gb152) (o := .cells #[.string t147, .int .i64 t148, .int .i64 t149, .int .i64 t150] 26 (0, 0)) (uK BK152) k_ hk⟩)); (case aO => exact (by (with_reducible repeat (first | apply Kd.R_alloc | apply Kd.R_drewN | apply Kd.R_drew)); exact HO_8.out)); (case aS => exact (below_size (haveI := gI GE152; uS HB))); (case aL => have := LMc46.out; omega); intro v159 w50 ho hb hg hat; rw [← Ny158.out] at ho; replace BK143 := Aside0.mk (blk_grown (g := gb143) (o := .cells #[.string a1_0, .int .i64 a1_1, .int .i64 a1_2, .int .i64 a1_3] 26 (0, 0)) (uK BK143) hg (Kd.R_away HO_8.out (fun _ hk => hk.1))); replace BK152 := Aside0.mk (blk_grown (g := gb152) (o := .cells #[.string t147, .int .i64 t148, .int .i64 t149, .int .i64 t150] 26 (0, 0)) (uK BK152) hg (Kd.R_away HO_8.out (fun _ hk => hk.2))); replace HB := Aside0.mk (hb); have HO160 := Aside0.mk (ho); clear HO_8; clear ho hb hg hat; have p161 : 0 ≤ (x10_1 : Int) := of_decide_eq_true (by first | (with_reducible assumption) | assumption); have q161 : x10_1 < (l0.length : Int) := of_decide_eq_true (by first | (with_reducible assumption) | assumption); obtain ⟨ad161, e161, hx161_0, hx161_1, hx161_2, hx161_3⟩ := at_T26 HR0.out x10_1 p161 q161; obtain rfl : ad157 = ad161 := (by injection e161); replace hx161_0 := kC HB hx161_0; replace hx161_1 := kC HB hx161_1; replace hx161_2 := kC HB hx161_2; replace hx161_3 := kC HB hx161_3; replace p161 := eq_true p161; replace q161 := eq_true q161) | ((with_reducible refine gate_builtin (b := .append) (xs := #[.tmp 54, .tmp 59]) rfl ?_); at_builtin; refine Kd.R_append k26 (w0 := w) w.heap.size rfl (.tmp 54) (.tmp 59) 24 26 (.agg #[(.string ⟨#[]⟩), (.int .i64 0), (.int .i64 0), (.int .i64 0)]) 40 rfl Tryd.underlying24 info26 rfl (by decide) (by omega) v159 y158 (⟨(rd_T26 l0 x10_1).f0, (rd_T26 l0 x10_1).f1, (rd_T26 l0 x10_1).f2, (rd_T26 l0 x10_1).f3⟩ : S26) [.string ((rd_T26 l0 x10_1).f0), .int .i64 ((rd_T26 l0 x10_1).f1), .int .i64 ((rd_T26 l0 x10_1).f2), .int .i64 ((rd_T26 l0 x10_1).f3)] (fun k_ => k_ ≠ gb143 ∧ k_ ≠ gb152) (fun _ => False) rfl rfl ?aP (fun _ hk => hk.elim) ?aF ?aO ?aB ?aS ?aL ?_; (case aP => exact k26_mkM _ _ _ (⟨(rd_T26 l0 x10_1).f0, (rd_T26 l0 x10_1).f1, (rd_T26 l0 x10_1).f2, (rd_T26 l0 x10_1).f3⟩ : S26)); (case aB => exact (haveI := gI GE152; uS HB)); (case aF => exact (fun k_ hk => ⟨Kd.freshB (g := gb143) (o := .cells #[.string a1_0, .int .i64 a1_1, .int .i64 a1_2, .int .i64 a1_3] 26 (0, 0)) (uK BK143) k_ hk, Kd.freshB (g := gb152) (o := .cells #[.string t147, .int .i64 t148, .int .i64 t149, .int .i64 t150] 26 (0, 0)) (uK BK152) k_ hk⟩)); (case aO => exact (by (with_reducible repeat (first | apply Kd.R_alloc | apply Kd.R_drewN | apply Kd.R_drew)); exact HO160.out)); (case aS => exact (below_size (haveI := gI GE152; uS HB))); (case aL => have := LMc47.out; omega); intro v163 w51 ho hb hg hat; rw [← Ny162.out] at ho; replace BK143 := Aside0.mk (blk_grown (g := gb143) (o := .cells #[.string a1_0, .int .i64 a1_1, .int .i64 a1_2, .int .i64 a1_3] 26 (0, 0)) (uK BK143) hg (Kd.R_away HO160.out (fun _ hk => hk.1))); replace BK152 := Aside0.mk (blk_grown (g := gb152) (o := .cells #[.string t147, .int .i64 t148, .int .i64 t149, .int .i64 t150] 26 (0, 0)) (uK BK152) hg (Kd.R_away HO160.out (fun _ hk => hk.2))); replace HB := Aside0.mk (hb); have HO164 := Aside0.mk (ho); clear HO160; clear ho hb hg hat))
              repeat (go_quiet (first | ((with_reducible refine gate_builtin (b := .append) (xs := #[.tmp 50, .tmp 52]) rfl ?_); at_builtin; refine Kd.R_append k26 (w0 := w) w.heap.size rfl (.tmp 50) (.tmp 52) 24 26 (.agg #[(.string ⟨#[]⟩), (.int .i64 0), (.int .i64 0), (.int .i64 0)]) 40 rfl Tryd.underlying24 info26 rfl (by decide) (by omega) u8 x8_1 (⟨a1_0, a1_1, a1_2, a1_3⟩ : S26) [.string a1_0, .int .i64 a1_1, .int .i64 a1_2, .int .i64 a1_3] (fun k_ => k_ ≠ gb143 ∧ k_ ≠ gb152) (fun _ => False) rfl rfl ?aP (fun _ hk => hk.elim) ?aF ?aO ?aB ?aS ?aL ?_; (case aP => exact k26_mkM _ _ _ (⟨a1_0, a1_1, a1_2, a1_3⟩ : S26)); (case aB => exact (haveI := gI GE152; uS HB)); (case aF => exact (fun k_ hk => ⟨Kd.freshB (g := gb143) (o := .cells #[.string a1_0, .int .i64 a1_1, .int .i64 a1_2, .int .i64 a1_3] 26 (0, 0)) (uK BK143) k_ hk, Kd.freshB (g := gb152) (o := .cells #[.string t147, .int .i64 t148, .int .i64 t149, .int .i64 t150] 26 (0, 0)) (uK BK152) k_ hk⟩)); (case aO => exact (by (with_reducible repeat (first | apply Kd.R_alloc | apply Kd.R_drewN | apply Kd.R_drew)); exact HO_8.out)); (case aS => exact (below_size (haveI := gI GE152; uS HB))); (case aL => have := LMc46.out; omega); intro v159 w50 ho hb hg hat; rw [← Ny158.out] at ho; replace BK143 := Aside0.mk (blk_grown (g := gb143) (o := .cells #[.string a1_0, .int .i64 a1_1, .int .i64 a1_2, .int .i64 a1_3] 26 (0, 0)) (uK BK143) hg (Kd.R_away HO_8.out (fun _ hk => hk.1))); replace BK152 := Aside0.mk (blk_grown (g := gb152) (o := .cells #[.string t147, .int .i64 t148, .int .i64 t149, .int .i64 t150] 26 (0, 0)) (uK BK152) hg (Kd.R_away HO_8.out (fun _ hk => hk.2))); replace HB := Aside0.mk (hb); have HO160 := Aside0.mk (ho); clear HO_8; clear ho hb hg hat; have p161 : 0 ≤ (x10_1 : Int) := of_decide_eq_true (by first | (with_reducible assumption) | assumption); have q161 : x10_1 < (l0.length : Int) := of_decide_eq_true (by first | (with_reducible assumption) | assumption); obtain ⟨ad161, e161, hx161_0, hx161_1, hx161_2, hx161_3⟩ := at_T26 HR0.out x10_1 p161 q161; obtain rfl : ad157 = ad161 := (by injection e161); replace hx161_0 := kC HB hx161_0; replace hx161_1 := kC HB hx161_1; replace hx161_2 := kC HB hx161_2; replace hx161_3 := kC HB hx161_3; replace p161 := eq_true p161; replace q161 := eq_true q161) | ((with_reducible refine gate_builtin (b := .append) (xs := #[.tmp 54, .tmp 59]) rfl ?_); at_builtin; refine Kd.R_append k26 (w0 := w) w.heap.size rfl (.tmp 54) (.tmp 59) 24 26 (.agg #[(.string ⟨#[]⟩), (.int .i64 0), (.int .i64 0), (.int .i64 0)]) 40 rfl Tryd.underlying24 info26 rfl (by decide) (by omega) v159 y158 (⟨(rd_T26 l0 x10_1).f0, (rd_T26 l0 x10_1).f1, (rd_T26 l0 x10_1).f2, (rd_T26 l0 x10_1).f3⟩ : S26) [.string ((rd_T26 l0 x10_1).f0), .int .i64 ((rd_T26 l0 x10_1).f1), .int .i64 ((rd_T26 l0 x10_1).f2), .int .i64 ((rd_T26 l0 x10_1).f3)] (fun k_ => k_ ≠ gb143 ∧ k_ ≠ gb152) (fun _ => False) rfl rfl ?aP (fun _ hk => hk.elim) ?aF ?aO ?aB ?aS ?aL ?_; (case aP => exact k26_mkM _ _ _ (⟨(rd_T26 l0 x10_1).f0, (rd_T26 l0 x10_1).f1, (rd_T26 l0 x10_1).f2, (rd_T26 l0 x10_1).f3⟩ : S26)); (case aB => exact (haveI := gI GE152; uS HB)); (case aF => exact (fun k_ hk => ⟨Kd.freshB (g := gb143) (o := .cells #[.string a1_0, .int .i64 a1_1, .int .i64 a1_2, .int .i64 a1_3] 26 (0, 0)) (uK BK143) k_ hk, Kd.freshB (g := gb152) (o := .cells #[.string t147, .int .i64 t148, .int .i64 t149, .int .i64 t150] 26 (0, 0)) (uK BK152) k_ hk⟩)); (case aO => exact (by (with_reducible repeat (first | apply Kd.R_alloc | apply Kd.R_drewN | apply Kd.R_drew)); exact HO160.out)); (case aS => exact (below_size (haveI := gI GE152; uS HB))); (case aL => have := LMc47.out; omega); intro v163 w51 ho hb hg hat; rw [← Ny162.out] at ho; replace BK143 := Aside0.mk (blk_grown (g := gb143) (o := .cells #[.string a1_0, .int .i64 a1_1, .int .i64 a1_2, .int .i64 a1_3] 26 (0, 0)) (uK BK143) hg (Kd.R_away HO160.out (fun _ hk => hk.1))); replace BK152 := Aside0.mk (blk_grown (g := gb152) (o := .cells #[.string t147, .int .i64 t148, .int .i64 t149, .int .i64 t150] 26 (0, 0)) (uK BK152) hg (Kd.R_away HO160.out (fun _ hk => hk.2))); replace HB := Aside0.mk (hb); have HO164 := Aside0.mk (ho); clear HO160; clear ho hb hg hat)); try go_wp2_with (first | ((with_reducible refine gate_builtin (b := .append) (xs := #[.tmp 50, .tmp 52]) rfl ?_); at_builtin; refine Kd.R_append k26 (w0 := w) w.heap.size rfl (.tmp 50) (.tmp 52) 24 26 (.agg #[(.string ⟨#[]⟩), (.int .i64 0), (.int .i64 0), (.int .i64 0)]) 40 rfl Tryd.underlying24 info26 rfl (by decide) (by omega) u8 x8_1 (⟨a1_0, a1_1, a1_2, a1_3⟩ : S26) [.string a1_0, .int .i64 a1_1, .int .i64 a1_2, .int .i64 a1_3] (fun k_ => k_ ≠ gb143 ∧ k_ ≠ gb152) (fun _ => False) rfl rfl ?aP (fun _ hk => hk.elim) ?aF ?aO ?aB ?aS ?aL ?_; (case aP => exact k26_mkM _ _ _ (⟨a1_0, a1_1, a1_2, a1_3⟩ : S26)); (case aB => exact (haveI := gI GE152; uS HB)); (case aF => exact (fun k_ hk => ⟨Kd.freshB (g := gb143) (o := .cells #[.string a1_0, .int .i64 a1_1, .int .i64 a1_2, .int .i64 a1_3] 26 (0, 0)) (uK BK143) k_ hk, Kd.freshB (g := gb152) (o := .cells #[.string t147, .int .i64 t148, .int .i64 t149, .int .i64 t150] 26 (0, 0)) (uK BK152) k_ hk⟩)); (case aO => exact (by (with_reducible repeat (first | apply Kd.R_alloc | apply Kd.R_drewN | apply Kd.R_drew)); exact HO_8.out)); (case aS => exact (below_size (haveI := gI GE152; uS HB))); (case aL => have := LMc46.out; omega); intro v159 w50 ho hb hg hat; rw [← Ny158.out] at ho; replace BK143 := Aside0.mk (blk_grown (g := gb143) (o := .cells #[.string a1_0, .int .i64 a1_1, .int .i64 a1_2, .int .i64 a1_3] 26 (0, 0)) (uK BK143) hg (Kd.R_away HO_8.out (fun _ hk => hk.1))); replace BK152 := Aside0.mk (blk_grown (g := gb152) (o := .cells #[.string t147, .int .i64 t148, .int .i64 t149, .int .i64 t150] 26 (0, 0)) (uK BK152) hg (Kd.R_away HO_8.out (fun _ hk => hk.2))); replace HB := Aside0.mk (hb); have HO160 := Aside0.mk (ho); clear HO_8; clear ho hb hg hat; have p161 : 0 ≤ (x10_1 : Int) := of_decide_eq_true (by first | (with_reducible assumption) | assumption); have q161 : x10_1 < (l0.length : Int) := of_decide_eq_true (by first | (with_reducible assumption) | assumption); obtain ⟨ad161, e161, hx161_0, hx161_1, hx161_2, hx161_3⟩ := at_T26 HR0.out x10_1 p161 q161; obtain rfl : ad157 = ad161 := (by injection e161); replace hx161_0 := kC HB hx161_0; replace hx161_1 := kC HB hx161_1; replace hx161_2 := kC HB hx161_2; replace hx161_3 := kC HB hx161_3; replace p161 := eq_true p161; replace q161 := eq_true q161) | ((with_reducible refine gate_builtin (b := .append) (xs := #[.tmp 54, .tmp 59]) rfl ?_); at_builtin; refine Kd.R_append k26 (w0 := w) w.heap.size rfl (.tmp 54) (.tmp 59) 24 26 (.agg #[(.string ⟨#[]⟩), (.int .i64 0), (.int .i64 0), (.int .i64 0)]) 40 rfl Tryd.underlying24 info26 rfl (by decide) (by omega) v159 y158 (⟨(rd_T26 l0 x10_1).f0, (rd_T26 l0 x10_1).f1, (rd_T26 l0 x10_1).f2, (rd_T26 l0 x10_1).f3⟩ : S26) [.string ((rd_T26 l0 x10_1).f0), .int .i64 ((rd_T26 l0 x10_1).f1), .int .i64 ((rd_T26 l0 x10_1).f2), .int .i64 ((rd_T26 l0 x10_1).f3)] (fun k_ => k_ ≠ gb143 ∧ k_ ≠ gb152) (fun _ => False) rfl rfl ?aP (fun _ hk => hk.elim) ?aF ?aO ?aB ?aS ?aL ?_; (case aP => exact k26_mkM _ _ _ (⟨(rd_T26 l0 x10_1).f0, (rd_T26 l0 x10_1).f1, (rd_T26 l0 x10_1).f2, (rd_T26 l0 x10_1).f3⟩ : S26)); (case aB => exact (haveI := gI GE152; uS HB)); (case aF => exact (fun k_ hk => ⟨Kd.freshB (g := gb143) (o := .cells #[.string a1_0, .int .i64 a1_1, .int .i64 a1_2, .int .i64 a1_3] 26 (0, 0)) (uK BK143) k_ hk, Kd.freshB (g := gb152) (o := .cells #[.string t147, .int .i64 t148, .int .i64 t149, .int .i64 t150] 26 (0, 0)) (uK BK152) k_ hk⟩)); (case aO => exact (by (with_reducible repeat (first | apply Kd.R_alloc | apply Kd.R_drewN | apply Kd.R_drew)); exact HO160.out)); (case aS => exact (below_size (haveI := gI GE152; uS HB))); (case aL => have := LMc47.out; omega); intro v163 w51 ho hb hg hat; rw [← Ny162.out] at ho; replace BK143 := Aside0.mk (blk_grown (g := gb143) (o := .cells #[.string a1_0, .int .i64 a1_1, .int .i64 a1_2, .int .i64 a1_3] 26 (0, 0)) (uK BK143) hg (Kd.R_away HO160.out (fun _ hk => hk.1))); replace BK152 := Aside0.mk (blk_grown (g := gb152) (o := .cells #[.string t147, .int .i64 t148, .int .i64 t149, .int .i64 t150] 26 (0, 0)) (uK BK152) hg (Kd.R_away HO160.out (fun _ hk => hk.2))); replace HB := Aside0.mk (hb); have HO164 := Aside0.mk (ho); clear HO160; clear ho hb hg hat)))
              go_roundg k1
              case measure => have := HK1.out; omega
              case rel => exact ⟨(y162), (true), (wrap64 (x10_1 + 1)), (by first | rfl | (simp; done) | (simp [*]; done)), (by first | rfl | (simp; done) | (simp [*]; done)), H', ⟨by have := HK1.out; omega⟩, ⟨by (with_reducible repeat (first | apply Kd.R_alloc | apply Kd.R_drewN | apply Kd.R_drew)); exact HO164.out⟩, ⟨uK BK143⟩, ⟨uK BK152⟩, ⟨(haveI := gI GE152; uS HB)⟩⟩
             ·rw [if_neg c47] at H
              exact absurd H (by simp)
            ·rw [if_neg c46] at H
             exact absurd H (by simp)
           ·rw [if_neg c45] at H
            have c45b0 : (Op.bytesLess a1_0.toList (((rd_T26 l0 x10_1).f0).toList)) = false := by simpa using c45
            clear c45
            by_cases c52 : x8_1.length < 3518437208883
            ·rw [if_pos c52] at H
             have LMc52 := Aside0.mk c52
             clear c52
             obtain ⟨y166, hy166⟩ : ∃ y_ : List (S26), y_ = (x8_1 ++ [(⟨(rd_T26 l0 x10_1).f0, (rd_T26 l0 x10_1).f1, (rd_T26 l0 x10_1).f2, (rd_T26 l0 x10_1).f3⟩ : S26)]) := ⟨_, rfl⟩
             replace H : (clusterlocksref05_Insert.l0 k1 l0 y166 false (wrap64 (x10_1 + 1)) a1_0 a1_1 a1_2 a1_3) = some (r1, r2) := by first | (rw [hy166]; with_reducible exact H) | (have H2_ := (Option.bind_some _ _).symm.trans H; rw [hy166]; with_reducible exact H2_) | (have H2_ := (Option.bind_some _ _).symm.trans H; with_reducible exact H2_) | with_reducible exact H | (rw [hy166]; exact H) | exact H
             have Ny166 := Aside0.mk hy166
             clear hy166
             have H' := Aside0.mk H
             clear H
             have hnb53 := NB143_152.out
             have hnc53 := NB152_143.out
             obtain ⟨hcz54_0, hcz54_1, hcz54_2, hcz54_3, hfz54_0, hfz54_1, hfz54_2, hfz54_3⟩ := d4 BK143
             have p157 : 0 ≤ (x10_1 : Int) := of_decide_eq_true (by first | (with_reducible assumption) | assumption)
             have q157 : x10_1 < (l0.length : Int) := of_decide_eq_true (by first | (with_reducible assumption) | assumption)
             obtain ⟨ad157, e157, hx157_0, hx157_1, hx157_2, hx157_3⟩ := at_T26 HR0.out x10_1 p157 q157
             cases e157
             replace hx157_0 := kC HB hx157_0
             replace hx157_1 := kC HB hx157_1
             replace hx157_2 := kC HB hx157_2
             replace hx157_3 := kC HB hx157_3
             replace p157 := eq_true p157
             replace q157 := eq_true q157
             have p165 : 0 ≤ (x10_1 : Int) := of_decide_eq_true (by first | (with_reducible assumption) | assumption)
             have q165 : x10_1 < (l0.length : Int) := of_decide_eq_true (by first | (with_reducible assumption) | assumption)
             obtain ⟨ad165, e165, hx165_0, hx165_1, hx165_2, hx165_3⟩ := at_T26 HR0.out x10_1 p165 q165
             obtain rfl : ad157 = ad165 := (by injection e165)
             replace hx165_0 := kC HB hx165_0
             replace hx165_1 := kC HB hx165_1
             replace hx165_2 := kC HB hx165_2
             replace hx165_3 := kC HB hx165_3
             replace p165 := eq_true p165
             replace q165 := eq_true q165
             go_wp2_with (first | ((with_reducible refine gate_builtin (b := .append) (xs := #[.tmp 54, .tmp 59]) rfl ?_); at_builtin; refine Kd.R_append k26 (w0 := w) w.heap.size rfl (.tmp 54) (.tmp 59) 24 26 (.agg #[(.string ⟨#[]⟩), (.int .i64 0), (.int .i64 0), (.int .i64 0)]) 40 rfl Tryd.underlying24 info26 rfl (by decide) (by omega) u8 x8_1 (⟨(rd_T26 l0 x10_1).f0, (rd_T26 l0 x10_1).f1, (rd_T26 l0 x10_1).f2, (rd_T26 l0 x10_1).f3⟩ : S26) [.string ((rd_T26 l0 x10_1).f0), .int .i64 ((rd_T26 l0 x10_1).f1), .int .i64 ((rd_T26 l0 x10_1).f2), .int .i64 ((rd_T26 l0 x10_1).f3)] (fun k_ => k_ ≠ gb143 ∧ k_ ≠ gb152) (fun _ => False) rfl rfl ?aP (fun _ hk => hk.elim) ?aF ?aO ?aB ?aS ?aL ?_; (case aP => exact k26_mkM _ _ _ (⟨(rd_T26 l0 x10_1).f0, (rd_T26 l0 x10_1).f1, (rd_T26 l0 x10_1).f2, (rd_T26 l0 x10_1).f3⟩ : S26)); (case aB => exact (haveI := gI GE152; uS HB)); (case aF => exact (fun k_ hk => ⟨Kd.freshB (g := gb143) (o := .cells #[.string a1_0, .int .i64 a1_1, .int .i64 a1_2, .int .i64 a1_3] 26 (0, 0)) (uK BK143) k_ hk, Kd.freshB (g := gb152) (o := .cells #[.string t147, .int .i64 t148, .int .i64 t149, .int .i64 t150] 26 (0, 0)) (uK BK152) k_ hk⟩)); (case aO => exact (by (with_reducible repeat (first | apply Kd.R_alloc | apply Kd.R_drewN | apply Kd.R_drew)); exact HO_8.out)); (case aS => exact (below_size (haveI := gI GE152; uS HB))); (case aL => have := LMc52.out; omega); intro v167 w55 ho hb hg hat; rw [← Ny166.out] at ho; replace BK143 := Aside0.mk (blk_grown (g := gb143) (o := .cells #[.string a1_0, .int .i64 a1_1, .int .i64 a1_2, .int .i64 a1_3] 26 (0, 0)) (uK BK143) hg (Kd.R_away HO_8.out (fun _ hk => hk.1))); replace BK152 := Aside0.mk (blk_grown (g := gb152) (o := .cells #[.string t147, .int .i64 t148, .int .i64 t149, .int .i64 t150] 26 (0, 0)) (uK BK152) hg (Kd.R_away HO_8.out (fun _ hk => hk.2))); replace HB := Aside0.mk (hb); have HO168 := Aside0.mk (ho); clear HO_8; clear ho hb hg hat))
             repeat (go_quiet (first | ((with_reducible refine gate_builtin (b := .append) (xs := #[.tmp 54, .tmp 59]) rfl ?_); at_builtin; refine Kd.R_append k26 (w0 := w) w.heap.size rfl (.tmp 54) (.tmp 59) 24 26 (.agg #[(.string ⟨#[]⟩), (.int .i64 0), (.int .i64 0), (.int .i64 0)]) 40 rfl Tryd.underlying24 info26 rfl (by decide) (by omega) u8 x8_1 (⟨(rd_T26 l0 x10_1).f0, (rd_T26 l0 x10_1).f1, (rd_T26 l0 x10_1).f2, (rd_T26 l0 x10_1).f3⟩ : S26) [.string ((rd_T26 l0 x10_1).f0), .int .i64 ((rd_T26 l0 x10_1).f1), .int .i64 ((rd_T26 l0 x10_1).f2), .int .i64 ((rd_T26 l0 x10_1).f3)] (fun k_ => k_ ≠ gb143 ∧ k_ ≠ gb152) (fun _ => False) rfl rfl ?aP (fun _ hk => hk.elim) ?aF ?aO ?aB ?aS ?aL ?_; (case aP => exact k26_mkM _ _ _ (⟨(rd_T26 l0 x10_1).f0, (rd_T26 l0 x10_1).f1, (rd_T26 l0 x10_1).f2, (rd_T26 l0 x10_1).f3⟩ : S26)); (case aB => exact (haveI := gI GE152; uS HB)); (case aF => exact (fun k_ hk => ⟨Kd.freshB (g := gb143) (o := .cells #[.string a1_0, .int .i64 a1_1, .int .i64 a1_2, .int .i64 a1_3] 26 (0, 0)) (uK BK143) k_ hk, Kd.freshB (g := gb152) (o := .cells #[.string t147, .int .i64 t148, .int .i64 t149, .int .i64 t150] 26 (0, 0)) (uK BK152) k_ hk⟩)); (case aO => exact (by (with_reducible repeat (first | apply Kd.R_alloc | apply Kd.R_drewN | apply Kd.R_drew)); exact HO_8.out)); (case aS => exact (below_size (haveI := gI GE152; uS HB))); (case aL => have := LMc52.out; omega); intro v167 w55 ho hb hg hat; rw [← Ny166.out] at ho; replace BK143 := Aside0.mk (blk_grown (g := gb143) (o := .cells #[.string a1_0, .int .i64 a1_1, .int .i64 a1_2, .int .i64 a1_3] 26 (0, 0)) (uK BK143) hg (Kd.R_away HO_8.out (fun _ hk => hk.1))); replace BK152 := Aside0.mk (blk_grown (g := gb152) (o := .cells #[.string t147, .int .i64 t148, .int .i64 t149, .int .i64 t150] 26 (0, 0)) (uK BK152) hg (Kd.R_away HO_8.out (fun _ hk => hk.2))); replace HB := Aside0.mk (hb); have HO168 := Aside0.mk (ho); clear HO_8; clear ho hb hg hat)); try go_wp2_with (first | ((with_reducible refine gate_builtin (b := .append) (xs := #[.tmp 54, .tmp 59]) rfl ?_); at_builtin; refine Kd.R_append k26 (w0 := w) w.heap.size rfl (.tmp 54) (.tmp 59) 24 26 (.agg #[(.string ⟨#[]⟩), (.int .i64 0), (.int .i64 0), (.int .i64 0)]) 40 rfl Tryd.underlying24 info26 rfl (by decide) (by omega) u8 x8_1 (⟨(rd_T26 l0 x10_1).f0, (rd_T26 l0 x10_1).f1, (rd_T26 l0 x10_1).f2, (rd_T26 l0 x10_1).f3⟩ : S26) [.string ((rd_T26 l0 x10_1).f0), .int .i64 ((rd_T26 l0 x10_1).f1), .int .i64 ((rd_T26 l0 x10_1).f2), .int .i64 ((rd_T26 l0 x10_1).f3)] (fun k_ => k_ ≠ gb143 ∧ k_ ≠ gb152) (fun _ => False) rfl rfl ?aP (fun _ hk => hk.elim) ?aF ?aO ?aB ?aS ?aL ?_; (case aP => exact k26_mkM _ _ _ (⟨(rd_T26 l0 x10_1).f0, (rd_T26 l0 x10_1).f1, (rd_T26 l0 x10_1).f2, (rd_T26 l0 x10_1).f3⟩ : S26)); (case aB => exact (haveI := gI GE152; uS HB)); (case aF => exact (fun k_ hk => ⟨Kd.freshB (g := gb143) (o := .cells #[.string a1_0, .int .i64 a1_1, .int .i64 a1_2, .int .i64 a1_3] 26 (0, 0)) (uK BK143) k_ hk, Kd.freshB (g := gb152) (o := .cells #[.string t147, .int .i64 t148, .int .i64 t149, .int .i64 t150] 26 (0, 0)) (uK BK152) k_ hk⟩)); (case aO => exact (by (with_reducible repeat (first | apply Kd.R_alloc | apply Kd.R_drewN | apply Kd.R_drew)); exact HO_8.out)); (case aS => exact (below_size (haveI := gI GE152; uS HB))); (case aL => have := LMc52.out; omega); intro v167 w55 ho hb hg hat; rw [← Ny166.out] at ho; replace BK143 := Aside0.mk (blk_grown (g := gb143) (o := .cells #[.string a1_0, .int .i64 a1_1, .int .i64 a1_2, .int .i64 a1_3] 26 (0, 0)) (uK BK143) hg (Kd.R_away HO_8.out (fun _ hk => hk.1))); replace BK152 := Aside0.mk (blk_grown (g := gb152) (o := .cells #[.string t147, .int .i64 t148, .int .i64 t149, .int .i64 t150] 26 (0, 0)) (uK BK152) hg (Kd.R_away HO_8.out (fun _ hk => hk.2))); replace HB := Aside0.mk (hb); have HO168 := Aside0.mk (ho); clear HO_8; clear ho hb hg hat)))
             go_roundg k1
             case measure => have := HK1.out; omega
             case rel => exact ⟨(y166), (false), (wrap64 (x10_1 + 1)), (by first | rfl | (simp; done) | (simp [*]; done)), (by first | rfl | (simp; done) | (simp [*]; done)), H', ⟨by have := HK1.out; omega⟩, ⟨by (with_reducible repeat (first | apply Kd.R_alloc | apply Kd.R_drewN | apply Kd.R_drew)); exact HO168.out⟩, ⟨uK BK143⟩, ⟨uK BK152⟩, ⟨(haveI := gI GE152; uS HB)⟩⟩
            ·rw [if_neg c52] at H
             exact absurd H (by simp)
          ·rw [if_neg c44] at H
           exact absurd H (by simp)
        ·rw [if_neg c39] at H
         have c39b0 : decide (x10_1 < (l0.length : Int)) = false := decide_eq_false c39
         clear c39
         by_cases c56 : x9_1 = true
         ·subst c56
          have H1 : (some (x8_1, 0)) = some (r1, r2) := by rw [if_pos rfl] at H; exact H
          clear H
          have H := H1
          clear H1
          simp only [Option.some.injEq, Prod.mk.injEq] at H
          obtain ⟨rfl, rfl⟩ := H
          go_wp2
          repeat (go_quiet (fail); try go_wp2)
          go_ret2
          exact ⟨_, by first | rfl | (simp [errW_none, errW_some] <;> rfl) | (simp [*, errW_none, errW_some] <;> rfl), by (with_reducible repeat (first | apply Kd.R_alloc | apply Kd.R_drewN | apply Kd.R_drew)); exact Kd.R_mono HO_8.out (fun _ hk => trivial), (haveI := gI GE152; uS HB)⟩
         ·replace c56 := Bool.eq_false_iff.mpr c56
          subst c56
          have H1 : (if x8_1.length < 3518437208883 then (some ((x8_1 ++ [(⟨a1_0, a1_1, a1_2, a1_3⟩ : S26)]), 0)) else (none)) = some (r1, r2) := by rw [if_neg (show ¬ (false = true) by decide)] at H; exact H
          clear H
          have H := H1
          clear H1
          by_cases c57 : x8_1.length < 3518437208883
          ·rw [if_pos c57] at H
           have LMc57 := Aside0.mk c57
           clear c57
           obtain ⟨y169, hy169⟩ : ∃ y_ : List (S26), y_ = (x8_1 ++ [(⟨a1_0, a1_1, a1_2, a1_3⟩ : S26)]) := ⟨_, rfl⟩
           replace H : (some (y169, 0)) = some (r1, r2) := by first | (rw [hy169]; with_reducible exact H) | (have H2_ := (Option.bind_some _ _).symm.trans H; rw [hy169]; with_reducible exact H2_) | (have H2_ := (Option.bind_some _ _).symm.trans H; with_reducible exact H2_) | with_reducible exact H | (rw [hy169]; exact H) | exact H
           have Ny169 := Aside0.mk hy169
           clear hy169
           simp only [Option.some.injEq, Prod.mk.injEq] at H
           obtain ⟨rfl, rfl⟩ := H
           have hnb58 := NB143_152.out
           have hnc58 := NB152_143.out
           obtain ⟨hcz59_0, hcz59_1, hcz59_2, hcz59_3, hfz59_0, hfz59_1, hfz59_2, hfz59_3⟩ := d4 BK143
           go_wp2_with (first | ((with_reducible refine gate_builtin (b := .append) (xs := #[.tmp 63, .tmp 65]) rfl ?_); at_builtin; refine Kd.R_append k26 (w0 := w) w.heap.size rfl (.tmp 63) (.tmp 65) 24 26 (.agg #[(.string ⟨#[]⟩), (.int .i64 0), (.int .i64 0), (.int .i64 0)]) 40 rfl Tryd.underlying24 info26 rfl (by decide) (by omega) u8 x8_1 (⟨a1_0, a1_1, a1_2, a1_3⟩ : S26) [.string a1_0, .int .i64 a1_1, .int .i64 a1_2, .int .i64 a1_3] (fun k_ => k_ ≠ gb143 ∧ k_ ≠ gb152) (fun _ => False) rfl rfl ?aP (fun _ hk => hk.elim) ?aF ?aO ?aB ?aS ?aL ?_; (case aP => exact k26_mkM _ _ _ (⟨a1_0, a1_1, a1_2, a1_3⟩ : S26)); (case aB => exact (haveI := gI GE152; uS HB)); (case aF => exact (fun k_ hk => ⟨Kd.freshB (g := gb143) (o := .cells #[.string a1_0, .int .i64 a1_1, .int .i64 a1_2, .int .i64 a1_3] 26 (0, 0)) (uK BK143) k_ hk, Kd.freshB (g := gb152) (o := .cells #[.string t147, .int .i64 t148, .int .i64 t149, .int .i64 t150] 26 (0, 0)) (uK BK152) k_ hk⟩)); (case aO => exact (by (with_reducible repeat (first | apply Kd.R_alloc | apply Kd.R_drewN | apply Kd.R_drew)); exact HO_8.out)); (case aS => exact (below_size (haveI := gI GE152; uS HB))); (case aL => have := LMc57.out; omega); intro v170 w60 ho hb hg hat; rw [← Ny169.out] at ho; replace BK143 := Aside0.mk (blk_grown (g := gb143) (o := .cells #[.string a1_0, .int .i64 a1_1, .int .i64 a1_2, .int .i64 a1_3] 26 (0, 0)) (uK BK143) hg (Kd.R_away HO_8.out (fun _ hk => hk.1))); replace BK152 := Aside0.mk (blk_grown (g := gb152) (o := .cells #[.string t147, .int .i64 t148, .int .i64 t149, .int .i64 t150] 26 (0, 0)) (uK BK152) hg (Kd.R_away HO_8.out (fun _ hk => hk.2))); replace HB := Aside0.mk (hb); have HO171 := Aside0.mk (ho); clear HO_8; clear ho hb hg hat))
           repeat (go_quiet (first | ((with_reducible refine gate_builtin (b := .append) (xs := #[.tmp 63, .tmp 65]) rfl ?_); at_builtin; refine Kd.R_append k26 (w0 := w) w.heap.size rfl (.tmp 63) (.tmp 65) 24 26 (.agg #[(.string ⟨#[]⟩), (.int .i64 0), (.int .i64 0), (.int .i64 0)]) 40 rfl Tryd.underlying24 info26 rfl (by decide) (by omega) u8 x8_1 (⟨a1_0, a1_1, a1_2, a1_3⟩ : S26) [.string a1_0, .int .i64 a1_1, .int .i64 a1_2, .int .i64 a1_3] (fun k_ => k_ ≠ gb143 ∧ k_ ≠ gb152) (fun _ => False) rfl rfl ?aP (fun _ hk => hk.elim) ?aF ?aO ?aB ?aS ?aL ?_; (case aP => exact k26_mkM _ _ _ (⟨a1_0, a1_1, a1_2, a1_3⟩ : S26)); (case aB => exact (haveI := gI GE152; uS HB)); (case aF => exact (fun k_ hk => ⟨Kd.freshB (g := gb143) (o := .cells #[.string a1_0, .int .i64 a1_1, .int .i64 a1_2, .int .i64 a1_3] 26 (0, 0)) (uK BK143) k_ hk, Kd.freshB (g := gb152) (o := .cells #[.string t147, .int .i64 t148, .int .i64 t149, .int .i64 t150] 26 (0, 0)) (uK BK152) k_ hk⟩)); (case aO => exact (by (with_reducible repeat (first | apply Kd.R_alloc | apply Kd.R_drewN | apply Kd.R_drew)); exact HO_8.out)); (case aS => exact (below_size (haveI := gI GE152; uS HB))); (case aL => have := LMc57.out; omega); intro v170 w60 ho hb hg hat; rw [← Ny169.out] at ho; replace BK143 := Aside0.mk (blk_grown (g := gb143) (o := .cells #[.string a1_0, .int .i64 a1_1, .int .i64 a1_2, .int .i64 a1_3] 26 (0, 0)) (uK BK143) hg (Kd.R_away HO_8.out (fun _ hk => hk.1))); replace BK152 := Aside0.mk (blk_grown (g := gb152) (o := .cells #[.string t147, .int .i64 t148, .int .i64 t149, .int .i64 t150] 26 (0, 0)) (uK BK152) hg (Kd.R_away HO_8.out (fun _ hk => hk.2))); replace HB := Aside0.mk (hb); have HO171 := Aside0.mk (ho); clear HO_8; clear ho hb hg hat)); try go_wp2_with (first | ((with_reducible refine gate_builtin (b := .append) (xs := #[.tmp 63, .tmp 65]) rfl ?_); at_builtin; refine Kd.R_append k26 (w0 := w) w.heap.size rfl (.tmp 63) (.tmp 65) 24 26 (.agg #[(.string ⟨#[]⟩), (.int .i64 0), (.int .i64 0), (.int .i64 0)]) 40 rfl Tryd.underlying24 info26 rfl (by decide) (by omega) u8 x8_1 (⟨a1_0, a1_1, a1_2, a1_3⟩ : S26) [.string a1_0, .int .i64 a1_1, .int .i64 a1_2, .int .i64 a1_3] (fun k_ => k_ ≠ gb143 ∧ k_ ≠ gb152) (fun _ => False) rfl rfl ?aP (fun _ hk => hk.elim) ?aF ?aO ?aB ?aS ?aL ?_; (case aP => exact k26_mkM _ _ _ (⟨a1_0, a1_1, a1_2, a1_3⟩ : S26)); (case aB => exact (haveI := gI GE152; uS HB)); (case aF => exact (fun k_ hk => ⟨Kd.freshB (g := gb143) (o := .cells #[.string a1_0, .int .i64 a1_1, .int .i64 a1_2, .int .i64 a1_3] 26 (0, 0)) (uK BK143) k_ hk, Kd.freshB (g := gb152) (o := .cells #[.string t147, .int .i64 t148, .int .i64 t149, .int .i64 t150] 26 (0, 0)) (uK BK152) k_ hk⟩)); (case aO => exact (by (with_reducible repeat (first | apply Kd.R_alloc | apply Kd.R_drewN | apply Kd.R_drew)); exact HO_8.out)); (case aS => exact (below_size (haveI := gI GE152; uS HB))); (case aL => have := LMc57.out; omega); intro v170 w60 ho hb hg hat; rw [← Ny169.out] at ho; replace BK143 := Aside0.mk (blk_grown (g := gb143) (o := .cells #[.string a1_0, .int .i64 a1_1, .int .i64 a1_2, .int .i64 a1_3] 26 (0, 0)) (uK BK143) hg (Kd.R_away HO_8.out (fun _ hk => hk.1))); replace BK152 := Aside0.mk (blk_grown (g := gb152) (o := .cells #[.string t147, .int .i64 t148, .int .i64 t149, .int .i64 t150] 26 (0, 0)) (uK BK152) hg (Kd.R_away HO_8.out (fun _ hk => hk.2))); replace HB := Aside0.mk (hb); have HO171 := Aside0.mk (ho); clear HO_8; clear ho hb hg hat)))
           go_ret2
           exact ⟨_, by first | rfl | (simp [errW_none, errW_some] <;> rfl) | (simp [*, errW_none, errW_some] <;> rfl), by (with_reducible repeat (first | apply Kd.R_alloc | apply Kd.R_drewN | apply Kd.R_drew)); exact Kd.R_mono HO171.out (fun _ hk => trivial), (haveI := gI GE152; uS HB)⟩
          ·rw [if_neg c57] at H
           exact absurd H (by simp)
   ·replace c8 := Bool.eq_false_iff.mpr c8
    subst c8
    have H1 : (some (([] : List (S26)), 1)) = some (r1, r2) := by rw [if_neg (show ¬ (false = true) by decide)] at H; exact H
    clear H
    have H := H1
    clear H1
    simp only [Option.some.injEq, Prod.mk.injEq] at H
    obtain ⟨rfl, rfl⟩ := H
    go_enter Tryd.func23, Tryd.ntmps23
    go_wp2_with (first | ((with_reducible refine gate_dst (N := 3) rfl ?_); refine box_event ?hg (N := 3) ?hd (cs := #[.string a1_0, .int .i64 a1_1, .int .i64 a1_2, .int .i64 a1_3]) (t := 26) ?hr ?_; (case hd => rfl); (case hg => rfl); (case hr => first | (go_simp; done) | (go_simp; rfl)); intro gb143 hg w61 hbox hb; have BK143 := Aside0.mk hbox; have GW143 := gE HB hg; replace HB := bB HB hb; have GE143 := GW143; clear hb hbox hg) | (go_at_call 21; (with_reducible refine (clusterlocksref05_Valid.calls k _ _ l0 true _ ?side1 ?side2 A3.out).mono ?_); (case side1 => repeat (first | exact (Kd.C_below HR0.out HB.out) | (with_reducible refine Kd.C_alloc ?_ _) | (with_reducible refine Kd.C_drewN ?_ _) | (with_reducible refine Kd.C_drew ?_))); (case side2 => exact HC0.out); rintro e w62 ⟨rfl, hb⟩; replace BK143 := bK BK143 hb; replace HB := bB HB hb; (try clear hb); (try clear hk); have hcz63_0 : w62.cell? ⟨gb143, 0, none⟩ = some (.string a1_0) := bC BK143 0 rfl; have hcz63_1 : w62.cell? ⟨gb143, 1, none⟩ = some (.int .i64 a1_1) := bC BK143 1 rfl; have hcz63_2 : w62.cell? ⟨gb143, 2, none⟩ = some (.int .i64 a1_2) := bC BK143 2 rfl; have hcz63_3 : w62.cell? ⟨gb143, 3, none⟩ = some (.int .i64 a1_3) := bC BK143 3 rfl; have hfz63_0 := bF BK143 0; have hfz63_1 := bF BK143 1; have hfz63_2 := bF BK143 2; have hfz63_3 := bF BK143 3) | (go_at_call 17; (with_reducible refine (clusterlocksref05_ValidName.calls k a1_0 true _ A5.out).mono ?_); rintro e w' ⟨rfl, ⟨nd, rfl⟩⟩; (try first | exact ⟨rfl, _, World.drewN_drewN _ _ _⟩ | exact ⟨rfl, _, Eq.trans (World.drewN_drewN _ _ _) (congrArg (World.drewN _) (Nat.add_assoc _ _ _))⟩)) | (go_at_call 19; (with_reducible refine (clusterlocksref05_ValidResource.calls k a1_0 a1_1 a1_2 a1_3 false _ A7.out).mono ?_); rintro e w64 ⟨rfl, hb⟩; replace BK143 := bK BK143 hb; replace HB := bB HB hb; (try clear hb); (try clear hk)))
    repeat (go_quiet (first | ((with_reducible refine gate_dst (N := 3) rfl ?_); refine box_event ?hg (N := 3) ?hd (cs := #[.string a1_0, .int .i64 a1_1, .int .i64 a1_2, .int .i64 a1_3]) (t := 26) ?hr ?_; (case hd => rfl); (case hg => rfl); (case hr => first | (go_simp; done) | (go_simp; rfl)); intro gb143 hg w61 hbox hb; have BK143 := Aside0.mk hbox; have GW143 := gE HB hg; replace HB := bB HB hb; have GE143 := GW143; clear hb hbox hg) | (go_at_call 21; (with_reducible refine (clusterlocksref05_Valid.calls k _ _ l0 true _ ?side1 ?side2 A3.out).mono ?_); (case side1 => repeat (first | exact (Kd.C_below HR0.out HB.out) | (with_reducible refine Kd.C_alloc ?_ _) | (with_reducible refine Kd.C_drewN ?_ _) | (with_reducible refine Kd.C_drew ?_))); (case side2 => exact HC0.out); rintro e w62 ⟨rfl, hb⟩; replace BK143 := bK BK143 hb; replace HB := bB HB hb; (try clear hb); (try clear hk); have hcz63_0 : w62.cell? ⟨gb143, 0, none⟩ = some (.string a1_0) := bC BK143 0 rfl; have hcz63_1 : w62.cell? ⟨gb143, 1, none⟩ = some (.int .i64 a1_1) := bC BK143 1 rfl; have hcz63_2 : w62.cell? ⟨gb143, 2, none⟩ = some (.int .i64 a1_2) := bC BK143 2 rfl; have hcz63_3 : w62.cell? ⟨gb143, 3, none⟩ = some (.int .i64 a1_3) := bC BK143 3 rfl; have hfz63_0 := bF BK143 0; have hfz63_1 := bF BK143 1; have hfz63_2 := bF BK143 2; have hfz63_3 := bF BK143 3) | (go_at_call 17; (with_reducible refine (clusterlocksref05_ValidName.calls k a1_0 true _ A5.out).mono ?_); rintro e w' ⟨rfl, ⟨nd, rfl⟩⟩; (try first | exact ⟨rfl, _, World.drewN_drewN _ _ _⟩ | exact ⟨rfl, _, Eq.trans (World.drewN_drewN _ _ _) (congrArg (World.drewN _) (Nat.add_assoc _ _ _))⟩)) | (go_at_call 19; (with_reducible refine (clusterlocksref05_ValidResource.calls k a1_0 a1_1 a1_2 a1_3 false _ A7.out).mono ?_); rintro e w64 ⟨rfl, hb⟩; replace BK143 := bK BK143 hb; replace HB := bB HB hb; (try clear hb); (try clear hk))); try go_wp2_with (first | ((with_reducible refine gate_dst (N := 3) rfl ?_); refine box_event ?hg (N := 3) ?hd (cs := #[.string a1_0, .int .i64 a1_1, .int .i64 a1_2, .int .i64 a1_3]) (t := 26) ?hr ?_; (case hd => rfl); (case hg => rfl); (case hr => first | (go_simp; done) | (go_simp; rfl)); intro gb143 hg w61 hbox hb; have BK143 := Aside0.mk hbox; have GW143 := gE HB hg; replace HB := bB HB hb; have GE143 := GW143; clear hb hbox hg) | (go_at_call 21; (with_reducible refine (clusterlocksref05_Valid.calls k _ _ l0 true _ ?side1 ?side2 A3.out).mono ?_); (case side1 => repeat (first | exact (Kd.C_below HR0.out HB.out) | (with_reducible refine Kd.C_alloc ?_ _) | (with_reducible refine Kd.C_drewN ?_ _) | (with_reducible refine Kd.C_drew ?_))); (case side2 => exact HC0.out); rintro e w62 ⟨rfl, hb⟩; replace BK143 := bK BK143 hb; replace HB := bB HB hb; (try clear hb); (try clear hk); have hcz63_0 : w62.cell? ⟨gb143, 0, none⟩ = some (.string a1_0) := bC BK143 0 rfl; have hcz63_1 : w62.cell? ⟨gb143, 1, none⟩ = some (.int .i64 a1_1) := bC BK143 1 rfl; have hcz63_2 : w62.cell? ⟨gb143, 2, none⟩ = some (.int .i64 a1_2) := bC BK143 2 rfl; have hcz63_3 : w62.cell? ⟨gb143, 3, none⟩ = some (.int .i64 a1_3) := bC BK143 3 rfl; have hfz63_0 := bF BK143 0; have hfz63_1 := bF BK143 1; have hfz63_2 := bF BK143 2; have hfz63_3 := bF BK143 3) | (go_at_call 17; (with_reducible refine (clusterlocksref05_ValidName.calls k a1_0 true _ A5.out).mono ?_); rintro e w' ⟨rfl, ⟨nd, rfl⟩⟩; (try first | exact ⟨rfl, _, World.drewN_drewN _ _ _⟩ | exact ⟨rfl, _, Eq.trans (World.drewN_drewN _ _ _) (congrArg (World.drewN _) (Nat.add_assoc _ _ _))⟩)) | (go_at_call 19; (with_reducible refine (clusterlocksref05_ValidResource.calls k a1_0 a1_1 a1_2 a1_3 false _ A7.out).mono ?_); rintro e w64 ⟨rfl, hb⟩; replace BK143 := bK BK143 hb; replace HB := bB HB hb; (try clear hb); (try clear hk))))
    go_ret2
    exact ⟨_, by first | rfl | (simp [errW_none, errW_some] <;> rfl) | (simp [*, errW_none, errW_some] <;> rfl), by first | exact Kd.R_nil _ _ _ _ _ | exact Kd.N_nil _ _ _ _ _ | exact Kd.V_nil _ _ _ _ _ | exact Kd.Q_nil _ _ _ _ _ | exact Kd.S_nil _ _ _ _ _, (uS HB)⟩
  ·replace c6 := Bool.eq_false_iff.mpr c6
   subst c6
   have H1 : (some (([] : List (S26)), 9)) = some (r1, r2) := by rw [if_neg (show ¬ (false = true) by decide)] at H; exact H
   clear H
   have H := H1
   clear H1
   simp only [Option.some.injEq, Prod.mk.injEq] at H
   obtain ⟨rfl, rfl⟩ := H
   go_enter Tryd.func23, Tryd.ntmps23
   go_wp2_with (first | ((with_reducible refine gate_dst (N := 3) rfl ?_); refine box_event ?hg (N := 3) ?hd (cs := #[.string a1_0, .int .i64 a1_1, .int .i64 a1_2, .int .i64 a1_3]) (t := 26) ?hr ?_; (case hd => rfl); (case hg => rfl); (case hr => first | (go_simp; done) | (go_simp; rfl)); intro gb143 hg w65 hbox hb; have BK143 := Aside0.mk hbox; have GW143 := gE HB hg; replace HB := bB HB hb; have GE143 := GW143; clear hb hbox hg) | (go_at_call 21; (with_reducible refine (clusterlocksref05_Valid.calls k _ _ l0 true _ ?side1 ?side2 A3.out).mono ?_); (case side1 => repeat (first | exact (Kd.C_below HR0.out HB.out) | (with_reducible refine Kd.C_alloc ?_ _) | (with_reducible refine Kd.C_drewN ?_ _) | (with_reducible refine Kd.C_drew ?_))); (case side2 => exact HC0.out); rintro e w66 ⟨rfl, hb⟩; replace BK143 := bK BK143 hb; replace HB := bB HB hb; (try clear hb); (try clear hk); have hcz67_0 : w66.cell? ⟨gb143, 0, none⟩ = some (.string a1_0) := bC BK143 0 rfl; have hcz67_1 : w66.cell? ⟨gb143, 1, none⟩ = some (.int .i64 a1_1) := bC BK143 1 rfl; have hcz67_2 : w66.cell? ⟨gb143, 2, none⟩ = some (.int .i64 a1_2) := bC BK143 2 rfl; have hcz67_3 : w66.cell? ⟨gb143, 3, none⟩ = some (.int .i64 a1_3) := bC BK143 3 rfl; have hfz67_0 := bF BK143 0; have hfz67_1 := bF BK143 1; have hfz67_2 := bF BK143 2; have hfz67_3 := bF BK143 3) | (go_at_call 17; (with_reducible refine (clusterlocksref05_ValidName.calls k a1_0 false _ A5.out).mono ?_); rintro e w' ⟨rfl, ⟨nd, rfl⟩⟩; (try first | exact ⟨rfl, _, World.drewN_drewN _ _ _⟩ | exact ⟨rfl, _, Eq.trans (World.drewN_drewN _ _ _) (congrArg (World.drewN _) (Nat.add_assoc _ _ _))⟩)))
   repeat (go_quiet (first | ((with_reducible refine gate_dst (N := 3) rfl ?_); refine box_event ?hg (N := 3) ?hd (cs := #[.string a1_0, .int .i64 a1_1, .int .i64 a1_2, .int .i64 a1_3]) (t := 26) ?hr ?_; (case hd => rfl); (case hg => rfl); (case hr => first | (go_simp; done) | (go_simp; rfl)); intro gb143 hg w65 hbox hb; have BK143 := Aside0.mk hbox; have GW143 := gE HB hg; replace HB := bB HB hb; have GE143 := GW143; clear hb hbox hg) | (go_at_call 21; (with_reducible refine (clusterlocksref05_Valid.calls k _ _ l0 true _ ?side1 ?side2 A3.out).mono ?_); (case side1 => repeat (first | exact (Kd.C_below HR0.out HB.out) | (with_reducible refine Kd.C_alloc ?_ _) | (with_reducible refine Kd.C_drewN ?_ _) | (with_reducible refine Kd.C_drew ?_))); (case side2 => exact HC0.out); rintro e w66 ⟨rfl, hb⟩; replace BK143 := bK BK143 hb; replace HB := bB HB hb; (try clear hb); (try clear hk); have hcz67_0 : w66.cell? ⟨gb143, 0, none⟩ = some (.string a1_0) := bC BK143 0 rfl; have hcz67_1 : w66.cell? ⟨gb143, 1, none⟩ = some (.int .i64 a1_1) := bC BK143 1 rfl; have hcz67_2 : w66.cell? ⟨gb143, 2, none⟩ = some (.int .i64 a1_2) := bC BK143 2 rfl; have hcz67_3 : w66.cell? ⟨gb143, 3, none⟩ = some (.int .i64 a1_3) := bC BK143 3 rfl; have hfz67_0 := bF BK143 0; have hfz67_1 := bF BK143 1; have hfz67_2 := bF BK143 2; have hfz67_3 := bF BK143 3) | (go_at_call 17; (with_reducible refine (clusterlocksref05_ValidName.calls k a1_0 false _ A5.out).mono ?_); rintro e w' ⟨rfl, ⟨nd, rfl⟩⟩; (try first | exact ⟨rfl, _, World.drewN_drewN _ _ _⟩ | exact ⟨rfl, _, Eq.trans (World.drewN_drewN _ _ _) (congrArg (World.drewN _) (Nat.add_assoc _ _ _))⟩))); try go_wp2_with (first | ((with_reducible refine gate_dst (N := 3) rfl ?_); refine box_event ?hg (N := 3) ?hd (cs := #[.string a1_0, .int .i64 a1_1, .int .i64 a1_2, .int .i64 a1_3]) (t := 26) ?hr ?_; (case hd => rfl); (case hg => rfl); (case hr => first | (go_simp; done) | (go_simp; rfl)); intro gb143 hg w65 hbox hb; have BK143 := Aside0.mk hbox; have GW143 := gE HB hg; replace HB := bB HB hb; have GE143 := GW143; clear hb hbox hg) | (go_at_call 21; (with_reducible refine (clusterlocksref05_Valid.calls k _ _ l0 true _ ?side1 ?side2 A3.out).mono ?_); (case side1 => repeat (first | exact (Kd.C_below HR0.out HB.out) | (with_reducible refine Kd.C_alloc ?_ _) | (with_reducible refine Kd.C_drewN ?_ _) | (with_reducible refine Kd.C_drew ?_))); (case side2 => exact HC0.out); rintro e w66 ⟨rfl, hb⟩; replace BK143 := bK BK143 hb; replace HB := bB HB hb; (try clear hb); (try clear hk); have hcz67_0 : w66.cell? ⟨gb143, 0, none⟩ = some (.string a1_0) := bC BK143 0 rfl; have hcz67_1 : w66.cell? ⟨gb143, 1, none⟩ = some (.int .i64 a1_1) := bC BK143 1 rfl; have hcz67_2 : w66.cell? ⟨gb143, 2, none⟩ = some (.int .i64 a1_2) := bC BK143 2 rfl; have hcz67_3 : w66.cell? ⟨gb143, 3, none⟩ = some (.int .i64 a1_3) := bC BK143 3 rfl; have hfz67_0 := bF BK143 0; have hfz67_1 := bF BK143 1; have hfz67_2 := bF BK143 2; have hfz67_3 := bF BK143 3) | (go_at_call 17; (with_reducible refine (clusterlocksref05_ValidName.calls k a1_0 false _ A5.out).mono ?_); rintro e w' ⟨rfl, ⟨nd, rfl⟩⟩; (try first | exact ⟨rfl, _, World.drewN_drewN _ _ _⟩ | exact ⟨rfl, _, Eq.trans (World.drewN_drewN _ _ _) (congrArg (World.drewN _) (Nat.add_assoc _ _ _))⟩))))
   go_ret2
   exact ⟨_, by first | rfl | (simp [errW_none, errW_some] <;> rfl) | (simp [*, errW_none, errW_some] <;> rfl), by first | exact Kd.R_nil _ _ _ _ _ | exact Kd.N_nil _ _ _ _ _ | exact Kd.V_nil _ _ _ _ _ | exact Kd.Q_nil _ _ _ _ _ | exact Kd.S_nil _ _ _ _ _, (uS HB)⟩
 ·replace c4 := Bool.eq_false_iff.mpr c4
  subst c4
  have H1 : (some (([] : List (S26)), 2)) = some (r1, r2) := by rw [if_neg (show ¬ (false = true) by decide)] at H; exact H
  clear H
  have H := H1
  clear H1
  simp only [Option.some.injEq, Prod.mk.injEq] at H
  obtain ⟨rfl, rfl⟩ := H
  go_enter Tryd.func23, Tryd.ntmps23
  go_wp2_with (first | ((with_reducible refine gate_dst (N := 3) rfl ?_); refine box_event ?hg (N := 3) ?hd (cs := #[.string a1_0, .int .i64 a1_1, .int .i64 a1_2, .int .i64 a1_3]) (t := 26) ?hr ?_; (case hd => rfl); (case hg => rfl); (case hr => first | (go_simp; done) | (go_simp; rfl)); intro gb143 hg w68 hbox hb; have BK143 := Aside0.mk hbox; have GW143 := gE HB hg; replace HB := bB HB hb; have GE143 := GW143; clear hb hbox hg) | (go_at_call 21; (with_reducible refine (clusterlocksref05_Valid.calls k _ _ l0 false _ ?side1 ?side2 A3.out).mono ?_); (case side1 => repeat (first | exact (Kd.C_below HR0.out HB.out) | (with_reducible refine Kd.C_alloc ?_ _) | (with_reducible refine Kd.C_drewN ?_ _) | (with_reducible refine Kd.C_drew ?_))); (case side2 => exact HC0.out); rintro e w69 ⟨rfl, hb⟩; replace BK143 := bK BK143 hb; replace HB := bB HB hb; (try clear hb); (try clear hk)))
  repeat (go_quiet (first | ((with_reducible refine gate_dst (N := 3) rfl ?_); refine box_event ?hg (N := 3) ?hd (cs := #[.string a1_0, .int .i64 a1_1, .int .i64 a1_2, .int .i64 a1_3]) (t := 26) ?hr ?_; (case hd => rfl); (case hg => rfl); (case hr => first | (go_simp; done) | (go_simp; rfl)); intro gb143 hg w68 hbox hb; have BK143 := Aside0.mk hbox; have GW143 := gE HB hg; replace HB := bB HB hb; have GE143 := GW143; clear hb hbox hg) | (go_at_call 21; (with_reducible refine (clusterlocksref05_Valid.calls k _ _ l0 false _ ?side1 ?side2 A3.out).mono ?_); (case side1 => repeat (first | exact (Kd.C_below HR0.out HB.out) | (with_reducible refine Kd.C_alloc ?_ _) | (with_reducible refine Kd.C_drewN ?_ _) | (with_reducible refine Kd.C_drew ?_))); (case side2 => exact HC0.out); rintro e w69 ⟨rfl, hb⟩; replace BK143 := bK BK143 hb; replace HB := bB HB hb; (try clear hb); (try clear hk))); try go_wp2_with (first | ((with_reducible refine gate_dst (N := 3) rfl ?_); refine box_event ?hg (N := 3) ?hd (cs := #[.string a1_0, .int .i64 a1_1, .int .i64 a1_2, .int .i64 a1_3]) (t := 26) ?hr ?_; (case hd => rfl); (case hg => rfl); (case hr => first | (go_simp; done) | (go_simp; rfl)); intro gb143 hg w68 hbox hb; have BK143 := Aside0.mk hbox; have GW143 := gE HB hg; replace HB := bB HB hb; have GE143 := GW143; clear hb hbox hg) | (go_at_call 21; (with_reducible refine (clusterlocksref05_Valid.calls k _ _ l0 false _ ?side1 ?side2 A3.out).mono ?_); (case side1 => repeat (first | exact (Kd.C_below HR0.out HB.out) | (with_reducible refine Kd.C_alloc ?_ _) | (with_reducible refine Kd.C_drewN ?_ _) | (with_reducible refine Kd.C_drew ?_))); (case side2 => exact HC0.out); rintro e w69 ⟨rfl, hb⟩; replace BK143 := bK BK143 hb; replace HB := bB HB hb; (try clear hb); (try clear hk))))
  go_ret2
  exact ⟨_, by first | rfl | (simp [errW_none, errW_some] <;> rfl) | (simp [*, errW_none, errW_some] <;> rfl), by first | exact Kd.R_nil _ _ _ _ _ | exact Kd.N_nil _ _ _ _ _ | exact Kd.V_nil _ _ _ _ _ | exact Kd.Q_nil _ _ _ _ _ | exact Kd.S_nil _ _ _ _ _, (uS HB)⟩
/-! ### clusterlocksref05_Same: function 24 -/
def clusterlocksref05_Same.l0 : Nat → List (S26) → List (S26) → Int → Option (Bool)
 | 0, _, _, _ => none
 | k + 1, x0, x1, x5 => if x5 < (x0.length : Int) then (if 0 ≤ x5 then (if x5 < (x1.length : Int) then (if (!((((rd_T26 x0 x5).f0).toList) == (((rd_T26 x1 x5).f0).toList)) || (!(((rd_T26 x0 x5).f1) == ((rd_T26 x1 x5).f1)) || (!(((rd_T26 x0 x5).f2) == ((rd_T26 x1 x5).f2)) || (!(((rd_T26 x0 x5).f3) == ((rd_T26 x1 x5).f3)))))) = true then (some false) else (clusterlocksref05_Same.l0 k x0 x1 (wrap64 (x5 + 1)))) else (none)) else (none)) else (some true)
def clusterlocksref05_Same.f (k : Nat) (l0 : List (S26)) (l1 : List (S26)) : Option (Bool) := if (l0.length : Int) = (l1.length : Int) then (clusterlocksref05_Same.l0 k l0 l1 0) else (some false)
theorem clusterlocksref05_Same.mono_l : ∀ k, (∀ y0 y1 y2, LeO (clusterlocksref05_Same.l0 k y0 y1 y2) (clusterlocksref05_Same.l0 (k + 1) y0 y1 y2))
 | 0 => fun _ _ _ r h => by simp [clusterlocksref05_Same.l0] at h
 | k + 1 => by
  have ih0 := clusterlocksref05_Same.mono_l k
  ·intro y0 y1 y2
   unfold clusterlocksref05_Same.l0
   repeat' first
   | (with_reducible exact ih0 _ _ _)
   | (with_reducible exact LeO.refl _)
   | (with_reducible exact LeO.none _)
   | (with_reducible refine LeO.ite ?_ ?_)
   | (with_reducible refine LeO.bind ?_ (fun _ => ?_))
   | exact ih0 _ _ _
   | exact LeO.none _
   | refine LeO.ite ?_ ?_
   | refine LeO.bind ?_ (fun _ => ?_)
theorem clusterlocksref05_Same.mono : ∀ a0 a1 k, LeO (clusterlocksref05_Same.f k a0 a1) (clusterlocksref05_Same.f (k + 1) a0 a1) := by
 intro a0 a1 k
 have ih0 := clusterlocksref05_Same.mono_l k
 unfold clusterlocksref05_Same.f
 repeat' first
   | (with_reducible exact ih0 _ _ _)
   | (with_reducible exact LeO.refl _)
   | (with_reducible exact LeO.none _)
   | (with_reducible refine LeO.ite ?_ ?_)
   | (with_reducible refine LeO.bind ?_ (fun _ => ?_))
   | exact ih0 _ _ _
   | exact LeO.none _
   | refine LeO.ite ?_ ?_
   | refine LeO.bind ?_ (fun _ => ?_)
set_option maxHeartbeats 8000000 in
set_option maxRecDepth 100000 in
theorem clusterlocksref05_Same.calls (k : Nat) (A0 : Option Addr) (c0 : Nat) (l0 : List (S26)) (A1 : Option Addr) (c1 : Nat) (l1 : List (S26)) (r : Bool) (w : World) (hr0 : Kd.C k26 w A0 l0.length l0) (hc0 : l0.length ≤ c0) (hr1 : Kd.C k26 w A1 l1.length l1) (hc1 : l1.length ≤ c1) (h : clusterlocksref05_Same.f k l0 l1 = some r) :
  Calls Tryd.prog 24 #[.slice A0 l0.length c0, .slice A1 l1.length c1] w fun e w' => e = .returned (.bool r) ∧ Drawn0 w w' := by
 have hu26 := Tryd.underlying26
 have HR0 := Aside0.mk hr0
 have HC0 := Aside0.mk hc0
 clear hr0 hc0
 have HR1 := Aside0.mk hr1
 have HC1 := Aside0.mk hc1
 clear hr1 hc1
 have H : (if (l0.length : Int) = (l1.length : Int) then (clusterlocksref05_Same.l0 k l0 l1 0) else (some false)) = some r := h
 clear h
 by_cases c3 : (l0.length : Int) = (l1.length : Int)
 ·rw [if_pos c3] at H
  have c3b0 : ((l0.length : Int) == (l1.length : Int)) = true := beq_iff_eq.mpr c3
  have c3b1 : ((l0.length : Int) != (l1.length : Int)) = false := bne_eq_false_iff_eq.mpr c3
  have c3b2 : (l0.length == l1.length) = true := by first | simpa using c3 | (simp at c3 ⊢; omega)
  clear c3
  have H' := Aside0.mk H
  clear H
  go_enter Tryd.func24, Tryd.ntmps24
  go_wp2
  repeat (go_quiet (fail); try go_wp2)
  go_loopg [5] k (fun kq v5 w' => ∃ (x5_1 : Int), v5 = .int .i64 x5_1 ∧ Aside0 (clusterlocksref05_Same.l0 kq l0 l1 x5_1 = some r) ∧ Aside0 (kq ≤ k) ∧ Drawn0 w w')
  case atStart => exact ⟨(0), (by first | rfl | (simp; done) | (simp [*]; done)), H', ⟨Nat.le_refl _⟩, by repeat (first | exact Drawn0.refl _ | apply Drawn0.step)⟩
  case round =>
   clear H'
   try clear c1
   try clear c2
   try clear p2
   try clear c3
   try clear c3b0
   try clear c3b1
   try clear c3b2
   obtain ⟨x5_1, rfl, HA, HK1, ⟨m1, rfl⟩⟩ := hrel
   cases gk with
   | zero => exact absurd HA.out (by simp [clusterlocksref05_Same.l0])
   | succ k1 =>
    have H := HA.out
    clear HA
    simp only [clusterlocksref05_Same.l0] at H
    by_cases c4 : x5_1 < (l0.length : Int)
    ·rw [if_pos c4] at H
     have c4b0 : decide (x5_1 < (l0.length : Int)) = true := decide_eq_true c4
     clear c4
     by_cases c5 : 0 ≤ x5_1
     ·rw [if_pos c5] at H
      have c5b0 : decide (0 ≤ x5_1) = true := decide_eq_true c5
      clear c5
      have HH_ := Aside0.mk H
      clear H
      have p172 : 0 ≤ (x5_1 : Int) := of_decide_eq_true (by first | (with_reducible assumption) | assumption)
      have q172 : x5_1 < (l0.length : Int) := of_decide_eq_true (by first | (with_reducible assumption) | assumption)
      obtain ⟨ad172, e172, hx172_0, hx172_1, hx172_2, hx172_3⟩ := at_T26 HR0.out x5_1 p172 q172
      cases e172
      replace p172 := eq_true p172
      replace q172 := eq_true q172
      have p173 : 0 ≤ (x5_1 : Int) := of_decide_eq_true (by first | (with_reducible assumption) | assumption)
      have H := HH_.out
      clear HH_
      by_cases c6 : x5_1 < (l1.length : Int)
      ·rw [if_pos c6] at H
       have c6b0 : decide (x5_1 < (l1.length : Int)) = true := decide_eq_true c6
       clear c6
       (try simp only [c6b0])
       have HH_ := Aside0.mk H
       clear H
       have q173 : x5_1 < (l1.length : Int) := of_decide_eq_true (by first | (with_reducible assumption) | assumption)
       obtain ⟨ad173, e173, hx173_0, hx173_1, hx173_2, hx173_3⟩ := at_T26 HR1.out x5_1 p173 q173
       cases e173
       replace p173 := eq_true p173
       replace q173 := eq_true q173
       have H := HH_.out
       clear HH_
       by_cases c7 : (!((((rd_T26 l0 x5_1).f0).toList) == (((rd_T26 l1 x5_1).f0).toList)) || (!(((rd_T26 l0 x5_1).f1) == ((rd_T26 l1 x5_1).f1)) || (!(((rd_T26 l0 x5_1).f2) == ((rd_T26 l1 x5_1).f2)) || (!(((rd_T26 l0 x5_1).f3) == ((rd_T26 l1 x5_1).f3)))))) = true
       ·rw [if_pos c7] at H
        have c7b0 : (!((((rd_T26 l0 x5_1).f0).toList) == (((rd_T26 l1 x5_1).f0).toList)) || (!(((rd_T26 l0 x5_1).f1) == ((rd_T26 l1 x5_1).f1)) || (!(((rd_T26 l0 x5_1).f2) == ((rd_T26 l1 x5_1).f2)) || (!(((rd_T26 l0 x5_1).f3) == ((rd_T26 l1 x5_1).f3)))))) = true := c7
        clear c7
        obtain rfl := Option.some.inj H
        (try simp only [c7b0])
        go_wp2
        repeat (go_quiet (fail); try go_wp2)
        go_ret
        exact ⟨by first | rfl | (simp; done) | (simp [*]; done), by repeat (first | exact Drawn0.refl _ | apply Drawn0.step)⟩
       ·rw [if_neg c7] at H
        have c7b0 : (!((((rd_T26 l0 x5_1).f0).toList) == (((rd_T26 l1 x5_1).f0).toList)) || (!(((rd_T26 l0 x5_1).f1) == ((rd_T26 l1 x5_1).f1)) || (!(((rd_T26 l0 x5_1).f2) == ((rd_T26 l1 x5_1).f2)) || (!(((rd_T26 l0 x5_1).f3) == ((rd_T26 l1 x5_1).f3)))))) = false := by simpa using c7
        clear c7
        have H' := Aside0.mk H
        clear H
        (try simp only [c7b0])
        go_wp2
        repeat (go_quiet (fail); try go_wp2)
        go_roundg k1
        case measure => have := HK1.out; omega
        case rel => exact ⟨(wrap64 (x5_1 + 1)), (by first | rfl | (simp; done) | (simp [*]; done)), H', ⟨by have := HK1.out; omega⟩, by repeat (first | exact Drawn0.refl _ | apply Drawn0.step)⟩
      ·rw [if_neg c6] at H
       exact absurd H (by simp)
     ·rw [if_neg c5] at H
      exact absurd H (by simp)
    ·rw [if_neg c4] at H
     have c4b0 : decide (x5_1 < (l0.length : Int)) = false := decide_eq_false c4
     clear c4
     obtain rfl := Option.some.inj H
     go_wp2
     repeat (go_quiet (fail); try go_wp2)
     go_ret
     exact ⟨by first | rfl | (simp; done) | (simp [*]; done), by repeat (first | exact Drawn0.refl _ | apply Drawn0.step)⟩
 ·rw [if_neg c3] at H
  have c3b0 : ((l0.length : Int) == (l1.length : Int)) = false := beq_eq_false_iff_ne.mpr c3
  have c3b1 : ((l0.length : Int) != (l1.length : Int)) = true := bne_iff_ne.mpr c3
  have c3b2 : (l0.length == l1.length) = false := by first | simpa using c3 | (simp at c3 ⊢; omega)
  obtain rfl := Option.some.inj H
  go_enter Tryd.func24, Tryd.ntmps24
  go_wp2
  repeat (go_quiet (fail); try go_wp2)
  go_ret
  exact ⟨by first | rfl | (simp; done) | (simp [*]; done), by repeat (first | exact Drawn0.refl _ | apply Drawn0.step)⟩
/-! ### catalog_At: function 25 -/
def catalog_At.l0 : Nat → Int → List (S26) → List (S26) → Int → Int → Option ((List (S26)))
 | 0, _, _, _, _, _ => none
 | k + 1, x1, x5, x8, x9, x10 => if x10 < x9 then (if 0 ≤ x10 then (if x10 < (x8.length : Int) then (if ((rd_T26 x8 x10).f3) = x1 then (if x5.length < 3518437208883 then (catalog_At.l0 k x1 (x5 ++ [(⟨(rd_T26 x8 x10).f0, (rd_T26 x8 x10).f1, (rd_T26 x8 x10).f2, (rd_T26 x8 x10).f3⟩ : S26)]) x8 x9 (wrap64 (x10 + 1))) else (none)) else (catalog_At.l0 k x1 x5 x8 x9 (wrap64 (x10 + 1)))) else (none)) else (none)) else (some x5)
def catalog_At.f (k : Nat) (l0 : List (S26)) (a1 : Int) : Option ((List (S26))) := catalog_At.l0 k a1 ([] : List (S26)) l0 (l0.length : Int) 0
theorem catalog_At.mono_l : ∀ k, (∀ y0 y1 y2 y3 y4, LeO (catalog_At.l0 k y0 y1 y2 y3 y4) (catalog_At.l0 (k + 1) y0 y1 y2 y3 y4))
 | 0 => fun _ _ _ _ _ r h => by simp [catalog_At.l0] at h
 | k + 1 => by
  have ih0 := catalog_At.mono_l k
  ·intro y0 y1 y2 y3 y4
   unfold catalog_At.l0
   repeat' first
   | (with_reducible exact ih0 _ _ _ _ _)
   | (with_reducible exact LeO.refl _)
   | (with_reducible exact LeO.none _)
   | (with_reducible refine LeO.ite ?_ ?_)
   | (with_reducible refine LeO.bind ?_ (fun _ => ?_))
   | exact ih0 _ _ _ _ _
   | exact LeO.none _
   | refine LeO.ite ?_ ?_
   | refine LeO.bind ?_ (fun _ => ?_)
theorem catalog_At.mono : ∀ a0 a1 k, LeO (catalog_At.f k a0 a1) (catalog_At.f (k + 1) a0 a1) := by
 intro a0 a1 k
 have ih0 := catalog_At.mono_l k
 unfold catalog_At.f
 repeat' first
   | (with_reducible exact ih0 _ _ _ _ _)
   | (with_reducible exact LeO.refl _)
   | (with_reducible exact LeO.none _)
   | (with_reducible refine LeO.ite ?_ ?_)
   | (with_reducible refine LeO.bind ?_ (fun _ => ?_))
   | exact ih0 _ _ _ _ _
   | exact LeO.none _
   | refine LeO.ite ?_ ?_
   | refine LeO.bind ?_ (fun _ => ?_)
set_option maxHeartbeats 8000000 in
set_option maxRecDepth 100000 in
theorem catalog_At.calls (k : Nat) (A0 : Option Addr) (c0 : Nat) (l0 : List (S26)) (a1 : Int) (r : List (S26)) (w : World) (hr0 : Kd.C k26 w A0 l0.length l0) (hc0 : l0.length ≤ c0) (h : catalog_At.f k l0 a1 = some r) :
  Calls Tryd.prog 25 #[.slice A0 l0.length c0, .int .i64 a1] w fun e w' => ∃ v0_ : Value, e = .returned (v0_) ∧ Kd.R k26 26 w' w.heap.size (fun _ => True) v0_ r ∧ Below w.heap.size w w' := by
 have hu26 := Tryd.underlying26
 have HR0 := Aside0.mk hr0
 have HC0 := Aside0.mk hc0
 clear hr0 hc0
 have HB := Aside0.mk (Below.refl w.heap.size w)
 have H : (catalog_At.l0 k a1 ([] : List (S26)) l0 (l0.length : Int) 0) = some r := h
 clear h
 have H' := Aside0.mk H
 clear H
 go_enter Tryd.func25, Tryd.ntmps25
 go_wp2
 go_loopg [5, 10] k (fun kq v5 v10 w' => ∃ (x5_1 : List (S26)) (x10_1 : Int), v10 = .int .i64 x10_1 ∧ Aside0 (catalog_At.l0 kq a1 x5_1 l0 (l0.length : Int) x10_1 = some r) ∧ Aside0 (kq ≤ k) ∧ Aside0 (Kd.R k26 26 w' w.heap.size (fun _ => True) v5 x5_1) ∧ Aside0 (Below w.heap.size w w'))
 case atStart => exact ⟨(([] : List (S26))), (0), (by first | rfl | (simp; done) | (simp [*]; done)), H', ⟨Nat.le_refl _⟩, ⟨by first | exact Kd.R_nil _ _ _ _ _ | exact Kd.N_nil _ _ _ _ _ | exact Kd.V_nil _ _ _ _ _ | exact Kd.Q_nil _ _ _ _ _ | exact Kd.S_nil _ _ _ _ _⟩, ⟨(uS HB)⟩⟩
 case round =>
  clear H'
  try clear c2
  try clear p2
  obtain ⟨x5_1, x10_1, rfl, HA, HK1, HO_5, HB⟩ := hrel
  cases gk with
  | zero => exact absurd HA.out (by simp [catalog_At.l0])
  | succ k1 =>
   have H := HA.out
   clear HA
   simp only [catalog_At.l0] at H
   by_cases c3 : x10_1 < (l0.length : Int)
   ·rw [if_pos c3] at H
    have c3b0 : decide (x10_1 < (l0.length : Int)) = true := decide_eq_true c3
    clear c3
    by_cases c4 : 0 ≤ x10_1
    ·rw [if_pos c4] at H
     have c4b0 : decide (0 ≤ x10_1) = true := decide_eq_true c4
     clear c4
     by_cases c5 : x10_1 < (l0.length : Int)
     ·rw [if_pos c5] at H
      have c5b0 : decide (x10_1 < (l0.length : Int)) = true := decide_eq_true c5
      clear c5
      by_cases c6 : ((rd_T26 l0 x10_1).f3) = a1
      ·rw [if_pos c6] at H
       have c6b0 : (((rd_T26 l0 x10_1).f3) == a1) = true := beq_iff_eq.mpr c6
       have c6b1 : (((rd_T26 l0 x10_1).f3) != a1) = false := bne_eq_false_iff_eq.mpr c6
       clear c6
       by_cases c7 : x5_1.length < 3518437208883
       ·rw [if_pos c7] at H
        have LMc7 := Aside0.mk c7
        clear c7
        obtain ⟨y187, hy187⟩ : ∃ y_ : List (S26), y_ = (x5_1 ++ [(⟨(rd_T26 l0 x10_1).f0, (rd_T26 l0 x10_1).f1, (rd_T26 l0 x10_1).f2, (rd_T26 l0 x10_1).f3⟩ : S26)]) := ⟨_, rfl⟩
        replace H : (catalog_At.l0 k1 a1 y187 l0 (l0.length : Int) (wrap64 (x10_1 + 1))) = some r := by first | (rw [hy187]; with_reducible exact H) | (have H2_ := (Option.bind_some _ _).symm.trans H; rw [hy187]; with_reducible exact H2_) | (have H2_ := (Option.bind_some _ _).symm.trans H; with_reducible exact H2_) | with_reducible exact H | (rw [hy187]; exact H) | exact H
        have Ny187 := Aside0.mk hy187
        clear hy187
        have H' := Aside0.mk H
        clear H
        have p185 : 0 ≤ (x10_1 : Int) := of_decide_eq_true (by first | (with_reducible assumption) | assumption)
        have q185 : x10_1 < (l0.length : Int) := of_decide_eq_true (by first | (with_reducible assumption) | assumption)
        obtain ⟨ad185, e185, hx185_0, hx185_1, hx185_2, hx185_3⟩ := at_T26 HR0.out x10_1 p185 q185
        cases e185
        replace hx185_0 := kC HB hx185_0
        replace hx185_1 := kC HB hx185_1
        replace hx185_2 := kC HB hx185_2
        replace hx185_3 := kC HB hx185_3
        replace p185 := eq_true p185
        replace q185 := eq_true q185
        go_wp2_with (first | ((with_reducible refine gate_dst (N := 7) rfl ?_); refine box_event ?hg (N := 7) ?hd (cs := #[.string (⟨#[]⟩ : ByteArray), .int .i64 0, .int .i64 0, .int .i64 0]) (t := 26) ?hr ?_; (case hd => rfl); (case hg => rfl); (case hr => first | (go_simp; done) | (go_simp; rfl)); intro gb186 hg w8 hbox hb; replace HO_5 := Aside0.mk (Kd.R_below (Kd.R_elderB (by (with_reducible repeat (first | apply Kd.R_alloc | apply Kd.R_drewN | apply Kd.R_drew)); exact HO_5.out) gb186 (Nat.le_of_eq hg.symm)) hb); have BK186 := Aside0.mk hbox; have GW186 := gE HB hg; replace HB := bB HB hb; have GE186 := GW186; clear hb hbox hg; have hcz9_0 : w8.cell? ⟨gb186, 0, none⟩ = some (.string (⟨#[]⟩ : ByteArray)) := bC BK186 0 rfl; have hcz9_1 : w8.cell? ⟨gb186, 1, none⟩ = some (.int .i64 0) := bC BK186 1 rfl; have hcz9_2 : w8.cell? ⟨gb186, 2, none⟩ = some (.int .i64 0) := bC BK186 2 rfl; have hcz9_3 : w8.cell? ⟨gb186, 3, none⟩ = some (.int .i64 0) := bC BK186 3 rfl; have hfz9_0 := bF BK186 0; have hfz9_1 := bF BK186 1; have hfz9_2 := bF BK186 2; have hfz9_3 := bF BK186 3) | ((with_reducible refine gate_builtin (b := .append) (xs := #[.tmp 18, .tmp 20]) rfl ?_); at_builtin; refine Kd.R_append k26 (w0 := w) w.heap.size rfl (.tmp 18) (.tmp 20) 24 26 (.agg #[(.string ⟨#[]⟩), (.int .i64 0), (.int .i64 0), (.int .i64 0)]) 40 rfl Tryd.underlying24 info26 rfl (by decide) (by omega) u5 x5_1 (⟨(rd_T26 l0 x10_1).f0, (rd_T26 l0 x10_1).f1, (rd_T26 l0 x10_1).f2, (rd_T26 l0 x10_1).f3⟩ : S26) [.string ((rd_T26 l0 x10_1).f0), .int .i64 ((rd_T26 l0 x10_1).f1), .int .i64 ((rd_T26 l0 x10_1).f2), .int .i64 ((rd_T26 l0 x10_1).f3)] (fun k_ => k_ ≠ gb186) (fun _ => False) rfl (by first | (go_simp; done) | (go_simp; rfl)) ?aP (fun _ hk => hk.elim) ?aF ?aO ?aB ?aS ?aL ?_; (case aP => exact k26_mkM _ _ _ (⟨(rd_T26 l0 x10_1).f0, (rd_T26 l0 x10_1).f1, (rd_T26 l0 x10_1).f2, (rd_T26 l0 x10_1).f3⟩ : S26)); (case aB => exact (haveI := gI GE186; uS HB)); (case aF => exact (fun k_ hk => Kd.freshB (g := gb186) (o := .cells #[.string ((rd_T26 l0 x10_1).f0), .int .i64 ((rd_T26 l0 x10_1).f1), .int .i64 ((rd_T26 l0 x10_1).f2), .int .i64 ((rd_T26 l0 x10_1).f3)] 26 (0, 0)) (by (with_reducible repeat first | refine bN ?_ _ | refine bD ?_ | refine bA ?_ _); refine blk_put (cs := #[.string ((rd_T26 l0 x10_1).f0), .int .i64 ((rd_T26 l0 x10_1).f1), .int .i64 ((rd_T26 l0 x10_1).f2), .int .i64 0]) ?_ 3 _ rfl; (with_reducible repeat first | refine bN ?_ _ | refine bD ?_ | refine bA ?_ _); refine blk_put (cs := #[.string ((rd_T26 l0 x10_1).f0), .int .i64 ((rd_T26 l0 x10_1).f1), .int .i64 0, .int .i64 0]) ?_ 2 _ rfl; (with_reducible repeat first | refine bN ?_ _ | refine bD ?_ | refine bA ?_ _); refine blk_put (cs := #[.string ((rd_T26 l0 x10_1).f0), .int .i64 0, .int .i64 0, .int .i64 0]) ?_ 1 _ rfl; (with_reducible repeat first | refine bN ?_ _ | refine bD ?_ | refine bA ?_ _); refine blk_put (cs := #[.string (⟨#[]⟩ : ByteArray), .int .i64 0, .int .i64 0, .int .i64 0]) ?_ 0 _ rfl; (with_reducible repeat first | refine bN ?_ _ | refine bD ?_ | refine bA ?_ _); exact BK186.out) k_ hk)); (case aO => exact (by (with_reducible repeat (first | apply Kd.R_alloc | apply Kd.R_drewN | apply Kd.R_drew)); exact Kd.R_mono (Kd.R_far (p := ⟨gb186, 3, none⟩) (Kd.R_far (p := ⟨gb186, 2, none⟩) (Kd.R_far (p := ⟨gb186, 1, none⟩) (Kd.R_far (p := ⟨gb186, 0, none⟩) (Kd.R_mono HO_5.out (fun k_ hk => (⟨hk, hk.2⟩ : _ ∧ k_ ≠ gb186))) (fun _ hk => hk.2) (.string ((rd_T26 l0 x10_1).f0))) (fun _ hk => hk.2) (.int .i64 ((rd_T26 l0 x10_1).f1))) (fun _ hk => hk.2) (.int .i64 ((rd_T26 l0 x10_1).f2))) (fun _ hk => hk.2) (.int .i64 ((rd_T26 l0 x10_1).f3))) (fun _ hk => hk.1.2))); (case aS => exact (below_size (haveI := gI GE186; uS HB))); (case aL => have := LMc7.out; omega); intro v188 w10 ho hb hg hat; rw [← Ny187.out] at ho; replace BK186 := Aside0.mk (blk_grown (g := gb186) (o := .cells #[.string ((rd_T26 l0 x10_1).f0), .int .i64 ((rd_T26 l0 x10_1).f1), .int .i64 ((rd_T26 l0 x10_1).f2), .int .i64 ((rd_T26 l0 x10_1).f3)] 26 (0, 0)) (by (with_reducible repeat first | refine bN ?_ _ | refine bD ?_ | refine bA ?_ _); refine blk_put (cs := #[.string ((rd_T26 l0 x10_1).f0), .int .i64 ((rd_T26 l0 x10_1).f1), .int .i64 ((rd_T26 l0 x10_1).f2), .int .i64 0]) ?_ 3 _ rfl; (with_reducible repeat first | refine bN ?_ _ | refine bD ?_ | refine bA ?_ _); refine blk_put (cs := #[.string ((rd_T26 l0 x10_1).f0), .int .i64 ((rd_T26 l0 x10_1).f1), .int .i64 0, .int .i64 0]) ?_ 2 _ rfl; (with_reducible repeat first | refine bN ?_ _ | refine bD ?_ | refine bA ?_ _); refine blk_put (cs := #[.string ((rd_T26 l0 x10_1).f0), .int .i64 0, .int .i64 0, .int .i64 0]) ?_ 1 _ rfl; (with_reducible repeat first | refine bN ?_ _ | refine bD ?_ | refine bA ?_ _); refine blk_put (cs := #[.string (⟨#[]⟩ : ByteArray), .int .i64 0, .int .i64 0, .int .i64 0]) ?_ 0 _ rfl; (with_reducible repeat first | refine bN ?_ _ | refine bD ?_ | refine bA ?_ _); exact BK186.out) hg (Kd.R_away HO_5.out (fun _ hk => hk.2))); replace HB := Aside0.mk (hb); have HO189 := Aside0.mk (ho); clear HO_5; clear ho hb hg hat))
        go_roundg k1
        case measure => have := HK1.out; omega
        case rel => exact ⟨(y187), (wrap64 (x10_1 + 1)), (by first | rfl | (simp; done) | (simp [*]; done)), H', ⟨by have := HK1.out; omega⟩, ⟨by (with_reducible repeat (first | apply Kd.R_alloc | apply Kd.R_drewN | apply Kd.R_drew)); exact Kd.R_mono HO189.out (fun _ hk => trivial)⟩, ⟨(haveI := gI GE186; uS HB)⟩⟩
       ·rw [if_neg c7] at H
        exact absurd H (by simp)
      ·rw [if_neg c6] at H
       have c6b0 : (((rd_T26 l0 x10_1).f3) == a1) = false := beq_eq_false_iff_ne.mpr c6
       have c6b1 : (((rd_T26 l0 x10_1).f3) != a1) = true := bne_iff_ne.mpr c6
       have H' := Aside0.mk H
       clear H
       have p185 : 0 ≤ (x10_1 : Int) := of_decide_eq_true (by first | (with_reducible assumption) | assumption)
       have q185 : x10_1 < (l0.length : Int) := of_decide_eq_true (by first | (with_reducible assumption) | assumption)
       obtain ⟨ad185, e185, hx185_0, hx185_1, hx185_2, hx185_3⟩ := at_T26 HR0.out x10_1 p185 q185
       cases e185
       replace hx185_0 := kC HB hx185_0
       replace hx185_1 := kC HB hx185_1
       replace hx185_2 := kC HB hx185_2
       replace hx185_3 := kC HB hx185_3
       replace p185 := eq_true p185
       replace q185 := eq_true q185
       go_wp2_with (first | ((with_reducible refine gate_dst (N := 7) rfl ?_); refine box_event ?hg (N := 7) ?hd (cs := #[.string (⟨#[]⟩ : ByteArray), .int .i64 0, .int .i64 0, .int .i64 0]) (t := 26) ?hr ?_; (case hd => rfl); (case hg => rfl); (case hr => first | (go_simp; done) | (go_simp; rfl)); intro gb186 hg w11 hbox hb; replace HO_5 := Aside0.mk (Kd.R_below (Kd.R_elderB (by (with_reducible repeat (first | apply Kd.R_alloc | apply Kd.R_drewN | apply Kd.R_drew)); exact HO_5.out) gb186 (Nat.le_of_eq hg.symm)) hb); have BK186 := Aside0.mk hbox; have GW186 := gE HB hg; replace HB := bB HB hb; have GE186 := GW186; clear hb hbox hg; have hcz12_0 : w11.cell? ⟨gb186, 0, none⟩ = some (.string (⟨#[]⟩ : ByteArray)) := bC BK186 0 rfl; have hcz12_1 : w11.cell? ⟨gb186, 1, none⟩ = some (.int .i64 0) := bC BK186 1 rfl; have hcz12_2 : w11.cell? ⟨gb186, 2, none⟩ = some (.int .i64 0) := bC BK186 2 rfl; have hcz12_3 : w11.cell? ⟨gb186, 3, none⟩ = some (.int .i64 0) := bC BK186 3 rfl; have hfz12_0 := bF BK186 0; have hfz12_1 := bF BK186 1; have hfz12_2 := bF BK186 2; have hfz12_3 := bF BK186 3))
       go_roundg k1
       case measure => have := HK1.out; omega
       case rel => exact ⟨(x5_1), (wrap64 (x10_1 + 1)), (by first | rfl | (simp; done) | (simp [*]; done)), H', ⟨by have := HK1.out; omega⟩, ⟨by (with_reducible repeat (first | apply Kd.R_alloc | apply Kd.R_drewN | apply Kd.R_drew)); exact Kd.R_mono (Kd.R_far (p := ⟨gb186, 3, none⟩) (Kd.R_far (p := ⟨gb186, 2, none⟩) (Kd.R_far (p := ⟨gb186, 1, none⟩) (Kd.R_far (p := ⟨gb186, 0, none⟩) (Kd.R_mono HO_5.out (fun k_ hk => (⟨hk, hk.2⟩ : _ ∧ k_ ≠ gb186))) (fun _ hk => hk.2) (.string ((rd_T26 l0 x10_1).f0))) (fun _ hk => hk.2) (.int .i64 ((rd_T26 l0 x10_1).f1))) (fun _ hk => hk.2) (.int .i64 ((rd_T26 l0 x10_1).f2))) (fun _ hk => hk.2) (.int .i64 ((rd_T26 l0 x10_1).f3))) (fun _ hk => trivial)⟩, ⟨(haveI := gI GE186; uS HB)⟩⟩
     ·rw [if_neg c5] at H
      exact absurd H (by simp)
    ·rw [if_neg c4] at H
     exact absurd H (by simp)
   ·rw [if_neg c3] at H
    have c3b0 : decide (x10_1 < (l0.length : Int)) = false := decide_eq_false c3
    clear c3
    obtain rfl := Option.some.inj H
    go_wp2
    go_ret
    exact ⟨_, by first | rfl | (simp [errW_none, errW_some] <;> rfl) | (simp [*, errW_none, errW_some] <;> rfl), by (with_reducible repeat (first | apply Kd.R_alloc | apply Kd.R_drewN | apply Kd.R_drew)); exact HO_5.out, (uS HB)⟩
end Go.Proofs.YtbiapfjhdggkpaaDoor.PA

