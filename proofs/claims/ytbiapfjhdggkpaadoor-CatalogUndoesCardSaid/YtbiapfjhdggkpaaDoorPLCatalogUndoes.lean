-- Printed by wip/tool/myprint.py for this claim; Lean checks it.
import Derived.Test.YtbiapfjhdggkpaaDoorPAx0
import Derived.Test.YtbiapfjhdggkpaaDoorPAx4
import Derived.Test.YtbiapfjhdggkpaaDoorPAx5
import Derived.Test.YtbiapfjhdggkpaaDoorPAx7
import Derived.Test.YtbiapfjhdggkpaaDoorPAx9
import Derived.Test.YtbiapfjhdggkpaaDoorSlim
import Derived.Test.YtbiapfjhdggkpaaDoorT17
namespace Go.Proofs.YtbiapfjhdggkpaaDoor.PA
open Go.RowKit Go.Proofs.YtbiapfjhdggkpaaDoorW.PrintWords Go.Proofs.YtbiapfjhdggkpaaDoorW.PrintLast Go.Proofs.YtbiapfjhdggkpaaDoorW.PrintMore
attribute [local go_sem] max2_int min2_int max_two min_two max_three min_three max_four min_four   -- for this text's walks alone
set_option linter.unusedVariables false
set_option linter.unusedSimpArgs false

attribute [local go_sem high] eqA26
/-! ### clusterlockslaw05_CatalogUndoes: function 9 -/
def clusterlockslaw05_CatalogUndoes.f (k : Nat) (l0 : List (S26)) (a1_0 : ByteArray) (a1_1 : Int) (a1_2 : Int) (a1_3 : Int) : Option (Bool) := (catalog_Insert.f k l0 a1_0 a1_1 a1_2 a1_3).bind fun bt265 => (if bt265.2 = 0 then ((catalog_Remove.f k bt265.1 a1_0).bind fun bt270 => ((catalog_Find.f k bt265.1 a1_0).bind fun bt274 => ((clusterlockslaw05_awake.f k).bind fun t280 => (if t280 = true then ((clusterlocksref05_Valid.f k bt265.1).bind fun t281 => (if t281 = true then (if (bt265.1.length : Int) = (wrap64 ((l0.length : Int) + 1)) then (if bt274.2.2.2.2 = true then (if (bt274.1.toList == a1_0.toList && (bt274.2.1 == a1_1 && (bt274.2.2.1 == a1_2 && (bt274.2.2.2.1 == a1_3)))) = true then (if bt270.2 = 0 then ((clusterlocksref05_Same.f k bt270.1 l0).bind fun t282 => (some t282)) else (some false)) else (some false)) else (some false)) else (some false)) else (some false))) else (some false))))) else ((clusterlockslaw05_awake.f k).bind fun t269 => (if t269 = true then (some ((bt265.1.length : Int) == 0)) else (some false))))
theorem clusterlockslaw05_CatalogUndoes.mono : ∀ a0 a1 a2 a3 a4 k, LeO (clusterlockslaw05_CatalogUndoes.f k a0 a1 a2 a3 a4) (clusterlockslaw05_CatalogUndoes.f (k + 1) a0 a1 a2 a3 a4) := by
 intro a0 a1 a2 a3 a4 k
 unfold clusterlockslaw05_CatalogUndoes.f
 repeat' first
   | (with_reducible exact catalog_Find.mono _ _ _)
   | (with_reducible exact catalog_Insert.mono _ _ _ _ _ _)
   | (with_reducible exact catalog_Remove.mono _ _ _)
   | (with_reducible exact clusterlockslaw05_awake.mono _)
   | (with_reducible exact clusterlocksref05_Same.mono _ _ _)
   | (with_reducible exact clusterlocksref05_Valid.mono _ _)
   | (with_reducible exact LeO.refl _)
   | (with_reducible exact LeO.none _)
   | (with_reducible refine LeO.ite ?_ ?_)
   | (with_reducible refine LeO.bind ?_ (fun _ => ?_))
   | exact catalog_Find.mono _ _ _
   | exact catalog_Insert.mono _ _ _ _ _ _
   | exact catalog_Remove.mono _ _ _
   | exact clusterlockslaw05_awake.mono _
   | exact clusterlocksref05_Same.mono _ _ _
   | exact clusterlocksref05_Valid.mono _ _
   | exact LeO.none _
   | refine LeO.ite ?_ ?_
   | refine LeO.bind ?_ (fun _ => ?_)
set_option maxHeartbeats 8000000 in
set_option maxRecDepth 100000 in
theorem clusterlockslaw05_CatalogUndoes.calls (k : Nat) (A0 : Option Addr) (c0 : Nat) (l0 : List (S26)) (a1_0 : ByteArray) (a1_1 : Int) (a1_2 : Int) (a1_3 : Int) (r : Bool) (w : World) (hr0 : Kd.C k26 w A0 l0.length l0) (hc0 : l0.length ≤ c0) (h : clusterlockslaw05_CatalogUndoes.f k l0 a1_0 a1_1 a1_2 a1_3 = some r) (hT : r = true) :
  Calls Tryd.prog 9 #[.slice A0 l0.length c0, .agg #[.string a1_0, .int .i64 a1_1, .int .i64 a1_2, .int .i64 a1_3]] w fun e w' => e = .returned (.bool r) ∧ Below w.heap.size w w' := by
 have hu26 := Tryd.underlying26
 have HR0 := Aside0.mk hr0
 have HC0 := Aside0.mk hc0
 clear hr0 hc0
 have HB := Aside0.mk (Below.refl w.heap.size w)
 have H : ((catalog_Insert.f k l0 a1_0 a1_1 a1_2 a1_3).bind fun bt265 => (if bt265.2 = 0 then ((catalog_Remove.f k bt265.1 a1_0).bind fun bt270 => ((catalog_Find.f k bt265.1 a1_0).bind fun bt274 => ((clusterlockslaw05_awake.f k).bind fun t280 => (if t280 = true then ((clusterlocksref05_Valid.f k bt265.1).bind fun t281 => (if t281 = true then (if (bt265.1.length : Int) = (wrap64 ((l0.length : Int) + 1)) then (if bt274.2.2.2.2 = true then (if (bt274.1.toList == a1_0.toList && (bt274.2.1 == a1_1 && (bt274.2.2.1 == a1_2 && (bt274.2.2.2.1 == a1_3)))) = true then (if bt270.2 = 0 then ((clusterlocksref05_Same.f k bt270.1 l0).bind fun t282 => (some t282)) else (some false)) else (some false)) else (some false)) else (some false)) else (some false))) else (some false))))) else ((clusterlockslaw05_awake.f k).bind fun t269 => (if t269 = true then (some ((bt265.1.length : Int) == 0)) else (some false))))) = some r := h
 have HRT := Aside0.mk hT
 clear h
 replace H := Option.bind_eq_some_iff.mp H
 obtain ⟨⟨t265, t268⟩, A30, H⟩ := H
 replace H : (if t268 = 0 then ((catalog_Remove.f k t265 a1_0).bind fun bt270 => ((catalog_Find.f k t265 a1_0).bind fun bt274 => ((clusterlockslaw05_awake.f k).bind fun t280 => (if t280 = true then ((clusterlocksref05_Valid.f k t265).bind fun t281 => (if t281 = true then (if (t265.length : Int) = (wrap64 ((l0.length : Int) + 1)) then (if bt274.2.2.2.2 = true then (if (bt274.1.toList == a1_0.toList && (bt274.2.1 == a1_1 && (bt274.2.2.1 == a1_2 && (bt274.2.2.2.1 == a1_3)))) = true then (if bt270.2 = 0 then ((clusterlocksref05_Same.f k bt270.1 l0).bind fun t282 => (some t282)) else (some false)) else (some false)) else (some false)) else (some false)) else (some false))) else (some false))))) else ((clusterlockslaw05_awake.f k).bind fun t269 => (if t269 = true then (some ((t265.length : Int) == 0)) else (some false)))) = some r := H
 have A3 := Aside0.mk A30; clear A30
 by_cases c4 : t268 = 0
 ·rw [if_pos c4] at H
  have c4b0 : (t268 == 0) = true := beq_iff_eq.mpr c4
  have c4b1 : (t268 != 0) = false := bne_eq_false_iff_eq.mpr c4
  clear c4
  replace H := Option.bind_eq_some_iff.mp H
  obtain ⟨⟨t270, t271⟩, A50, H⟩ := H
  replace H : ((catalog_Find.f k t265 a1_0).bind fun bt274 => ((clusterlockslaw05_awake.f k).bind fun t280 => (if t280 = true then ((clusterlocksref05_Valid.f k t265).bind fun t281 => (if t281 = true then (if (t265.length : Int) = (wrap64 ((l0.length : Int) + 1)) then (if bt274.2.2.2.2 = true then (if (bt274.1.toList == a1_0.toList && (bt274.2.1 == a1_1 && (bt274.2.2.1 == a1_2 && (bt274.2.2.2.1 == a1_3)))) = true then (if t271 = 0 then ((clusterlocksref05_Same.f k t270 l0).bind fun t282 => (some t282)) else (some false)) else (some false)) else (some false)) else (some false)) else (some false))) else (some false)))) = some r := H
  have A5 := Aside0.mk A50; clear A50
  replace H := Option.bind_eq_some_iff.mp H
  obtain ⟨⟨t274, t275, t276, t277, t278⟩, A60, H⟩ := H
  replace H : ((clusterlockslaw05_awake.f k).bind fun t280 => (if t280 = true then ((clusterlocksref05_Valid.f k t265).bind fun t281 => (if t281 = true then (if (t265.length : Int) = (wrap64 ((l0.length : Int) + 1)) then (if t278 = true then (if (t274.toList == a1_0.toList && (t275 == a1_1 && (t276 == a1_2 && (t277 == a1_3)))) = true then (if t271 = 0 then ((clusterlocksref05_Same.f k t270 l0).bind fun t282 => (some t282)) else (some false)) else (some false)) else (some false)) else (some false)) else (some false))) else (some false))) = some r := H
  have A6 := Aside0.mk A60; clear A60
  obtain ⟨t280, A70, H⟩ := Option.bind_eq_some_iff.mp H
  have A7 := Aside0.mk A70; clear A70
  have HH_ := Aside0.mk H
  clear H
  go_enter Tryd.func9, Tryd.ntmps9
  have H := HH_.out
  clear HH_
  by_cases c8 : t280 = true
  ·subst c8
   rw [if_pos rfl] at H
   obtain ⟨t281, A90, H⟩ := Option.bind_eq_some_iff.mp H
   have A9 := Aside0.mk A90; clear A90
   by_cases c10 : t281 = true
   ·subst c10
    rw [if_pos rfl] at H
    by_cases c11 : (t265.length : Int) = (wrap64 ((l0.length : Int) + 1))
    ·rw [if_pos c11] at H
     have c11b0 : ((t265.length : Int) == (wrap64 ((l0.length : Int) + 1))) = true := beq_iff_eq.mpr c11
     have c11b1 : ((t265.length : Int) != (wrap64 ((l0.length : Int) + 1))) = false := bne_eq_false_iff_eq.mpr c11
     clear c11
     (try simp only [c11b0, c11b1])
     by_cases c12 : t278 = true
     ·subst c12
      rw [if_pos rfl] at H
      by_cases c13 : (t274.toList == a1_0.toList && (t275 == a1_1 && (t276 == a1_2 && (t277 == a1_3)))) = true
      ·rw [if_pos c13] at H
       have c13b0 : (t274.toList == a1_0.toList && (t275 == a1_1 && (t276 == a1_2 && (t277 == a1_3)))) = true := c13
       (try (have c13b1 : decide (t274.toList = a1_0.toList && (t275 == a1_1 && (t276 == a1_2 && (t277 == a1_3)))) = true := by simpa using c13))
       (try (have c13b2 : (t274.toList == a1_0.toList && (t275 == a1_1 && (t276 == a1_2 && (t277 == a1_3)))) = true := by simpa using c13))
       clear c13
       (try simp only [c13b0, c13b1, c13b2])
       by_cases c14 : t271 = 0
       ·rw [if_pos c14] at H
        have c14b0 : (t271 == 0) = true := beq_iff_eq.mpr c14
        have c14b1 : (t271 != 0) = false := bne_eq_false_iff_eq.mpr c14
        clear c14
        obtain ⟨t282, A150, H⟩ := Option.bind_eq_some_iff.mp H
        have A15 := Aside0.mk A150; clear A150
        obtain rfl := Option.some.inj H
        (try simp only [c14b0, c14b1])
        go_wp2_with (first | ((with_reducible refine gate_dst (N := 3) rfl ?_); (try (refine gate_guard (by rfl) ?_; dsimp only)); refine box_event ?hg (N := 3) ?hd (cs := #[.string a1_0, .int .i64 a1_1, .int .i64 a1_2, .int .i64 a1_3]) (t := 26) ?hr ?_; (case hd => rfl); (case hg => rfl); (case hr => first | (go_simp; done) | (go_simp; rfl)); intro gb264 hg w16 hbox hb; have BK264 := Aside0.mk hbox; have GW264 := gE HB hg; replace HB := bB HB hb; have GE264 := GW264; clear hb hbox hg; have hcz17_0 : w16.cell? ⟨gb264, 0, none⟩ = some (.string a1_0) := bC BK264 0 rfl; have hcz17_1 : w16.cell? ⟨gb264, 1, none⟩ = some (.int .i64 a1_1) := bC BK264 1 rfl; have hcz17_2 : w16.cell? ⟨gb264, 2, none⟩ = some (.int .i64 a1_2) := bC BK264 2 rfl; have hcz17_3 : w16.cell? ⟨gb264, 3, none⟩ = some (.int .i64 a1_3) := bC BK264 3 rfl; have hfz17_0 := bF BK264 0; have hfz17_1 := bF BK264 1; have hfz17_2 := bF BK264 2; have hfz17_3 := bF BK264 3) | ((with_reducible refine gate_callee (f := 22) rfl ?_); refine goesL_ (some 14) rfl rfl Tryd.func22 (by kernel_rfl) rfl #[.slice A0 l0.length c0, .agg #[.string a1_0, .int .i64 a1_1, .int .i64 a1_2, .int .i64 a1_3]] rfl (by (try simp only [mA]); first | done | rfl) ?_; (with_reducible refine (catalog_Insert.calls k _ _ l0 a1_0 a1_1 a1_2 a1_3 t265 t268 _ ?side1 ?side2 A3.out).mono ?_); (case side1 => repeat (first | exact (Kd.C_below HR0.out HB.out) | (with_reducible refine Kd.C_alloc ?_ _) | (with_reducible refine Kd.C_drewN ?_ _) | (with_reducible refine Kd.C_drew ?_))); (case side2 => exact HC0.out); rintro e w18 ⟨v266, rfl, ho0, hb⟩; refine ⟨_, rfl, ?_⟩; have HO267 := Aside0.mk (Kd.R_lower (Kd.R_newB ho0 (g := gb264) (o := .cells #[.string a1_0, .int .i64 a1_1, .int .i64 a1_2, .int .i64 a1_3] 26 (0, 0)) (uK BK264)) (below_size (uB HB))); replace BK264 := bK BK264 hb; replace HB := bB HB hb; (try clear hb); (try clear hk); (try clear ho0); obtain ⟨hcz19_0, hcz19_1, hcz19_2, hcz19_3, hfz19_0, hfz19_1, hfz19_2, hfz19_3⟩ := d4 BK264; obtain ⟨Ao20, co20, eo20⟩ := Kd.R_slice HO267.out; subst eo20) | ((with_reducible refine gate_callee (f := 26) rfl ?_); refine goesL_ (some 29) rfl rfl Tryd.func26 (by kernel_rfl) rfl #[.slice Ao20 t265.length co20, .string a1_0] rfl (by (try simp only [mA]); first | done | rfl) ?_; (with_reducible refine (catalog_Remove.calls k _ _ t265 a1_0 t270 t271 _ ?side1 ?side2 A5.out).mono ?_); (case side1 => repeat (first | exact (Kd.R_reads' HO267.out).2.2 | (with_reducible refine Kd.C_alloc ?_ _) | (with_reducible refine Kd.C_drewN ?_ _) | (with_reducible refine Kd.C_drew ?_))); (case side2 => exact (Kd.R_reads' HO267.out).2.1); rintro e w21 ⟨v272, rfl, ho0, hb⟩; refine ⟨_, rfl, ?_⟩; have HO273 := Aside0.mk (Kd.R_lower (Kd.R_newB (Kd.R_new' ho0 (Kd.R_lt (by (with_reducible repeat (first | apply Kd.R_alloc | apply Kd.R_drewN | apply Kd.R_drew)); exact HO267.out))) (g := gb264) (o := .cells #[.string a1_0, .int .i64 a1_1, .int .i64 a1_2, .int .i64 a1_3] 26 (0, 0)) (uK BK264)) (below_size (uB HB))); replace HO267 := Aside0.mk (Kd.R_elder' (by (with_reducible repeat (first | apply Kd.R_alloc | apply Kd.R_drewN | apply Kd.R_drew)); exact HO267.out) (Kd.R_base ho0) hb); replace BK264 := bK BK264 hb; replace HB := bB HB hb; (try clear hb); (try clear hk); (try clear ho0); have hcz22_0 : w21.cell? ⟨gb264, 0, none⟩ = some (.string a1_0) := bC BK264 0 rfl; have hcz22_1 : w21.cell? ⟨gb264, 1, none⟩ = some (.int .i64 a1_1) := bC BK264 1 rfl; have hcz22_2 : w21.cell? ⟨gb264, 2, none⟩ = some (.int .i64 a1_2) := bC BK264 2 rfl; have hcz22_3 : w21.cell? ⟨gb264, 3, none⟩ = some (.int .i64 a1_3) := bC BK264 3 rfl; have hfz22_0 := bF BK264 0; have hfz22_1 := bF BK264 1; have hfz22_2 := bF BK264 2; have hfz22_3 := bF BK264 3) | ((with_reducible refine gate_callee (f := 28) rfl ?_); refine goesL_ (some 36) rfl rfl Tryd.func28 (by kernel_rfl) rfl #[.slice Ao20 t265.length co20, .string a1_0] rfl (by (try simp only [mA]); first | done | rfl) ?_; (with_reducible refine (catalog_Find.calls k _ _ t265 a1_0 t274 t275 t276 t277 true _ ?side1 ?side2 A6.out).mono ?_); (case side1 => repeat (first | exact (Kd.R_reads' HO267.out).2.2 | (with_reducible refine Kd.C_alloc ?_ _) | (with_reducible refine Kd.C_drewN ?_ _) | (with_reducible refine Kd.C_drew ?_))); (case side2 => exact (Kd.R_reads' HO267.out).2.1); rintro e w23 ⟨rfl, hb⟩; refine ⟨_, rfl, ?_⟩; replace HO267 := Aside0.mk (Kd.R_below (by (with_reducible repeat (first | apply Kd.R_alloc | apply Kd.R_drewN | apply Kd.R_drew)); exact HO267.out) hb); replace HO273 := Aside0.mk (Kd.R_below (by (with_reducible repeat (first | apply Kd.R_alloc | apply Kd.R_drewN | apply Kd.R_drew)); exact HO273.out) hb); replace BK264 := bK BK264 hb; replace HB := bB HB hb; (try clear hb); (try clear hk)) | ((with_reducible refine gate_dst (N := 9) rfl ?_); (try (refine gate_guard (by rfl) ?_; dsimp only)); refine box_event ?hg (N := 9) ?hd (cs := #[.string (⟨#[]⟩ : ByteArray), .int .i64 0, .int .i64 0, .int .i64 0]) (t := 26) ?hr ?_; (case hd => rfl); (case hg => rfl); (case hr => first | (go_simp; done) | (go_simp; rfl)); intro gb279 hg w24 hbox hb; replace HO267 := Aside0.mk (Kd.R_below (Kd.R_elderB (by (with_reducible repeat (first | apply Kd.R_alloc | apply Kd.R_drewN | apply Kd.R_drew)); exact HO267.out) gb279 (Nat.le_of_eq hg.symm)) hb); replace HO273 := Aside0.mk (Kd.R_below (Kd.R_elderB (by (with_reducible repeat (first | apply Kd.R_alloc | apply Kd.R_drewN | apply Kd.R_drew)); exact HO273.out) gb279 (Nat.le_of_eq hg.symm)) hb); have BK279 := Aside0.mk hbox; have GW279 := gE HB hg; replace HB := bB HB hb; have GE279 := GW279; have NB264_279 := gN BK264 hg; replace BK264 := bK BK264 hb; have NB279_264 := Aside0.mk NB264_279.out.symm; clear hb hbox hg; have hnb25 := NB279_264.out; have hnc25 := NB264_279.out; have hcz26_0 : w24.cell? ⟨gb279, 0, none⟩ = some (.string (⟨#[]⟩ : ByteArray)) := bC BK279 0 rfl; have hcz26_1 : w24.cell? ⟨gb279, 1, none⟩ = some (.int .i64 0) := bC BK279 1 rfl; have hcz26_2 : w24.cell? ⟨gb279, 2, none⟩ = some (.int .i64 0) := bC BK279 2 rfl; have hcz26_3 : w24.cell? ⟨gb279, 3, none⟩ = some (.int .i64 0) := bC BK279 3 rfl; have hfz26_0 := bF BK279 0; have hfz26_1 := bF BK279 1; have hfz26_2 := bF BK279 2; have hfz26_3 := bF BK279 3) | ((with_reducible refine gate_callee (f := 13) rfl ?_); refine goesL_ (some 39) rfl rfl Tryd.func13 (by kernel_rfl) rfl #[] rfl (by (try simp only [mA]); first | done | rfl) ?_; (with_reducible refine (clusterlockslaw05_awake.calls k  true _ A7.out).mono ?_); rintro e w27 ⟨rfl, hb⟩; refine ⟨_, rfl, ?_⟩; replace HO267 := Aside0.mk (Kd.R_below (by (with_reducible repeat (first | apply Kd.R_alloc | apply Kd.R_drewN | apply Kd.R_drew)); exact (Kd.R_mono (Kd.R_far (p := ⟨gb279, 3, none⟩) (Kd.R_far (p := ⟨gb279, 2, none⟩) (Kd.R_far (p := ⟨gb279, 1, none⟩) (Kd.R_far (p := ⟨gb279, 0, none⟩) (Kd.R_mono HO267.out (fun k_ hk => (⟨hk, hk.2⟩ : _ ∧ k_ ≠ gb279))) (fun _ hk => hk.2) (.string t274)) (fun _ hk => hk.2) (.int .i64 t275)) (fun _ hk => hk.2) (.int .i64 t276)) (fun _ hk => hk.2) (.int .i64 t277)) (fun _ h_ => h_.1))) hb); replace HO273 := Aside0.mk (Kd.R_below (by (with_reducible repeat (first | apply Kd.R_alloc | apply Kd.R_drewN | apply Kd.R_drew)); exact (Kd.R_mono (Kd.R_far (p := ⟨gb279, 3, none⟩) (Kd.R_far (p := ⟨gb279, 2, none⟩) (Kd.R_far (p := ⟨gb279, 1, none⟩) (Kd.R_far (p := ⟨gb279, 0, none⟩) (Kd.R_mono HO273.out (fun k_ hk => (⟨hk, hk.2⟩ : _ ∧ k_ ≠ gb279))) (fun _ hk => hk.2) (.string t274)) (fun _ hk => hk.2) (.int .i64 t275)) (fun _ hk => hk.2) (.int .i64 t276)) (fun _ hk => hk.2) (.int .i64 t277)) (fun _ h_ => h_.1))) hb); replace BK264 := (haveI := nI NB264_279; bG BK264 hb); replace BK279 := bP4 BK279 hb; replace HB := (haveI := gI GE279; bT HB hb); (try clear hb); (try clear hk)) | (go_at_call 21; (with_reducible refine (clusterlocksref05_Valid.calls k _ _ t265 true _ ?side1 ?side2 A9.out).mono ?_); (case side1 => repeat (first | exact (Kd.R_reads' HO267.out).2.2 | (with_reducible refine Kd.C_alloc ?_ _) | (with_reducible refine Kd.C_drewN ?_ _) | (with_reducible refine Kd.C_drew ?_))); (case side2 => exact (Kd.R_reads' HO267.out).2.1); rintro e w28 ⟨rfl, hb⟩; replace HO267 := Aside0.mk (Kd.R_below (by (with_reducible repeat (first | apply Kd.R_alloc | apply Kd.R_drewN | apply Kd.R_drew)); exact HO267.out) hb); replace HO273 := Aside0.mk (Kd.R_below (by (with_reducible repeat (first | apply Kd.R_alloc | apply Kd.R_drewN | apply Kd.R_drew)); exact HO273.out) hb); replace BK264 := bK BK264 hb; replace BK279 := bK BK279 hb; replace HB := (haveI := gI GE279; bT HB hb); (try clear hb); (try clear hk); obtain ⟨hcz29_0, hcz29_1, hcz29_2, hcz29_3, hfz29_0, hfz29_1, hfz29_2, hfz29_3⟩ := d4 BK279; obtain ⟨hcz30_0, hcz30_1, hcz30_2, hcz30_3, hfz30_0, hfz30_1, hfz30_2, hfz30_3⟩ := d4 BK264; obtain ⟨Ao31, co31, eo31⟩ := Kd.R_slice HO273.out; subst eo31) | (go_at_call 24; (with_reducible refine (clusterlocksref05_Same.calls k _ _ t270 _ _ l0 t282 _ ?side1 ?side2 ?side3 ?side4 A15.out).mono ?_); (case side1 => repeat (first | exact (Kd.R_reads' HO273.out).2.2 | (with_reducible refine Kd.C_alloc ?_ _) | (with_reducible refine Kd.C_drewN ?_ _) | (with_reducible refine Kd.C_drew ?_))); (case side2 => exact (Kd.R_reads' HO273.out).2.1); (case side3 => repeat (first | exact (Kd.C_below HR0.out HB.out) | (with_reducible refine Kd.C_alloc ?_ _) | (with_reducible refine Kd.C_drewN ?_ _) | (with_reducible refine Kd.C_drew ?_))); (case side4 => exact HC0.out); rintro e w' ⟨rfl, ⟨nd, rfl⟩⟩))
        go_ret
        exact ⟨by first | rfl | (simp [errW_none, errW_some] <;> rfl) | (simp [*, errW_none, errW_some] <;> rfl), (haveI := gI GE279; uS HB)⟩
       ·rw [if_neg c14] at H
        have c14b0 : (t271 == 0) = false := beq_eq_false_iff_ne.mpr c14
        have c14b1 : (t271 != 0) = true := bne_iff_ne.mpr c14
        exact absurd (Option.some.inj H) (by rw [HRT.out]; decide)
      ·rw [if_neg c13] at H
       have c13b0 : (t274.toList == a1_0.toList && (t275 == a1_1 && (t276 == a1_2 && (t277 == a1_3)))) = false := by simpa using c13
       (try (have c13b1 : decide (t274.toList = a1_0.toList && (t275 == a1_1 && (t276 == a1_2 && (t277 == a1_3)))) = false := by simpa using c13))
       (try (have c13b2 : (t274.toList == a1_0.toList && (t275 == a1_1 && (t276 == a1_2 && (t277 == a1_3)))) = false := by simpa using c13))
       (try (have c13b3 : ¬ (t274.toList = a1_0.toList && (t275 == a1_1 && (t276 == a1_2 && (t277 == a1_3)))) := by simpa using c13))
       clear c13
       exact absurd (Option.some.inj H) (by rw [HRT.out]; decide)
     ·replace c12 := Bool.eq_false_iff.mpr c12
      subst c12
      rw [if_neg (show ¬ (false = true) by decide)] at H
      exact absurd (Option.some.inj H) (by rw [HRT.out]; decide)
    ·rw [if_neg c11] at H
     have c11b0 : ((t265.length : Int) == (wrap64 ((l0.length : Int) + 1))) = false := beq_eq_false_iff_ne.mpr c11
     have c11b1 : ((t265.length : Int) != (wrap64 ((l0.length : Int) + 1))) = true := bne_iff_ne.mpr c11
     exact absurd (Option.some.inj H) (by rw [HRT.out]; decide)
   ·replace c10 := Bool.eq_false_iff.mpr c10
    subst c10
    rw [if_neg (show ¬ (false = true) by decide)] at H
    exact absurd (Option.some.inj H) (by rw [HRT.out]; decide)
  ·replace c8 := Bool.eq_false_iff.mpr c8
   subst c8
   rw [if_neg (show ¬ (false = true) by decide)] at H
   exact absurd (Option.some.inj H) (by rw [HRT.out]; decide)
 ·rw [if_neg c4] at H
  have c4b0 : (t268 == 0) = false := beq_eq_false_iff_ne.mpr c4
  have c4b1 : (t268 != 0) = true := bne_iff_ne.mpr c4
  obtain ⟨t269, A1130, H⟩ := Option.bind_eq_some_iff.mp H
  have A113 := Aside0.mk A1130; clear A1130
  have HH_ := Aside0.mk H
  clear H
  go_enter Tryd.func9, Tryd.ntmps9
  have H := HH_.out
  clear HH_
  by_cases c114 : t269 = true
  ·subst c114
   rw [if_pos rfl] at H
   obtain rfl := Option.some.inj H
   go_wp2_with (first | ((with_reducible refine gate_dst (N := 3) rfl ?_); (try (refine gate_guard (by rfl) ?_; dsimp only)); refine box_event ?hg (N := 3) ?hd (cs := #[.string a1_0, .int .i64 a1_1, .int .i64 a1_2, .int .i64 a1_3]) (t := 26) ?hr ?_; (case hd => rfl); (case hg => rfl); (case hr => first | (go_simp; done) | (go_simp; rfl)); intro gb264 hg w115 hbox hb; have BK264 := Aside0.mk hbox; have GW264 := gE HB hg; replace HB := bB HB hb; have GE264 := GW264; clear hb hbox hg; have hcz116_0 : w115.cell? ⟨gb264, 0, none⟩ = some (.string a1_0) := bC BK264 0 rfl; have hcz116_1 : w115.cell? ⟨gb264, 1, none⟩ = some (.int .i64 a1_1) := bC BK264 1 rfl; have hcz116_2 : w115.cell? ⟨gb264, 2, none⟩ = some (.int .i64 a1_2) := bC BK264 2 rfl; have hcz116_3 : w115.cell? ⟨gb264, 3, none⟩ = some (.int .i64 a1_3) := bC BK264 3 rfl; have hfz116_0 := bF BK264 0; have hfz116_1 := bF BK264 1; have hfz116_2 := bF BK264 2; have hfz116_3 := bF BK264 3) | ((with_reducible refine gate_callee (f := 22) rfl ?_); refine goesL_ (some 14) rfl rfl Tryd.func22 (by kernel_rfl) rfl #[.slice A0 l0.length c0, .agg #[.string a1_0, .int .i64 a1_1, .int .i64 a1_2, .int .i64 a1_3]] rfl (by (try simp only [mA]); first | done | rfl) ?_; (with_reducible refine (catalog_Insert.calls k _ _ l0 a1_0 a1_1 a1_2 a1_3 t265 t268 _ ?side1 ?side2 A3.out).mono ?_); (case side1 => repeat (first | exact (Kd.C_below HR0.out HB.out) | (with_reducible refine Kd.C_alloc ?_ _) | (with_reducible refine Kd.C_drewN ?_ _) | (with_reducible refine Kd.C_drew ?_))); (case side2 => exact HC0.out); rintro e w117 ⟨v266, rfl, ho0, hb⟩; refine ⟨_, rfl, ?_⟩; have HO267 := Aside0.mk (Kd.R_lower (Kd.R_newB ho0 (g := gb264) (o := .cells #[.string a1_0, .int .i64 a1_1, .int .i64 a1_2, .int .i64 a1_3] 26 (0, 0)) (uK BK264)) (below_size (uB HB))); replace BK264 := bK BK264 hb; replace HB := bB HB hb; (try clear hb); (try clear hk); (try clear ho0)) | ((with_reducible refine gate_callee (f := 13) rfl ?_); refine goesL_ (some 19) rfl rfl Tryd.func13 (by kernel_rfl) rfl #[] rfl (by (try simp only [mA]); first | done | rfl) ?_; (with_reducible refine (clusterlockslaw05_awake.calls k  true _ A113.out).mono ?_); rintro e w118 ⟨rfl, hb⟩; refine ⟨_, rfl, ?_⟩; replace HO267 := Aside0.mk (Kd.R_below (by (with_reducible repeat (first | apply Kd.R_alloc | apply Kd.R_drewN | apply Kd.R_drew)); exact HO267.out) hb); replace BK264 := bK BK264 hb; replace HB := bB HB hb; (try clear hb); (try clear hk); obtain ⟨Ao119, co119, eo119⟩ := Kd.R_slice HO267.out; subst eo119))
   go_ret
   exact ⟨by first | rfl | (simp [errW_none, errW_some] <;> rfl) | (simp [*, errW_none, errW_some] <;> rfl), (uS HB)⟩
  ·replace c114 := Bool.eq_false_iff.mpr c114
   subst c114
   rw [if_neg (show ¬ (false = true) by decide)] at H
   exact absurd (Option.some.inj H) (by rw [HRT.out]; decide)
end Go.Proofs.YtbiapfjhdggkpaaDoor.PA
