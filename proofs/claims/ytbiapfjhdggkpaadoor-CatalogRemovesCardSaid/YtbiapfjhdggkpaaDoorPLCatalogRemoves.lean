-- Printed by wip/tool/myprint.py for this claim; Lean checks it.
import Derived.Test.YtbiapfjhdggkpaaDoorPAx0
import Derived.Test.YtbiapfjhdggkpaaDoorPAx4
import Derived.Test.YtbiapfjhdggkpaaDoorPAx6
import Derived.Test.YtbiapfjhdggkpaaDoorPAx7
import Derived.Test.YtbiapfjhdggkpaaDoorPAx8
import Derived.Test.YtbiapfjhdggkpaaDoorPAx9
import Derived.Test.YtbiapfjhdggkpaaDoorSlim
import Derived.Test.YtbiapfjhdggkpaaDoorT17
namespace Go.Proofs.YtbiapfjhdggkpaaDoor.PA
open Go.RowKit Go.Proofs.YtbiapfjhdggkpaaDoorW.PrintWords Go.Proofs.YtbiapfjhdggkpaaDoorW.PrintLast Go.Proofs.YtbiapfjhdggkpaaDoorW.PrintMore
attribute [local go_sem] max2_int min2_int max_two min_two max_three min_three max_four min_four   -- for this text's walks alone
set_option linter.unusedVariables false
set_option linter.unusedSimpArgs false

attribute [local go_sem high] eqA26
/-! ### clusterlockslaw05_CatalogRemoves: function 8 -/
def clusterlockslaw05_CatalogRemoves.f (k : Nat) (l0 : List (S26)) (a1 : ByteArray) : Option (Bool) := (catalog_Find.f k l0 a1).bind fun bt242 => ((clusterlocksref05_Find.f k l0 a1).bind fun bt248 => ((catalog_Remove.f k l0 a1).bind fun bt254 => ((clusterlocksref05_Remove.f k l0 a1).bind fun bt258 => ((clusterlockslaw05_awake.f k).bind fun t262 => (if t262 = true then (if (bt242.1.toList == bt248.1.toList && (bt242.2.1 == bt248.2.1 && (bt242.2.2.1 == bt248.2.2.1 && (bt242.2.2.2.1 == bt248.2.2.2.1)))) = true then (if (bt242.2.2.2.2 == bt248.2.2.2.2) = true then (if bt254.2 = bt258.2 then ((clusterlocksref05_Same.f k bt254.1 bt258.1).bind fun t263 => (some t263)) else (some false)) else (some false)) else (some false)) else (some false))))))
theorem clusterlockslaw05_CatalogRemoves.mono : ∀ a0 a1 k, LeO (clusterlockslaw05_CatalogRemoves.f k a0 a1) (clusterlockslaw05_CatalogRemoves.f (k + 1) a0 a1) := by
 intro a0 a1 k
 unfold clusterlockslaw05_CatalogRemoves.f
 repeat' first
   | (with_reducible exact catalog_Find.mono _ _ _)
   | (with_reducible exact catalog_Remove.mono _ _ _)
   | (with_reducible exact clusterlockslaw05_awake.mono _)
   | (with_reducible exact clusterlocksref05_Find.mono _ _ _)
   | (with_reducible exact clusterlocksref05_Remove.mono _ _ _)
   | (with_reducible exact clusterlocksref05_Same.mono _ _ _)
   | (with_reducible exact LeO.refl _)
   | (with_reducible exact LeO.none _)
   | (with_reducible refine LeO.ite ?_ ?_)
   | (with_reducible refine LeO.bind ?_ (fun _ => ?_))
   | exact catalog_Find.mono _ _ _
   | exact catalog_Remove.mono _ _ _
   | exact clusterlockslaw05_awake.mono _
   | exact clusterlocksref05_Find.mono _ _ _
   | exact clusterlocksref05_Remove.mono _ _ _
   | exact clusterlocksref05_Same.mono _ _ _
   | exact LeO.none _
   | refine LeO.ite ?_ ?_
   | refine LeO.bind ?_ (fun _ => ?_)
set_option maxHeartbeats 8000000 in
set_option maxRecDepth 100000 in
theorem clusterlockslaw05_CatalogRemoves.calls (k : Nat) (A0 : Option Addr) (c0 : Nat) (l0 : List (S26)) (a1 : ByteArray) (r : Bool) (w : World) (hr0 : Kd.C k26 w A0 l0.length l0) (hc0 : l0.length ≤ c0) (h : clusterlockslaw05_CatalogRemoves.f k l0 a1 = some r) (hT : r = true) :
  Calls Tryd.prog 8 #[.slice A0 l0.length c0, .string a1] w fun e w' => e = .returned (.bool r) ∧ Below w.heap.size w w' := by
 have hu26 := Tryd.underlying26
 have HR0 := Aside0.mk hr0
 have HC0 := Aside0.mk hc0
 clear hr0 hc0
 have HB := Aside0.mk (Below.refl w.heap.size w)
 have H : ((catalog_Find.f k l0 a1).bind fun bt242 => ((clusterlocksref05_Find.f k l0 a1).bind fun bt248 => ((catalog_Remove.f k l0 a1).bind fun bt254 => ((clusterlocksref05_Remove.f k l0 a1).bind fun bt258 => ((clusterlockslaw05_awake.f k).bind fun t262 => (if t262 = true then (if (bt242.1.toList == bt248.1.toList && (bt242.2.1 == bt248.2.1 && (bt242.2.2.1 == bt248.2.2.1 && (bt242.2.2.2.1 == bt248.2.2.2.1)))) = true then (if (bt242.2.2.2.2 == bt248.2.2.2.2) = true then (if bt254.2 = bt258.2 then ((clusterlocksref05_Same.f k bt254.1 bt258.1).bind fun t263 => (some t263)) else (some false)) else (some false)) else (some false)) else (some false))))))) = some r := h
 have HRT := Aside0.mk hT
 clear h
 replace H := Option.bind_eq_some_iff.mp H
 obtain ⟨⟨t242, t243, t244, t245, t246⟩, A30, H⟩ := H
 replace H : ((clusterlocksref05_Find.f k l0 a1).bind fun bt248 => ((catalog_Remove.f k l0 a1).bind fun bt254 => ((clusterlocksref05_Remove.f k l0 a1).bind fun bt258 => ((clusterlockslaw05_awake.f k).bind fun t262 => (if t262 = true then (if (t242.toList == bt248.1.toList && (t243 == bt248.2.1 && (t244 == bt248.2.2.1 && (t245 == bt248.2.2.2.1)))) = true then (if (t246 == bt248.2.2.2.2) = true then (if bt254.2 = bt258.2 then ((clusterlocksref05_Same.f k bt254.1 bt258.1).bind fun t263 => (some t263)) else (some false)) else (some false)) else (some false)) else (some false)))))) = some r := H
 have A3 := Aside0.mk A30; clear A30
 replace H := Option.bind_eq_some_iff.mp H
 obtain ⟨⟨t248, t249, t250, t251, t252⟩, A40, H⟩ := H
 replace H : ((catalog_Remove.f k l0 a1).bind fun bt254 => ((clusterlocksref05_Remove.f k l0 a1).bind fun bt258 => ((clusterlockslaw05_awake.f k).bind fun t262 => (if t262 = true then (if (t242.toList == t248.toList && (t243 == t249 && (t244 == t250 && (t245 == t251)))) = true then (if (t246 == t252) = true then (if bt254.2 = bt258.2 then ((clusterlocksref05_Same.f k bt254.1 bt258.1).bind fun t263 => (some t263)) else (some false)) else (some false)) else (some false)) else (some false))))) = some r := H
 have A4 := Aside0.mk A40; clear A40
 replace H := Option.bind_eq_some_iff.mp H
 obtain ⟨⟨t254, t255⟩, A50, H⟩ := H
 replace H : ((clusterlocksref05_Remove.f k l0 a1).bind fun bt258 => ((clusterlockslaw05_awake.f k).bind fun t262 => (if t262 = true then (if (t242.toList == t248.toList && (t243 == t249 && (t244 == t250 && (t245 == t251)))) = true then (if (t246 == t252) = true then (if t255 = bt258.2 then ((clusterlocksref05_Same.f k t254 bt258.1).bind fun t263 => (some t263)) else (some false)) else (some false)) else (some false)) else (some false)))) = some r := H
 have A5 := Aside0.mk A50; clear A50
 replace H := Option.bind_eq_some_iff.mp H
 obtain ⟨⟨t258, t259⟩, A60, H⟩ := H
 replace H : ((clusterlockslaw05_awake.f k).bind fun t262 => (if t262 = true then (if (t242.toList == t248.toList && (t243 == t249 && (t244 == t250 && (t245 == t251)))) = true then (if (t246 == t252) = true then (if t255 = t259 then ((clusterlocksref05_Same.f k t254 t258).bind fun t263 => (some t263)) else (some false)) else (some false)) else (some false)) else (some false))) = some r := H
 have A6 := Aside0.mk A60; clear A60
 obtain ⟨t262, A70, H⟩ := Option.bind_eq_some_iff.mp H
 have A7 := Aside0.mk A70; clear A70
 have HH_ := Aside0.mk H
 clear H
 go_enter Tryd.func8, Tryd.ntmps8
 have H := HH_.out
 clear HH_
 by_cases c8 : t262 = true
 ·subst c8
  rw [if_pos rfl] at H
  by_cases c9 : (t242.toList == t248.toList && (t243 == t249 && (t244 == t250 && (t245 == t251)))) = true
  ·rw [if_pos c9] at H
   have c9b0 : (t242.toList == t248.toList && (t243 == t249 && (t244 == t250 && (t245 == t251)))) = true := c9
   (try (have c9b1 : decide (t242.toList = t248.toList && (t243 == t249 && (t244 == t250 && (t245 == t251)))) = true := by simpa using c9))
   (try (have c9b2 : (t242.toList == t248.toList && (t243 == t249 && (t244 == t250 && (t245 == t251)))) = true := by simpa using c9))
   clear c9
   (try simp only [c9b0, c9b1, c9b2])
   by_cases c10 : (t246 == t252) = true
   ·rw [if_pos c10] at H
    have c10b0 : (t246 == t252) = true := c10
    (try (have c10b1 : decide (t246 = t252) = true := by simpa using c10))
    (try (have c10b2 : (t246 == t252) = true := by simpa using c10))
    clear c10
    (try simp only [c10b0, c10b1, c10b2])
    by_cases c11 : t255 = t259
    ·rw [if_pos c11] at H
     have c11b0 : (t255 == t259) = true := beq_iff_eq.mpr c11
     have c11b1 : (t255 != t259) = false := bne_eq_false_iff_eq.mpr c11
     clear c11
     obtain ⟨t263, A120, H⟩ := Option.bind_eq_some_iff.mp H
     have A12 := Aside0.mk A120; clear A120
     obtain rfl := Option.some.inj H
     (try simp only [c11b0, c11b1])
     go_wp2_with (first | ((with_reducible refine gate_callee (f := 28) rfl ?_); refine goesL_ (some 16) rfl rfl Tryd.func28 (by kernel_rfl) rfl #[.slice A0 l0.length c0, .string a1] rfl (by (try simp only [mA]); first | done | rfl) ?_; (with_reducible refine (catalog_Find.calls k _ _ l0 a1 t242 t243 t244 t245 t246 _ ?side1 ?side2 A3.out).mono ?_); (case side1 => repeat (first | exact HR0.out | (with_reducible refine Kd.C_alloc ?_ _) | (with_reducible refine Kd.C_drewN ?_ _) | (with_reducible refine Kd.C_drew ?_))); (case side2 => exact HC0.out); rintro e w13 ⟨rfl, hb⟩; refine ⟨_, rfl, ?_⟩; replace HB := bB HB hb; (try clear hb)) | ((with_reducible refine gate_dst (N := 5) rfl ?_); refine box_event ?hg (N := 5) ?hd (cs := #[.string (⟨#[]⟩ : ByteArray), .int .i64 0, .int .i64 0, .int .i64 0]) (t := 26) ?hr ?_; (case hd => rfl); (case hg => rfl); (case hr => first | (go_simp; done) | (go_simp; rfl)); intro gb247 hg w14 hbox hb; have BK247 := Aside0.mk hbox; have GW247 := gE HB hg; replace HB := bB HB hb; have GE247 := GW247; clear hb hbox hg; have hcz15_0 : w14.cell? ⟨gb247, 0, none⟩ = some (.string (⟨#[]⟩ : ByteArray)) := bC BK247 0 rfl; have hcz15_1 : w14.cell? ⟨gb247, 1, none⟩ = some (.int .i64 0) := bC BK247 1 rfl; have hcz15_2 : w14.cell? ⟨gb247, 2, none⟩ = some (.int .i64 0) := bC BK247 2 rfl; have hcz15_3 : w14.cell? ⟨gb247, 3, none⟩ = some (.int .i64 0) := bC BK247 3 rfl; have hfz15_0 := bF BK247 0; have hfz15_1 := bF BK247 1; have hfz15_2 := bF BK247 2; have hfz15_3 := bF BK247 3) | ((with_reducible refine gate_callee (f := 29) rfl ?_); refine goesL_ (some 22) rfl rfl Tryd.func29 (by kernel_rfl) rfl #[.slice A0 l0.length c0, .string a1] rfl (by (try simp only [mA]); first | done | rfl) ?_; (with_reducible refine (clusterlocksref05_Find.calls k _ _ l0 a1 t248 t249 t250 t251 t252 _ ?side1 ?side2 A4.out).mono ?_); (case side1 => exact Kd.C_below HR0.out (haveI := gI GE247; uS HB)); (case side2 => exact HC0.out); rintro e w16 ⟨rfl, hb⟩; refine ⟨_, rfl, ?_⟩; replace BK247 := bP4 BK247 hb; replace HB := (haveI := gI GE247; bT HB hb); (try clear hb)) | ((with_reducible refine gate_dst (N := 7) rfl ?_); refine box_event ?hg (N := 7) ?hd (cs := #[.string (⟨#[]⟩ : ByteArray), .int .i64 0, .int .i64 0, .int .i64 0]) (t := 26) ?hr ?_; (case hd => rfl); (case hg => rfl); (case hr => first | (go_simp; done) | (go_simp; rfl)); intro gb253 hg w17 hbox hb; have BK253 := Aside0.mk hbox; have GW253 := Aside0.mk ((by rw [hg]; exact (below_size (haveI := gI GE247; uS HB)) : w.heap.size ≤ gb253)); replace HB := (haveI := gI GE247; bT HB hb); have GE253 := GW253; have NB247_253 := gN BK247 hg; replace BK247 := bK BK247 hb; have NB253_247 := Aside0.mk NB247_253.out.symm; clear hb hbox hg; have hnb18 := NB253_247.out; have hnc18 := NB247_253.out; have hcz19_0 : w17.cell? ⟨gb253, 0, none⟩ = some (.string (⟨#[]⟩ : ByteArray)) := bC BK253 0 rfl; have hcz19_1 : w17.cell? ⟨gb253, 1, none⟩ = some (.int .i64 0) := bC BK253 1 rfl; have hcz19_2 : w17.cell? ⟨gb253, 2, none⟩ = some (.int .i64 0) := bC BK253 2 rfl; have hcz19_3 : w17.cell? ⟨gb253, 3, none⟩ = some (.int .i64 0) := bC BK253 3 rfl; have hfz19_0 := bF BK253 0; have hfz19_1 := bF BK253 1; have hfz19_2 := bF BK253 2; have hfz19_3 := bF BK253 3) | ((with_reducible refine gate_callee (f := 26) rfl ?_); refine goesL_ (some 28) rfl rfl Tryd.func26 (by kernel_rfl) rfl #[.slice A0 l0.length c0, .string a1] rfl (by (try simp only [mA]); first | done | rfl) ?_; (with_reducible refine (catalog_Remove.calls k _ _ l0 a1 t254 t255 _ ?side1 ?side2 A5.out).mono ?_); (case side1 => exact Kd.C_below HR0.out (haveI := gI GE247; haveI := gI GE253; uS HB)); (case side2 => exact HC0.out); rintro e w20 ⟨v256, rfl, ho0, hb⟩; refine ⟨_, rfl, ?_⟩; have HO257 := Aside0.mk (Kd.R_lower (Kd.R_newB (Kd.R_newB ho0 (g := gb247) (o := .cells #[.string t242, .int .i64 t243, .int .i64 t244, .int .i64 t245] 26 (0, 0)) (haveI := nI NB247_253; uG BK247)) (g := gb253) (o := .cells #[.string t248, .int .i64 t249, .int .i64 t250, .int .i64 t251] 26 (0, 0)) (by (with_reducible repeat first | refine bN ?_ _ | refine bD ?_ | refine bA ?_ _); refine blk_put (cs := #[.string t248, .int .i64 t249, .int .i64 t250, .int .i64 0]) ?_ 3 _ rfl; (with_reducible repeat first | refine bN ?_ _ | refine bD ?_ | refine bA ?_ _); refine blk_put (cs := #[.string t248, .int .i64 t249, .int .i64 0, .int .i64 0]) ?_ 2 _ rfl; (with_reducible repeat first | refine bN ?_ _ | refine bD ?_ | refine bA ?_ _); refine blk_put (cs := #[.string t248, .int .i64 0, .int .i64 0, .int .i64 0]) ?_ 1 _ rfl; (with_reducible repeat first | refine bN ?_ _ | refine bD ?_ | refine bA ?_ _); refine blk_put (cs := #[.string (⟨#[]⟩ : ByteArray), .int .i64 0, .int .i64 0, .int .i64 0]) ?_ 0 _ rfl; (with_reducible repeat first | refine bN ?_ _ | refine bD ?_ | refine bA ?_ _); exact BK253.out)) (below_size (haveI := gI GE247; haveI := gI GE253; uS HB))); replace BK247 := (haveI := nI NB247_253; bG BK247 hb); replace BK253 := bP4 BK253 hb; replace HB := (haveI := gI GE247; haveI := gI GE253; bT HB hb); (try clear hb); (try clear ho0)) | ((with_reducible refine gate_callee (f := 27) rfl ?_); refine goesL_ (some 34) rfl rfl Tryd.func27 (by kernel_rfl) rfl #[.slice A0 l0.length c0, .string a1] rfl (by (try simp only [mA]); first | done | rfl) ?_; (with_reducible refine (clusterlocksref05_Remove.calls k _ _ l0 a1 t258 t259 _ ?side1 ?side2 A6.out).mono ?_); (case side1 => repeat (first | exact (Kd.C_below HR0.out HB.out) | (with_reducible refine Kd.C_alloc ?_ _) | (with_reducible refine Kd.C_drewN ?_ _) | (with_reducible refine Kd.C_drew ?_))); (case side2 => exact HC0.out); rintro e w21 ⟨v260, rfl, ho0, hb⟩; refine ⟨_, rfl, ?_⟩; have HO261 := Aside0.mk (Kd.R_lower (Kd.R_newB (Kd.R_newB (Kd.R_new' ho0 (Kd.R_lt (by (with_reducible repeat (first | apply Kd.R_alloc | apply Kd.R_drewN | apply Kd.R_drew)); exact HO257.out))) (g := gb247) (o := .cells #[.string t242, .int .i64 t243, .int .i64 t244, .int .i64 t245] 26 (0, 0)) (uK BK247)) (g := gb253) (o := .cells #[.string t248, .int .i64 t249, .int .i64 t250, .int .i64 t251] 26 (0, 0)) (uK BK253)) (below_size (haveI := gI GE247; haveI := gI GE253; uS HB))); replace HO257 := Aside0.mk (Kd.R_elder' (by (with_reducible repeat (first | apply Kd.R_alloc | apply Kd.R_drewN | apply Kd.R_drew)); exact HO257.out) (Kd.R_base ho0) hb); replace BK247 := bK BK247 hb; replace BK253 := bK BK253 hb; replace HB := (haveI := gI GE247; haveI := gI GE253; bT HB hb); (try clear hb); (try clear ho0)) | ((with_reducible refine gate_callee (f := 13) rfl ?_); refine goesL_ (some 37) rfl rfl Tryd.func13 (by kernel_rfl) rfl #[] rfl (by (try simp only [mA]); first | done | rfl) ?_; (with_reducible refine (clusterlockslaw05_awake.calls k  true _ A7.out).mono ?_); rintro e w22 ⟨rfl, hb⟩; refine ⟨_, rfl, ?_⟩; replace HO257 := Aside0.mk (Kd.R_below (by (with_reducible repeat (first | apply Kd.R_alloc | apply Kd.R_drewN | apply Kd.R_drew)); exact HO257.out) hb); replace HO261 := Aside0.mk (Kd.R_below (by (with_reducible repeat (first | apply Kd.R_alloc | apply Kd.R_drewN | apply Kd.R_drew)); exact HO261.out) hb); replace BK247 := bK BK247 hb; replace BK253 := bK BK253 hb; replace HB := (haveI := gI GE247; haveI := gI GE253; bT HB hb); (try clear hb); obtain ⟨hcz23_0, hcz23_1, hcz23_2, hcz23_3, hfz23_0, hfz23_1, hfz23_2, hfz23_3⟩ := d4 BK247; obtain ⟨hcz24_0, hcz24_1, hcz24_2, hcz24_3, hfz24_0, hfz24_1, hfz24_2, hfz24_3⟩ := d4 BK253; obtain ⟨Ao25, co25, eo25⟩ := Kd.R_slice HO257.out; subst eo25; obtain ⟨Ao26, co26, eo26⟩ := Kd.R_slice HO261.out; subst eo26) | (go_at_call 24; (with_reducible refine (clusterlocksref05_Same.calls k _ _ t254 _ _ t258 t263 _ ?side1 ?side2 ?side3 ?side4 A12.out).mono ?_); (case side1 => repeat (first | exact (Kd.R_reads' HO257.out).2.2 | (with_reducible refine Kd.C_alloc ?_ _) | (with_reducible refine Kd.C_drewN ?_ _) | (with_reducible refine Kd.C_drew ?_))); (case side2 => exact (Kd.R_reads' HO257.out).2.1); (case side3 => repeat (first | exact (Kd.R_reads' HO261.out).2.2 | (with_reducible refine Kd.C_alloc ?_ _) | (with_reducible refine Kd.C_drewN ?_ _) | (with_reducible refine Kd.C_drew ?_))); (case side4 => exact (Kd.R_reads' HO261.out).2.1); rintro e w' ⟨rfl, ⟨nd, rfl⟩⟩))
     go_ret
     exact ⟨by first | rfl | (simp [errW_none, errW_some] <;> rfl) | (simp [*, errW_none, errW_some] <;> rfl), (haveI := gI GE247; haveI := gI GE253; uS HB)⟩
    ·rw [if_neg c11] at H
     have c11b0 : (t255 == t259) = false := beq_eq_false_iff_ne.mpr c11
     have c11b1 : (t255 != t259) = true := bne_iff_ne.mpr c11
     exact absurd (Option.some.inj H) (by rw [HRT.out]; decide)
   ·rw [if_neg c10] at H
    have c10b0 : (t246 == t252) = false := by simpa using c10
    (try (have c10b1 : decide (t246 = t252) = false := by simpa using c10))
    (try (have c10b2 : (t246 == t252) = false := by simpa using c10))
    (try (have c10b3 : ¬ (t246 = t252) := by simpa using c10))
    clear c10
    exact absurd (Option.some.inj H) (by rw [HRT.out]; decide)
  ·rw [if_neg c9] at H
   have c9b0 : (t242.toList == t248.toList && (t243 == t249 && (t244 == t250 && (t245 == t251)))) = false := by simpa using c9
   (try (have c9b1 : decide (t242.toList = t248.toList && (t243 == t249 && (t244 == t250 && (t245 == t251)))) = false := by simpa using c9))
   (try (have c9b2 : (t242.toList == t248.toList && (t243 == t249 && (t244 == t250 && (t245 == t251)))) = false := by simpa using c9))
   (try (have c9b3 : ¬ (t242.toList = t248.toList && (t243 == t249 && (t244 == t250 && (t245 == t251)))) := by simpa using c9))
   clear c9
   exact absurd (Option.some.inj H) (by rw [HRT.out]; decide)
 ·replace c8 := Bool.eq_false_iff.mpr c8
  subst c8
  rw [if_neg (show ¬ (false = true) by decide)] at H
  exact absurd (Option.some.inj H) (by rw [HRT.out]; decide)
end Go.Proofs.YtbiapfjhdggkpaaDoor.PA
