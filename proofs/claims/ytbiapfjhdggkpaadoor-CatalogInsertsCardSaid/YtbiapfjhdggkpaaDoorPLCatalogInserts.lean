-- Printed by wip/tool/myprint.py for this claim; Lean checks it.
import Derived.Test.YtbiapfjhdggkpaaDoorPAx0
import Derived.Test.YtbiapfjhdggkpaaDoorPAx4
import Derived.Test.YtbiapfjhdggkpaaDoorPAx7
import Derived.Test.YtbiapfjhdggkpaaDoorSlim
namespace Go.Proofs.YtbiapfjhdggkpaaDoor.PA
open Go.RowKit Go.Proofs.YtbiapfjhdggkpaaDoorW.PrintWords Go.Proofs.YtbiapfjhdggkpaaDoorW.PrintLast Go.Proofs.YtbiapfjhdggkpaaDoorW.PrintMore
attribute [local go_sem] max2_int min2_int max_two min_two max_three min_three max_four min_four   -- for this text's walks alone
set_option linter.unusedVariables false
set_option linter.unusedSimpArgs false

attribute [local go_sem high] eqA26
/-! ### clusterlockslaw05_CatalogInserts: function 5 -/
def clusterlockslaw05_CatalogInserts.f (k : Nat) (l0 : List (S26)) (a1_0 : ByteArray) (a1_1 : Int) (a1_2 : Int) (a1_3 : Int) : Option (Bool) := (catalog_Insert.f k l0 a1_0 a1_1 a1_2 a1_3).bind fun bt175 => ((clusterlocksref05_Insert.f k l0 a1_0 a1_1 a1_2 a1_3).bind fun bt179 => ((clusterlockslaw05_awake.f k).bind fun t183 => (if t183 = true then (if bt175.2 = bt179.2 then ((clusterlocksref05_Same.f k bt175.1 bt179.1).bind fun t184 => (some t184)) else (some false)) else (some false))))
theorem clusterlockslaw05_CatalogInserts.mono : ∀ a0 a1 a2 a3 a4 k, LeO (clusterlockslaw05_CatalogInserts.f k a0 a1 a2 a3 a4) (clusterlockslaw05_CatalogInserts.f (k + 1) a0 a1 a2 a3 a4) := by
 intro a0 a1 a2 a3 a4 k
 unfold clusterlockslaw05_CatalogInserts.f
 repeat' first
   | (with_reducible exact catalog_Insert.mono _ _ _ _ _ _)
   | (with_reducible exact clusterlockslaw05_awake.mono _)
   | (with_reducible exact clusterlocksref05_Insert.mono _ _ _ _ _ _)
   | (with_reducible exact clusterlocksref05_Same.mono _ _ _)
   | (with_reducible exact LeO.refl _)
   | (with_reducible exact LeO.none _)
   | (with_reducible refine LeO.ite ?_ ?_)
   | (with_reducible refine LeO.bind ?_ (fun _ => ?_))
   | exact catalog_Insert.mono _ _ _ _ _ _
   | exact clusterlockslaw05_awake.mono _
   | exact clusterlocksref05_Insert.mono _ _ _ _ _ _
   | exact clusterlocksref05_Same.mono _ _ _
   | exact LeO.none _
   | refine LeO.ite ?_ ?_
   | refine LeO.bind ?_ (fun _ => ?_)
set_option maxHeartbeats 8000000 in
set_option maxRecDepth 100000 in
theorem clusterlockslaw05_CatalogInserts.calls (k : Nat) (A0 : Option Addr) (c0 : Nat) (l0 : List (S26)) (a1_0 : ByteArray) (a1_1 : Int) (a1_2 : Int) (a1_3 : Int) (r : Bool) (w : World) (hr0 : Kd.C k26 w A0 l0.length l0) (hc0 : l0.length ≤ c0) (h : clusterlockslaw05_CatalogInserts.f k l0 a1_0 a1_1 a1_2 a1_3 = some r) (hT : r = true) :
  Calls Tryd.prog 5 #[.slice A0 l0.length c0, .agg #[.string a1_0, .int .i64 a1_1, .int .i64 a1_2, .int .i64 a1_3]] w fun e w' => e = .returned (.bool r) ∧ Below w.heap.size w w' := by
 have hu26 := Tryd.underlying26
 have HR0 := Aside0.mk hr0
 have HC0 := Aside0.mk hc0
 clear hr0 hc0
 have HB := Aside0.mk (Below.refl w.heap.size w)
 have H : ((catalog_Insert.f k l0 a1_0 a1_1 a1_2 a1_3).bind fun bt175 => ((clusterlocksref05_Insert.f k l0 a1_0 a1_1 a1_2 a1_3).bind fun bt179 => ((clusterlockslaw05_awake.f k).bind fun t183 => (if t183 = true then (if bt175.2 = bt179.2 then ((clusterlocksref05_Same.f k bt175.1 bt179.1).bind fun t184 => (some t184)) else (some false)) else (some false))))) = some r := h
 have HRT := Aside0.mk hT
 clear h
 replace H := Option.bind_eq_some_iff.mp H
 obtain ⟨⟨t175, t178⟩, A30, H⟩ := H
 replace H : ((clusterlocksref05_Insert.f k l0 a1_0 a1_1 a1_2 a1_3).bind fun bt179 => ((clusterlockslaw05_awake.f k).bind fun t183 => (if t183 = true then (if t178 = bt179.2 then ((clusterlocksref05_Same.f k t175 bt179.1).bind fun t184 => (some t184)) else (some false)) else (some false)))) = some r := H
 have A3 := Aside0.mk A30; clear A30
 replace H := Option.bind_eq_some_iff.mp H
 obtain ⟨⟨t179, t182⟩, A40, H⟩ := H
 replace H : ((clusterlockslaw05_awake.f k).bind fun t183 => (if t183 = true then (if t178 = t182 then ((clusterlocksref05_Same.f k t175 t179).bind fun t184 => (some t184)) else (some false)) else (some false))) = some r := H
 have A4 := Aside0.mk A40; clear A40
 obtain ⟨t183, A50, H⟩ := Option.bind_eq_some_iff.mp H
 have A5 := Aside0.mk A50; clear A50
 have HH_ := Aside0.mk H
 clear H
 go_enter Tryd.func5, Tryd.ntmps5
 have H := HH_.out
 clear HH_
 by_cases c6 : t183 = true
 ·subst c6
  rw [if_pos rfl] at H
  by_cases c7 : t178 = t182
  ·rw [if_pos c7] at H
   have c7b0 : (t178 == t182) = true := beq_iff_eq.mpr c7
   have c7b1 : (t178 != t182) = false := bne_eq_false_iff_eq.mpr c7
   clear c7
   obtain ⟨t184, A80, H⟩ := Option.bind_eq_some_iff.mp H
   have A8 := Aside0.mk A80; clear A80
   obtain rfl := Option.some.inj H
   (try simp only [c7b0, c7b1])
   go_wp2_with (first | ((with_reducible refine gate_dst (N := 3) rfl ?_); refine box_event ?hg (N := 3) ?hd (cs := #[.string a1_0, .int .i64 a1_1, .int .i64 a1_2, .int .i64 a1_3]) (t := 26) ?hr ?_; (case hd => rfl); (case hg => rfl); (case hr => first | (go_simp; done) | (go_simp; rfl)); intro gb174 hg w9 hbox hb; have BK174 := Aside0.mk hbox; have GW174 := gE HB hg; replace HB := bB HB hb; have GE174 := GW174; clear hb hbox hg; have hcz10_0 : w9.cell? ⟨gb174, 0, none⟩ = some (.string a1_0) := bC BK174 0 rfl; have hcz10_1 : w9.cell? ⟨gb174, 1, none⟩ = some (.int .i64 a1_1) := bC BK174 1 rfl; have hcz10_2 : w9.cell? ⟨gb174, 2, none⟩ = some (.int .i64 a1_2) := bC BK174 2 rfl; have hcz10_3 : w9.cell? ⟨gb174, 3, none⟩ = some (.int .i64 a1_3) := bC BK174 3 rfl; have hfz10_0 := bF BK174 0; have hfz10_1 := bF BK174 1; have hfz10_2 := bF BK174 2; have hfz10_3 := bF BK174 3) | ((with_reducible refine gate_callee (f := 22) rfl ?_); refine goesL_ (some 12) rfl rfl Tryd.func22 (by kernel_rfl) rfl #[.slice A0 l0.length c0, .agg #[.string a1_0, .int .i64 a1_1, .int .i64 a1_2, .int .i64 a1_3]] rfl (by (try simp only [mA]); first | done | rfl) ?_; (with_reducible refine (catalog_Insert.calls k _ _ l0 a1_0 a1_1 a1_2 a1_3 t175 t178 _ ?side1 ?side2 A3.out).mono ?_); (case side1 => repeat (first | exact (Kd.C_below HR0.out HB.out) | (with_reducible refine Kd.C_alloc ?_ _) | (with_reducible refine Kd.C_drewN ?_ _) | (with_reducible refine Kd.C_drew ?_))); (case side2 => exact HC0.out); rintro e w11 ⟨v176, rfl, ho0, hb⟩; refine ⟨_, rfl, ?_⟩; have HO177 := Aside0.mk (Kd.R_lower (Kd.R_newB ho0 (g := gb174) (o := .cells #[.string a1_0, .int .i64 a1_1, .int .i64 a1_2, .int .i64 a1_3] 26 (0, 0)) (uK BK174)) (below_size (uB HB))); replace BK174 := bK BK174 hb; replace HB := bB HB hb; (try clear hb); (try clear ho0); have hcz12_0 : w11.cell? ⟨gb174, 0, none⟩ = some (.string a1_0) := bC BK174 0 rfl; have hcz12_1 : w11.cell? ⟨gb174, 1, none⟩ = some (.int .i64 a1_1) := bC BK174 1 rfl; have hcz12_2 : w11.cell? ⟨gb174, 2, none⟩ = some (.int .i64 a1_2) := bC BK174 2 rfl; have hcz12_3 : w11.cell? ⟨gb174, 3, none⟩ = some (.int .i64 a1_3) := bC BK174 3 rfl; have hfz12_0 := bF BK174 0; have hfz12_1 := bF BK174 1; have hfz12_2 := bF BK174 2; have hfz12_3 := bF BK174 3) | ((with_reducible refine gate_callee (f := 23) rfl ?_); refine goesL_ (some 18) rfl rfl Tryd.func23 (by kernel_rfl) rfl #[.slice A0 l0.length c0, .agg #[.string a1_0, .int .i64 a1_1, .int .i64 a1_2, .int .i64 a1_3]] rfl (by (try simp only [mA]); first | done | rfl) ?_; (with_reducible refine (clusterlocksref05_Insert.calls k _ _ l0 a1_0 a1_1 a1_2 a1_3 t179 t182 _ ?side1 ?side2 A4.out).mono ?_); (case side1 => repeat (first | exact (Kd.C_below HR0.out HB.out) | (with_reducible refine Kd.C_alloc ?_ _) | (with_reducible refine Kd.C_drewN ?_ _) | (with_reducible refine Kd.C_drew ?_))); (case side2 => exact HC0.out); rintro e w13 ⟨v180, rfl, ho0, hb⟩; refine ⟨_, rfl, ?_⟩; have HO181 := Aside0.mk (Kd.R_lower (Kd.R_newB (Kd.R_new' ho0 (Kd.R_lt (by (with_reducible repeat (first | apply Kd.R_alloc | apply Kd.R_drewN | apply Kd.R_drew)); exact HO177.out))) (g := gb174) (o := .cells #[.string a1_0, .int .i64 a1_1, .int .i64 a1_2, .int .i64 a1_3] 26 (0, 0)) (uK BK174)) (below_size (uB HB))); replace HO177 := Aside0.mk (Kd.R_elder' (by (with_reducible repeat (first | apply Kd.R_alloc | apply Kd.R_drewN | apply Kd.R_drew)); exact HO177.out) (Kd.R_base ho0) hb); replace BK174 := bK BK174 hb; replace HB := bB HB hb; (try clear hb); (try clear ho0)) | ((with_reducible refine gate_callee (f := 13) rfl ?_); refine goesL_ (some 21) rfl rfl Tryd.func13 (by kernel_rfl) rfl #[] rfl (by (try simp only [mA]); first | done | rfl) ?_; (with_reducible refine (clusterlockslaw05_awake.calls k  true _ A5.out).mono ?_); rintro e w14 ⟨rfl, hb⟩; refine ⟨_, rfl, ?_⟩; replace HO177 := Aside0.mk (Kd.R_below (by (with_reducible repeat (first | apply Kd.R_alloc | apply Kd.R_drewN | apply Kd.R_drew)); exact HO177.out) hb); replace HO181 := Aside0.mk (Kd.R_below (by (with_reducible repeat (first | apply Kd.R_alloc | apply Kd.R_drewN | apply Kd.R_drew)); exact HO181.out) hb); replace BK174 := bK BK174 hb; replace HB := bB HB hb; (try clear hb); obtain ⟨Ao15, co15, eo15⟩ := Kd.R_slice HO177.out; subst eo15; obtain ⟨Ao16, co16, eo16⟩ := Kd.R_slice HO181.out; subst eo16) | (go_at_call 24; (with_reducible refine (clusterlocksref05_Same.calls k _ _ t175 _ _ t179 t184 _ ?side1 ?side2 ?side3 ?side4 A8.out).mono ?_); (case side1 => repeat (first | exact (Kd.R_reads' HO177.out).2.2 | (with_reducible refine Kd.C_alloc ?_ _) | (with_reducible refine Kd.C_drewN ?_ _) | (with_reducible refine Kd.C_drew ?_))); (case side2 => exact (Kd.R_reads' HO177.out).2.1); (case side3 => repeat (first | exact (Kd.R_reads' HO181.out).2.2 | (with_reducible refine Kd.C_alloc ?_ _) | (with_reducible refine Kd.C_drewN ?_ _) | (with_reducible refine Kd.C_drew ?_))); (case side4 => exact (Kd.R_reads' HO181.out).2.1); rintro e w' ⟨rfl, ⟨nd, rfl⟩⟩))
   go_ret
   exact ⟨by first | rfl | (simp [errW_none, errW_some] <;> rfl) | (simp [*, errW_none, errW_some] <;> rfl), (uS HB)⟩
  ·rw [if_neg c7] at H
   have c7b0 : (t178 == t182) = false := beq_eq_false_iff_ne.mpr c7
   have c7b1 : (t178 != t182) = true := bne_iff_ne.mpr c7
   exact absurd (Option.some.inj H) (by rw [HRT.out]; decide)
 ·replace c6 := Bool.eq_false_iff.mpr c6
  subst c6
  rw [if_neg (show ¬ (false = true) by decide)] at H
  exact absurd (Option.some.inj H) (by rw [HRT.out]; decide)
end Go.Proofs.YtbiapfjhdggkpaaDoor.PA
