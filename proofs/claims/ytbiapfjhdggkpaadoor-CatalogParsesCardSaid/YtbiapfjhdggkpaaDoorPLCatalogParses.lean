-- Printed by wip/tool/myprint.py for this claim; Lean checks it.
import Derived.Test.YtbiapfjhdggkpaaDoorPAx0
import Derived.Test.YtbiapfjhdggkpaaDoorPAx1
import Derived.Test.YtbiapfjhdggkpaaDoorSlim
import Derived.Test.YtbiapfjhdggkpaaDoorPAx4
import Derived.Test.YtbiapfjhdggkpaaDoorPAx7
import Derived.Test.YtbiapfjhdggkpaaDoorPAx13
import Derived.Test.YtbiapfjhdggkpaaDoorPAx15
namespace Go.Proofs.YtbiapfjhdggkpaaDoor.PA
open Go.RowKit Go.Proofs.YtbiapfjhdggkpaaDoorW.PrintWords Go.Proofs.YtbiapfjhdggkpaaDoorW.PrintLast Go.Proofs.YtbiapfjhdggkpaaDoorW.PrintMore
attribute [local go_sem] max2_int min2_int max_two min_two max_three min_three max_four min_four   -- for this text's walks alone
set_option linter.unusedVariables false
set_option linter.unusedSimpArgs false

attribute [local go_sem high] eqA26
/-! ### clusterlockslaw05_CatalogParses: function 12 -/
def clusterlockslaw05_CatalogParses.f (k : Nat) (a0 : ByteArray) : Option (Bool) := (catalog_Parse.f k a0).bind fun bt227 => ((clusterlocksref05_Parse.f k a0).bind fun bt231 => ((clusterlockslaw05_awake.f k).bind fun t235 => (if t235 = true then (if bt227.2 = bt231.2 then ((clusterlocksref05_Same.f k bt227.1 bt231.1).bind fun t236 => (if t236 = true then (if bt227.2 = 0 then ((catalog_Format.f k bt227.1).bind fun t237 => (some (t237.toList == a0.toList))) else (some true)) else (some false))) else (some false)) else (some false))))
theorem clusterlockslaw05_CatalogParses.mono : ∀ a0 k, LeO (clusterlockslaw05_CatalogParses.f k a0) (clusterlockslaw05_CatalogParses.f (k + 1) a0) := by
 intro a0 k
 unfold clusterlockslaw05_CatalogParses.f
 repeat' first
   | (with_reducible exact catalog_Format.mono _ _)
   | (with_reducible exact catalog_Parse.mono _ _)
   | (with_reducible exact clusterlockslaw05_awake.mono _)
   | (with_reducible exact clusterlocksref05_Parse.mono _ _)
   | (with_reducible exact clusterlocksref05_Same.mono _ _ _)
   | (with_reducible exact LeO.refl _)
   | (with_reducible exact LeO.none _)
   | (with_reducible refine LeO.ite ?_ ?_)
   | (with_reducible refine LeO.bind ?_ (fun _ => ?_))
   | exact catalog_Format.mono _ _
   | exact catalog_Parse.mono _ _
   | exact clusterlockslaw05_awake.mono _
   | exact clusterlocksref05_Parse.mono _ _
   | exact clusterlocksref05_Same.mono _ _ _
   | exact LeO.none _
   | refine LeO.ite ?_ ?_
   | refine LeO.bind ?_ (fun _ => ?_)
set_option maxHeartbeats 8000000 in
set_option maxRecDepth 100000 in
theorem clusterlockslaw05_CatalogParses.calls (k : Nat) (a0 : ByteArray) (r : Bool) (w : World) (h : clusterlockslaw05_CatalogParses.f k a0 = some r) (hT : r = true) :
  Calls Tryd.prog 12 #[.string a0] w fun e w' => e = .returned (.bool r) ∧ Below w.heap.size w w' := by
 have HB := Aside0.mk (Below.refl w.heap.size w)
 have H : ((catalog_Parse.f k a0).bind fun bt227 => ((clusterlocksref05_Parse.f k a0).bind fun bt231 => ((clusterlockslaw05_awake.f k).bind fun t235 => (if t235 = true then (if bt227.2 = bt231.2 then ((clusterlocksref05_Same.f k bt227.1 bt231.1).bind fun t236 => (if t236 = true then (if bt227.2 = 0 then ((catalog_Format.f k bt227.1).bind fun t237 => (some (t237.toList == a0.toList))) else (some true)) else (some false))) else (some false)) else (some false))))) = some r := h
 have HRT := Aside0.mk hT
 clear h
 replace H := Option.bind_eq_some_iff.mp H
 obtain ⟨⟨t227, t228⟩, A20, H⟩ := H
 replace H : ((clusterlocksref05_Parse.f k a0).bind fun bt231 => ((clusterlockslaw05_awake.f k).bind fun t235 => (if t235 = true then (if t228 = bt231.2 then ((clusterlocksref05_Same.f k t227 bt231.1).bind fun t236 => (if t236 = true then (if t228 = 0 then ((catalog_Format.f k t227).bind fun t237 => (some (t237.toList == a0.toList))) else (some true)) else (some false))) else (some false)) else (some false)))) = some r := H
 have A2 := Aside0.mk A20; clear A20
 replace H := Option.bind_eq_some_iff.mp H
 obtain ⟨⟨t231, t232⟩, A30, H⟩ := H
 replace H : ((clusterlockslaw05_awake.f k).bind fun t235 => (if t235 = true then (if t228 = t232 then ((clusterlocksref05_Same.f k t227 t231).bind fun t236 => (if t236 = true then (if t228 = 0 then ((catalog_Format.f k t227).bind fun t237 => (some (t237.toList == a0.toList))) else (some true)) else (some false))) else (some false)) else (some false))) = some r := H
 have A3 := Aside0.mk A30; clear A30
 obtain ⟨t235, A40, H⟩ := Option.bind_eq_some_iff.mp H
 have A4 := Aside0.mk A40; clear A40
 by_cases c5 : t235 = true
 ·subst c5
  rw [if_pos rfl] at H
  by_cases c6 : t228 = t232
  ·rw [if_pos c6] at H
   have c6b0 : (t228 == t232) = true := beq_iff_eq.mpr c6
   have c6b1 : (t228 != t232) = false := bne_eq_false_iff_eq.mpr c6
   clear c6
   obtain ⟨t236, A70, H⟩ := Option.bind_eq_some_iff.mp H
   have A7 := Aside0.mk A70; clear A70
   by_cases c8 : t236 = true
   ·subst c8
    rw [if_pos rfl] at H
    by_cases c9 : t228 = 0
    ·rw [if_pos c9] at H
     have c9b0 : (t228 == 0) = true := beq_iff_eq.mpr c9
     have c9b1 : (t228 != 0) = false := bne_eq_false_iff_eq.mpr c9
     clear c9
     obtain ⟨t237, A100, H⟩ := Option.bind_eq_some_iff.mp H
     have A10 := Aside0.mk A100; clear A100
     obtain rfl := Option.some.inj H
     go_enter Tryd.func12, Tryd.ntmps12
     go_wp2_with (first | ((with_reducible refine gate_callee (f := 35) rfl ?_); refine goesL_ (some 9) rfl rfl Tryd.func35 (by kernel_rfl) rfl #[.string a0] rfl (by (try simp only [mA]); first | done | rfl) ?_; (with_reducible refine (catalog_Parse.calls k a0 t227 t228 _ A2.out).mono ?_); rintro e w11 ⟨v229, rfl, ho0, hb⟩; refine ⟨_, rfl, ?_⟩; have HO230 := Aside0.mk (Kd.R_lower ho0 (below_size (uB HB))); replace HB := bB HB hb; (try clear hb); (try clear ho0)) | ((with_reducible refine gate_callee (f := 36) rfl ?_); refine goesL_ (some 14) rfl rfl Tryd.func36 (by kernel_rfl) rfl #[.string a0] rfl (by (try simp only [mA]); first | done | rfl) ?_; (with_reducible refine (clusterlocksref05_Parse.calls k a0 t231 t232 _ A3.out).mono ?_); rintro e w12 ⟨v233, rfl, ho0, hb⟩; refine ⟨_, rfl, ?_⟩; have HO234 := Aside0.mk (Kd.R_lower (Kd.R_new' ho0 (Kd.R_lt (by (with_reducible repeat (first | apply Kd.R_alloc | apply Kd.R_drewN | apply Kd.R_drew)); exact HO230.out))) (below_size (uB HB))); replace HO230 := Aside0.mk (Kd.R_elder' (by (with_reducible repeat (first | apply Kd.R_alloc | apply Kd.R_drewN | apply Kd.R_drew)); exact HO230.out) (Kd.R_base ho0) hb); replace HB := bB HB hb; (try clear hb); (try clear ho0)) | ((with_reducible refine gate_callee (f := 13) rfl ?_); refine goesL_ (some 17) rfl rfl Tryd.func13 (by kernel_rfl) rfl #[] rfl (by (try simp only [mA]); first | done | rfl) ?_; (with_reducible refine (clusterlockslaw05_awake.calls k  true _ A4.out).mono ?_); rintro e w13 ⟨rfl, hb⟩; refine ⟨_, rfl, ?_⟩; replace HO230 := Aside0.mk (Kd.R_below (by (with_reducible repeat (first | apply Kd.R_alloc | apply Kd.R_drewN | apply Kd.R_drew)); exact HO230.out) hb); replace HO234 := Aside0.mk (Kd.R_below (by (with_reducible repeat (first | apply Kd.R_alloc | apply Kd.R_drewN | apply Kd.R_drew)); exact HO234.out) hb); replace HB := bB HB hb; (try clear hb); obtain ⟨Ao14, co14, eo14⟩ := Kd.R_slice HO230.out; subst eo14; obtain ⟨Ao15, co15, eo15⟩ := Kd.R_slice HO234.out; subst eo15) | (go_at_call 24; (with_reducible refine (clusterlocksref05_Same.calls k _ _ t227 _ _ t231 true _ ?side1 ?side2 ?side3 ?side4 A7.out).mono ?_); (case side1 => repeat (first | exact (Kd.R_reads' HO230.out).2.2 | (with_reducible refine Kd.C_alloc ?_ _) | (with_reducible refine Kd.C_drewN ?_ _) | (with_reducible refine Kd.C_drew ?_))); (case side2 => exact (Kd.R_reads' HO230.out).2.1); (case side3 => repeat (first | exact (Kd.R_reads' HO234.out).2.2 | (with_reducible refine Kd.C_alloc ?_ _) | (with_reducible refine Kd.C_drewN ?_ _) | (with_reducible refine Kd.C_drew ?_))); (case side4 => exact (Kd.R_reads' HO234.out).2.1); rintro e w' ⟨rfl, ⟨nd, rfl⟩⟩) | (go_at_call 33; (with_reducible refine (catalog_Format.calls k _ _ t227 t237 _ ?side1 ?side2 A10.out).mono ?_); (case side1 => repeat (first | exact (Kd.R_reads' HO230.out).2.2 | (with_reducible refine Kd.C_alloc ?_ _) | (with_reducible refine Kd.C_drewN ?_ _) | (with_reducible refine Kd.C_drew ?_))); (case side2 => exact (Kd.R_reads' HO230.out).2.1); rintro e w16 ⟨rfl, hb⟩; replace HO230 := Aside0.mk (Kd.R_below (by (with_reducible repeat (first | apply Kd.R_alloc | apply Kd.R_drewN | apply Kd.R_drew)); exact HO230.out) hb); replace HO234 := Aside0.mk (Kd.R_below (by (with_reducible repeat (first | apply Kd.R_alloc | apply Kd.R_drewN | apply Kd.R_drew)); exact HO234.out) hb); replace HB := bB HB hb; (try clear hb)))
     go_ret
     exact ⟨by first | rfl | (simp [errW_none, errW_some] <;> rfl) | (simp [*, errW_none, errW_some] <;> rfl), (uS HB)⟩
    ·rw [if_neg c9] at H
     have c9b0 : (t228 == 0) = false := beq_eq_false_iff_ne.mpr c9
     have c9b1 : (t228 != 0) = true := bne_iff_ne.mpr c9
     obtain rfl := Option.some.inj H
     go_enter Tryd.func12, Tryd.ntmps12
     go_wp2_with (first | ((with_reducible refine gate_callee (f := 35) rfl ?_); refine goesL_ (some 9) rfl rfl Tryd.func35 (by kernel_rfl) rfl #[.string a0] rfl (by (try simp only [mA]); first | done | rfl) ?_; (with_reducible refine (catalog_Parse.calls k a0 t227 t228 _ A2.out).mono ?_); rintro e w17 ⟨v229, rfl, ho0, hb⟩; refine ⟨_, rfl, ?_⟩; have HO230 := Aside0.mk (Kd.R_lower ho0 (below_size (uB HB))); replace HB := bB HB hb; (try clear hb); (try clear ho0)) | ((with_reducible refine gate_callee (f := 36) rfl ?_); refine goesL_ (some 14) rfl rfl Tryd.func36 (by kernel_rfl) rfl #[.string a0] rfl (by (try simp only [mA]); first | done | rfl) ?_; (with_reducible refine (clusterlocksref05_Parse.calls k a0 t231 t232 _ A3.out).mono ?_); rintro e w18 ⟨v233, rfl, ho0, hb⟩; refine ⟨_, rfl, ?_⟩; have HO234 := Aside0.mk (Kd.R_lower (Kd.R_new' ho0 (Kd.R_lt (by (with_reducible repeat (first | apply Kd.R_alloc | apply Kd.R_drewN | apply Kd.R_drew)); exact HO230.out))) (below_size (uB HB))); replace HO230 := Aside0.mk (Kd.R_elder' (by (with_reducible repeat (first | apply Kd.R_alloc | apply Kd.R_drewN | apply Kd.R_drew)); exact HO230.out) (Kd.R_base ho0) hb); replace HB := bB HB hb; (try clear hb); (try clear ho0)) | ((with_reducible refine gate_callee (f := 13) rfl ?_); refine goesL_ (some 17) rfl rfl Tryd.func13 (by kernel_rfl) rfl #[] rfl (by (try simp only [mA]); first | done | rfl) ?_; (with_reducible refine (clusterlockslaw05_awake.calls k  true _ A4.out).mono ?_); rintro e w19 ⟨rfl, hb⟩; refine ⟨_, rfl, ?_⟩; replace HO230 := Aside0.mk (Kd.R_below (by (with_reducible repeat (first | apply Kd.R_alloc | apply Kd.R_drewN | apply Kd.R_drew)); exact HO230.out) hb); replace HO234 := Aside0.mk (Kd.R_below (by (with_reducible repeat (first | apply Kd.R_alloc | apply Kd.R_drewN | apply Kd.R_drew)); exact HO234.out) hb); replace HB := bB HB hb; (try clear hb); obtain ⟨Ao20, co20, eo20⟩ := Kd.R_slice HO230.out; subst eo20; obtain ⟨Ao21, co21, eo21⟩ := Kd.R_slice HO234.out; subst eo21) | (go_at_call 24; (with_reducible refine (clusterlocksref05_Same.calls k _ _ t227 _ _ t231 true _ ?side1 ?side2 ?side3 ?side4 A7.out).mono ?_); (case side1 => repeat (first | exact (Kd.R_reads' HO230.out).2.2 | (with_reducible refine Kd.C_alloc ?_ _) | (with_reducible refine Kd.C_drewN ?_ _) | (with_reducible refine Kd.C_drew ?_))); (case side2 => exact (Kd.R_reads' HO230.out).2.1); (case side3 => repeat (first | exact (Kd.R_reads' HO234.out).2.2 | (with_reducible refine Kd.C_alloc ?_ _) | (with_reducible refine Kd.C_drewN ?_ _) | (with_reducible refine Kd.C_drew ?_))); (case side4 => exact (Kd.R_reads' HO234.out).2.1); rintro e w' ⟨rfl, ⟨nd, rfl⟩⟩))
     go_ret
     exact ⟨by first | rfl | (simp [errW_none, errW_some] <;> rfl) | (simp [*, errW_none, errW_some] <;> rfl), (uS HB)⟩
   ·replace c8 := Bool.eq_false_iff.mpr c8
    subst c8
    rw [if_neg (show ¬ (false = true) by decide)] at H
    exact absurd (Option.some.inj H) (by rw [HRT.out]; decide)
  ·rw [if_neg c6] at H
   have c6b0 : (t228 == t232) = false := beq_eq_false_iff_ne.mpr c6
   have c6b1 : (t228 != t232) = true := bne_iff_ne.mpr c6
   exact absurd (Option.some.inj H) (by rw [HRT.out]; decide)
 ·replace c5 := Bool.eq_false_iff.mpr c5
  subst c5
  rw [if_neg (show ¬ (false = true) by decide)] at H
  exact absurd (Option.some.inj H) (by rw [HRT.out]; decide)
end Go.Proofs.YtbiapfjhdggkpaaDoor.PA
