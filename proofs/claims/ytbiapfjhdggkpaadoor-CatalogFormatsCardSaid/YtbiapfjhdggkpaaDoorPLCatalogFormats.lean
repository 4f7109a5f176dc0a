-- Printed by wip/tool/myprint.py for this claim; Lean checks it.
import Derived.Test.YtbiapfjhdggkpaaDoorPAx0
import Derived.Test.YtbiapfjhdggkpaaDoorPAx1
import Derived.Test.YtbiapfjhdggkpaaDoorSlim
import Derived.Test.YtbiapfjhdggkpaaDoorPAx4
import Derived.Test.YtbiapfjhdggkpaaDoorPAx7
import Derived.Test.YtbiapfjhdggkpaaDoorPAx13
import Derived.Test.YtbiapfjhdggkpaaDoorPAx12
namespace Go.Proofs.YtbiapfjhdggkpaaDoor.PA
open Go.RowKit Go.Proofs.YtbiapfjhdggkpaaDoorW.PrintWords Go.Proofs.YtbiapfjhdggkpaaDoorW.PrintLast Go.Proofs.YtbiapfjhdggkpaaDoorW.PrintMore
attribute [local go_sem] max2_int min2_int max_two min_two max_three min_three max_four min_four   -- for this text's walks alone
set_option linter.unusedVariables false
set_option linter.unusedSimpArgs false

attribute [local go_sem high] eqA26
/-! ### clusterlockslaw05_CatalogFormats: function 11 -/
def clusterlockslaw05_CatalogFormats.j0 : Nat → List (S26) → ByteArray → Bool → Option (Bool)
 | 0, _, _, _ => none
 | k + 1, x0, x3, x15 => if x15 = true then (some false) else ((clusterlocksref05_Valid.f k x0).bind fun t183 => (if t183 = true then ((catalog_Parse.f k x3).bind fun bt184 => (if bt184.2 = 0 then ((clusterlocksref05_Same.f k bt184.1 x0).bind fun t188 => (some t188)) else (some false))) else (some (x3.toList == ([] : List UInt8)))))
def clusterlockslaw05_CatalogFormats.f (k : Nat) (l0 : List (S26)) : Option (Bool) := (catalog_Format.f k l0).bind fun t180 => ((clusterlockslaw05_awake.f k).bind fun t181 => (if t181 = true then ((clusterlocksref05_Format.f k l0).bind fun t182 => (clusterlockslaw05_CatalogFormats.j0 k l0 t180 (t180.toList != t182.toList))) else (clusterlockslaw05_CatalogFormats.j0 k l0 t180 true)))
theorem clusterlockslaw05_CatalogFormats.mono_l : ∀ k, (∀ y0 y1 y2, LeO (clusterlockslaw05_CatalogFormats.j0 k y0 y1 y2) (clusterlockslaw05_CatalogFormats.j0 (k + 1) y0 y1 y2))
 | 0 => fun _ _ _ r h => by simp [clusterlockslaw05_CatalogFormats.j0] at h
 | k + 1 => by
  have ih0 := clusterlockslaw05_CatalogFormats.mono_l k
  ·intro y0 y1 y2
   unfold clusterlockslaw05_CatalogFormats.j0
   repeat' first
   | (with_reducible exact ih0 _ _ _)
   | (with_reducible exact catalog_Format.mono _ _)
   | (with_reducible exact catalog_Parse.mono _ _)
   | (with_reducible exact clusterlockslaw05_awake.mono _)
   | (with_reducible exact clusterlocksref05_Format.mono _ _)
   | (with_reducible exact clusterlocksref05_Same.mono _ _ _)
   | (with_reducible exact clusterlocksref05_Valid.mono _ _)
   | (with_reducible exact LeO.refl _)
   | (with_reducible exact LeO.none _)
   | (with_reducible refine LeO.ite ?_ ?_)
   | (with_reducible refine LeO.bind ?_ (fun _ => ?_))
   | exact ih0 _ _ _
   | exact catalog_Format.mono _ _
   | exact catalog_Parse.mono _ _
   | exact clusterlockslaw05_awake.mono _
   | exact clusterlocksref05_Format.mono _ _
   | exact clusterlocksref05_Same.mono _ _ _
   | exact clusterlocksref05_Valid.mono _ _
   | exact LeO.none _
   | refine LeO.ite ?_ ?_
   | refine LeO.bind ?_ (fun _ => ?_)
theorem clusterlockslaw05_CatalogFormats.mono : ∀ a0 k, LeO (clusterlockslaw05_CatalogFormats.f k a0) (clusterlockslaw05_CatalogFormats.f (k + 1) a0) := by
 intro a0 k
 have ih0 := clusterlockslaw05_CatalogFormats.mono_l k
 unfold clusterlockslaw05_CatalogFormats.f
 repeat' first
   | (with_reducible exact ih0 _ _ _)
   | (with_reducible exact catalog_Format.mono _ _)
   | (with_reducible exact catalog_Parse.mono _ _)
   | (with_reducible exact clusterlockslaw05_awake.mono _)
   | (with_reducible exact clusterlocksref05_Format.mono _ _)
   | (with_reducible exact clusterlocksref05_Same.mono _ _ _)
   | (with_reducible exact clusterlocksref05_Valid.mono _ _)
   | (with_reducible exact LeO.refl _)
   | (with_reducible exact LeO.none _)
   | (with_reducible refine LeO.ite ?_ ?_)
   | (with_reducible refine LeO.bind ?_ (fun _ => ?_))
   | exact ih0 _ _ _
   | exact catalog_Format.mono _ _
   | exact catalog_Parse.mono _ _
   | exact clusterlockslaw05_awake.mono _
   | exact clusterlocksref05_Format.mono _ _
   | exact clusterlocksref05_Same.mono _ _ _
   | exact clusterlocksref05_Valid.mono _ _
   | exact LeO.none _
   | refine LeO.ite ?_ ?_
   | refine LeO.bind ?_ (fun _ => ?_)
set_option maxHeartbeats 8000000 in
set_option maxRecDepth 100000 in
theorem clusterlockslaw05_CatalogFormats.calls (k : Nat) (A0 : Option Addr) (c0 : Nat) (l0 : List (S26)) (r : Bool) (w : World) (hr0 : Kd.C k26 w A0 l0.length l0) (hc0 : l0.length ≤ c0) (h : clusterlockslaw05_CatalogFormats.f k l0 = some r) (hT : r = true) :
  Calls Tryd.prog 11 #[.slice A0 l0.length c0] w fun e w' => e = .returned (.bool r) ∧ Below w.heap.size w w' := by
 have HR0 := Aside0.mk hr0
 have HC0 := Aside0.mk hc0
 clear hr0 hc0
 have HB := Aside0.mk (Below.refl w.heap.size w)
 have H : ((catalog_Format.f k l0).bind fun t180 => ((clusterlockslaw05_awake.f k).bind fun t181 => (if t181 = true then ((clusterlocksref05_Format.f k l0).bind fun t182 => (clusterlockslaw05_CatalogFormats.j0 k l0 t180 (t180.toList != t182.toList))) else (clusterlockslaw05_CatalogFormats.j0 k l0 t180 true)))) = some r := h
 have HRT := Aside0.mk hT
 clear h
 obtain ⟨t180, A20, H⟩ := Option.bind_eq_some_iff.mp H
 have A2 := Aside0.mk A20; clear A20
 have HC3 := Aside0.mk H
 clear H
 go_enter Tryd.func11, Tryd.ntmps11
 go_upto_region 2 with (first | ((with_reducible refine gate_callee (f := 33) rfl ?_); refine goesL_ (some 7) rfl rfl Tryd.func33 (by kernel_rfl) rfl #[.slice A0 l0.length c0] rfl (by (try simp only [mA]); first | done | rfl) ?_; (with_reducible refine (catalog_Format.calls k _ _ l0 t180 _ ?side1 ?side2 A2.out).mono ?_); (case side1 => repeat (first | exact HR0.out | (with_reducible refine Kd.C_alloc ?_ _) | (with_reducible refine Kd.C_drewN ?_ _) | (with_reducible refine Kd.C_drew ?_))); (case side2 => exact HC0.out); rintro e w4 ⟨rfl, hb⟩; refine ⟨_, rfl, ?_⟩; replace HB := bB HB hb; (try clear hb)))
 (try simp only [Act.put, List.setIfInBounds_toArray, List.set_cons_zero, List.set_cons_succ])
 go_cut [15] (fun v15 wc => ∃ (kq : Nat) (x15_2 : Bool), v15 = .bool x15_2 ∧ Aside0 (clusterlockslaw05_CatalogFormats.j0 kq l0 t180 x15_2 = some r) ∧ Aside0 (kq ≤ k) ∧ Aside0 (Below w.heap.size w wc))
 case first =>
  have H := HC3.out
  clear HC3
  obtain ⟨t181, A50, H⟩ := Option.bind_eq_some_iff.mp H
  have A5 := Aside0.mk A50; clear A50
  by_cases c6 : t181 = true
  ·subst c6
   rw [if_pos rfl] at H
   obtain ⟨t182, A70, H⟩ := Option.bind_eq_some_iff.mp H
   have A7 := Aside0.mk A70; clear A70
   have H' := Aside0.mk H
   clear H
   go_wp2_with (first | ((with_reducible refine gate_callee (f := 13) rfl ?_); refine goesL_ (some 8) rfl rfl Tryd.func13 (by kernel_rfl) rfl #[] rfl (by (try simp only [mA]); first | done | rfl) ?_; (with_reducible refine (clusterlockslaw05_awake.calls k  true _ A5.out).mono ?_); rintro e w8 ⟨rfl, hb⟩; refine ⟨_, rfl, ?_⟩; replace HB := bB HB hb; (try clear hb)) | (go_at_call 34; (with_reducible refine (clusterlocksref05_Format.calls k _ _ l0 t182 _ ?side1 ?side2 A7.out).mono ?_); (case side1 => repeat (first | exact (Kd.C_below HR0.out HB.out) | (with_reducible refine Kd.C_alloc ?_ _) | (with_reducible refine Kd.C_drewN ?_ _) | (with_reducible refine Kd.C_drew ?_))); (case side2 => exact HC0.out); rintro e w9 ⟨rfl, hb⟩; replace HB := bB HB hb; (try clear hb)))
   go_meet
   case rel => exact ⟨_, ((t180.toList != t182.toList)), (by first | rfl | (simp; done) | (simp [*]; done)), H', ⟨by first | omega | exact Nat.le_refl _⟩, ⟨(uS HB)⟩⟩
  ·replace c6 := Bool.eq_false_iff.mpr c6
   subst c6
   rw [if_neg (show ¬ (false = true) by decide)] at H
   have H' := Aside0.mk H
   clear H
   go_wp2_with (first | ((with_reducible refine gate_callee (f := 13) rfl ?_); refine goesL_ (some 8) rfl rfl Tryd.func13 (by kernel_rfl) rfl #[] rfl (by (try simp only [mA]); first | done | rfl) ?_; (with_reducible refine (clusterlockslaw05_awake.calls k  false _ A5.out).mono ?_); rintro e w10 ⟨rfl, hb⟩; refine ⟨_, rfl, ?_⟩; replace HB := bB HB hb; (try clear hb)))
   go_meet
   case rel => exact ⟨_, (true), (by first | rfl | (simp; done) | (simp [*]; done)), H', ⟨by first | omega | exact Nat.le_refl _⟩, ⟨(uS HB)⟩⟩
 case rest =>
  clear HC3
  try clear c1
  try clear p2
  try clear c3
  try clear c6
  obtain ⟨kq, x15_2, rfl, HA, HJ2, HB⟩ := hcut
  cases kq with
  | zero => exact absurd HA.out (by simp [clusterlockslaw05_CatalogFormats.j0])
  | succ kj2 =>
   have H := HA.out
   clear HA
   simp only [clusterlockslaw05_CatalogFormats.j0] at H
   by_cases c11 : x15_2 = true
   ·subst c11
    rw [if_pos rfl] at H
    exact absurd (Option.some.inj H) (by rw [HRT.out]; decide)
   ·replace c11 := Bool.eq_false_iff.mpr c11
    subst c11
    rw [if_neg (show ¬ (false = true) by decide)] at H
    obtain ⟨t183, A120, H⟩ := Option.bind_eq_some_iff.mp H
    have A12 := Aside0.mk A120; clear A120
    by_cases c13 : t183 = true
    ·subst c13
     rw [if_pos rfl] at H
     replace H := Option.bind_eq_some_iff.mp H
     obtain ⟨⟨t184, t185⟩, A140, H⟩ := H
     replace H : (if t185 = 0 then ((clusterlocksref05_Same.f kj2 t184 l0).bind fun t188 => (some t188)) else (some false)) = some r := H
     have A14 := Aside0.mk A140; clear A140
     by_cases c15 : t185 = 0
     ·rw [if_pos c15] at H
      have c15b0 : (t185 == 0) = true := beq_iff_eq.mpr c15
      have c15b1 : (t185 != 0) = false := bne_eq_false_iff_eq.mpr c15
      clear c15
      obtain ⟨t188, A160, H⟩ := Option.bind_eq_some_iff.mp H
      have A16 := Aside0.mk A160; clear A160
      obtain rfl := Option.some.inj H
      go_wp2_with (first | ((with_reducible refine gate_callee (f := 21) rfl ?_); refine goesL_ (some 17) rfl rfl Tryd.func21 (by kernel_rfl) rfl #[.slice A0 l0.length c0] rfl (by (try simp only [mA]); first | done | rfl) ?_; (with_reducible refine (clusterlocksref05_Valid.calls kj2 _ _ l0 true _ ?side1 ?side2 A12.out).mono ?_); (case side1 => repeat (first | exact (Kd.C_below HR0.out HB.out) | (with_reducible refine Kd.C_alloc ?_ _) | (with_reducible refine Kd.C_drewN ?_ _) | (with_reducible refine Kd.C_drew ?_))); (case side2 => exact HC0.out); rintro e w17 ⟨rfl, hb⟩; refine ⟨_, rfl, ?_⟩; replace HB := bB HB hb; (try clear hb)) | ((with_reducible refine gate_callee (f := 35) rfl ?_); refine goesL_ (some 23) rfl rfl Tryd.func35 (by kernel_rfl) rfl #[.string t180] rfl (by (try simp only [mA]); first | done | rfl) ?_; (with_reducible refine (catalog_Parse.calls kj2 t180 t184 t185 _ A14.out).mono ?_); rintro e w18 ⟨v186, rfl, ho0, hb⟩; refine ⟨_, rfl, ?_⟩; have HO187 := Aside0.mk (Kd.R_lower ho0 (below_size (uB HB))); replace HB := bB HB hb; (try clear hb); (try clear ho0); obtain ⟨Ao19, co19, eo19⟩ := Kd.R_slice HO187.out; subst eo19) | (go_at_call 24; (with_reducible refine (clusterlocksref05_Same.calls kj2 _ _ t184 _ _ l0 t188 _ ?side1 ?side2 ?side3 ?side4 A16.out).mono ?_); (case side1 => repeat (first | exact (Kd.R_reads' HO187.out).2.2 | (with_reducible refine Kd.C_alloc ?_ _) | (with_reducible refine Kd.C_drewN ?_ _) | (with_reducible refine Kd.C_drew ?_))); (case side2 => exact (Kd.R_reads' HO187.out).2.1); (case side3 => repeat (first | exact (Kd.C_below HR0.out HB.out) | (with_reducible refine Kd.C_alloc ?_ _) | (with_reducible refine Kd.C_drewN ?_ _) | (with_reducible refine Kd.C_drew ?_))); (case side4 => exact HC0.out); rintro e w' ⟨rfl, ⟨nd, rfl⟩⟩))
      go_ret
      exact ⟨by first | rfl | (simp [errW_none, errW_some] <;> rfl) | (simp [*, errW_none, errW_some] <;> rfl), (uS HB)⟩
     ·rw [if_neg c15] at H
      have c15b0 : (t185 == 0) = false := beq_eq_false_iff_ne.mpr c15
      have c15b1 : (t185 != 0) = true := bne_iff_ne.mpr c15
      exact absurd (Option.some.inj H) (by rw [HRT.out]; decide)
    ·replace c13 := Bool.eq_false_iff.mpr c13
     subst c13
     rw [if_neg (show ¬ (false = true) by decide)] at H
     obtain rfl := Option.some.inj H
     go_wp2_with (first | ((with_reducible refine gate_callee (f := 21) rfl ?_); refine goesL_ (some 17) rfl rfl Tryd.func21 (by kernel_rfl) rfl #[.slice A0 l0.length c0] rfl (by (try simp only [mA]); first | done | rfl) ?_; (with_reducible refine (clusterlocksref05_Valid.calls kj2 _ _ l0 false _ ?side1 ?side2 A12.out).mono ?_); (case side1 => repeat (first | exact (Kd.C_below HR0.out HB.out) | (with_reducible refine Kd.C_alloc ?_ _) | (with_reducible refine Kd.C_drewN ?_ _) | (with_reducible refine Kd.C_drew ?_))); (case side2 => exact HC0.out); rintro e w22 ⟨rfl, hb⟩; refine ⟨_, rfl, ?_⟩; replace HB := bB HB hb; (try clear hb)))
     go_ret
     exact ⟨by first | rfl | (simp [errW_none, errW_some] <;> rfl) | (simp [*, errW_none, errW_some] <;> rfl), (uS HB)⟩
end Go.Proofs.YtbiapfjhdggkpaaDoor.PA
