-- Printed by wip/tool/myprint.py for this claim; Lean checks it.
import Derived.Test.YtbiapfjhdggkpaaDoorPAx0
import Derived.Test.YtbiapfjhdggkpaaDoorPAx2
import Derived.Test.YtbiapfjhdggkpaaDoorPAx3
import Derived.Test.YtbiapfjhdggkpaaDoorSlim
import Derived.Test.YtbiapfjhdggkpaaDoorT15
import Derived.Test.YtbiapfjhdggkpaaDoorT12
namespace Go.Proofs.YtbiapfjhdggkpaaDoor.PA
open Go.RowKit Go.Proofs.YtbiapfjhdggkpaaDoorW.PrintWords Go.Proofs.YtbiapfjhdggkpaaDoorW.PrintLast Go.Proofs.YtbiapfjhdggkpaaDoorW.PrintMore
attribute [local go_sem] max2_int min2_int max_two min_two max_three min_three max_four min_four   -- for this text's walks alone
set_option linter.unusedVariables false
set_option linter.unusedSimpArgs false

/-! ### clusterlockslaw05_awake: function 13 -/
def clusterlockslaw05_awake.f (k : Nat)  : Option (Bool) := (catalog_Insert.f k ([] : List (S26)) (⟨#[112]⟩ : ByteArray) 2 3 1).bind fun bt110 => (if bt110.2 = 0 then (if (bt110.1.length : Int) = 1 then ((catalog_Valid.f k bt110.1).bind fun t114 => (if t114 = true then ((catalog_Format.f k bt110.1).bind fun t115 => (if t115.toList = ([112, 111, 111, 108, 32, 112, 32, 51, 32, 97, 116, 32, 49, 10] : List UInt8) then ((catalog_ValidName.f k (⟨#[97, 108, 108]⟩ : ByteArray)).bind fun t116 => (some (!t116))) else (some false))) else (some false))) else (some false)) else (some false))
theorem clusterlockslaw05_awake.mono : ∀ k, LeO (clusterlockslaw05_awake.f k ) (clusterlockslaw05_awake.f (k + 1) ) := by
 intro  k
 unfold clusterlockslaw05_awake.f
 repeat' first
   | (with_reducible exact catalog_Format.mono _ _)
   | (with_reducible exact catalog_Insert.mono _ _ _ _ _ _)
   | (with_reducible exact catalog_Valid.mono _ _)
   | (with_reducible exact catalog_ValidName.mono _ _)
   | (with_reducible exact LeO.refl _)
   | (with_reducible exact LeO.none _)
   | (with_reducible refine LeO.ite ?_ ?_)
   | (with_reducible refine LeO.bind ?_ (fun _ => ?_))
   | exact catalog_Format.mono _ _
   | exact catalog_Insert.mono _ _ _ _ _ _
   | exact catalog_Valid.mono _ _
   | exact catalog_ValidName.mono _ _
   | exact LeO.none _
   | refine LeO.ite ?_ ?_
   | refine LeO.bind ?_ (fun _ => ?_)
theorem clusterlockslaw05_awake.at : clusterlockslaw05_awake.f 40 = some true := by decide +kernel
theorem clusterlockslaw05_awake.only {k : Nat} {r : Bool} (h : clusterlockslaw05_awake.f k = some r) : r = true := by
 rcases Nat.le_total k 40 with hk | hk
 ·have := at_rounds clusterlockslaw05_awake.mono hk h
  rw [clusterlockslaw05_awake.at] at this
  exact (Option.some.inj this).symm
 ·have := at_rounds clusterlockslaw05_awake.mono hk clusterlockslaw05_awake.at
  rw [h] at this
  exact Option.some.inj this
set_option maxHeartbeats 8000000 in
set_option maxRecDepth 100000 in
theorem clusterlockslaw05_awake.calls (k : Nat)  (r : Bool) (w : World) (h : clusterlockslaw05_awake.f k  = some r) :
  Calls Tryd.prog 13 #[] w fun e w' => e = .returned (.bool r) ∧ Below w.heap.size w w' := by
 have hu26 := Tryd.underlying26
 have HB := Aside0.mk (Below.refl w.heap.size w)
 have H : ((catalog_Insert.f k ([] : List (S26)) (⟨#[112]⟩ : ByteArray) 2 3 1).bind fun bt110 => (if bt110.2 = 0 then (if (bt110.1.length : Int) = 1 then ((catalog_Valid.f k bt110.1).bind fun t114 => (if t114 = true then ((catalog_Format.f k bt110.1).bind fun t115 => (if t115.toList = ([112, 111, 111, 108, 32, 112, 32, 51, 32, 97, 116, 32, 49, 10] : List UInt8) then ((catalog_ValidName.f k (⟨#[97, 108, 108]⟩ : ByteArray)).bind fun t116 => (some (!t116))) else (some false))) else (some false))) else (some false)) else (some false))) = some r := h
 have HRT := Aside0.mk (clusterlockslaw05_awake.only h)
 clear h
 replace H := Option.bind_eq_some_iff.mp H
 obtain ⟨⟨t110, t113⟩, A10, H⟩ := H
 replace H : (if t113 = 0 then (if (t110.length : Int) = 1 then ((catalog_Valid.f k t110).bind fun t114 => (if t114 = true then ((catalog_Format.f k t110).bind fun t115 => (if t115.toList = ([112, 111, 111, 108, 32, 112, 32, 51, 32, 97, 116, 32, 49, 10] : List UInt8) then ((catalog_ValidName.f k (⟨#[97, 108, 108]⟩ : ByteArray)).bind fun t116 => (some (!t116))) else (some false))) else (some false))) else (some false)) else (some false)) = some r := H
 have A1 := Aside0.mk A10; clear A10
 have HH_ := Aside0.mk H
 clear H
 go_enter Tryd.func13, Tryd.ntmps13
 have H := HH_.out
 clear HH_
 by_cases c2 : t113 = 0
 ·rw [if_pos c2] at H
  have c2b0 : (t113 == 0) = true := beq_iff_eq.mpr c2
  have c2b1 : (t113 != 0) = false := bne_eq_false_iff_eq.mpr c2
  clear c2
  (try simp only [c2b0, c2b1])
  by_cases c3 : (t110.length : Int) = 1
  ·rw [if_pos c3] at H
   have c3b0 : ((t110.length : Int) == 1) = true := beq_iff_eq.mpr c3
   have c3b1 : ((t110.length : Int) != 1) = false := bne_eq_false_iff_eq.mpr c3
   clear c3
   obtain ⟨t114, A40, H⟩ := Option.bind_eq_some_iff.mp H
   have A4 := Aside0.mk A40; clear A40
   (try simp only [c3b0, c3b1])
   by_cases c5 : t114 = true
   ·subst c5
    rw [if_pos rfl] at H
    obtain ⟨t115, A60, H⟩ := Option.bind_eq_some_iff.mp H
    have A6 := Aside0.mk A60; clear A60
    by_cases c7 : t115.toList = ([112, 111, 111, 108, 32, 112, 32, 51, 32, 97, 116, 32, 49, 10] : List UInt8)
    ·rw [if_pos c7] at H
     have c7b0 : (t115.toList == ([112, 111, 111, 108, 32, 112, 32, 51, 32, 97, 116, 32, 49, 10] : List UInt8)) = true := beq_iff_eq.mpr c7
     have c7b1 : (t115.toList != ([112, 111, 111, 108, 32, 112, 32, 51, 32, 97, 116, 32, 49, 10] : List UInt8)) = false := bne_eq_false_iff_eq.mpr c7
     clear c7
     obtain ⟨t116, A80, H⟩ := Option.bind_eq_some_iff.mp H
     have A8 := Aside0.mk A80; clear A80
     obtain rfl := Option.some.inj H
     (try simp only [c7b0, c7b1])
     go_wp2_with (first | ((with_reducible refine gate_callee (f := 22) rfl ?_); refine goesL_ (some 5) rfl rfl Tryd.func22 (by kernel_rfl) rfl #[.slice none 0 0, .agg #[.string (⟨#[112]⟩ : ByteArray), .int .i64 2, .int .i64 3, .int .i64 1]] rfl (by (try simp only [mA]); first | done | rfl) ?_; (refine (catalog_Insert.calls k _ _ ([] : List (S26)) (⟨#[112]⟩ : ByteArray) 2 3 1 t110 t113 _ ?side1 ?side2 A1.out).mono ?_); (case side1 => exact Kd.C_nil _ _); (case side2 => exact Nat.le_refl _); rintro e w9 ⟨v111, rfl, ho0, hb⟩; refine ⟨_, rfl, ?_⟩; have HO112 := Aside0.mk (Kd.R_lower ho0 (below_size (uB HB))); replace HB := bB HB hb; (try clear hb); (try clear hk); (try clear ho0); obtain ⟨Ao10, co10, eo10⟩ := Kd.R_slice HO112.out; subst eo10) | (go_at_call 20; (with_reducible refine (catalog_Valid.calls k _ _ t110 true _ ?side1 ?side2 A4.out).mono ?_); (case side1 => repeat (first | exact (Kd.R_reads' HO112.out).2.2 | (with_reducible refine Kd.C_alloc ?_ _) | (with_reducible refine Kd.C_drewN ?_ _) | (with_reducible refine Kd.C_drew ?_))); (case side2 => exact (Kd.R_reads' HO112.out).2.1); rintro e w11 ⟨rfl, hb⟩; replace HO112 := Aside0.mk (Kd.R_below (by (with_reducible repeat (first | apply Kd.R_alloc | apply Kd.R_drewN | apply Kd.R_drew)); exact HO112.out) hb); replace HB := bB HB hb; (try clear hb); (try clear hk)) | (go_at_call 33; (with_reducible refine (catalog_Format.calls k _ _ t110 t115 _ ?side1 ?side2 A6.out).mono ?_); (case side1 => repeat (first | exact (Kd.R_reads' HO112.out).2.2 | (with_reducible refine Kd.C_alloc ?_ _) | (with_reducible refine Kd.C_drewN ?_ _) | (with_reducible refine Kd.C_drew ?_))); (case side2 => exact (Kd.R_reads' HO112.out).2.1); rintro e w12 ⟨rfl, hb⟩; replace HO112 := Aside0.mk (Kd.R_below (by (with_reducible repeat (first | apply Kd.R_alloc | apply Kd.R_drewN | apply Kd.R_drew)); exact HO112.out) hb); replace HB := bB HB hb; (try clear hb); (try clear hk)) | (go_at_call 16; (with_reducible refine (catalog_ValidName.calls k (⟨#[97, 108, 108]⟩ : ByteArray) t116 _ A8.out).mono ?_); rintro e w' ⟨rfl, ⟨nd, rfl⟩⟩))
     go_ret
     exact ⟨by first | rfl | (simp [errW_none, errW_some] <;> rfl) | (simp [*, errW_none, errW_some] <;> rfl), (uS HB)⟩
    ·rw [if_neg c7] at H
     have c7b0 : (t115.toList == ([112, 111, 111, 108, 32, 112, 32, 51, 32, 97, 116, 32, 49, 10] : List UInt8)) = false := beq_eq_false_iff_ne.mpr c7
     have c7b1 : (t115.toList != ([112, 111, 111, 108, 32, 112, 32, 51, 32, 97, 116, 32, 49, 10] : List UInt8)) = true := bne_iff_ne.mpr c7
     exact absurd (Option.some.inj H) (by rw [HRT.out]; decide)
   ·replace c5 := Bool.eq_false_iff.mpr c5
    subst c5
    rw [if_neg (show ¬ (false = true) by decide)] at H
    exact absurd (Option.some.inj H) (by rw [HRT.out]; decide)
  ·rw [if_neg c3] at H
   have c3b0 : ((t110.length : Int) == 1) = false := beq_eq_false_iff_ne.mpr c3
   have c3b1 : ((t110.length : Int) != 1) = true := bne_iff_ne.mpr c3
   exact absurd (Option.some.inj H) (by rw [HRT.out]; decide)
 ·rw [if_neg c2] at H
  have c2b0 : (t113 == 0) = false := beq_eq_false_iff_ne.mpr c2
  have c2b1 : (t113 != 0) = true := bne_iff_ne.mpr c2
  exact absurd (Option.some.inj H) (by rw [HRT.out]; decide)
/-! ### clusterlocksref05_Reserved: function 15 -/
def clusterlocksref05_Reserved.f (a0 : ByteArray) : Option (Bool) := if a0.toList = ([97, 108, 108] : List UInt8) then (some true) else (if a0.toList = ([97, 110, 121] : List UInt8) then (some true) else (if a0.toList = ([111, 102] : List UInt8) then (some true) else (if a0.toList = ([112, 114, 105, 111] : List UInt8) then (some true) else (some (a0.toList == ([108, 105, 109, 105, 116] : List UInt8))))))
set_option maxHeartbeats 8000000 in
set_option maxRecDepth 100000 in
theorem clusterlocksref05_Reserved.calls (a0 : ByteArray) (r : Bool) (w : World) (h : clusterlocksref05_Reserved.f a0 = some r) :
  Calls Tryd.prog 15 #[.string a0] w fun e w' => e = .returned (.bool r) ∧ Drawn0 w w' := by
 have H : (if a0.toList = ([97, 108, 108] : List UInt8) then (some true) else (if a0.toList = ([97, 110, 121] : List UInt8) then (some true) else (if a0.toList = ([111, 102] : List UInt8) then (some true) else (if a0.toList = ([112, 114, 105, 111] : List UInt8) then (some true) else (some (a0.toList == ([108, 105, 109, 105, 116] : List UInt8))))))) = some r := h
 clear h
 by_cases c2 : a0.toList = ([97, 108, 108] : List UInt8)
 ·rw [if_pos c2] at H
  have c2b0 : (a0.toList == ([97, 108, 108] : List UInt8)) = true := beq_iff_eq.mpr c2
  have c2b1 : (a0.toList != ([97, 108, 108] : List UInt8)) = false := bne_eq_false_iff_eq.mpr c2
  clear c2
  obtain rfl := Option.some.inj H
  go_enter Tryd.func15, Tryd.ntmps15
  go_wp2
  go_ret
  exact ⟨by first | rfl | (simp; done) | (simp [*]; done), by repeat (first | exact Drawn0.refl _ | apply Drawn0.step)⟩
 ·rw [if_neg c2] at H
  have c2b0 : (a0.toList == ([97, 108, 108] : List UInt8)) = false := beq_eq_false_iff_ne.mpr c2
  have c2b1 : (a0.toList != ([97, 108, 108] : List UInt8)) = true := bne_iff_ne.mpr c2
  by_cases c3 : a0.toList = ([97, 110, 121] : List UInt8)
  ·rw [if_pos c3] at H
   have c3b0 : (a0.toList == ([97, 110, 121] : List UInt8)) = true := beq_iff_eq.mpr c3
   have c3b1 : (a0.toList != ([97, 110, 121] : List UInt8)) = false := bne_eq_false_iff_eq.mpr c3
   clear c3
   obtain rfl := Option.some.inj H
   go_enter Tryd.func15, Tryd.ntmps15
   go_wp2
   go_ret
   exact ⟨by first | rfl | (simp; done) | (simp [*]; done), by repeat (first | exact Drawn0.refl _ | apply Drawn0.step)⟩
  ·rw [if_neg c3] at H
   have c3b0 : (a0.toList == ([97, 110, 121] : List UInt8)) = false := beq_eq_false_iff_ne.mpr c3
   have c3b1 : (a0.toList != ([97, 110, 121] : List UInt8)) = true := bne_iff_ne.mpr c3
   by_cases c4 : a0.toList = ([111, 102] : List UInt8)
   ·rw [if_pos c4] at H
    have c4b0 : (a0.toList == ([111, 102] : List UInt8)) = true := beq_iff_eq.mpr c4
    have c4b1 : (a0.toList != ([111, 102] : List UInt8)) = false := bne_eq_false_iff_eq.mpr c4
    clear c4
    obtain rfl := Option.some.inj H
    go_enter Tryd.func15, Tryd.ntmps15
    go_wp2
    go_ret
    exact ⟨by first | rfl | (simp; done) | (simp [*]; done), by repeat (first | exact Drawn0.refl _ | apply Drawn0.step)⟩
   ·rw [if_neg c4] at H
    have c4b0 : (a0.toList == ([111, 102] : List UInt8)) = false := beq_eq_false_iff_ne.mpr c4
    have c4b1 : (a0.toList != ([111, 102] : List UInt8)) = true := bne_iff_ne.mpr c4
    by_cases c5 : a0.toList = ([112, 114, 105, 111] : List UInt8)
    ·rw [if_pos c5] at H
     have c5b0 : (a0.toList == ([112, 114, 105, 111] : List UInt8)) = true := beq_iff_eq.mpr c5
     have c5b1 : (a0.toList != ([112, 114, 105, 111] : List UInt8)) = false := bne_eq_false_iff_eq.mpr c5
     clear c5
     obtain rfl := Option.some.inj H
     go_enter Tryd.func15, Tryd.ntmps15
     go_wp2
     go_ret
     exact ⟨by first | rfl | (simp; done) | (simp [*]; done), by repeat (first | exact Drawn0.refl _ | apply Drawn0.step)⟩
    ·rw [if_neg c5] at H
     have c5b0 : (a0.toList == ([112, 114, 105, 111] : List UInt8)) = false := beq_eq_false_iff_ne.mpr c5
     have c5b1 : (a0.toList != ([112, 114, 105, 111] : List UInt8)) = true := bne_iff_ne.mpr c5
     obtain rfl := Option.some.inj H
     go_enter Tryd.func15, Tryd.ntmps15
     go_wp2
     go_ret
     exact ⟨by first | rfl | (simp; done) | (simp [*]; done), by repeat (first | exact Drawn0.refl _ | apply Drawn0.step)⟩
/-! ### clusterlocksref05_Letter: function 37 -/
def clusterlocksref05_Letter.f (a0 : Int) : Option (Bool) := if a0 ≥ 97 then (some (decide (a0 ≤ 122))) else (some false)
set_option maxHeartbeats 8000000 in
set_option maxRecDepth 100000 in
theorem clusterlocksref05_Letter.calls (a0 : Int) (r : Bool) (w : World) (h : clusterlocksref05_Letter.f a0 = some r) :
  Calls Tryd.prog 37 #[.int .u8 a0] w fun e w' => e = .returned (.bool r) ∧ Drawn0 w w' := by
 have H : (if a0 ≥ 97 then (some (decide (a0 ≤ 122))) else (some false)) = some r := h
 clear h
 by_cases c2 : a0 ≥ 97
 ·rw [if_pos c2] at H
  have c2b0 : decide (97 ≤ a0) = true := decide_eq_true c2
  clear c2
  obtain rfl := Option.some.inj H
  go_enter Tryd.func37, Tryd.ntmps37
  go_wp2
  go_ret
  exact ⟨by first | rfl | (simp; done) | (simp [*]; done), by repeat (first | exact Drawn0.refl _ | apply Drawn0.step)⟩
 ·rw [if_neg c2] at H
  have c2b0 : decide (97 ≤ a0) = false := decide_eq_false c2
  clear c2
  obtain rfl := Option.some.inj H
  go_enter Tryd.func37, Tryd.ntmps37
  go_wp2
  go_ret
  exact ⟨by first | rfl | (simp; done) | (simp [*]; done), by repeat (first | exact Drawn0.refl _ | apply Drawn0.step)⟩
/-! ### clusterlocksref05_Part: function 38 -/
def clusterlocksref05_Part.f (a0 : Int) : Option (Bool) := (clusterlocksref05_Letter.f a0).bind fun t117 => (if t117 = true then (some true) else (if a0 ≥ 48 then (if a0 ≤ 57 then (some true) else (if a0 = 95 then (some true) else (some (a0 == 45)))) else (if a0 = 95 then (some true) else (some (a0 == 45)))))
set_option maxHeartbeats 8000000 in
set_option maxRecDepth 100000 in
theorem clusterlocksref05_Part.calls (a0 : Int) (r : Bool) (w : World) (h : clusterlocksref05_Part.f a0 = some r) :
  Calls Tryd.prog 38 #[.int .u8 a0] w fun e w' => e = .returned (.bool r) ∧ Drawn0 w w' := by
 have H : ((clusterlocksref05_Letter.f a0).bind fun t117 => (if t117 = true then (some true) else (if a0 ≥ 48 then (if a0 ≤ 57 then (some true) else (if a0 = 95 then (some true) else (some (a0 == 45)))) else (if a0 = 95 then (some true) else (some (a0 == 45)))))) = some r := h
 clear h
 obtain ⟨t117, A20, H⟩ := Option.bind_eq_some_iff.mp H
 have A2 := Aside0.mk A20; clear A20
 by_cases c3 : t117 = true
 ·subst c3
  rw [if_pos rfl] at H
  obtain rfl := Option.some.inj H
  go_enter Tryd.func38, Tryd.ntmps38
  go_wp2_with (first | ((with_reducible refine gate_callee (f := 37) rfl ?_); refine goesL_ (some 4) rfl rfl Tryd.func37 (by kernel_rfl) rfl #[.int .u8 a0] rfl (by (try simp only [mA]); first | done | rfl) ?_; (with_reducible refine (clusterlocksref05_Letter.calls a0 true _ A2.out).mono ?_); rintro e w' ⟨rfl, ⟨nd, rfl⟩⟩; refine ⟨_, rfl, ?_⟩))
  go_ret
  exact ⟨by first | rfl | (simp; done) | (simp [*]; done), by repeat (first | exact Drawn0.refl _ | apply Drawn0.step)⟩
 ·replace c3 := Bool.eq_false_iff.mpr c3
  subst c3
  rw [if_neg (show ¬ (false = true) by decide)] at H
  by_cases c4 : a0 ≥ 48
  ·rw [if_pos c4] at H
   have c4b0 : decide (48 ≤ a0) = true := decide_eq_true c4
   clear c4
   by_cases c5 : a0 ≤ 57
   ·rw [if_pos c5] at H
    have c5b0 : decide (a0 ≤ 57) = true := decide_eq_true c5
    clear c5
    obtain rfl := Option.some.inj H
    go_enter Tryd.func38, Tryd.ntmps38
    go_wp2_with (first | ((with_reducible refine gate_callee (f := 37) rfl ?_); refine goesL_ (some 4) rfl rfl Tryd.func37 (by kernel_rfl) rfl #[.int .u8 a0] rfl (by (try simp only [mA]); first | done | rfl) ?_; (with_reducible refine (clusterlocksref05_Letter.calls a0 false _ A2.out).mono ?_); rintro e w' ⟨rfl, ⟨nd, rfl⟩⟩; refine ⟨_, rfl, ?_⟩))
    go_ret
    exact ⟨by first | rfl | (simp; done) | (simp [*]; done), by repeat (first | exact Drawn0.refl _ | apply Drawn0.step)⟩
   ·rw [if_neg c5] at H
    have c5b0 : decide (a0 ≤ 57) = false := decide_eq_false c5
    clear c5
    by_cases c6 : a0 = 95
    ·rw [if_pos c6] at H
     have c6b0 : (a0 == 95) = true := beq_iff_eq.mpr c6
     have c6b1 : (a0 != 95) = false := bne_eq_false_iff_eq.mpr c6
     clear c6
     obtain rfl := Option.some.inj H
     go_enter Tryd.func38, Tryd.ntmps38
     go_wp2_with (first | ((with_reducible refine gate_callee (f := 37) rfl ?_); refine goesL_ (some 4) rfl rfl Tryd.func37 (by kernel_rfl) rfl #[.int .u8 a0] rfl (by (try simp only [mA]); first | done | rfl) ?_; (with_reducible refine (clusterlocksref05_Letter.calls a0 false _ A2.out).mono ?_); rintro e w' ⟨rfl, ⟨nd, rfl⟩⟩; refine ⟨_, rfl, ?_⟩))
     go_ret
     exact ⟨by first | rfl | (simp; done) | (simp [*]; done), by repeat (first | exact Drawn0.refl _ | apply Drawn0.step)⟩
    ·rw [if_neg c6] at H
     have c6b0 : (a0 == 95) = false := beq_eq_false_iff_ne.mpr c6
     have c6b1 : (a0 != 95) = true := bne_iff_ne.mpr c6
     obtain rfl := Option.some.inj H
     go_enter Tryd.func38, Tryd.ntmps38
     go_wp2_with (first | ((with_reducible refine gate_callee (f := 37) rfl ?_); refine goesL_ (some 4) rfl rfl Tryd.func37 (by kernel_rfl) rfl #[.int .u8 a0] rfl (by (try simp only [mA]); first | done | rfl) ?_; (with_reducible refine (clusterlocksref05_Letter.calls a0 false _ A2.out).mono ?_); rintro e w' ⟨rfl, ⟨nd, rfl⟩⟩; refine ⟨_, rfl, ?_⟩))
     go_ret
     exact ⟨by first | rfl | (simp; done) | (simp [*]; done), by repeat (first | exact Drawn0.refl _ | apply Drawn0.step)⟩
  ·rw [if_neg c4] at H
   have c4b0 : decide (48 ≤ a0) = false := decide_eq_false c4
   clear c4
   by_cases c7 : a0 = 95
   ·rw [if_pos c7] at H
    have c7b0 : (a0 == 95) = true := beq_iff_eq.mpr c7
    have c7b1 : (a0 != 95) = false := bne_eq_false_iff_eq.mpr c7
    clear c7
    obtain rfl := Option.some.inj H
    go_enter Tryd.func38, Tryd.ntmps38
    go_wp2_with (first | ((with_reducible refine gate_callee (f := 37) rfl ?_); refine goesL_ (some 4) rfl rfl Tryd.func37 (by kernel_rfl) rfl #[.int .u8 a0] rfl (by (try simp only [mA]); first | done | rfl) ?_; (with_reducible refine (clusterlocksref05_Letter.calls a0 false _ A2.out).mono ?_); rintro e w' ⟨rfl, ⟨nd, rfl⟩⟩; refine ⟨_, rfl, ?_⟩))
    go_ret
    exact ⟨by first | rfl | (simp; done) | (simp [*]; done), by repeat (first | exact Drawn0.refl _ | apply Drawn0.step)⟩
   ·rw [if_neg c7] at H
    have c7b0 : (a0 == 95) = false := beq_eq_false_iff_ne.mpr c7
    have c7b1 : (a0 != 95) = true := bne_iff_ne.mpr c7
    obtain rfl := Option.some.inj H
    go_enter Tryd.func38, Tryd.ntmps38
    go_wp2_with (first | ((with_reducible refine gate_callee (f := 37) rfl ?_); refine goesL_ (some 4) rfl rfl Tryd.func37 (by kernel_rfl) rfl #[.int .u8 a0] rfl (by (try simp only [mA]); first | done | rfl) ?_; (with_reducible refine (clusterlocksref05_Letter.calls a0 false _ A2.out).mono ?_); rintro e w' ⟨rfl, ⟨nd, rfl⟩⟩; refine ⟨_, rfl, ?_⟩))
    go_ret
    exact ⟨by first | rfl | (simp; done) | (simp [*]; done), by repeat (first | exact Drawn0.refl _ | apply Drawn0.step)⟩
/-! ### clusterlocksref05_ValidName: function 17 -/
mutual
def clusterlocksref05_ValidName.j0 : Nat → ByteArray → Bool → Option (Bool)
 | 0, _, _ => none
 | k + 1, x0, x21 => if x21 = true then (some false) else (clusterlocksref05_ValidName.l0 k x0 0)
def clusterlocksref05_ValidName.l0 : Nat → ByteArray → Int → Option (Bool)
 | 0, _, _ => none
 | k + 1, x0, x3 => if x3 < (x0.size : Int) then (if 0 ≤ x3 then ((clusterlocksref05_Part.f (bt x0 x3)).bind fun t120 => (if t120 = true then (clusterlocksref05_ValidName.l0 k x0 (wrap64 (x3 + 1))) else (some false))) else (none)) else (some true)
end
def clusterlocksref05_ValidName.f (k : Nat) (a0 : ByteArray) : Option (Bool) := if (a0.size : Int) < 1 then (clusterlocksref05_ValidName.j0 k a0 true) else (if (a0.size : Int) > 12 then (clusterlocksref05_ValidName.j0 k a0 true) else (if 0 < (a0.size : Int) then ((clusterlocksref05_Letter.f (bt a0 0)).bind fun t118 => (if t118 = true then ((clusterlocksref05_Reserved.f a0).bind fun t119 => (clusterlocksref05_ValidName.j0 k a0 t119)) else (clusterlocksref05_ValidName.j0 k a0 true))) else (none)))
theorem clusterlocksref05_ValidName.mono_l : ∀ k, (∀ y0 y1, LeO (clusterlocksref05_ValidName.j0 k y0 y1) (clusterlocksref05_ValidName.j0 (k + 1) y0 y1)) ∧ (∀ y0 y1, LeO (clusterlocksref05_ValidName.l0 k y0 y1) (clusterlocksref05_ValidName.l0 (k + 1) y0 y1))
 | 0 => ⟨fun _ _ r h => by simp [clusterlocksref05_ValidName.j0] at h, fun _ _ r h => by simp [clusterlocksref05_ValidName.l0] at h⟩
 | k + 1 => by
  obtain ⟨ih0, ih1⟩ := clusterlocksref05_ValidName.mono_l k
  refine ⟨?_, ?_⟩
  ·intro y0 y1
   unfold clusterlocksref05_ValidName.j0
   repeat' first
   | (with_reducible exact ih0 _ _)
   | (with_reducible exact ih1 _ _)
   | (with_reducible exact LeO.refl _)
   | (with_reducible exact LeO.none _)
   | (with_reducible refine LeO.ite ?_ ?_)
   | (with_reducible refine LeO.bind ?_ (fun _ => ?_))
   | exact ih0 _ _
   | exact ih1 _ _
   | exact LeO.none _
   | refine LeO.ite ?_ ?_
   | refine LeO.bind ?_ (fun _ => ?_)
  ·intro y0 y1
   unfold clusterlocksref05_ValidName.l0
   repeat' first
   | (with_reducible exact ih0 _ _)
   | (with_reducible exact ih1 _ _)
   | (with_reducible exact LeO.refl _)
   | (with_reducible exact LeO.none _)
   | (with_reducible refine LeO.ite ?_ ?_)
   | (with_reducible refine LeO.bind ?_ (fun _ => ?_))
   | exact ih0 _ _
   | exact ih1 _ _
   | exact LeO.none _
   | refine LeO.ite ?_ ?_
   | refine LeO.bind ?_ (fun _ => ?_)
theorem clusterlocksref05_ValidName.mono : ∀ a0 k, LeO (clusterlocksref05_ValidName.f k a0) (clusterlocksref05_ValidName.f (k + 1) a0) := by
 intro a0 k
 obtain ⟨ih0, ih1⟩ := clusterlocksref05_ValidName.mono_l k
 unfold clusterlocksref05_ValidName.f
 repeat' first
   | (with_reducible exact ih0 _ _)
   | (with_reducible exact ih1 _ _)
   | (with_reducible exact LeO.refl _)
   | (with_reducible exact LeO.none _)
   | (with_reducible refine LeO.ite ?_ ?_)
   | (with_reducible refine LeO.bind ?_ (fun _ => ?_))
   | exact ih0 _ _
   | exact ih1 _ _
   | exact LeO.none _
   | refine LeO.ite ?_ ?_
   | refine LeO.bind ?_ (fun _ => ?_)
set_option maxHeartbeats 8000000 in
set_option maxRecDepth 100000 in
theorem clusterlocksref05_ValidName.calls (k : Nat) (a0 : ByteArray) (r : Bool) (w : World) (h : clusterlocksref05_ValidName.f k a0 = some r) :
  Calls Tryd.prog 17 #[.string a0] w fun e w' => e = .returned (.bool r) ∧ Drawn0 w w' := by
 have H : (if (a0.size : Int) < 1 then (clusterlocksref05_ValidName.j0 k a0 true) else (if (a0.size : Int) > 12 then (clusterlocksref05_ValidName.j0 k a0 true) else (if 0 < (a0.size : Int) then ((clusterlocksref05_Letter.f (bt a0 0)).bind fun t118 => (if t118 = true then ((clusterlocksref05_Reserved.f a0).bind fun t119 => (clusterlocksref05_ValidName.j0 k a0 t119)) else (clusterlocksref05_ValidName.j0 k a0 true))) else (none)))) = some r := h
 clear h
 have HC2 := Aside0.mk H
 clear H
 go_enter Tryd.func17, Tryd.ntmps17
 go_upto_region 1 with (fail)
 go_cut [21] (fun v21 wc => ∃ (kq : Nat) (x21_1 : Bool), v21 = .bool x21_1 ∧ Aside0 (clusterlocksref05_ValidName.j0 kq a0 x21_1 = some r) ∧ Aside0 (kq ≤ k) ∧ Drawn0 w wc)
 case first =>
  have H := HC2.out
  clear HC2
  by_cases c3 : (a0.size : Int) < 1
  ·rw [if_pos c3] at H
   have c3b0 : decide ((a0.size : Int) < 1) = true := decide_eq_true c3
   have c3b1 : decide (a0.size < 1) = true := decide_eq_true (by omega)
   clear c3
   (first | rw [c3b0] | (simp only [i64_w, i32_w]; rw [c3b0]) | skip)
   have H' := Aside0.mk H
   clear H
   go_wp2
   go_meet
   case rel => exact ⟨_, (true), (by first | rfl | (simp; done) | (simp [*]; done)), H', ⟨by first | omega | exact Nat.le_refl _⟩, by repeat (first | exact Drawn0.refl _ | apply Drawn0.step)⟩
  ·rw [if_neg c3] at H
   have c3b0 : decide ((a0.size : Int) < 1) = false := decide_eq_false c3
   have c3b1 : decide (a0.size < 1) = false := decide_eq_false (by omega)
   clear c3
   (first | rw [c3b0] | (simp only [i64_w, i32_w]; rw [c3b0]) | skip)
   by_cases c4 : (a0.size : Int) > 12
   ·rw [if_pos c4] at H
    have c4b0 : decide (12 < (a0.size : Int)) = true := decide_eq_true c4
    have c4b1 : decide (12 < a0.size) = true := decide_eq_true (by omega)
    clear c4
    have H' := Aside0.mk H
    clear H
    go_wp2
    go_meet
    case rel => exact ⟨_, (true), (by first | rfl | (simp; done) | (simp [*]; done)), H', ⟨by first | omega | exact Nat.le_refl _⟩, by repeat (first | exact Drawn0.refl _ | apply Drawn0.step)⟩
   ·rw [if_neg c4] at H
    have c4b0 : decide (12 < (a0.size : Int)) = false := decide_eq_false c4
    have c4b1 : decide (12 < a0.size) = false := decide_eq_false (by omega)
    clear c4
    have HH_ := Aside0.mk H
    clear H
    have p6 : 0 ≤ (0 : Int) := (by omega)
    have H := HH_.out
    clear HH_
    by_cases c5 : 0 < (a0.size : Int)
    ·rw [if_pos c5] at H
     have c5b0 : decide (0 < (a0.size : Int)) = true := decide_eq_true c5
     have c5b1 : decide (0 < a0.size) = true := decide_eq_true (by omega)
     clear c5
     obtain ⟨t118, A70, H⟩ := Option.bind_eq_some_iff.mp H
     have A7 := Aside0.mk A70; clear A70
     (try simp only [c5b0, c5b1])
     have HH_ := Aside0.mk H
     clear H
     have q6 : 0 < a0.size := (by have : (0 : Int) < (a0.size : Int) := of_decide_eq_true (by first | (with_reducible assumption) | assumption); omega)
     have hx6 : ∀ h : 0 < a0.size, ((a0[0]'h).toNat : Int) = bt a0 0 := bt_at a0 0
     clear p6
     have qi6 : (0 < (a0.size : Int)) = True := eq_true (of_decide_eq_true (by first | (with_reducible assumption) | assumption))
     replace q6 := eq_true q6
     have H := HH_.out
     clear HH_
     by_cases c8 : t118 = true
     ·subst c8
      rw [if_pos rfl] at H
      obtain ⟨t119, A90, H⟩ := Option.bind_eq_some_iff.mp H
      have A9 := Aside0.mk A90; clear A90
      have H' := Aside0.mk H
      clear H
      go_wp2_with (first | (go_at_call 37; (with_reducible refine (clusterlocksref05_Letter.calls (bt a0 0) true _ A7.out).mono ?_); rintro e w' ⟨rfl, ⟨nd, rfl⟩⟩) | (go_at_call 15; (with_reducible refine (clusterlocksref05_Reserved.calls a0 t119 _ A9.out).mono ?_); rintro e w' ⟨rfl, ⟨nd, rfl⟩⟩))
      go_meet
      case rel => exact ⟨_, (t119), (by first | rfl | (simp; done) | (simp [*]; done)), H', ⟨by first | omega | exact Nat.le_refl _⟩, by repeat (first | exact Drawn0.refl _ | apply Drawn0.step)⟩
     ·replace c8 := Bool.eq_false_iff.mpr c8
      subst c8
      rw [if_neg (show ¬ (false = true) by decide)] at H
      have H' := Aside0.mk H
      clear H
      go_wp2_with (first | (go_at_call 37; (with_reducible refine (clusterlocksref05_Letter.calls (bt a0 0) false _ A7.out).mono ?_); rintro e w' ⟨rfl, ⟨nd, rfl⟩⟩))
      go_meet
      case rel => exact ⟨_, (true), (by first | rfl | (simp; done) | (simp [*]; done)), H', ⟨by first | omega | exact Nat.le_refl _⟩, by repeat (first | exact Drawn0.refl _ | apply Drawn0.step)⟩
    ·rw [if_neg c5] at H
     exact absurd H (by simp)
 case rest =>
  clear HC2
  try clear c1
  try clear p2
  try clear c3
  try clear c3b0
  try clear c3b1
  try clear c4
  try clear c4b0
  try clear c4b1
  try clear c5
  try clear c5b0
  try clear c5b1
  try clear p6
  try clear q6
  try clear hx6
  try clear qi6
  try clear c8
  try clear p6
  try clear q6
  obtain ⟨kq, x21_1, rfl, HA, HJ1, ⟨mc1, rfl⟩⟩ := hcut
  cases kq with
  | zero => exact absurd HA.out (by simp [clusterlocksref05_ValidName.j0])
  | succ kj1 =>
   have H := HA.out
   clear HA
   simp only [clusterlocksref05_ValidName.j0] at H
   by_cases c10 : x21_1 = true
   ·subst c10
    rw [if_pos rfl] at H
    obtain rfl := Option.some.inj H
    go_wp2
    go_ret
    exact ⟨by first | rfl | (simp; done) | (simp [*]; done), by repeat (first | exact Drawn0.refl _ | apply Drawn0.step)⟩
   ·replace c10 := Bool.eq_false_iff.mpr c10
    subst c10
    rw [if_neg (show ¬ (false = true) by decide)] at H
    have H' := Aside0.mk H
    clear H
    go_wp2
    go_loopg [3] kj1 (fun kq v3 w' => ∃ (x3_2 : Int), v3 = .int .i64 x3_2 ∧ Aside0 (clusterlocksref05_ValidName.l0 kq a0 x3_2 = some r) ∧ Aside0 (kq ≤ kj1) ∧ Drawn0 w w')
    case atStart => exact ⟨(0), (by first | rfl | (simp; done) | (simp [*]; done)), H', ⟨Nat.le_refl _⟩, by repeat (first | exact Drawn0.refl _ | apply Drawn0.step)⟩
    case round =>
     clear H'
     try clear c1
     try clear p2
     try clear c3
     try clear c3b0
     try clear c3b1
     try clear c4
     try clear c4b0
     try clear c4b1
     try clear c5
     try clear c5b0
     try clear c5b1
     try clear p6
     try clear q6
     try clear hx6
     try clear qi6
     try clear c8
     try clear c10
     try clear p2
     try clear p6
     try clear q6
     obtain ⟨x3_2, rfl, HA, HK2, ⟨m2, rfl⟩⟩ := hrel
     cases gk with
     | zero => exact absurd HA.out (by simp [clusterlocksref05_ValidName.l0])
     | succ k2 =>
      have H := HA.out
      clear HA
      simp only [clusterlocksref05_ValidName.l0] at H
      by_cases c11 : x3_2 < (a0.size : Int)
      ·rw [if_pos c11] at H
       have c11b0 : decide (x3_2 < (a0.size : Int)) = true := decide_eq_true c11
       clear c11
       by_cases c12 : 0 ≤ x3_2
       ·rw [if_pos c12] at H
        have c12b0 : decide (0 ≤ x3_2) = true := decide_eq_true c12
        clear c12
        obtain ⟨t120, A140, H⟩ := Option.bind_eq_some_iff.mp H
        have A14 := Aside0.mk A140; clear A140
        have HH_ := Aside0.mk H
        clear H
        have p13 : 0 ≤ (x3_2 : Int) := of_decide_eq_true (by first | (with_reducible assumption) | assumption)
        have q13 : x3_2 < (a0.size : Int) := of_decide_eq_true (by first | (with_reducible assumption) | assumption)
        have hx13 := bt_at a0 x3_2
        replace p13 := eq_true p13
        replace q13 := eq_true q13
        have H := HH_.out
        clear HH_
        by_cases c15 : t120 = true
        ·subst c15
         rw [if_pos rfl] at H
         have H' := Aside0.mk H
         clear H
         go_wp2_with (first | ((with_reducible refine gate_callee (f := 38) rfl ?_); refine goesL_ (some 31) rfl rfl Tryd.func38 (by kernel_rfl) rfl #[.int .u8 (bt a0 x3_2)] rfl (by (try simp only [mA]); first | done | rfl) ?_; (with_reducible refine (clusterlocksref05_Part.calls (bt a0 x3_2) true _ A14.out).mono ?_); rintro e w' ⟨rfl, ⟨nd, rfl⟩⟩; refine ⟨_, rfl, ?_⟩))
         go_roundg k2
         case measure => have := HJ1.out; have := HK2.out; omega
         case rel => exact ⟨(wrap64 (x3_2 + 1)), (by first | rfl | (simp; done) | (simp [*]; done)), H', ⟨by have := HJ1.out; have := HK2.out; omega⟩, by repeat (first | exact Drawn0.refl _ | apply Drawn0.step)⟩
        ·replace c15 := Bool.eq_false_iff.mpr c15
         subst c15
         rw [if_neg (show ¬ (false = true) by decide)] at H
         obtain rfl := Option.some.inj H
         go_wp2_with (first | ((with_reducible refine gate_callee (f := 38) rfl ?_); refine goesL_ (some 31) rfl rfl Tryd.func38 (by kernel_rfl) rfl #[.int .u8 (bt a0 x3_2)] rfl (by (try simp only [mA]); first | done | rfl) ?_; (with_reducible refine (clusterlocksref05_Part.calls (bt a0 x3_2) false _ A14.out).mono ?_); rintro e w' ⟨rfl, ⟨nd, rfl⟩⟩; refine ⟨_, rfl, ?_⟩))
         go_ret
         exact ⟨by first | rfl | (simp; done) | (simp [*]; done), by repeat (first | exact Drawn0.refl _ | apply Drawn0.step)⟩
       ·rw [if_neg c12] at H
        exact absurd H (by simp)
      ·rw [if_neg c11] at H
       have c11b0 : decide (x3_2 < (a0.size : Int)) = false := decide_eq_false c11
       clear c11
       obtain rfl := Option.some.inj H
       go_wp2
       go_ret
       exact ⟨by first | rfl | (simp; done) | (simp [*]; done), by repeat (first | exact Drawn0.refl _ | apply Drawn0.step)⟩
/-! ### clusterlocksref04_Shaped: function 40 -/
def clusterlocksref04_Shaped.f (a0_0 : ByteArray) (a0_1 : Int) (a0_2 : Int) (a0_3 : Int) : Option (Bool) := if a0_1 = 1 then (if a0_2 = 1 then (some true) else (if a0_1 = 2 then (if a0_2 ≥ 1 then (some (decide (a0_2 ≤ 8))) else (some false)) else (some false))) else (if a0_1 = 2 then (if a0_2 ≥ 1 then (some (decide (a0_2 ≤ 8))) else (some false)) else (some false))
set_option maxHeartbeats 8000000 in
set_option maxRecDepth 100000 in
theorem clusterlocksref04_Shaped.calls (a0_0 : ByteArray) (a0_1 : Int) (a0_2 : Int) (a0_3 : Int) (r : Bool) (w : World) (h : clusterlocksref04_Shaped.f a0_0 a0_1 a0_2 a0_3 = some r) :
  Calls Tryd.prog 40 #[.agg #[.string a0_0, .int .i64 a0_1, .int .i64 a0_2, .int .i64 a0_3]] w fun e w' => e = .returned (.bool r) ∧ Below w.heap.size w w' := by
 have hu26 := Tryd.underlying26
 have HB := Aside0.mk (Below.refl w.heap.size w)
 have H : (if a0_1 = 1 then (if a0_2 = 1 then (some true) else (if a0_1 = 2 then (if a0_2 ≥ 1 then (some (decide (a0_2 ≤ 8))) else (some false)) else (some false))) else (if a0_1 = 2 then (if a0_2 ≥ 1 then (some (decide (a0_2 ≤ 8))) else (some false)) else (some false))) = some r := h
 clear h
 by_cases c2 : a0_1 = 1
 ·rw [if_pos c2] at H
  have c2b0 : (a0_1 == 1) = true := beq_iff_eq.mpr c2
  have c2b1 : (a0_1 != 1) = false := bne_eq_false_iff_eq.mpr c2
  clear c2
  by_cases c3 : a0_2 = 1
  ·rw [if_pos c3] at H
   have c3b0 : (a0_2 == 1) = true := beq_iff_eq.mpr c3
   have c3b1 : (a0_2 != 1) = false := bne_eq_false_iff_eq.mpr c3
   clear c3
   obtain rfl := Option.some.inj H
   go_enter Tryd.func40, Tryd.ntmps40
   go_wp2_with (first | ((with_reducible refine gate_dst (N := 1) rfl ?_); refine box_event ?hg (N := 1) ?hd (cs := #[.string a0_0, .int .i64 a0_1, .int .i64 a0_2, .int .i64 a0_3]) (t := 26) ?hr ?_; (case hd => rfl); (case hg => rfl); (case hr => first | (go_simp; done) | (go_simp; rfl)); intro gb126 hg w4 hbox hb; have BK126 := Aside0.mk hbox; have GW126 := gE HB hg; replace HB := bB HB hb; have GE126 := GW126; clear hb hbox hg; have hcz5_0 : w4.cell? ⟨gb126, 0, none⟩ = some (.string a0_0) := bC BK126 0 rfl; have hcz5_1 : w4.cell? ⟨gb126, 1, none⟩ = some (.int .i64 a0_1) := bC BK126 1 rfl; have hcz5_2 : w4.cell? ⟨gb126, 2, none⟩ = some (.int .i64 a0_2) := bC BK126 2 rfl; have hcz5_3 : w4.cell? ⟨gb126, 3, none⟩ = some (.int .i64 a0_3) := bC BK126 3 rfl; have hfz5_0 := bF BK126 0; have hfz5_1 := bF BK126 1; have hfz5_2 := bF BK126 2; have hfz5_3 := bF BK126 3))
   go_ret
   exact ⟨by first | rfl | (simp [errW_none, errW_some] <;> rfl) | (simp [*, errW_none, errW_some] <;> rfl), (uS HB)⟩
  ·rw [if_neg c3] at H
   have c3b0 : (a0_2 == 1) = false := beq_eq_false_iff_ne.mpr c3
   have c3b1 : (a0_2 != 1) = true := bne_iff_ne.mpr c3
   by_cases c6 : a0_1 = 2
   ·rw [if_pos c6] at H
    have c6b0 : (a0_1 == 2) = true := beq_iff_eq.mpr c6
    have c6b1 : (a0_1 != 2) = false := bne_eq_false_iff_eq.mpr c6
    clear c6
    by_cases c7 : a0_2 ≥ 1
    ·rw [if_pos c7] at H
     have c7b0 : decide (1 ≤ a0_2) = true := decide_eq_true c7
     clear c7
     obtain rfl := Option.some.inj H
     go_enter Tryd.func40, Tryd.ntmps40
     go_wp2_with (first | ((with_reducible refine gate_dst (N := 1) rfl ?_); refine box_event ?hg (N := 1) ?hd (cs := #[.string a0_0, .int .i64 a0_1, .int .i64 a0_2, .int .i64 a0_3]) (t := 26) ?hr ?_; (case hd => rfl); (case hg => rfl); (case hr => first | (go_simp; done) | (go_simp; rfl)); intro gb126 hg w8 hbox hb; have BK126 := Aside0.mk hbox; have GW126 := gE HB hg; replace HB := bB HB hb; have GE126 := GW126; clear hb hbox hg; have hcz9_0 : w8.cell? ⟨gb126, 0, none⟩ = some (.string a0_0) := bC BK126 0 rfl; have hcz9_1 : w8.cell? ⟨gb126, 1, none⟩ = some (.int .i64 a0_1) := bC BK126 1 rfl; have hcz9_2 : w8.cell? ⟨gb126, 2, none⟩ = some (.int .i64 a0_2) := bC BK126 2 rfl; have hcz9_3 : w8.cell? ⟨gb126, 3, none⟩ = some (.int .i64 a0_3) := bC BK126 3 rfl; have hfz9_0 := bF BK126 0; have hfz9_1 := bF BK126 1; have hfz9_2 := bF BK126 2; have hfz9_3 := bF BK126 3))
     go_ret
     exact ⟨by first | rfl | (simp [errW_none, errW_some] <;> rfl) | (simp [*, errW_none, errW_some] <;> rfl), (uS HB)⟩
    ·rw [if_neg c7] at H
     have c7b0 : decide (1 ≤ a0_2) = false := decide_eq_false c7
     clear c7
     obtain rfl := Option.some.inj H
     go_enter Tryd.func40, Tryd.ntmps40
     go_wp2_with (first | ((with_reducible refine gate_dst (N := 1) rfl ?_); refine box_event ?hg (N := 1) ?hd (cs := #[.string a0_0, .int .i64 a0_1, .int .i64 a0_2, .int .i64 a0_3]) (t := 26) ?hr ?_; (case hd => rfl); (case hg => rfl); (case hr => first | (go_simp; done) | (go_simp; rfl)); intro gb126 hg w10 hbox hb; have BK126 := Aside0.mk hbox; have GW126 := gE HB hg; replace HB := bB HB hb; have GE126 := GW126; clear hb hbox hg; have hcz11_0 : w10.cell? ⟨gb126, 0, none⟩ = some (.string a0_0) := bC BK126 0 rfl; have hcz11_1 : w10.cell? ⟨gb126, 1, none⟩ = some (.int .i64 a0_1) := bC BK126 1 rfl; have hcz11_2 : w10.cell? ⟨gb126, 2, none⟩ = some (.int .i64 a0_2) := bC BK126 2 rfl; have hcz11_3 : w10.cell? ⟨gb126, 3, none⟩ = some (.int .i64 a0_3) := bC BK126 3 rfl; have hfz11_0 := bF BK126 0; have hfz11_1 := bF BK126 1; have hfz11_2 := bF BK126 2; have hfz11_3 := bF BK126 3))
     go_ret
     exact ⟨by first | rfl | (simp [errW_none, errW_some] <;> rfl) | (simp [*, errW_none, errW_some] <;> rfl), (uS HB)⟩
   ·rw [if_neg c6] at H
    have c6b0 : (a0_1 == 2) = false := beq_eq_false_iff_ne.mpr c6
    have c6b1 : (a0_1 != 2) = true := bne_iff_ne.mpr c6
    obtain rfl := Option.some.inj H
    go_enter Tryd.func40, Tryd.ntmps40
    go_wp2_with (first | ((with_reducible refine gate_dst (N := 1) rfl ?_); refine box_event ?hg (N := 1) ?hd (cs := #[.string a0_0, .int .i64 a0_1, .int .i64 a0_2, .int .i64 a0_3]) (t := 26) ?hr ?_; (case hd => rfl); (case hg => rfl); (case hr => first | (go_simp; done) | (go_simp; rfl)); intro gb126 hg w12 hbox hb; have BK126 := Aside0.mk hbox; have GW126 := gE HB hg; replace HB := bB HB hb; have GE126 := GW126; clear hb hbox hg; have hcz13_0 : w12.cell? ⟨gb126, 0, none⟩ = some (.string a0_0) := bC BK126 0 rfl; have hcz13_1 : w12.cell? ⟨gb126, 1, none⟩ = some (.int .i64 a0_1) := bC BK126 1 rfl; have hcz13_2 : w12.cell? ⟨gb126, 2, none⟩ = some (.int .i64 a0_2) := bC BK126 2 rfl; have hcz13_3 : w12.cell? ⟨gb126, 3, none⟩ = some (.int .i64 a0_3) := bC BK126 3 rfl; have hfz13_0 := bF BK126 0; have hfz13_1 := bF BK126 1; have hfz13_2 := bF BK126 2; have hfz13_3 := bF BK126 3))
    go_ret
    exact ⟨by first | rfl | (simp [errW_none, errW_some] <;> rfl) | (simp [*, errW_none, errW_some] <;> rfl), (uS HB)⟩
 ·rw [if_neg c2] at H
  have c2b0 : (a0_1 == 1) = false := beq_eq_false_iff_ne.mpr c2
  have c2b1 : (a0_1 != 1) = true := bne_iff_ne.mpr c2
  by_cases c14 : a0_1 = 2
  ·rw [if_pos c14] at H
   have c14b0 : (a0_1 == 2) = true := beq_iff_eq.mpr c14
   have c14b1 : (a0_1 != 2) = false := bne_eq_false_iff_eq.mpr c14
   clear c14
   by_cases c15 : a0_2 ≥ 1
   ·rw [if_pos c15] at H
    have c15b0 : decide (1 ≤ a0_2) = true := decide_eq_true c15
    clear c15
    obtain rfl := Option.some.inj H
    go_enter Tryd.func40, Tryd.ntmps40
    go_wp2_with (first | ((with_reducible refine gate_dst (N := 1) rfl ?_); refine box_event ?hg (N := 1) ?hd (cs := #[.string a0_0, .int .i64 a0_1, .int .i64 a0_2, .int .i64 a0_3]) (t := 26) ?hr ?_; (case hd => rfl); (case hg => rfl); (case hr => first | (go_simp; done) | (go_simp; rfl)); intro gb126 hg w16 hbox hb; have BK126 := Aside0.mk hbox; have GW126 := gE HB hg; replace HB := bB HB hb; have GE126 := GW126; clear hb hbox hg; have hcz17_0 : w16.cell? ⟨gb126, 0, none⟩ = some (.string a0_0) := bC BK126 0 rfl; have hcz17_1 : w16.cell? ⟨gb126, 1, none⟩ = some (.int .i64 a0_1) := bC BK126 1 rfl; have hcz17_2 : w16.cell? ⟨gb126, 2, none⟩ = some (.int .i64 a0_2) := bC BK126 2 rfl; have hcz17_3 : w16.cell? ⟨gb126, 3, none⟩ = some (.int .i64 a0_3) := bC BK126 3 rfl; have hfz17_0 := bF BK126 0; have hfz17_1 := bF BK126 1; have hfz17_2 := bF BK126 2; have hfz17_3 := bF BK126 3))
    go_ret
    exact ⟨by first | rfl | (simp [errW_none, errW_some] <;> rfl) | (simp [*, errW_none, errW_some] <;> rfl), (uS HB)⟩
   ·rw [if_neg c15] at H
    have c15b0 : decide (1 ≤ a0_2) = false := decide_eq_false c15
    clear c15
    obtain rfl := Option.some.inj H
    go_enter Tryd.func40, Tryd.ntmps40
    go_wp2_with (first | ((with_reducible refine gate_dst (N := 1) rfl ?_); refine box_event ?hg (N := 1) ?hd (cs := #[.string a0_0, .int .i64 a0_1, .int .i64 a0_2, .int .i64 a0_3]) (t := 26) ?hr ?_; (case hd => rfl); (case hg => rfl); (case hr => first | (go_simp; done) | (go_simp; rfl)); intro gb126 hg w18 hbox hb; have BK126 := Aside0.mk hbox; have GW126 := gE HB hg; replace HB := bB HB hb; have GE126 := GW126; clear hb hbox hg; have hcz19_0 : w18.cell? ⟨gb126, 0, none⟩ = some (.string a0_0) := bC BK126 0 rfl; have hcz19_1 : w18.cell? ⟨gb126, 1, none⟩ = some (.int .i64 a0_1) := bC BK126 1 rfl; have hcz19_2 : w18.cell? ⟨gb126, 2, none⟩ = some (.int .i64 a0_2) := bC BK126 2 rfl; have hcz19_3 : w18.cell? ⟨gb126, 3, none⟩ = some (.int .i64 a0_3) := bC BK126 3 rfl; have hfz19_0 := bF BK126 0; have hfz19_1 := bF BK126 1; have hfz19_2 := bF BK126 2; have hfz19_3 := bF BK126 3))
    go_ret
    exact ⟨by first | rfl | (simp [errW_none, errW_some] <;> rfl) | (simp [*, errW_none, errW_some] <;> rfl), (uS HB)⟩
  ·rw [if_neg c14] at H
   have c14b0 : (a0_1 == 2) = false := beq_eq_false_iff_ne.mpr c14
   have c14b1 : (a0_1 != 2) = true := bne_iff_ne.mpr c14
   obtain rfl := Option.some.inj H
   go_enter Tryd.func40, Tryd.ntmps40
   go_wp2_with (first | ((with_reducible refine gate_dst (N := 1) rfl ?_); refine box_event ?hg (N := 1) ?hd (cs := #[.string a0_0, .int .i64 a0_1, .int .i64 a0_2, .int .i64 a0_3]) (t := 26) ?hr ?_; (case hd => rfl); (case hg => rfl); (case hr => first | (go_simp; done) | (go_simp; rfl)); intro gb126 hg w20 hbox hb; have BK126 := Aside0.mk hbox; have GW126 := gE HB hg; replace HB := bB HB hb; have GE126 := GW126; clear hb hbox hg; have hcz21_0 : w20.cell? ⟨gb126, 0, none⟩ = some (.string a0_0) := bC BK126 0 rfl; have hcz21_1 : w20.cell? ⟨gb126, 1, none⟩ = some (.int .i64 a0_1) := bC BK126 1 rfl; have hcz21_2 : w20.cell? ⟨gb126, 2, none⟩ = some (.int .i64 a0_2) := bC BK126 2 rfl; have hcz21_3 : w20.cell? ⟨gb126, 3, none⟩ = some (.int .i64 a0_3) := bC BK126 3 rfl; have hfz21_0 := bF BK126 0; have hfz21_1 := bF BK126 1; have hfz21_2 := bF BK126 2; have hfz21_3 := bF BK126 3))
   go_ret
   exact ⟨by first | rfl | (simp [errW_none, errW_some] <;> rfl) | (simp [*, errW_none, errW_some] <;> rfl), (uS HB)⟩
/-! ### clusterlocksref05_ValidResource: function 19 -/
def clusterlocksref05_ValidResource.f (k : Nat) (a0_0 : ByteArray) (a0_1 : Int) (a0_2 : Int) (a0_3 : Int) : Option (Bool) := (clusterlocksref05_ValidName.f k a0_0).bind fun t128 => (if t128 = true then ((clusterlocksref04_Shaped.f a0_0 a0_1 a0_2 a0_3).bind fun t129 => (if t129 = true then (if a0_3 ≥ 0 then (some (decide (a0_3 < 4))) else (some false)) else (some false))) else (some false))
theorem clusterlocksref05_ValidResource.mono : ∀ a0 a1 a2 a3 k, LeO (clusterlocksref05_ValidResource.f k a0 a1 a2 a3) (clusterlocksref05_ValidResource.f (k + 1) a0 a1 a2 a3) := by
 intro a0 a1 a2 a3 k
 unfold clusterlocksref05_ValidResource.f
 repeat' first
   | (with_reducible exact clusterlocksref05_ValidName.mono _ _)
   | (with_reducible exact LeO.refl _)
   | (with_reducible exact LeO.none _)
   | (with_reducible refine LeO.ite ?_ ?_)
   | (with_reducible refine LeO.bind ?_ (fun _ => ?_))
   | exact clusterlocksref05_ValidName.mono _ _
   | exact LeO.none _
   | refine LeO.ite ?_ ?_
   | refine LeO.bind ?_ (fun _ => ?_)
set_option maxHeartbeats 8000000 in
set_option maxRecDepth 100000 in
theorem clusterlocksref05_ValidResource.calls (k : Nat) (a0_0 : ByteArray) (a0_1 : Int) (a0_2 : Int) (a0_3 : Int) (r : Bool) (w : World) (h : clusterlocksref05_ValidResource.f k a0_0 a0_1 a0_2 a0_3 = some r) :
  Calls Tryd.prog 19 #[.agg #[.string a0_0, .int .i64 a0_1, .int .i64 a0_2, .int .i64 a0_3]] w fun e w' => e = .returned (.bool r) ∧ Below w.heap.size w w' := by
 have hu26 := Tryd.underlying26
 have HB := Aside0.mk (Below.refl w.heap.size w)
 have H : ((clusterlocksref05_ValidName.f k a0_0).bind fun t128 => (if t128 = true then ((clusterlocksref04_Shaped.f a0_0 a0_1 a0_2 a0_3).bind fun t129 => (if t129 = true then (if a0_3 ≥ 0 then (some (decide (a0_3 < 4))) else (some false)) else (some false))) else (some false))) = some r := h
 clear h
 obtain ⟨t128, A20, H⟩ := Option.bind_eq_some_iff.mp H
 have A2 := Aside0.mk A20; clear A20
 by_cases c3 : t128 = true
 ·subst c3
  rw [if_pos rfl] at H
  obtain ⟨t129, A40, H⟩ := Option.bind_eq_some_iff.mp H
  have A4 := Aside0.mk A40; clear A40
  by_cases c5 : t129 = true
  ·subst c5
   rw [if_pos rfl] at H
   by_cases c6 : a0_3 ≥ 0
   ·rw [if_pos c6] at H
    have c6b0 : decide (0 ≤ a0_3) = true := decide_eq_true c6
    clear c6
    obtain rfl := Option.some.inj H
    go_enter Tryd.func19, Tryd.ntmps19
    go_wp2_with (first | ((with_reducible refine gate_dst (N := 1) rfl ?_); refine box_event ?hg (N := 1) ?hd (cs := #[.string a0_0, .int .i64 a0_1, .int .i64 a0_2, .int .i64 a0_3]) (t := 26) ?hr ?_; (case hd => rfl); (case hg => rfl); (case hr => first | (go_simp; done) | (go_simp; rfl)); intro gb127 hg w7 hbox hb; have BK127 := Aside0.mk hbox; have GW127 := gE HB hg; replace HB := bB HB hb; have GE127 := GW127; clear hb hbox hg; have hcz8_0 : w7.cell? ⟨gb127, 0, none⟩ = some (.string a0_0) := bC BK127 0 rfl; have hcz8_1 : w7.cell? ⟨gb127, 1, none⟩ = some (.int .i64 a0_1) := bC BK127 1 rfl; have hcz8_2 : w7.cell? ⟨gb127, 2, none⟩ = some (.int .i64 a0_2) := bC BK127 2 rfl; have hcz8_3 : w7.cell? ⟨gb127, 3, none⟩ = some (.int .i64 a0_3) := bC BK127 3 rfl; have hfz8_0 := bF BK127 0; have hfz8_1 := bF BK127 1; have hfz8_2 := bF BK127 2; have hfz8_3 := bF BK127 3) | ((with_reducible refine gate_callee (f := 17) rfl ?_); refine goesL_ (some 5) rfl rfl Tryd.func17 (by kernel_rfl) rfl #[.string a0_0] rfl (by (try simp only [mA]); first | done | rfl) ?_; (with_reducible refine (clusterlocksref05_ValidName.calls k a0_0 true _ A2.out).mono ?_); rintro e w' ⟨rfl, ⟨nd, rfl⟩⟩; refine ⟨_, rfl, ?_⟩) | (go_at_call 40; (with_reducible refine (clusterlocksref04_Shaped.calls a0_0 a0_1 a0_2 a0_3 true _ A4.out).mono ?_); rintro e w9 ⟨rfl, hb⟩; replace BK127 := bK BK127 hb; replace HB := bB HB hb; (try clear hb); (try clear hk); have hcz10_0 : w9.cell? ⟨gb127, 0, none⟩ = some (.string a0_0) := bC BK127 0 rfl; have hcz10_1 : w9.cell? ⟨gb127, 1, none⟩ = some (.int .i64 a0_1) := bC BK127 1 rfl; have hcz10_2 : w9.cell? ⟨gb127, 2, none⟩ = some (.int .i64 a0_2) := bC BK127 2 rfl; have hcz10_3 : w9.cell? ⟨gb127, 3, none⟩ = some (.int .i64 a0_3) := bC BK127 3 rfl; have hfz10_0 := bF BK127 0; have hfz10_1 := bF BK127 1; have hfz10_2 := bF BK127 2; have hfz10_3 := bF BK127 3))
    go_ret
    exact ⟨by first | rfl | (simp [errW_none, errW_some] <;> rfl) | (simp [*, errW_none, errW_some] <;> rfl), (uS HB)⟩
   ·rw [if_neg c6] at H
    have c6b0 : decide (0 ≤ a0_3) = false := decide_eq_false c6
    clear c6
    obtain rfl := Option.some.inj H
    go_enter Tryd.func19, Tryd.ntmps19
    go_wp2_with (first | ((with_reducible refine gate_dst (N := 1) rfl ?_); refine box_event ?hg (N := 1) ?hd (cs := #[.string a0_0, .int .i64 a0_1, .int .i64 a0_2, .int .i64 a0_3]) (t := 26) ?hr ?_; (case hd => rfl); (case hg => rfl); (case hr => first | (go_simp; done) | (go_simp; rfl)); intro gb127 hg w11 hbox hb; have BK127 := Aside0.mk hbox; have GW127 := gE HB hg; replace HB := bB HB hb; have GE127 := GW127; clear hb hbox hg; have hcz12_0 : w11.cell? ⟨gb127, 0, none⟩ = some (.string a0_0) := bC BK127 0 rfl; have hcz12_1 : w11.cell? ⟨gb127, 1, none⟩ = some (.int .i64 a0_1) := bC BK127 1 rfl; have hcz12_2 : w11.cell? ⟨gb127, 2, none⟩ = some (.int .i64 a0_2) := bC BK127 2 rfl; have hcz12_3 : w11.cell? ⟨gb127, 3, none⟩ = some (.int .i64 a0_3) := bC BK127 3 rfl; have hfz12_0 := bF BK127 0; have hfz12_1 := bF BK127 1; have hfz12_2 := bF BK127 2; have hfz12_3 := bF BK127 3) | ((with_reducible refine gate_callee (f := 17) rfl ?_); refine goesL_ (some 5) rfl rfl Tryd.func17 (by kernel_rfl) rfl #[.string a0_0] rfl (by (try simp only [mA]); first | done | rfl) ?_; (with_reducible refine (clusterlocksref05_ValidName.calls k a0_0 true _ A2.out).mono ?_); rintro e w' ⟨rfl, ⟨nd, rfl⟩⟩; refine ⟨_, rfl, ?_⟩) | (go_at_call 40; (with_reducible refine (clusterlocksref04_Shaped.calls a0_0 a0_1 a0_2 a0_3 true _ A4.out).mono ?_); rintro e w13 ⟨rfl, hb⟩; replace BK127 := bK BK127 hb; replace HB := bB HB hb; (try clear hb); (try clear hk); have hcz14_0 : w13.cell? ⟨gb127, 0, none⟩ = some (.string a0_0) := bC BK127 0 rfl; have hcz14_1 : w13.cell? ⟨gb127, 1, none⟩ = some (.int .i64 a0_1) := bC BK127 1 rfl; have hcz14_2 : w13.cell? ⟨gb127, 2, none⟩ = some (.int .i64 a0_2) := bC BK127 2 rfl; have hcz14_3 : w13.cell? ⟨gb127, 3, none⟩ = some (.int .i64 a0_3) := bC BK127 3 rfl; have hfz14_0 := bF BK127 0; have hfz14_1 := bF BK127 1; have hfz14_2 := bF BK127 2; have hfz14_3 := bF BK127 3))
    go_ret
    exact ⟨by first | rfl | (simp [errW_none, errW_some] <;> rfl) | (simp [*, errW_none, errW_some] <;> rfl), (uS HB)⟩
  ·replace c5 := Bool.eq_false_iff.mpr c5
   subst c5
   rw [if_neg (show ¬ (false = true) by decide)] at H
   obtain rfl := Option.some.inj H
   go_enter Tryd.func19, Tryd.ntmps19
   go_wp2_with (first | ((with_reducible refine gate_dst (N := 1) rfl ?_); refine box_event ?hg (N := 1) ?hd (cs := #[.string a0_0, .int .i64 a0_1, .int .i64 a0_2, .int .i64 a0_3]) (t := 26) ?hr ?_; (case hd => rfl); (case hg => rfl); (case hr => first | (go_simp; done) | (go_simp; rfl)); intro gb127 hg w15 hbox hb; have BK127 := Aside0.mk hbox; have GW127 := gE HB hg; replace HB := bB HB hb; have GE127 := GW127; clear hb hbox hg; have hcz16_0 : w15.cell? ⟨gb127, 0, none⟩ = some (.string a0_0) := bC BK127 0 rfl; have hcz16_1 : w15.cell? ⟨gb127, 1, none⟩ = some (.int .i64 a0_1) := bC BK127 1 rfl; have hcz16_2 : w15.cell? ⟨gb127, 2, none⟩ = some (.int .i64 a0_2) := bC BK127 2 rfl; have hcz16_3 : w15.cell? ⟨gb127, 3, none⟩ = some (.int .i64 a0_3) := bC BK127 3 rfl; have hfz16_0 := bF BK127 0; have hfz16_1 := bF BK127 1; have hfz16_2 := bF BK127 2; have hfz16_3 := bF BK127 3) | ((with_reducible refine gate_callee (f := 17) rfl ?_); refine goesL_ (some 5) rfl rfl Tryd.func17 (by kernel_rfl) rfl #[.string a0_0] rfl (by (try simp only [mA]); first | done | rfl) ?_; (with_reducible refine (clusterlocksref05_ValidName.calls k a0_0 true _ A2.out).mono ?_); rintro e w' ⟨rfl, ⟨nd, rfl⟩⟩; refine ⟨_, rfl, ?_⟩) | (go_at_call 40; (with_reducible refine (clusterlocksref04_Shaped.calls a0_0 a0_1 a0_2 a0_3 false _ A4.out).mono ?_); rintro e w17 ⟨rfl, hb⟩; replace BK127 := bK BK127 hb; replace HB := bB HB hb; (try clear hb); (try clear hk)))
   go_ret
   exact ⟨by first | rfl | (simp [errW_none, errW_some] <;> rfl) | (simp [*, errW_none, errW_some] <;> rfl), (uS HB)⟩
 ·replace c3 := Bool.eq_false_iff.mpr c3
  subst c3
  rw [if_neg (show ¬ (false = true) by decide)] at H
  obtain rfl := Option.some.inj H
  go_enter Tryd.func19, Tryd.ntmps19
  go_wp2_with (first | ((with_reducible refine gate_dst (N := 1) rfl ?_); refine box_event ?hg (N := 1) ?hd (cs := #[.string a0_0, .int .i64 a0_1, .int .i64 a0_2, .int .i64 a0_3]) (t := 26) ?hr ?_; (case hd => rfl); (case hg => rfl); (case hr => first | (go_simp; done) | (go_simp; rfl)); intro gb127 hg w18 hbox hb; have BK127 := Aside0.mk hbox; have GW127 := gE HB hg; replace HB := bB HB hb; have GE127 := GW127; clear hb hbox hg; have hcz19_0 : w18.cell? ⟨gb127, 0, none⟩ = some (.string a0_0) := bC BK127 0 rfl; have hcz19_1 : w18.cell? ⟨gb127, 1, none⟩ = some (.int .i64 a0_1) := bC BK127 1 rfl; have hcz19_2 : w18.cell? ⟨gb127, 2, none⟩ = some (.int .i64 a0_2) := bC BK127 2 rfl; have hcz19_3 : w18.cell? ⟨gb127, 3, none⟩ = some (.int .i64 a0_3) := bC BK127 3 rfl; have hfz19_0 := bF BK127 0; have hfz19_1 := bF BK127 1; have hfz19_2 := bF BK127 2; have hfz19_3 := bF BK127 3) | ((with_reducible refine gate_callee (f := 17) rfl ?_); refine goesL_ (some 5) rfl rfl Tryd.func17 (by kernel_rfl) rfl #[.string a0_0] rfl (by (try simp only [mA]); first | done | rfl) ?_; (with_reducible refine (clusterlocksref05_ValidName.calls k a0_0 false _ A2.out).mono ?_); rintro e w' ⟨rfl, ⟨nd, rfl⟩⟩; refine ⟨_, rfl, ?_⟩))
  go_ret
  exact ⟨by first | rfl | (simp [errW_none, errW_some] <;> rfl) | (simp [*, errW_none, errW_some] <;> rfl), (uS HB)⟩
end Go.Proofs.YtbiapfjhdggkpaaDoor.PA

