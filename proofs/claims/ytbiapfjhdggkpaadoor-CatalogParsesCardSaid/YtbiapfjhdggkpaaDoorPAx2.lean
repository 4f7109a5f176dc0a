-- Printed by wip/tool/myprint.py for this claim; Lean checks it.
import Derived.Test.YtbiapfjhdggkpaaDoorPAx0
import Derived.Test.YtbiapfjhdggkpaaDoorSlim
namespace Go.Proofs.YtbiapfjhdggkpaaDoor.PA
open Go.RowKit Go.Proofs.YtbiapfjhdggkpaaDoorW.PrintWords Go.Proofs.YtbiapfjhdggkpaaDoorW.PrintLast Go.Proofs.YtbiapfjhdggkpaaDoorW.PrintMore
attribute [local go_sem] max2_int min2_int max_two min_two max_three min_three max_four min_four   -- for this text's walks alone
set_option linter.unusedVariables false
set_option linter.unusedSimpArgs false

/-! ### catalog_Reserved: function 14 -/
def catalog_Reserved.f (a0 : ByteArray) : Option (Bool) := if a0.toList = ([97, 108, 108] : List UInt8) then (some true) else (if a0.toList = ([97, 110, 121] : List UInt8) then (some true) else (if a0.toList = ([111, 102] : List UInt8) then (some true) else (if a0.toList = ([112, 114, 105, 111] : List UInt8) then (some true) else (if a0.toList = ([108, 105, 109, 105, 116] : List UInt8) then (some true) else (some false)))))
set_option maxHeartbeats 8000000 in
set_option maxRecDepth 100000 in
theorem catalog_Reserved.calls (a0 : ByteArray) (r : Bool) (w : World) (h : catalog_Reserved.f a0 = some r) :
  Calls Tryd.prog 14 #[.string a0] w fun e w' => e = .returned (.bool r) ∧ Drawn0 w w' := by
 have H : (if a0.toList = ([97, 108, 108] : List UInt8) then (some true) else (if a0.toList = ([97, 110, 121] : List UInt8) then (some true) else (if a0.toList = ([111, 102] : List UInt8) then (some true) else (if a0.toList = ([112, 114, 105, 111] : List UInt8) then (some true) else (if a0.toList = ([108, 105, 109, 105, 116] : List UInt8) then (some true) else (some false)))))) = some r := h
 clear h
 by_cases c2 : a0.toList = ([97, 108, 108] : List UInt8)
 ·rw [if_pos c2] at H
  have c2b0 : (a0.toList == ([97, 108, 108] : List UInt8)) = true := beq_iff_eq.mpr c2
  have c2b1 : (a0.toList != ([97, 108, 108] : List UInt8)) = false := bne_eq_false_iff_eq.mpr c2
  clear c2
  obtain rfl := Option.some.inj H
  go_enter Tryd.func14, Tryd.ntmps14
  go_wp2
  go_ret
  exact ⟨by first | rfl | (simp; done) | (simp [*]; done), by repeat (first | exact Drawn0.refl _ | apply Drawn0.step)⟩
 ·rw [if_neg c2] at H
  have c2b0 : (a0.toList == ([97, 108, 108] : List UInt8)) = false := beq_eq_false_iff_ne.mpr c2
  have c2b1 : (a0.toList != ([97, 108, 108] : List UInt8)) = true := bne_iff_ne.mpr c2
  by_cases c3 : a0.toList = ([97, 110, 121] : List UInt8)
  ·rw [if_pos c3] at H
   have c3b0 : (a0.toList == ([97, 110, 121] : List UInt8)) = true := beq_iff_eq.mpr c3
   have c3b1 : (a0.toList != ([97, 110, 121] : List UInt8)) = false := bne_eq_false_iff_eq.mpr c3
   clear c3
   obtain rfl := Option.some.inj H
   go_enter Tryd.func14, Tryd.ntmps14
   go_wp2
   go_ret
   exact ⟨by first | rfl | (simp; done) | (simp [*]; done), by repeat (first | exact Drawn0.refl _ | apply Drawn0.step)⟩
  ·rw [if_neg c3] at H
   have c3b0 : (a0.toList == ([97, 110, 121] : List UInt8)) = false := beq_eq_false_iff_ne.mpr c3
   have c3b1 : (a0.toList != ([97, 110, 121] : List UInt8)) = true := bne_iff_ne.mpr c3
   by_cases c4 : a0.toList = ([111, 102] : List UInt8)
   ·rw [if_pos c4] at H
    have c4b0 : (a0.toList == ([111, 102] : List UInt8)) = true := beq_iff_eq.mpr c4
    have c4b1 : (a0.toList != ([111, 102] : List UInt8)) = false := bne_eq_false_iff_eq.mpr c4
    clear c4
    obtain rfl := Option.some.inj H
    go_enter Tryd.func14, Tryd.ntmps14
    go_wp2
    go_ret
    exact ⟨by first | rfl | (simp; done) | (simp [*]; done), by repeat (first | exact Drawn0.refl _ | apply Drawn0.step)⟩
   ·rw [if_neg c4] at H
    have c4b0 : (a0.toList == ([111, 102] : List UInt8)) = false := beq_eq_false_iff_ne.mpr c4
    have c4b1 : (a0.toList != ([111, 102] : List UInt8)) = true := bne_iff_ne.mpr c4
    by_cases c5 : a0.toList = ([112, 114, 105, 111] : List UInt8)
    ·rw [if_pos c5] at H
     have c5b0 : (a0.toList == ([112, 114, 105, 111] : List UInt8)) = true := beq_iff_eq.mpr c5
     have c5b1 : (a0.toList != ([112, 114, 105, 111] : List UInt8)) = false := bne_eq_false_iff_eq.mpr c5
     clear c5
     obtain rfl := Option.some.inj H
     go_enter Tryd.func14, Tryd.ntmps14
     go_wp2
     go_ret
     exact ⟨by first | rfl | (simp; done) | (simp [*]; done), by repeat (first | exact Drawn0.refl _ | apply Drawn0.step)⟩
    ·rw [if_neg c5] at H
     have c5b0 : (a0.toList == ([112, 114, 105, 111] : List UInt8)) = false := beq_eq_false_iff_ne.mpr c5
     have c5b1 : (a0.toList != ([112, 114, 105, 111] : List UInt8)) = true := bne_iff_ne.mpr c5
     by_cases c6 : a0.toList = ([108, 105, 109, 105, 116] : List UInt8)
     ·rw [if_pos c6] at H
      have c6b0 : (a0.toList == ([108, 105, 109, 105, 116] : List UInt8)) = true := beq_iff_eq.mpr c6
      have c6b1 : (a0.toList != ([108, 105, 109, 105, 116] : List UInt8)) = false := bne_eq_false_iff_eq.mpr c6
      clear c6
      obtain rfl := Option.some.inj H
      go_enter Tryd.func14, Tryd.ntmps14
      go_wp2
      go_ret
      exact ⟨by first | rfl | (simp; done) | (simp [*]; done), by repeat (first | exact Drawn0.refl _ | apply Drawn0.step)⟩
     ·rw [if_neg c6] at H
      have c6b0 : (a0.toList == ([108, 105, 109, 105, 116] : List UInt8)) = false := beq_eq_false_iff_ne.mpr c6
      have c6b1 : (a0.toList != ([108, 105, 109, 105, 116] : List UInt8)) = true := bne_iff_ne.mpr c6
      obtain rfl := Option.some.inj H
      go_enter Tryd.func14, Tryd.ntmps14
      go_wp2
      go_ret
      exact ⟨by first | rfl | (simp; done) | (simp [*]; done), by repeat (first | exact Drawn0.refl _ | apply Drawn0.step)⟩
/-! ### catalog_ValidName: function 16 -/
mutual
def catalog_ValidName.j0 : Nat → ByteArray → Bool → Option (Bool)
 | 0, _, _ => none
 | k + 1, x0, x26 => if x26 = true then (some false) else (catalog_ValidName.l0 k x0 (x0.size : Int) 0)
def catalog_ValidName.l0 : Nat → ByteArray → Int → Int → Option (Bool)
 | 0, _, _, _ => none
 | k + 1, x0, x28, x29 => if x29 < x28 then (if 0 ≤ x29 then (if x29 < (x0.size : Int) then (if (bt x0 x29) < 97 then (if (bt x0 x29) < 48 then (if (bt x0 x29) = 95 then (catalog_ValidName.l0 k x0 x28 (wrap64 (x29 + 1))) else (if (bt x0 x29) = 45 then (catalog_ValidName.l0 k x0 x28 (wrap64 (x29 + 1))) else (some false))) else (if (bt x0 x29) > 57 then (if (bt x0 x29) = 95 then (catalog_ValidName.l0 k x0 x28 (wrap64 (x29 + 1))) else (if (bt x0 x29) = 45 then (catalog_ValidName.l0 k x0 x28 (wrap64 (x29 + 1))) else (some false))) else (catalog_ValidName.l0 k x0 x28 (wrap64 (x29 + 1))))) else (if (bt x0 x29) > 122 then (if (bt x0 x29) < 48 then (if (bt x0 x29) = 95 then (catalog_ValidName.l0 k x0 x28 (wrap64 (x29 + 1))) else (if (bt x0 x29) = 45 then (catalog_ValidName.l0 k x0 x28 (wrap64 (x29 + 1))) else (some false))) else (if (bt x0 x29) > 57 then (if (bt x0 x29) = 95 then (catalog_ValidName.l0 k x0 x28 (wrap64 (x29 + 1))) else (if (bt x0 x29) = 45 then (catalog_ValidName.l0 k x0 x28 (wrap64 (x29 + 1))) else (some false))) else (catalog_ValidName.l0 k x0 x28 (wrap64 (x29 + 1))))) else (catalog_ValidName.l0 k x0 x28 (wrap64 (x29 + 1))))) else (none)) else (none)) else (some true)
end
def catalog_ValidName.f (k : Nat) (a0 : ByteArray) : Option (Bool) := if (a0.size : Int) = 0 then (catalog_ValidName.j0 k a0 true) else (if (a0.size : Int) > 12 then (catalog_ValidName.j0 k a0 true) else (if 0 < (a0.size : Int) then (if (bt a0 0) < 97 then (catalog_ValidName.j0 k a0 true) else (if (bt a0 0) > 122 then (catalog_ValidName.j0 k a0 true) else ((catalog_Reserved.f a0).bind fun t101 => (catalog_ValidName.j0 k a0 t101)))) else (none)))
theorem catalog_ValidName.mono_l : ∀ k, (∀ y0 y1, LeO (catalog_ValidName.j0 k y0 y1) (catalog_ValidName.j0 (k + 1) y0 y1)) ∧ (∀ y0 y1 y2, LeO (catalog_ValidName.l0 k y0 y1 y2) (catalog_ValidName.l0 (k + 1) y0 y1 y2))
 | 0 => ⟨fun _ _ r h => by simp [catalog_ValidName.j0] at h, fun _ _ _ r h => by simp [catalog_ValidName.l0] at h⟩
 | k + 1 => by
  obtain ⟨ih0, ih1⟩ := catalog_ValidName.mono_l k
  refine ⟨?_, ?_⟩
  ·intro y0 y1
   unfold catalog_ValidName.j0
   repeat' first
   | (with_reducible exact ih0 _ _)
   | (with_reducible exact ih1 _ _ _)
   | (with_reducible exact LeO.refl _)
   | (with_reducible exact LeO.none _)
   | (with_reducible refine LeO.ite ?_ ?_)
   | (with_reducible refine LeO.bind ?_ (fun _ => ?_))
   | exact ih0 _ _
   | exact ih1 _ _ _
   | exact LeO.none _
   | refine LeO.ite ?_ ?_
   | refine LeO.bind ?_ (fun _ => ?_)
  ·intro y0 y1 y2
   unfold catalog_ValidName.l0
   repeat' first
   | (with_reducible exact ih0 _ _)
   | (with_reducible exact ih1 _ _ _)
   | (with_reducible exact LeO.refl _)
   | (with_reducible exact LeO.none _)
   | (with_reducible refine LeO.ite ?_ ?_)
   | (with_reducible refine LeO.bind ?_ (fun _ => ?_))
   | exact ih0 _ _
   | exact ih1 _ _ _
   | exact LeO.none _
   | refine LeO.ite ?_ ?_
   | refine LeO.bind ?_ (fun _ => ?_)
theorem catalog_ValidName.mono : ∀ a0 k, LeO (catalog_ValidName.f k a0) (catalog_ValidName.f (k + 1) a0) := by
 intro a0 k
 obtain ⟨ih0, ih1⟩ := catalog_ValidName.mono_l k
 unfold catalog_ValidName.f
 repeat' first
   | (with_reducible exact ih0 _ _)
   | (with_reducible exact ih1 _ _ _)
   | (with_reducible exact LeO.refl _)
   | (with_reducible exact LeO.none _)
   | (with_reducible refine LeO.ite ?_ ?_)
   | (with_reducible refine LeO.bind ?_ (fun _ => ?_))
   | exact ih0 _ _
   | exact ih1 _ _ _
   | exact LeO.none _
   | refine LeO.ite ?_ ?_
   | refine LeO.bind ?_ (fun _ => ?_)
set_option maxHeartbeats 8000000 in
set_option maxRecDepth 100000 in
theorem catalog_ValidName.calls (k : Nat) (a0 : ByteArray) (r : Bool) (w : World) (h : catalog_ValidName.f k a0 = some r) :
  Calls Tryd.prog 16 #[.string a0] w fun e w' => e = .returned (.bool r) ∧ Drawn0 w w' := by
 have H : (if (a0.size : Int) = 0 then (catalog_ValidName.j0 k a0 true) else (if (a0.size : Int) > 12 then (catalog_ValidName.j0 k a0 true) else (if 0 < (a0.size : Int) then (if (bt a0 0) < 97 then (catalog_ValidName.j0 k a0 true) else (if (bt a0 0) > 122 then (catalog_ValidName.j0 k a0 true) else ((catalog_Reserved.f a0).bind fun t101 => (catalog_ValidName.j0 k a0 t101)))) else (none)))) = some r := h
 clear h
 have HC2 := Aside0.mk H
 clear H
 go_enter Tryd.func16, Tryd.ntmps16
 go_upto_region 1 with (fail)
 go_cut [26] (fun v26 wc => ∃ (kq : Nat) (x26_1 : Bool), v26 = .bool x26_1 ∧ Aside0 (catalog_ValidName.j0 kq a0 x26_1 = some r) ∧ Aside0 (kq ≤ k) ∧ Drawn0 w wc)
 case first =>
  have H := HC2.out
  clear HC2
  by_cases c3 : (a0.size : Int) = 0
  ·rw [if_pos c3] at H
   have c3b0 : ((a0.size : Int) == 0) = true := beq_iff_eq.mpr c3
   have c3b1 : ((a0.size : Int) != 0) = false := bne_eq_false_iff_eq.mpr c3
   clear c3
   (first | rw [c3b0] | (simp only [i64_w, i32_w]; rw [c3b0]) | skip)
   have H' := Aside0.mk H
   clear H
   go_wp2
   go_meet
   case rel => exact ⟨_, (true), (by first | rfl | (simp; done) | (simp [*]; done)), H', ⟨by first | omega | exact Nat.le_refl _⟩, by repeat (first | exact Drawn0.refl _ | apply Drawn0.step)⟩
  ·rw [if_neg c3] at H
   have c3b0 : ((a0.size : Int) == 0) = false := beq_eq_false_iff_ne.mpr c3
   have c3b1 : ((a0.size : Int) != 0) = true := bne_iff_ne.mpr c3
   (first | rw [c3b0] | (simp only [i64_w, i32_w]; rw [c3b0]) | skip)
   by_cases c4 : (a0.size : Int) > 12
   ·rw [if_pos c4] at H
    have c4b0 : decide (12 < (a0.size : Int)) = true := decide_eq_true c4
    have c4b1 : decide (12 < a0.size) = true := decide_eq_true (by omega)
    clear c4
    have H' := Aside0.mk H
    clear H
    go_wp2
    go_meet
    case rel => exact ⟨_, (true), (by first | rfl | (simp; done) | (simp [*]; done)), H', ⟨by first | omega | exact Nat.le_refl _⟩, by repeat (first | exact Drawn0.refl _ | apply Drawn0.step)⟩
   ·rw [if_neg c4] at H
    have c4b0 : decide (12 < (a0.size : Int)) = false := decide_eq_false c4
    have c4b1 : decide (12 < a0.size) = false := decide_eq_false (by omega)
    clear c4
    by_cases c5 : 0 < (a0.size : Int)
    ·rw [if_pos c5] at H
     have c5b0 : decide (0 < (a0.size : Int)) = true := decide_eq_true c5
     have c5b1 : decide (0 < a0.size) = true := decide_eq_true (by omega)
     clear c5
     by_cases c7 : (bt a0 0) < 97
     ·rw [if_pos c7] at H
      have c7b0 : decide ((bt a0 0) < 97) = true := decide_eq_true c7
      clear c7
      have H' := Aside0.mk H
      clear H
      have p6 : 0 ≤ (0 : Int) := (by omega)
      have q6 : 0 < a0.size := (by have : (0 : Int) < (a0.size : Int) := of_decide_eq_true (by first | (with_reducible assumption) | assumption); omega)
      have hx6 : ∀ h : 0 < a0.size, ((a0[0]'h).toNat : Int) = bt a0 0 := bt_at a0 0
      clear p6
      have qi6 : (0 < (a0.size : Int)) = True := eq_true (of_decide_eq_true (by first | (with_reducible assumption) | assumption))
      replace q6 := eq_true q6
      go_wp2
      go_meet
      case rel => exact ⟨_, (true), (by first | rfl | (simp; done) | (simp [*]; done)), H', ⟨by first | omega | exact Nat.le_refl _⟩, by repeat (first | exact Drawn0.refl _ | apply Drawn0.step)⟩
     ·rw [if_neg c7] at H
      have c7b0 : decide ((bt a0 0) < 97) = false := decide_eq_false c7
      clear c7
      by_cases c9 : (bt a0 0) > 122
      ·rw [if_pos c9] at H
       have c9b0 : decide (122 < (bt a0 0)) = true := decide_eq_true c9
       clear c9
       have H' := Aside0.mk H
       clear H
       have p6 : 0 ≤ (0 : Int) := (by omega)
       have q6 : 0 < a0.size := (by have : (0 : Int) < (a0.size : Int) := of_decide_eq_true (by first | (with_reducible assumption) | assumption); omega)
       have hx6 : ∀ h : 0 < a0.size, ((a0[0]'h).toNat : Int) = bt a0 0 := bt_at a0 0
       clear p6
       have qi6 : (0 < (a0.size : Int)) = True := eq_true (of_decide_eq_true (by first | (with_reducible assumption) | assumption))
       replace q6 := eq_true q6
       have p8 : 0 ≤ (0 : Int) := (by omega)
       have q8 : 0 < a0.size := (by have : (0 : Int) < (a0.size : Int) := of_decide_eq_true (by first | (with_reducible assumption) | assumption); omega)
       have hx8 : ∀ h : 0 < a0.size, ((a0[0]'h).toNat : Int) = bt a0 0 := bt_at a0 0
       clear p8
       have qi8 : (0 < (a0.size : Int)) = True := eq_true (of_decide_eq_true (by first | (with_reducible assumption) | assumption))
       replace q8 := eq_true q8
       go_wp2
       go_meet
       case rel => exact ⟨_, (true), (by first | rfl | (simp; done) | (simp [*]; done)), H', ⟨by first | omega | exact Nat.le_refl _⟩, by repeat (first | exact Drawn0.refl _ | apply Drawn0.step)⟩
      ·rw [if_neg c9] at H
       have c9b0 : decide (122 < (bt a0 0)) = false := decide_eq_false c9
       clear c9
       obtain ⟨t101, A100, H⟩ := Option.bind_eq_some_iff.mp H
       have A10 := Aside0.mk A100; clear A100
       have H' := Aside0.mk H
       clear H
       have p6 : 0 ≤ (0 : Int) := (by omega)
       have q6 : 0 < a0.size := (by have : (0 : Int) < (a0.size : Int) := of_decide_eq_true (by first | (with_reducible assumption) | assumption); omega)
       have hx6 : ∀ h : 0 < a0.size, ((a0[0]'h).toNat : Int) = bt a0 0 := bt_at a0 0
       clear p6
       have qi6 : (0 < (a0.size : Int)) = True := eq_true (of_decide_eq_true (by first | (with_reducible assumption) | assumption))
       replace q6 := eq_true q6
       have p8 : 0 ≤ (0 : Int) := (by omega)
       have q8 : 0 < a0.size := (by have : (0 : Int) < (a0.size : Int) := of_decide_eq_true (by first | (with_reducible assumption) | assumption); omega)
       have hx8 : ∀ h : 0 < a0.size, ((a0[0]'h).toNat : Int) = bt a0 0 := bt_at a0 0
       clear p8
       have qi8 : (0 < (a0.size : Int)) = True := eq_true (of_decide_eq_true (by first | (with_reducible assumption) | assumption))
       replace q8 := eq_true q8
       go_wp2_with (first | (go_at_call 14; (with_reducible refine (catalog_Reserved.calls a0 t101 _ A10.out).mono ?_); rintro e w' ⟨rfl, ⟨nd, rfl⟩⟩))
       go_meet
       case rel => exact ⟨_, (t101), (by first | rfl | (simp; done) | (simp [*]; done)), H', ⟨by first | omega | exact Nat.le_refl _⟩, by repeat (first | exact Drawn0.refl _ | apply Drawn0.step)⟩
    ·rw [if_neg c5] at H
     exact absurd H (by simp)
 case rest =>
  clear HC2
  try clear c1
  try clear p2
  try clear c3
  try clear c3b0
  try clear c3b1
  try clear c4
  try clear c4b0
  try clear c4b1
  try clear c5
  try clear c5b0
  try clear c5b1
  try clear p6
  try clear q6
  try clear hx6
  try clear qi6
  try clear c7
  try clear c7b0
  try clear p8
  try clear q8
  try clear hx8
  try clear qi8
  try clear c9
  try clear c9b0
  try clear p6
  try clear p8
  try clear q6
  try clear q8
  obtain ⟨kq, x26_1, rfl, HA, HJ1, ⟨mc1, rfl⟩⟩ := hcut
  cases kq with
  | zero => exact absurd HA.out (by simp [catalog_ValidName.j0])
  | succ kj1 =>
   have H := HA.out
   clear HA
   simp only [catalog_ValidName.j0] at H
   by_cases c11 : x26_1 = true
   ·subst c11
    rw [if_pos rfl] at H
    obtain rfl := Option.some.inj H
    go_wp2
    go_ret
    exact ⟨by first | rfl | (simp; done) | (simp [*]; done), by repeat (first | exact Drawn0.refl _ | apply Drawn0.step)⟩
   ·replace c11 := Bool.eq_false_iff.mpr c11
    subst c11
    rw [if_neg (show ¬ (false = true) by decide)] at H
    have H' := Aside0.mk H
    clear H
    go_wp2
    go_loopg [29] kj1 (fun kq v29 w' => ∃ (x29_2 : Int), v29 = .int .i64 x29_2 ∧ Aside0 (catalog_ValidName.l0 kq a0 (a0.size : Int) x29_2 = some r) ∧ Aside0 (kq ≤ kj1) ∧ Drawn0 w w')
    case atStart => exact ⟨(0), (by first | rfl | (simp; done) | (simp [*]; done)), H', ⟨Nat.le_refl _⟩, by repeat (first | exact Drawn0.refl _ | apply Drawn0.step)⟩
    case round =>
     clear H'
     try clear c1
     try clear p2
     try clear c3
     try clear c3b0
     try clear c3b1
     try clear c4
     try clear c4b0
     try clear c4b1
     try clear c5
     try clear c5b0
     try clear c5b1
     try clear p6
     try clear q6
     try clear hx6
     try clear qi6
     try clear c7
     try clear c7b0
     try clear p8
     try clear q8
     try clear hx8
     try clear qi8
     try clear c9
     try clear c9b0
     try clear c11
     try clear p2
     try clear p6
     try clear p8
     try clear q6
     try clear q8
     obtain ⟨x29_2, rfl, HA, HK2, ⟨m2, rfl⟩⟩ := hrel
     cases gk with
     | zero => exact absurd HA.out (by simp [catalog_ValidName.l0])
     | succ k2 =>
      have H := HA.out
      clear HA
      simp only [catalog_ValidName.l0] at H
      by_cases c12 : x29_2 < (a0.size : Int)
      ·rw [if_pos c12] at H
       have c12b0 : decide (x29_2 < (a0.size : Int)) = true := decide_eq_true c12
       clear c12
       by_cases c13 : 0 ≤ x29_2
       ·rw [if_pos c13] at H
        have c13b0 : decide (0 ≤ x29_2) = true := decide_eq_true c13
        clear c13
        have HH_ := Aside0.mk H
        clear H
        have p15 : 0 ≤ (x29_2 : Int) := of_decide_eq_true (by first | (with_reducible assumption) | assumption)
        have H := HH_.out
        clear HH_
        by_cases c14 : x29_2 < (a0.size : Int)
        ·rw [if_pos c14] at H
         have c14b0 : decide (x29_2 < (a0.size : Int)) = true := decide_eq_true c14
         clear c14
         (try simp only [c14b0])
         have HH_ := Aside0.mk H
         clear H
         have q15 : x29_2 < (a0.size : Int) := of_decide_eq_true (by first | (with_reducible assumption) | assumption)
         have hx15 := bt_at a0 x29_2
         replace p15 := eq_true p15
         replace q15 := eq_true q15
         have H := HH_.out
         clear HH_
         by_cases c16 : (bt a0 x29_2) < 97
         ·rw [if_pos c16] at H
          have c16b0 : decide ((bt a0 x29_2) < 97) = true := decide_eq_true c16
          clear c16
          (try simp only [c16b0])
          by_cases c17 : (bt a0 x29_2) < 48
          ·rw [if_pos c17] at H
           have c17b0 : decide ((bt a0 x29_2) < 48) = true := decide_eq_true c17
           clear c17
           (try simp only [c17b0])
           by_cases c18 : (bt a0 x29_2) = 95
           ·rw [if_pos c18] at H
            have c18b0 : ((bt a0 x29_2) == 95) = true := beq_iff_eq.mpr c18
            have c18b1 : ((bt a0 x29_2) != 95) = false := bne_eq_false_iff_eq.mpr c18
            clear c18
            have H' := Aside0.mk H
            clear H
            (try simp only [c18b0, c18b1])
            go_wp2
            go_roundg k2
            case measure => have := HJ1.out; have := HK2.out; omega
            case rel => exact ⟨(wrap64 (x29_2 + 1)), (by first | rfl | (simp; done) | (simp [*]; done)), H', ⟨by have := HJ1.out; have := HK2.out; omega⟩, by repeat (first | exact Drawn0.refl _ | apply Drawn0.step)⟩
           ·rw [if_neg c18] at H
            have c18b0 : ((bt a0 x29_2) == 95) = false := beq_eq_false_iff_ne.mpr c18
            have c18b1 : ((bt a0 x29_2) != 95) = true := bne_iff_ne.mpr c18
            (try simp only [c18b0, c18b1])
            by_cases c19 : (bt a0 x29_2) = 45
            ·rw [if_pos c19] at H
             have c19b0 : ((bt a0 x29_2) == 45) = true := beq_iff_eq.mpr c19
             have c19b1 : ((bt a0 x29_2) != 45) = false := bne_eq_false_iff_eq.mpr c19
             clear c19
             have H' := Aside0.mk H
             clear H
             (try simp only [c19b0, c19b1])
             go_wp2
             go_roundg k2
             case measure => have := HJ1.out; have := HK2.out; omega
             case rel => exact ⟨(wrap64 (x29_2 + 1)), (by first | rfl | (simp; done) | (simp [*]; done)), H', ⟨by have := HJ1.out; have := HK2.out; omega⟩, by repeat (first | exact Drawn0.refl _ | apply Drawn0.step)⟩
            ·rw [if_neg c19] at H
             have c19b0 : ((bt a0 x29_2) == 45) = false := beq_eq_false_iff_ne.mpr c19
             have c19b1 : ((bt a0 x29_2) != 45) = true := bne_iff_ne.mpr c19
             obtain rfl := Option.some.inj H
             (try simp only [c19b0, c19b1])
             go_wp2
             go_ret
             exact ⟨by first | rfl | (simp; done) | (simp [*]; done), by repeat (first | exact Drawn0.refl _ | apply Drawn0.step)⟩
          ·rw [if_neg c17] at H
           have c17b0 : decide ((bt a0 x29_2) < 48) = false := decide_eq_false c17
           clear c17
           (try simp only [c17b0])
           by_cases c20 : (bt a0 x29_2) > 57
           ·rw [if_pos c20] at H
            have c20b0 : decide (57 < (bt a0 x29_2)) = true := decide_eq_true c20
            clear c20
            (try simp only [c20b0])
            by_cases c21 : (bt a0 x29_2) = 95
            ·rw [if_pos c21] at H
             have c21b0 : ((bt a0 x29_2) == 95) = true := beq_iff_eq.mpr c21
             have c21b1 : ((bt a0 x29_2) != 95) = false := bne_eq_false_iff_eq.mpr c21
             clear c21
             have H' := Aside0.mk H
             clear H
             (try simp only [c21b0, c21b1])
             go_wp2
             go_roundg k2
             case measure => have := HJ1.out; have := HK2.out; omega
             case rel => exact ⟨(wrap64 (x29_2 + 1)), (by first | rfl | (simp; done) | (simp [*]; done)), H', ⟨by have := HJ1.out; have := HK2.out; omega⟩, by repeat (first | exact Drawn0.refl _ | apply Drawn0.step)⟩
            ·rw [if_neg c21] at H
             have c21b0 : ((bt a0 x29_2) == 95) = false := beq_eq_false_iff_ne.mpr c21
             have c21b1 : ((bt a0 x29_2) != 95) = true := bne_iff_ne.mpr c21
             (try simp only [c21b0, c21b1])
             by_cases c22 : (bt a0 x29_2) = 45
             ·rw [if_pos c22] at H
              have c22b0 : ((bt a0 x29_2) == 45) = true := beq_iff_eq.mpr c22
              have c22b1 : ((bt a0 x29_2) != 45) = false := bne_eq_false_iff_eq.mpr c22
              clear c22
              have H' := Aside0.mk H
              clear H
              (try simp only [c22b0, c22b1])
              go_wp2
              go_roundg k2
              case measure => have := HJ1.out; have := HK2.out; omega
              case rel => exact ⟨(wrap64 (x29_2 + 1)), (by first | rfl | (simp; done) | (simp [*]; done)), H', ⟨by have := HJ1.out; have := HK2.out; omega⟩, by repeat (first | exact Drawn0.refl _ | apply Drawn0.step)⟩
             ·rw [if_neg c22] at H
              have c22b0 : ((bt a0 x29_2) == 45) = false := beq_eq_false_iff_ne.mpr c22
              have c22b1 : ((bt a0 x29_2) != 45) = true := bne_iff_ne.mpr c22
              obtain rfl := Option.some.inj H
              (try simp only [c22b0, c22b1])
              go_wp2
              go_ret
              exact ⟨by first | rfl | (simp; done) | (simp [*]; done), by repeat (first | exact Drawn0.refl _ | apply Drawn0.step)⟩
           ·rw [if_neg c20] at H
            have c20b0 : decide (57 < (bt a0 x29_2)) = false := decide_eq_false c20
            clear c20
            have H' := Aside0.mk H
            clear H
            (try simp only [c20b0])
            go_wp2
            go_roundg k2
            case measure => have := HJ1.out; have := HK2.out; omega
            case rel => exact ⟨(wrap64 (x29_2 + 1)), (by first | rfl | (simp; done) | (simp [*]; done)), H', ⟨by have := HJ1.out; have := HK2.out; omega⟩, by repeat (first | exact Drawn0.refl _ | apply Drawn0.step)⟩
         ·rw [if_neg c16] at H
          have c16b0 : decide ((bt a0 x29_2) < 97) = false := decide_eq_false c16
          clear c16
          (try simp only [c16b0])
          by_cases c23 : (bt a0 x29_2) > 122
          ·rw [if_pos c23] at H
           have c23b0 : decide (122 < (bt a0 x29_2)) = true := decide_eq_true c23
           clear c23
           (try simp only [c23b0])
           by_cases c24 : (bt a0 x29_2) < 48
           ·rw [if_pos c24] at H
            have c24b0 : decide ((bt a0 x29_2) < 48) = true := decide_eq_true c24
            clear c24
            (try simp only [c24b0])
            by_cases c25 : (bt a0 x29_2) = 95
            ·rw [if_pos c25] at H
             have c25b0 : ((bt a0 x29_2) == 95) = true := beq_iff_eq.mpr c25
             have c25b1 : ((bt a0 x29_2) != 95) = false := bne_eq_false_iff_eq.mpr c25
             clear c25
             have H' := Aside0.mk H
             clear H
             (try simp only [c25b0, c25b1])
             go_wp2
             go_roundg k2
             case measure => have := HJ1.out; have := HK2.out; omega
             case rel => exact ⟨(wrap64 (x29_2 + 1)), (by first | rfl | (simp; done) | (simp [*]; done)), H', ⟨by have := HJ1.out; have := HK2.out; omega⟩, by repeat (first | exact Drawn0.refl _ | apply Drawn0.step)⟩
            ·rw [if_neg c25] at H
             have c25b0 : ((bt a0 x29_2) == 95) = false := beq_eq_false_iff_ne.mpr c25
             have c25b1 : ((bt a0 x29_2) != 95) = true := bne_iff_ne.mpr c25
             (try simp only [c25b0, c25b1])
             by_cases c26 : (bt a0 x29_2) = 45
             ·rw [if_pos c26] at H
              have c26b0 : ((bt a0 x29_2) == 45) = true := beq_iff_eq.mpr c26
              have c26b1 : ((bt a0 x29_2) != 45) = false := bne_eq_false_iff_eq.mpr c26
              clear c26
              have H' := Aside0.mk H
              clear H
              (try simp only [c26b0, c26b1])
              go_wp2
              go_roundg k2
              case measure => have := HJ1.out; have := HK2.out; omega
              case rel => exact ⟨(wrap64 (x29_2 + 1)), (by first | rfl | (simp; done) | (simp [*]; done)), H', ⟨by have := HJ1.out; have := HK2.out; omega⟩, by repeat (first | exact Drawn0.refl _ | apply Drawn0.step)⟩
             ·rw [if_neg c26] at H
              have c26b0 : ((bt a0 x29_2) == 45) = false := beq_eq_false_iff_ne.mpr c26
              have c26b1 : ((bt a0 x29_2) != 45) = true := bne_iff_ne.mpr c26
              obtain rfl := Option.some.inj H
              (try simp only [c26b0, c26b1])
              go_wp2
              go_ret
              exact ⟨by first | rfl | (simp; done) | (simp [*]; done), by repeat (first | exact Drawn0.refl _ | apply Drawn0.step)⟩
           ·rw [if_neg c24] at H
            have c24b0 : decide ((bt a0 x29_2) < 48) = false := decide_eq_false c24
            clear c24
            (try simp only [c24b0])
            by_cases c27 : (bt a0 x29_2) > 57
            ·rw [if_pos c27] at H
             have c27b0 : decide (57 < (bt a0 x29_2)) = true := decide_eq_true c27
             clear c27
             (try simp only [c27b0])
             by_cases c28 : (bt a0 x29_2) = 95
             ·rw [if_pos c28] at H
              have c28b0 : ((bt a0 x29_2) == 95) = true := beq_iff_eq.mpr c28
              have c28b1 : ((bt a0 x29_2) != 95) = false := bne_eq_false_iff_eq.mpr c28
              clear c28
              have H' := Aside0.mk H
              clear H
              (try simp only [c28b0, c28b1])
              go_wp2
              go_roundg k2
              case measure => have := HJ1.out; have := HK2.out; omega
              case rel => exact ⟨(wrap64 (x29_2 + 1)), (by first | rfl | (simp; done) | (simp [*]; done)), H', ⟨by have := HJ1.out; have := HK2.out; omega⟩, by repeat (first | exact Drawn0.refl _ | apply Drawn0.step)⟩
             ·rw [if_neg c28] at H
              have c28b0 : ((bt a0 x29_2) == 95) = false := beq_eq_false_iff_ne.mpr c28
              have c28b1 : ((bt a0 x29_2) != 95) = true := bne_iff_ne.mpr c28
              (try simp only [c28b0, c28b1])
              by_cases c29 : (bt a0 x29_2) = 45
              ·rw [if_pos c29] at H
               have c29b0 : ((bt a0 x29_2) == 45) = true := beq_iff_eq.mpr c29
               have c29b1 : ((bt a0 x29_2) != 45) = false := bne_eq_false_iff_eq.mpr c29
               clear c29
               have H' := Aside0.mk H
               clear H
               (try simp only [c29b0, c29b1])
               go_wp2
               go_roundg k2
               case measure => have := HJ1.out; have := HK2.out; omega
               case rel => exact ⟨(wrap64 (x29_2 + 1)), (by first | rfl | (simp; done) | (simp [*]; done)), H', ⟨by have := HJ1.out; have := HK2.out; omega⟩, by repeat (first | exact Drawn0.refl _ | apply Drawn0.step)⟩
              ·rw [if_neg c29] at H
               have c29b0 : ((bt a0 x29_2) == 45) = false := beq_eq_false_iff_ne.mpr c29
               have c29b1 : ((bt a0 x29_2) != 45) = true := bne_iff_ne.mpr c29
               obtain rfl := Option.some.inj H
               (try simp only [c29b0, c29b1])
               go_wp2
               go_ret
               exact ⟨by first | rfl | (simp; done) | (simp [*]; done), by repeat (first | exact Drawn0.refl _ | apply Drawn0.step)⟩
            ·rw [if_neg c27] at H
             have c27b0 : decide (57 < (bt a0 x29_2)) = false := decide_eq_false c27
             clear c27
             have H' := Aside0.mk H
             clear H
             (try simp only [c27b0])
             go_wp2
             go_roundg k2
             case measure => have := HJ1.out; have := HK2.out; omega
             case rel => exact ⟨(wrap64 (x29_2 + 1)), (by first | rfl | (simp; done) | (simp [*]; done)), H', ⟨by have := HJ1.out; have := HK2.out; omega⟩, by repeat (first | exact Drawn0.refl _ | apply Drawn0.step)⟩
          ·rw [if_neg c23] at H
           have c23b0 : decide (122 < (bt a0 x29_2)) = false := decide_eq_false c23
           clear c23
           have H' := Aside0.mk H
           clear H
           (try simp only [c23b0])
           go_wp2
           go_roundg k2
           case measure => have := HJ1.out; have := HK2.out; omega
           case rel => exact ⟨(wrap64 (x29_2 + 1)), (by first | rfl | (simp; done) | (simp [*]; done)), H', ⟨by have := HJ1.out; have := HK2.out; omega⟩, by repeat (first | exact Drawn0.refl _ | apply Drawn0.step)⟩
        ·rw [if_neg c14] at H
         exact absurd H (by simp)
       ·rw [if_neg c13] at H
        exact absurd H (by simp)
      ·rw [if_neg c12] at H
       have c12b0 : decide (x29_2 < (a0.size : Int)) = false := decide_eq_false c12
       clear c12
       obtain rfl := Option.some.inj H
       go_wp2
       go_ret
       exact ⟨by first | rfl | (simp; done) | (simp [*]; done), by repeat (first | exact Drawn0.refl _ | apply Drawn0.step)⟩
/-! ### amount_Shaped: function 39 -/
def amount_Shaped.f (a0_0 : ByteArray) (a0_1 : Int) (a0_2 : Int) (a0_3 : Int) : Option (Bool) := if a0_1 = 1 then (some (a0_2 == 1)) else (if a0_1 = 2 then (if a0_2 ≥ 1 then (some (decide (a0_2 ≤ 8))) else (some false)) else (some false))
set_option maxHeartbeats 8000000 in
set_option maxRecDepth 100000 in
theorem amount_Shaped.calls (a0_0 : ByteArray) (a0_1 : Int) (a0_2 : Int) (a0_3 : Int) (r : Bool) (w : World) (h : amount_Shaped.f a0_0 a0_1 a0_2 a0_3 = some r) :
  Calls Tryd.prog 39 #[.agg #[.string a0_0, .int .i64 a0_1, .int .i64 a0_2, .int .i64 a0_3]] w fun e w' => e = .returned (.bool r) ∧ Below w.heap.size w w' := by
 have hu26 := Tryd.underlying26
 have HB := Aside0.mk (Below.refl w.heap.size w)
 have H : (if a0_1 = 1 then (some (a0_2 == 1)) else (if a0_1 = 2 then (if a0_2 ≥ 1 then (some (decide (a0_2 ≤ 8))) else (some false)) else (some false))) = some r := h
 clear h
 by_cases c2 : a0_1 = 1
 ·rw [if_pos c2] at H
  have c2b0 : (a0_1 == 1) = true := beq_iff_eq.mpr c2
  have c2b1 : (a0_1 != 1) = false := bne_eq_false_iff_eq.mpr c2
  clear c2
  obtain rfl := Option.some.inj H
  go_enter Tryd.func39, Tryd.ntmps39
  go_wp2_with (first | ((with_reducible refine gate_dst (N := 1) rfl ?_); refine box_event ?hg (N := 1) ?hd (cs := #[.string a0_0, .int .i64 a0_1, .int .i64 a0_2, .int .i64 a0_3]) (t := 26) ?hr ?_; (case hd => rfl); (case hg => rfl); (case hr => first | (go_simp; done) | (go_simp; rfl)); intro gb102 hg w3 hbox hb; have BK102 := Aside0.mk hbox; have GW102 := gE HB hg; replace HB := bB HB hb; have GE102 := GW102; clear hb hbox hg; have hcz4_0 : w3.cell? ⟨gb102, 0, none⟩ = some (.string a0_0) := bC BK102 0 rfl; have hcz4_1 : w3.cell? ⟨gb102, 1, none⟩ = some (.int .i64 a0_1) := bC BK102 1 rfl; have hcz4_2 : w3.cell? ⟨gb102, 2, none⟩ = some (.int .i64 a0_2) := bC BK102 2 rfl; have hcz4_3 : w3.cell? ⟨gb102, 3, none⟩ = some (.int .i64 a0_3) := bC BK102 3 rfl; have hfz4_0 := bF BK102 0; have hfz4_1 := bF BK102 1; have hfz4_2 := bF BK102 2; have hfz4_3 := bF BK102 3))
  go_ret
  exact ⟨by first | rfl | (simp [errW_none, errW_some] <;> rfl) | (simp [*, errW_none, errW_some] <;> rfl), (uS HB)⟩
 ·rw [if_neg c2] at H
  have c2b0 : (a0_1 == 1) = false := beq_eq_false_iff_ne.mpr c2
  have c2b1 : (a0_1 != 1) = true := bne_iff_ne.mpr c2
  by_cases c5 : a0_1 = 2
  ·rw [if_pos c5] at H
   have c5b0 : (a0_1 == 2) = true := beq_iff_eq.mpr c5
   have c5b1 : (a0_1 != 2) = false := bne_eq_false_iff_eq.mpr c5
   clear c5
   by_cases c6 : a0_2 ≥ 1
   ·rw [if_pos c6] at H
    have c6b0 : decide (1 ≤ a0_2) = true := decide_eq_true c6
    clear c6
    obtain rfl := Option.some.inj H
    go_enter Tryd.func39, Tryd.ntmps39
    go_wp2_with (first | ((with_reducible refine gate_dst (N := 1) rfl ?_); refine box_event ?hg (N := 1) ?hd (cs := #[.string a0_0, .int .i64 a0_1, .int .i64 a0_2, .int .i64 a0_3]) (t := 26) ?hr ?_; (case hd => rfl); (case hg => rfl); (case hr => first | (go_simp; done) | (go_simp; rfl)); intro gb102 hg w7 hbox hb; have BK102 := Aside0.mk hbox; have GW102 := gE HB hg; replace HB := bB HB hb; have GE102 := GW102; clear hb hbox hg; have hcz8_0 : w7.cell? ⟨gb102, 0, none⟩ = some (.string a0_0) := bC BK102 0 rfl; have hcz8_1 : w7.cell? ⟨gb102, 1, none⟩ = some (.int .i64 a0_1) := bC BK102 1 rfl; have hcz8_2 : w7.cell? ⟨gb102, 2, none⟩ = some (.int .i64 a0_2) := bC BK102 2 rfl; have hcz8_3 : w7.cell? ⟨gb102, 3, none⟩ = some (.int .i64 a0_3) := bC BK102 3 rfl; have hfz8_0 := bF BK102 0; have hfz8_1 := bF BK102 1; have hfz8_2 := bF BK102 2; have hfz8_3 := bF BK102 3))
    go_ret
    exact ⟨by first | rfl | (simp [errW_none, errW_some] <;> rfl) | (simp [*, errW_none, errW_some] <;> rfl), (uS HB)⟩
   ·rw [if_neg c6] at H
    have c6b0 : decide (1 ≤ a0_2) = false := decide_eq_false c6
    clear c6
    obtain rfl := Option.some.inj H
    go_enter Tryd.func39, Tryd.ntmps39
    go_wp2_with (first | ((with_reducible refine gate_dst (N := 1) rfl ?_); refine box_event ?hg (N := 1) ?hd (cs := #[.string a0_0, .int .i64 a0_1, .int .i64 a0_2, .int .i64 a0_3]) (t := 26) ?hr ?_; (case hd => rfl); (case hg => rfl); (case hr => first | (go_simp; done) | (go_simp; rfl)); intro gb102 hg w9 hbox hb; have BK102 := Aside0.mk hbox; have GW102 := gE HB hg; replace HB := bB HB hb; have GE102 := GW102; clear hb hbox hg; have hcz10_0 : w9.cell? ⟨gb102, 0, none⟩ = some (.string a0_0) := bC BK102 0 rfl; have hcz10_1 : w9.cell? ⟨gb102, 1, none⟩ = some (.int .i64 a0_1) := bC BK102 1 rfl; have hcz10_2 : w9.cell? ⟨gb102, 2, none⟩ = some (.int .i64 a0_2) := bC BK102 2 rfl; have hcz10_3 : w9.cell? ⟨gb102, 3, none⟩ = some (.int .i64 a0_3) := bC BK102 3 rfl; have hfz10_0 := bF BK102 0; have hfz10_1 := bF BK102 1; have hfz10_2 := bF BK102 2; have hfz10_3 := bF BK102 3))
    go_ret
    exact ⟨by first | rfl | (simp [errW_none, errW_some] <;> rfl) | (simp [*, errW_none, errW_some] <;> rfl), (uS HB)⟩
  ·rw [if_neg c5] at H
   have c5b0 : (a0_1 == 2) = false := beq_eq_false_iff_ne.mpr c5
   have c5b1 : (a0_1 != 2) = true := bne_iff_ne.mpr c5
   obtain rfl := Option.some.inj H
   go_enter Tryd.func39, Tryd.ntmps39
   go_wp2_with (first | ((with_reducible refine gate_dst (N := 1) rfl ?_); refine box_event ?hg (N := 1) ?hd (cs := #[.string a0_0, .int .i64 a0_1, .int .i64 a0_2, .int .i64 a0_3]) (t := 26) ?hr ?_; (case hd => rfl); (case hg => rfl); (case hr => first | (go_simp; done) | (go_simp; rfl)); intro gb102 hg w11 hbox hb; have BK102 := Aside0.mk hbox; have GW102 := gE HB hg; replace HB := bB HB hb; have GE102 := GW102; clear hb hbox hg; have hcz12_0 : w11.cell? ⟨gb102, 0, none⟩ = some (.string a0_0) := bC BK102 0 rfl; have hcz12_1 : w11.cell? ⟨gb102, 1, none⟩ = some (.int .i64 a0_1) := bC BK102 1 rfl; have hcz12_2 : w11.cell? ⟨gb102, 2, none⟩ = some (.int .i64 a0_2) := bC BK102 2 rfl; have hcz12_3 : w11.cell? ⟨gb102, 3, none⟩ = some (.int .i64 a0_3) := bC BK102 3 rfl; have hfz12_0 := bF BK102 0; have hfz12_1 := bF BK102 1; have hfz12_2 := bF BK102 2; have hfz12_3 := bF BK102 3))
   go_ret
   exact ⟨by first | rfl | (simp [errW_none, errW_some] <;> rfl) | (simp [*, errW_none, errW_some] <;> rfl), (uS HB)⟩
/-! ### catalog_ValidResource: function 18 -/
def catalog_ValidResource.f (k : Nat) (a0_0 : ByteArray) (a0_1 : Int) (a0_2 : Int) (a0_3 : Int) : Option (Bool) := (catalog_ValidName.f k a0_0).bind fun t104 => (if t104 = true then ((amount_Shaped.f a0_0 a0_1 a0_2 a0_3).bind fun t105 => (if t105 = true then (if a0_3 ≥ 0 then (some (decide (a0_3 < 4))) else (some false)) else (some false))) else (some false))
theorem catalog_ValidResource.mono : ∀ a0 a1 a2 a3 k, LeO (catalog_ValidResource.f k a0 a1 a2 a3) (catalog_ValidResource.f (k + 1) a0 a1 a2 a3) := by
 intro a0 a1 a2 a3 k
 unfold catalog_ValidResource.f
 repeat' first
   | (with_reducible exact catalog_ValidName.mono _ _)
   | (with_reducible exact LeO.refl _)
   | (with_reducible exact LeO.none _)
   | (with_reducible refine LeO.ite ?_ ?_)
   | (with_reducible refine LeO.bind ?_ (fun _ => ?_))
   | exact catalog_ValidName.mono _ _
   | exact LeO.none _
   | refine LeO.ite ?_ ?_
   | refine LeO.bind ?_ (fun _ => ?_)
set_option maxHeartbeats 8000000 in
set_option maxRecDepth 100000 in
theorem catalog_ValidResource.calls (k : Nat) (a0_0 : ByteArray) (a0_1 : Int) (a0_2 : Int) (a0_3 : Int) (r : Bool) (w : World) (h : catalog_ValidResource.f k a0_0 a0_1 a0_2 a0_3 = some r) :
  Calls Tryd.prog 18 #[.agg #[.string a0_0, .int .i64 a0_1, .int .i64 a0_2, .int .i64 a0_3]] w fun e w' => e = .returned (.bool r) ∧ Below w.heap.size w w' := by
 have hu26 := Tryd.underlying26
 have HB := Aside0.mk (Below.refl w.heap.size w)
 have H : ((catalog_ValidName.f k a0_0).bind fun t104 => (if t104 = true then ((amount_Shaped.f a0_0 a0_1 a0_2 a0_3).bind fun t105 => (if t105 = true then (if a0_3 ≥ 0 then (some (decide (a0_3 < 4))) else (some false)) else (some false))) else (some false))) = some r := h
 clear h
 obtain ⟨t104, A20, H⟩ := Option.bind_eq_some_iff.mp H
 have A2 := Aside0.mk A20; clear A20
 by_cases c3 : t104 = true
 ·subst c3
  rw [if_pos rfl] at H
  obtain ⟨t105, A40, H⟩ := Option.bind_eq_some_iff.mp H
  have A4 := Aside0.mk A40; clear A40
  by_cases c5 : t105 = true
  ·subst c5
   rw [if_pos rfl] at H
   by_cases c6 : a0_3 ≥ 0
   ·rw [if_pos c6] at H
    have c6b0 : decide (0 ≤ a0_3) = true := decide_eq_true c6
    clear c6
    obtain rfl := Option.some.inj H
    go_enter Tryd.func18, Tryd.ntmps18
    go_wp2_with (first | ((with_reducible refine gate_dst (N := 1) rfl ?_); refine box_event ?hg (N := 1) ?hd (cs := #[.string a0_0, .int .i64 a0_1, .int .i64 a0_2, .int .i64 a0_3]) (t := 26) ?hr ?_; (case hd => rfl); (case hg => rfl); (case hr => first | (go_simp; done) | (go_simp; rfl)); intro gb103 hg w7 hbox hb; have BK103 := Aside0.mk hbox; have GW103 := gE HB hg; replace HB := bB HB hb; have GE103 := GW103; clear hb hbox hg; have hcz8_0 : w7.cell? ⟨gb103, 0, none⟩ = some (.string a0_0) := bC BK103 0 rfl; have hcz8_1 : w7.cell? ⟨gb103, 1, none⟩ = some (.int .i64 a0_1) := bC BK103 1 rfl; have hcz8_2 : w7.cell? ⟨gb103, 2, none⟩ = some (.int .i64 a0_2) := bC BK103 2 rfl; have hcz8_3 : w7.cell? ⟨gb103, 3, none⟩ = some (.int .i64 a0_3) := bC BK103 3 rfl; have hfz8_0 := bF BK103 0; have hfz8_1 := bF BK103 1; have hfz8_2 := bF BK103 2; have hfz8_3 := bF BK103 3) | ((with_reducible refine gate_callee (f := 16) rfl ?_); refine goesL_ (some 5) rfl rfl Tryd.func16 (by kernel_rfl) rfl #[.string a0_0] rfl (by (try simp only [mA]); first | done | rfl) ?_; (with_reducible refine (catalog_ValidName.calls k a0_0 true _ A2.out).mono ?_); rintro e w' ⟨rfl, ⟨nd, rfl⟩⟩; refine ⟨_, rfl, ?_⟩) | (go_at_call 39; (with_reducible refine (amount_Shaped.calls a0_0 a0_1 a0_2 a0_3 true _ A4.out).mono ?_); rintro e w9 ⟨rfl, hb⟩; replace BK103 := bK BK103 hb; replace HB := bB HB hb; (try clear hb); have hcz10_0 : w9.cell? ⟨gb103, 0, none⟩ = some (.string a0_0) := bC BK103 0 rfl; have hcz10_1 : w9.cell? ⟨gb103, 1, none⟩ = some (.int .i64 a0_1) := bC BK103 1 rfl; have hcz10_2 : w9.cell? ⟨gb103, 2, none⟩ = some (.int .i64 a0_2) := bC BK103 2 rfl; have hcz10_3 : w9.cell? ⟨gb103, 3, none⟩ = some (.int .i64 a0_3) := bC BK103 3 rfl; have hfz10_0 := bF BK103 0; have hfz10_1 := bF BK103 1; have hfz10_2 := bF BK103 2; have hfz10_3 := bF BK103 3))
    go_ret
    exact ⟨by first | rfl | (simp [errW_none, errW_some] <;> rfl) | (simp [*, errW_none, errW_some] <;> rfl), (uS HB)⟩
   ·rw [if_neg c6] at H
    have c6b0 : decide (0 ≤ a0_3) = false := decide_eq_false c6
    clear c6
    obtain rfl := Option.some.inj H
    go_enter Tryd.func18, Tryd.ntmps18
    go_wp2_with (first | ((with_reducible refine gate_dst (N := 1) rfl ?_); refine box_event ?hg (N := 1) ?hd (cs := #[.string a0_0, .int .i64 a0_1, .int .i64 a0_2, .int .i64 a0_3]) (t := 26) ?hr ?_; (case hd => rfl); (case hg => rfl); (case hr => first | (go_simp; done) | (go_simp; rfl)); intro gb103 hg w11 hbox hb; have BK103 := Aside0.mk hbox; have GW103 := gE HB hg; replace HB := bB HB hb; have GE103 := GW103; clear hb hbox hg; have hcz12_0 : w11.cell? ⟨gb103, 0, none⟩ = some (.string a0_0) := bC BK103 0 rfl; have hcz12_1 : w11.cell? ⟨gb103, 1, none⟩ = some (.int .i64 a0_1) := bC BK103 1 rfl; have hcz12_2 : w11.cell? ⟨gb103, 2, none⟩ = some (.int .i64 a0_2) := bC BK103 2 rfl; have hcz12_3 : w11.cell? ⟨gb103, 3, none⟩ = some (.int .i64 a0_3) := bC BK103 3 rfl; have hfz12_0 := bF BK103 0; have hfz12_1 := bF BK103 1; have hfz12_2 := bF BK103 2; have hfz12_3 := bF BK103 3) | ((with_reducible refine gate_callee (f := 16) rfl ?_); refine goesL_ (some 5) rfl rfl Tryd.func16 (by kernel_rfl) rfl #[.string a0_0] rfl (by (try simp only [mA]); first | done | rfl) ?_; (with_reducible refine (catalog_ValidName.calls k a0_0 true _ A2.out).mono ?_); rintro e w' ⟨rfl, ⟨nd, rfl⟩⟩; refine ⟨_, rfl, ?_⟩) | (go_at_call 39; (with_reducible refine (amount_Shaped.calls a0_0 a0_1 a0_2 a0_3 true _ A4.out).mono ?_); rintro e w13 ⟨rfl, hb⟩; replace BK103 := bK BK103 hb; replace HB := bB HB hb; (try clear hb); have hcz14_0 : w13.cell? ⟨gb103, 0, none⟩ = some (.string a0_0) := bC BK103 0 rfl; have hcz14_1 : w13.cell? ⟨gb103, 1, none⟩ = some (.int .i64 a0_1) := bC BK103 1 rfl; have hcz14_2 : w13.cell? ⟨gb103, 2, none⟩ = some (.int .i64 a0_2) := bC BK103 2 rfl; have hcz14_3 : w13.cell? ⟨gb103, 3, none⟩ = some (.int .i64 a0_3) := bC BK103 3 rfl; have hfz14_0 := bF BK103 0; have hfz14_1 := bF BK103 1; have hfz14_2 := bF BK103 2; have hfz14_3 := bF BK103 3))
    go_ret
    exact ⟨by first | rfl | (simp [errW_none, errW_some] <;> rfl) | (simp [*, errW_none, errW_some] <;> rfl), (uS HB)⟩
  ·replace c5 := Bool.eq_false_iff.mpr c5
   subst c5
   rw [if_neg (show ¬ (false = true) by decide)] at H
   obtain rfl := Option.some.inj H
   go_enter Tryd.func18, Tryd.ntmps18
   go_wp2_with (first | ((with_reducible refine gate_dst (N := 1) rfl ?_); refine box_event ?hg (N := 1) ?hd (cs := #[.string a0_0, .int .i64 a0_1, .int .i64 a0_2, .int .i64 a0_3]) (t := 26) ?hr ?_; (case hd => rfl); (case hg => rfl); (case hr => first | (go_simp; done) | (go_simp; rfl)); intro gb103 hg w15 hbox hb; have BK103 := Aside0.mk hbox; have GW103 := gE HB hg; replace HB := bB HB hb; have GE103 := GW103; clear hb hbox hg; have hcz16_0 : w15.cell? ⟨gb103, 0, none⟩ = some (.string a0_0) := bC BK103 0 rfl; have hcz16_1 : w15.cell? ⟨gb103, 1, none⟩ = some (.int .i64 a0_1) := bC BK103 1 rfl; have hcz16_2 : w15.cell? ⟨gb103, 2, none⟩ = some (.int .i64 a0_2) := bC BK103 2 rfl; have hcz16_3 : w15.cell? ⟨gb103, 3, none⟩ = some (.int .i64 a0_3) := bC BK103 3 rfl; have hfz16_0 := bF BK103 0; have hfz16_1 := bF BK103 1; have hfz16_2 := bF BK103 2; have hfz16_3 := bF BK103 3) | ((with_reducible refine gate_callee (f := 16) rfl ?_); refine goesL_ (some 5) rfl rfl Tryd.func16 (by kernel_rfl) rfl #[.string a0_0] rfl (by (try simp only [mA]); first | done | rfl) ?_; (with_reducible refine (catalog_ValidName.calls k a0_0 true _ A2.out).mono ?_); rintro e w' ⟨rfl, ⟨nd, rfl⟩⟩; refine ⟨_, rfl, ?_⟩) | (go_at_call 39; (with_reducible refine (amount_Shaped.calls a0_0 a0_1 a0_2 a0_3 false _ A4.out).mono ?_); rintro e w17 ⟨rfl, hb⟩; replace BK103 := bK BK103 hb; replace HB := bB HB hb; (try clear hb)))
   go_ret
   exact ⟨by first | rfl | (simp [errW_none, errW_some] <;> rfl) | (simp [*, errW_none, errW_some] <;> rfl), (uS HB)⟩
 ·replace c3 := Bool.eq_false_iff.mpr c3
  subst c3
  rw [if_neg (show ¬ (false = true) by decide)] at H
  obtain rfl := Option.some.inj H
  go_enter Tryd.func18, Tryd.ntmps18
  go_wp2_with (first | ((with_reducible refine gate_dst (N := 1) rfl ?_); refine box_event ?hg (N := 1) ?hd (cs := #[.string a0_0, .int .i64 a0_1, .int .i64 a0_2, .int .i64 a0_3]) (t := 26) ?hr ?_; (case hd => rfl); (case hg => rfl); (case hr => first | (go_simp; done) | (go_simp; rfl)); intro gb103 hg w18 hbox hb; have BK103 := Aside0.mk hbox; have GW103 := gE HB hg; replace HB := bB HB hb; have GE103 := GW103; clear hb hbox hg; have hcz19_0 : w18.cell? ⟨gb103, 0, none⟩ = some (.string a0_0) := bC BK103 0 rfl; have hcz19_1 : w18.cell? ⟨gb103, 1, none⟩ = some (.int .i64 a0_1) := bC BK103 1 rfl; have hcz19_2 : w18.cell? ⟨gb103, 2, none⟩ = some (.int .i64 a0_2) := bC BK103 2 rfl; have hcz19_3 : w18.cell? ⟨gb103, 3, none⟩ = some (.int .i64 a0_3) := bC BK103 3 rfl; have hfz19_0 := bF BK103 0; have hfz19_1 := bF BK103 1; have hfz19_2 := bF BK103 2; have hfz19_3 := bF BK103 3) | ((with_reducible refine gate_callee (f := 16) rfl ?_); refine goesL_ (some 5) rfl rfl Tryd.func16 (by kernel_rfl) rfl #[.string a0_0] rfl (by (try simp only [mA]); first | done | rfl) ?_; (with_reducible refine (catalog_ValidName.calls k a0_0 false _ A2.out).mono ?_); rintro e w' ⟨rfl, ⟨nd, rfl⟩⟩; refine ⟨_, rfl, ?_⟩))
  go_ret
  exact ⟨by first | rfl | (simp [errW_none, errW_some] <;> rfl) | (simp [*, errW_none, errW_some] <;> rfl), (uS HB)⟩
end Go.Proofs.YtbiapfjhdggkpaaDoor.PA
