-- Printed by wip/tool/myprint.py for this claim; Lean checks it.
import Derived.Test.YtlkhdhjdcgiciaaDoorPAx0
import Derived.Test.YtlkhdhjdcgiciaaDoorSlim
import Derived.Test.YtlkhdhjdcgiciaaDoorPAx4
namespace Go.Proofs.YtlkhdhjdcgiciaaDoor.PA
open Go.RowKit Go.Proofs.YtlkhdhjdcgiciaaDoorW.PrintWords Go.Proofs.YtlkhdhjdcgiciaaDoorW.PrintLast Go.Proofs.YtlkhdhjdcgiciaaDoorW.PrintMore
attribute [local go_sem] max2_int min2_int max_two min_two max_three min_three max_four min_four   -- for this text's walks alone
set_option linter.unusedVariables false
set_option linter.unusedSimpArgs false

/-! ### clusterlocksref03_Compatible: function 39 -/
def clusterlocksref03_Compatible.f (a0 : Int) (a1 : Int) : Option (Bool) := (clusterlocksref03_Valid.f a0).bind fun t235 => (if t235 = true then ((clusterlocksref03_Valid.f a1).bind fun t236 => (if t236 = true then (if a0 = 5 then (some false) else (if a1 = 5 then (some false) else (if a0 = 1 then (some true) else (if a1 = 1 then (some true) else (if a0 = a1 then (some (a0 != 4)) else (some false)))))) else (some false))) else (some false))
set_option maxHeartbeats 8000000 in
set_option maxRecDepth 100000 in
theorem clusterlocksref03_Compatible.calls (a0 : Int) (a1 : Int) (r : Bool) (w : World) (h : clusterlocksref03_Compatible.f a0 a1 = some r) :
  Calls Tryd.prog 39 #[.int .i64 a0, .int .i64 a1] w fun e w' => e = .returned (.bool r) ∧ Drawn0 w w' := by
 have H : ((clusterlocksref03_Valid.f a0).bind fun t235 => (if t235 = true then ((clusterlocksref03_Valid.f a1).bind fun t236 => (if t236 = true then (if a0 = 5 then (some false) else (if a1 = 5 then (some false) else (if a0 = 1 then (some true) else (if a1 = 1 then (some true) else (if a0 = a1 then (some (a0 != 4)) else (some false)))))) else (some false))) else (some false))) = some r := h
 clear h
 replace H := Option.bind_eq_some_iff.mp H
 obtain ⟨t235, A30, H⟩ := H
 replace H : (if t235 = true then ((clusterlocksref03_Valid.f a1).bind fun t236 => (if t236 = true then (if a0 = 5 then (some false) else (if a1 = 5 then (some false) else (if a0 = 1 then (some true) else (if a1 = 1 then (some true) else (if a0 = a1 then (some (a0 != 4)) else (some false)))))) else (some false))) else (some false)) = some r := H
 have A3 := Aside0.mk A30
 clear A30
 by_cases c4 : t235 = true
 ·subst c4
  have H1 : ((clusterlocksref03_Valid.f a1).bind fun t236 => (if t236 = true then (if a0 = 5 then (some false) else (if a1 = 5 then (some false) else (if a0 = 1 then (some true) else (if a1 = 1 then (some true) else (if a0 = a1 then (some (a0 != 4)) else (some false)))))) else (some false))) = some r := by rw [if_pos rfl] at H; exact H
  clear H
  have H := H1
  clear H1
  replace H := Option.bind_eq_some_iff.mp H
  obtain ⟨t236, A50, H⟩ := H
  replace H : (if t236 = true then (if a0 = 5 then (some false) else (if a1 = 5 then (some false) else (if a0 = 1 then (some true) else (if a1 = 1 then (some true) else (if a0 = a1 then (some (a0 != 4)) else (some false)))))) else (some false)) = some r := H
  have A5 := Aside0.mk A50
  clear A50
  by_cases c6 : t236 = true
  ·subst c6
   have H1 : (if a0 = 5 then (some false) else (if a1 = 5 then (some false) else (if a0 = 1 then (some true) else (if a1 = 1 then (some true) else (if a0 = a1 then (some (a0 != 4)) else (some false)))))) = some r := by rw [if_pos rfl] at H; exact H
   clear H
   have H := H1
   clear H1
   by_cases c7 : a0 = 5
   ·rw [if_pos c7] at H
    have c7b0 : (a0 == 5) = true := beq_iff_eq.mpr c7
    have c7b1 : (a0 != 5) = false := bne_eq_false_iff_eq.mpr c7
    clear c7
    obtain rfl := Option.some.inj H
    go_enter Tryd.func39, Tryd.ntmps39
    go_wp2_with (first | ((with_reducible refine gate_callee (f := 30) rfl ?_); refine goesL_ (some 6) rfl rfl Tryd.func30 (by kernel_rfl) rfl #[.int .i64 a0] rfl (by (try simp only [List.map_toArray, List.map_cons, List.map_nil]); first | done | rfl | (simp only [List.length_drop, List.length_take]; rfl)) ?_; (with_reducible refine (clusterlocksref03_Valid.calls a0 true _ A3.out).mono ?_); rintro e w' ⟨rfl, ⟨nd, rfl⟩⟩; refine ⟨_, rfl, ?_⟩) | (go_at_call 30; (with_reducible refine (clusterlocksref03_Valid.calls a1 true _ A5.out).mono ?_); rintro e w' ⟨rfl, ⟨nd, rfl⟩⟩))
    go_ret
    exact ⟨by first | rfl | (simp; done) | (simp [*]; done), by repeat (first | exact Drawn0.refl _ | apply Drawn0.step)⟩
   ·rw [if_neg c7] at H
    have c7b0 : (a0 == 5) = false := beq_eq_false_iff_ne.mpr c7
    have c7b1 : (a0 != 5) = true := bne_iff_ne.mpr c7
    by_cases c8 : a1 = 5
    ·rw [if_pos c8] at H
     have c8b0 : (a1 == 5) = true := beq_iff_eq.mpr c8
     have c8b1 : (a1 != 5) = false := bne_eq_false_iff_eq.mpr c8
     clear c8
     obtain rfl := Option.some.inj H
     go_enter Tryd.func39, Tryd.ntmps39
     go_wp2_with (first | ((with_reducible refine gate_callee (f := 30) rfl ?_); refine goesL_ (some 6) rfl rfl Tryd.func30 (by kernel_rfl) rfl #[.int .i64 a0] rfl (by (try simp only [List.map_toArray, List.map_cons, List.map_nil]); first | done | rfl | (simp only [List.length_drop, List.length_take]; rfl)) ?_; (with_reducible refine (clusterlocksref03_Valid.calls a0 true _ A3.out).mono ?_); rintro e w' ⟨rfl, ⟨nd, rfl⟩⟩; refine ⟨_, rfl, ?_⟩) | (go_at_call 30; (with_reducible refine (clusterlocksref03_Valid.calls a1 true _ A5.out).mono ?_); rintro e w' ⟨rfl, ⟨nd, rfl⟩⟩))
     go_ret
     exact ⟨by first | rfl | (simp; done) | (simp [*]; done), by repeat (first | exact Drawn0.refl _ | apply Drawn0.step)⟩
    ·rw [if_neg c8] at H
     have c8b0 : (a1 == 5) = false := beq_eq_false_iff_ne.mpr c8
     have c8b1 : (a1 != 5) = true := bne_iff_ne.mpr c8
     by_cases c9 : a0 = 1
     ·rw [if_pos c9] at H
      have c9b0 : (a0 == 1) = true := beq_iff_eq.mpr c9
      have c9b1 : (a0 != 1) = false := bne_eq_false_iff_eq.mpr c9
      clear c9
      obtain rfl := Option.some.inj H
      go_enter Tryd.func39, Tryd.ntmps39
      go_wp2_with (first | ((with_reducible refine gate_callee (f := 30) rfl ?_); refine goesL_ (some 6) rfl rfl Tryd.func30 (by kernel_rfl) rfl #[.int .i64 a0] rfl (by (try simp only [List.map_toArray, List.map_cons, List.map_nil]); first | done | rfl | (simp only [List.length_drop, List.length_take]; rfl)) ?_; (with_reducible refine (clusterlocksref03_Valid.calls a0 true _ A3.out).mono ?_); rintro e w' ⟨rfl, ⟨nd, rfl⟩⟩; refine ⟨_, rfl, ?_⟩) | (go_at_call 30; (with_reducible refine (clusterlocksref03_Valid.calls a1 true _ A5.out).mono ?_); rintro e w' ⟨rfl, ⟨nd, rfl⟩⟩))
      go_ret
      exact ⟨by first | rfl | (simp; done) | (simp [*]; done), by repeat (first | exact Drawn0.refl _ | apply Drawn0.step)⟩
     ·rw [if_neg c9] at H
      have c9b0 : (a0 == 1) = false := beq_eq_false_iff_ne.mpr c9
      have c9b1 : (a0 != 1) = true := bne_iff_ne.mpr c9
      by_cases c10 : a1 = 1
      ·rw [if_pos c10] at H
       have c10b0 : (a1 == 1) = true := beq_iff_eq.mpr c10
       have c10b1 : (a1 != 1) = false := bne_eq_false_iff_eq.mpr c10
       clear c10
       obtain rfl := Option.some.inj H
       go_enter Tryd.func39, Tryd.ntmps39
       go_wp2_with (first | ((with_reducible refine gate_callee (f := 30) rfl ?_); refine goesL_ (some 6) rfl rfl Tryd.func30 (by kernel_rfl) rfl #[.int .i64 a0] rfl (by (try simp only [List.map_toArray, List.map_cons, List.map_nil]); first | done | rfl | (simp only [List.length_drop, List.length_take]; rfl)) ?_; (with_reducible refine (clusterlocksref03_Valid.calls a0 true _ A3.out).mono ?_); rintro e w' ⟨rfl, ⟨nd, rfl⟩⟩; refine ⟨_, rfl, ?_⟩) | (go_at_call 30; (with_reducible refine (clusterlocksref03_Valid.calls a1 true _ A5.out).mono ?_); rintro e w' ⟨rfl, ⟨nd, rfl⟩⟩))
       go_ret
       exact ⟨by first | rfl | (simp; done) | (simp [*]; done), by repeat (first | exact Drawn0.refl _ | apply Drawn0.step)⟩
      ·rw [if_neg c10] at H
       have c10b0 : (a1 == 1) = false := beq_eq_false_iff_ne.mpr c10
       have c10b1 : (a1 != 1) = true := bne_iff_ne.mpr c10
       by_cases c11 : a0 = a1
       ·rw [if_pos c11] at H
        have c11b0 : (a0 == a1) = true := beq_iff_eq.mpr c11
        have c11b1 : (a0 != a1) = false := bne_eq_false_iff_eq.mpr c11
        clear c11
        obtain rfl := Option.some.inj H
        go_enter Tryd.func39, Tryd.ntmps39
        go_wp2_with (first | ((with_reducible refine gate_callee (f := 30) rfl ?_); refine goesL_ (some 6) rfl rfl Tryd.func30 (by kernel_rfl) rfl #[.int .i64 a0] rfl (by (try simp only [List.map_toArray, List.map_cons, List.map_nil]); first | done | rfl | (simp only [List.length_drop, List.length_take]; rfl)) ?_; (with_reducible refine (clusterlocksref03_Valid.calls a0 true _ A3.out).mono ?_); rintro e w' ⟨rfl, ⟨nd, rfl⟩⟩; refine ⟨_, rfl, ?_⟩) | (go_at_call 30; (with_reducible refine (clusterlocksref03_Valid.calls a1 true _ A5.out).mono ?_); rintro e w' ⟨rfl, ⟨nd, rfl⟩⟩))
        go_ret
        exact ⟨by first | rfl | (simp; done) | (simp [*]; done), by repeat (first | exact Drawn0.refl _ | apply Drawn0.step)⟩
       ·rw [if_neg c11] at H
        have c11b0 : (a0 == a1) = false := beq_eq_false_iff_ne.mpr c11
        have c11b1 : (a0 != a1) = true := bne_iff_ne.mpr c11
        obtain rfl := Option.some.inj H
        go_enter Tryd.func39, Tryd.ntmps39
        go_wp2_with (first | ((with_reducible refine gate_callee (f := 30) rfl ?_); refine goesL_ (some 6) rfl rfl Tryd.func30 (by kernel_rfl) rfl #[.int .i64 a0] rfl (by (try simp only [List.map_toArray, List.map_cons, List.map_nil]); first | done | rfl | (simp only [List.length_drop, List.length_take]; rfl)) ?_; (with_reducible refine (clusterlocksref03_Valid.calls a0 true _ A3.out).mono ?_); rintro e w' ⟨rfl, ⟨nd, rfl⟩⟩; refine ⟨_, rfl, ?_⟩) | (go_at_call 30; (with_reducible refine (clusterlocksref03_Valid.calls a1 true _ A5.out).mono ?_); rintro e w' ⟨rfl, ⟨nd, rfl⟩⟩))
        go_ret
        exact ⟨by first | rfl | (simp; done) | (simp [*]; done), by repeat (first | exact Drawn0.refl _ | apply Drawn0.step)⟩
  ·replace c6 := Bool.eq_false_iff.mpr c6
   subst c6
   have H1 : (some false) = some r := by rw [if_neg (show ¬ (false = true) by decide)] at H; exact H
   clear H
   have H := H1
   clear H1
   obtain rfl := Option.some.inj H
   go_enter Tryd.func39, Tryd.ntmps39
   go_wp2_with (first | ((with_reducible refine gate_callee (f := 30) rfl ?_); refine goesL_ (some 6) rfl rfl Tryd.func30 (by kernel_rfl) rfl #[.int .i64 a0] rfl (by (try simp only [List.map_toArray, List.map_cons, List.map_nil]); first | done | rfl | (simp only [List.length_drop, List.length_take]; rfl)) ?_; (with_reducible refine (clusterlocksref03_Valid.calls a0 true _ A3.out).mono ?_); rintro e w' ⟨rfl, ⟨nd, rfl⟩⟩; refine ⟨_, rfl, ?_⟩) | (go_at_call 30; (with_reducible refine (clusterlocksref03_Valid.calls a1 false _ A5.out).mono ?_); rintro e w' ⟨rfl, ⟨nd, rfl⟩⟩))
   go_ret
   exact ⟨by first | rfl | (simp; done) | (simp [*]; done), by repeat (first | exact Drawn0.refl _ | apply Drawn0.step)⟩
 ·replace c4 := Bool.eq_false_iff.mpr c4
  subst c4
  have H1 : (some false) = some r := by rw [if_neg (show ¬ (false = true) by decide)] at H; exact H
  clear H
  have H := H1
  clear H1
  obtain rfl := Option.some.inj H
  go_enter Tryd.func39, Tryd.ntmps39
  go_wp2_with (first | ((with_reducible refine gate_callee (f := 30) rfl ?_); refine goesL_ (some 6) rfl rfl Tryd.func30 (by kernel_rfl) rfl #[.int .i64 a0] rfl (by (try simp only [List.map_toArray, List.map_cons, List.map_nil]); first | done | rfl | (simp only [List.length_drop, List.length_take]; rfl)) ?_; (with_reducible refine (clusterlocksref03_Valid.calls a0 false _ A3.out).mono ?_); rintro e w' ⟨rfl, ⟨nd, rfl⟩⟩; refine ⟨_, rfl, ?_⟩))
  go_ret
  exact ⟨by first | rfl | (simp; done) | (simp [*]; done), by repeat (first | exact Drawn0.refl _ | apply Drawn0.step)⟩

end Go.Proofs.YtlkhdhjdcgiciaaDoor.PA
