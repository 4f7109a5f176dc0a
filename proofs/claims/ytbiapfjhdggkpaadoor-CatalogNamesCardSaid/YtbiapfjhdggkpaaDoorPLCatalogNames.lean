-- Printed by wip/tool/myprint.py for this claim; Lean checks it.
import Derived.Test.YtbiapfjhdggkpaaDoorPAx0
import Derived.Test.YtbiapfjhdggkpaaDoorPAx2
import Derived.Test.YtbiapfjhdggkpaaDoorPAx4
import Derived.Test.YtbiapfjhdggkpaaDoorSlim
namespace Go.Proofs.YtbiapfjhdggkpaaDoor.PA
open Go.RowKit Go.Proofs.YtbiapfjhdggkpaaDoorW.PrintWords Go.Proofs.YtbiapfjhdggkpaaDoorW.PrintLast Go.Proofs.YtbiapfjhdggkpaaDoorW.PrintMore
attribute [local go_sem] max2_int min2_int max_two min_two max_three min_three max_four min_four   -- for this text's walks alone
set_option linter.unusedVariables false
set_option linter.unusedSimpArgs false

/-! ### clusterlockslaw05_CatalogNames: function 3 -/
def clusterlockslaw05_CatalogNames.f (k : Nat) (a0 : ByteArray) : Option (Bool) := (clusterlockslaw05_awake.f k).bind fun t121 => (if t121 = true then ((catalog_Reserved.f a0).bind fun t122 => ((clusterlocksref05_Reserved.f a0).bind fun t123 => (if (t122 == t123) = true then ((catalog_ValidName.f k a0).bind fun t124 => ((clusterlocksref05_ValidName.f k a0).bind fun t125 => (some (t124 == t125)))) else (some false)))) else (some false))
theorem clusterlockslaw05_CatalogNames.mono : ∀ a0 k, LeO (clusterlockslaw05_CatalogNames.f k a0) (clusterlockslaw05_CatalogNames.f (k + 1) a0) := by
 intro a0 k
 unfold clusterlockslaw05_CatalogNames.f
 repeat' first
   | (with_reducible exact catalog_ValidName.mono _ _)
   | (with_reducible exact clusterlockslaw05_awake.mono _)
   | (with_reducible exact clusterlocksref05_ValidName.mono _ _)
   | (with_reducible exact LeO.refl _)
   | (with_reducible exact LeO.none _)
   | (with_reducible refine LeO.ite ?_ ?_)
   | (with_reducible refine LeO.bind ?_ (fun _ => ?_))
   | exact catalog_ValidName.mono _ _
   | exact clusterlockslaw05_awake.mono _
   | exact clusterlocksref05_ValidName.mono _ _
   | exact LeO.none _
   | refine LeO.ite ?_ ?_
   | refine LeO.bind ?_ (fun _ => ?_)
set_option maxHeartbeats 8000000 in
set_option maxRecDepth 100000 in
theorem clusterlockslaw05_CatalogNames.calls (k : Nat) (a0 : ByteArray) (r : Bool) (w : World) (h : clusterlockslaw05_CatalogNames.f k a0 = some r) (hT : r = true) :
  Calls Tryd.prog 3 #[.string a0] w fun e w' => e = .returned (.bool r) ∧ Below w.heap.size w w' := by
 have HB := Aside0.mk (Below.refl w.heap.size w)
 have H : ((clusterlockslaw05_awake.f k).bind fun t121 => (if t121 = true then ((catalog_Reserved.f a0).bind fun t122 => ((clusterlocksref05_Reserved.f a0).bind fun t123 => (if (t122 == t123) = true then ((catalog_ValidName.f k a0).bind fun t124 => ((clusterlocksref05_ValidName.f k a0).bind fun t125 => (some (t124 == t125)))) else (some false)))) else (some false))) = some r := h
 have HRT := Aside0.mk hT
 clear h
 obtain ⟨t121, A20, H⟩ := Option.bind_eq_some_iff.mp H
 have A2 := Aside0.mk A20; clear A20
 have HH_ := Aside0.mk H
 clear H
 go_enter Tryd.func3, Tryd.ntmps3
 have H := HH_.out
 clear HH_
 by_cases c3 : t121 = true
 ·subst c3
  rw [if_pos rfl] at H
  obtain ⟨t122, A40, H⟩ := Option.bind_eq_some_iff.mp H
  have A4 := Aside0.mk A40; clear A40
  obtain ⟨t123, A50, H⟩ := Option.bind_eq_some_iff.mp H
  have A5 := Aside0.mk A50; clear A50
  by_cases c6 : (t122 == t123) = true
  ·rw [if_pos c6] at H
   have c6b0 : (t122 == t123) = true := c6
   (try (have c6b1 : decide (t122 = t123) = true := by simpa using c6))
   (try (have c6b2 : (t122 == t123) = true := by simpa using c6))
   clear c6
   obtain ⟨t124, A70, H⟩ := Option.bind_eq_some_iff.mp H
   have A7 := Aside0.mk A70; clear A70
   obtain ⟨t125, A80, H⟩ := Option.bind_eq_some_iff.mp H
   have A8 := Aside0.mk A80; clear A80
   obtain rfl := Option.some.inj H
   (try simp only [c6b0, c6b1, c6b2])
   go_wp2_with (first | ((with_reducible refine gate_callee (f := 13) rfl ?_); refine goesL_ (some 3) rfl rfl Tryd.func13 (by kernel_rfl) rfl #[] rfl (by (try simp only [mA]); first | done | rfl) ?_; (with_reducible refine (clusterlockslaw05_awake.calls k  true _ A2.out).mono ?_); rintro e w9 ⟨rfl, hb⟩; refine ⟨_, rfl, ?_⟩; replace HB := bB HB hb; (try clear hb)) | (go_at_call 14; (with_reducible refine (catalog_Reserved.calls a0 t122 _ A4.out).mono ?_); rintro e w' ⟨rfl, ⟨nd, rfl⟩⟩) | (go_at_call 15; (with_reducible refine (clusterlocksref05_Reserved.calls a0 t123 _ A5.out).mono ?_); rintro e w' ⟨rfl, ⟨nd, rfl⟩⟩) | (go_at_call 16; (with_reducible refine (catalog_ValidName.calls k a0 t124 _ A7.out).mono ?_); rintro e w' ⟨rfl, ⟨nd, rfl⟩⟩) | (go_at_call 17; (with_reducible refine (clusterlocksref05_ValidName.calls k a0 t125 _ A8.out).mono ?_); rintro e w' ⟨rfl, ⟨nd, rfl⟩⟩))
   go_ret
   exact ⟨by first | rfl | (simp [errW_none, errW_some] <;> rfl) | (simp [*, errW_none, errW_some] <;> rfl), (uS HB)⟩
  ·rw [if_neg c6] at H
   have c6b0 : (t122 == t123) = false := by simpa using c6
   (try (have c6b1 : decide (t122 = t123) = false := by simpa using c6))
   (try (have c6b2 : (t122 == t123) = false := by simpa using c6))
   (try (have c6b3 : ¬ (t122 = t123) := by simpa using c6))
   clear c6
   exact absurd (Option.some.inj H) (by rw [HRT.out]; decide)
 ·replace c3 := Bool.eq_false_iff.mpr c3
  subst c3
  rw [if_neg (show ¬ (false = true) by decide)] at H
  exact absurd (Option.some.inj H) (by rw [HRT.out]; decide)
end Go.Proofs.YtbiapfjhdggkpaaDoor.PA
