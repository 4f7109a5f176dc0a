-- Printed by wip/tool/myprint.py for this claim; Lean checks it.
import Derived.Test.YtnmemkphfgdplaaDoorPAx0
import Derived.Test.YtnmemkphfgdplaaDoorSlim
import Derived.Test.YtnmemkphfgdplaaDoorPAx1
import Derived.Test.YtnmemkphfgdplaaDoorPAx4
import Derived.Test.YtnmemkphfgdplaaDoorPAx9
import Derived.Test.YtnmemkphfgdplaaDoorPAx10
import Derived.Test.YtnmemkphfgdplaaDoorPAx19
import Derived.Test.YtnmemkphfgdplaaDoorPAxM
import Derived.Test.YtnmemkphfgdplaaDoorPAx23
namespace Go.Proofs.YtnmemkphfgdplaaDoor.PA
open Go.RowKit Go.Proofs.YtnmemkphfgdplaaDoorW.PrintWords Go.Proofs.YtnmemkphfgdplaaDoorW.PrintLast Go.Proofs.YtnmemkphfgdplaaDoorW.PrintMore
attribute [local go_sem] max2_int min2_int max_two min_two max_three min_three max_four min_four   -- for this text's walks alone
set_option linter.unusedVariables false
set_option linter.unusedSimpArgs false
abbrev q27_0 : Array Bool := #[F,F,F,F,F,F,F,F,F,F,F,F,F,F,F,F,F,F,F,F,F,F,F,F,F,F,F,F,F,F,F,F,F,F,F,F,F,F]
abbrev q27_1 : Array Bool := #[T,F,F,F,F,F,F,F,F,F,F,F,F,F,F,F,F,F,F,F,F,F,F,F,F,F,F,F,F,F,F,F,F,F,F,F,F,F]
abbrev q27_2 : Array Bool := #[T,T,F,F,F,F,F,F,F,F,F,F,F,F,F,F,F,F,F,F,F,F,F,F,F,F,F,F,F,F,F,F,F,F,F,F,F,F]
abbrev q27_3 : Array Bool := #[T,T,T,F,F,F,F,F,F,F,F,F,F,F,F,F,F,F,F,F,F,F,F,F,F,F,F,F,F,F,F,F,F,F,F,F,F,F]
abbrev q27_4 : Array Bool := #[T,T,T,T,F,F,F,F,F,F,F,F,F,F,F,F,F,F,F,F,F,F,F,F,F,F,F,F,F,F,F,F,F,F,F,F,F,F]
abbrev q27_5 : Array Bool := #[T,T,T,T,F,T,F,F,F,F,F,F,F,F,F,F,F,F,F,F,F,F,F,F,F,F,F,F,F,F,F,F,F,F,F,F,F,F]
abbrev q27_6 : Array Bool := #[T,T,T,T,T,T,F,F,F,F,F,F,F,F,F,F,F,F,F,F,F,F,F,F,F,F,F,F,F,F,F,F,F,F,F,F,F,F]
abbrev q27_7 : Array Bool := #[T,T,T,T,T,T,T,F,F,F,F,F,F,F,F,F,F,F,F,F,F,F,F,F,F,F,F,F,F,F,F,F,F,F,F,F,F,F]
abbrev q27_8 : Array Bool := #[T,T,T,T,T,T,T,T,F,F,F,F,F,F,F,F,F,F,F,F,F,F,F,F,F,F,F,F,F,F,F,F,F,F,F,F,F,F]
abbrev q27_9 : Array Bool := #[T,T,T,T,T,T,T,T,T,F,F,F,F,F,F,F,F,F,F,F,F,F,F,F,F,F,F,F,F,F,F,F,F,F,F,F,F,F]
abbrev q27_10 : Array Bool := #[T,T,T,T,T,T,T,T,T,T,F,F,F,F,F,F,F,F,F,F,F,F,F,F,F,F,F,F,F,F,F,F,F,F,F,F,F,F]
abbrev q27_11 : Array Bool := #[T,T,T,T,T,T,T,T,T,T,T,F,F,F,F,F,F,F,F,F,F,F,F,F,F,F,F,F,F,F,F,F,F,F,F,F,F,F]
abbrev q27_12 : Array Bool := #[T,T,T,T,T,T,T,T,T,T,T,T,F,F,F,F,F,F,F,F,F,F,F,F,F,F,F,F,F,F,F,F,F,F,F,F,F,F]
abbrev q27_13 : Array Bool := #[T,T,T,T,T,T,T,T,T,T,T,T,T,F,F,F,F,F,F,F,F,F,F,F,F,F,F,F,F,F,F,F,F,F,F,F,F,F]
abbrev q27_14 : Array Bool := #[T,T,T,T,T,T,T,T,T,T,T,T,T,T,F,F,F,F,F,F,F,F,F,F,F,F,F,F,F,F,F,F,F,F,F,F,F,F]
abbrev q27_15 : Array Bool := #[T,T,T,T,T,T,T,T,T,T,T,T,T,T,T,F,F,F,F,F,F,F,F,F,F,F,F,F,F,F,F,F,F,F,F,F,F,F]
abbrev q27_16 : Array Bool := #[T,T,T,T,T,T,T,T,T,T,T,T,T,T,T,T,F,F,F,F,F,F,F,F,F,F,F,F,F,F,F,F,F,F,F,F,F,F]
abbrev q27_17 : Array Bool := #[T,T,T,T,T,T,T,T,T,T,T,T,T,T,T,T,T,F,F,F,F,F,F,F,F,F,F,F,F,F,F,F,F,F,F,F,F,F]
abbrev q27_18 : Array Bool := #[T,T,T,T,T,T,T,T,T,T,T,T,T,T,T,T,T,T,F,F,F,F,F,F,F,F,F,F,F,F,F,F,F,F,F,F,F,F]
abbrev q27_19 : Array Bool := #[T,T,T,T,T,T,T,T,T,T,T,T,T,T,T,T,T,T,T,F,F,F,F,F,F,F,F,F,F,F,F,F,F,F,F,F,F,F]
abbrev q27_20 : Array Bool := #[T,T,T,T,T,T,T,T,T,T,T,T,T,T,T,T,T,T,T,T,F,F,F,F,F,F,F,F,F,F,F,F,F,F,F,F,F,F]
abbrev q27_21 : Array Bool := #[T,T,T,T,T,T,T,T,T,T,T,T,T,T,T,T,T,T,T,T,T,T,T,T,F,F,F,F,F,F,F,F,F,F,F,F,F,F]
abbrev q27_22 : Array Bool := #[T,T,T,T,T,T,T,T,T,T,T,T,T,T,T,T,T,T,T,T,T,T,T,T,T,F,F,F,F,F,F,F,F,F,F,F,F,F]
abbrev q27_23 : Array Bool := #[T,T,T,T,T,T,T,T,T,T,T,T,T,T,T,T,T,T,T,T,T,T,T,T,T,T,F,F,F,F,F,F,F,F,F,F,F,F]
abbrev q27_24 : Array Bool := #[T,T,T,T,T,T,T,T,T,T,T,T,T,T,T,T,T,T,T,T,T,T,T,T,T,T,T,F,F,F,F,F,F,F,F,F,F,F]
abbrev q27_25 : Array Bool := #[T,T,T,T,T,T,T,T,T,T,T,T,T,T,T,T,T,T,T,T,T,T,T,T,T,T,T,T,F,F,F,F,F,F,F,F,F,F]
abbrev q27_26 : Array Bool := #[T,T,T,T,T,T,T,T,T,T,T,T,T,T,T,T,T,T,T,T,T,T,T,T,T,T,T,T,T,T,T,T,F,F,F,F,F,F]
abbrev q27_27 : Array Bool := #[T,T,T,T,T,T,T,T,T,T,T,T,T,T,T,T,T,T,T,T,T,T,T,T,T,T,T,T,T,T,T,T,T,F,F,F,F,F]
abbrev q27_28 : Array Bool := #[T,T,T,T,T,T,T,T,T,T,T,T,T,T,T,T,T,T,T,T,T,T,T,T,T,T,T,T,T,T,T,T,T,T,F,F,F,F]
abbrev q27_29 : Array Bool := #[T,T,T,T,T,T,T,T,T,T,T,T,T,T,T,T,T,T,T,T,T,T,T,T,T,T,T,T,T,T,T,T,T,T,T,F,F,F]
abbrev q27_30 : Array Bool := #[T,T,T,T,T,T,T,T,T,T,T,T,T,T,T,T,T,T,T,T,T,T,T,T,T,T,T,T,T,T,T,T,T,T,T,T,F,F]
abbrev q27_31 : Array Bool := #[T,T,T,T,T,T,T,T,T,T,T,T,T,T,T,T,T,T,T,T,T,T,T,T,T,T,T,T,T,T,T,T,T,T,T,T,T,F]
abbrev q27_32 : Array Bool := #[T,T,T,T,T,T,T,T,T,T,T,T,T,T,T,T,T,T,T,T,T,T,T,T,T,T,T,T,T,T,T,T,T,T,T,T,T,T]

attribute [local go_sem high] eqA24 eqA26
/-! ### clusterlockslaw10_HoldersGets: function 9 -/
def clusterlockslaw10_HoldersGets.f (k : Nat) (a0 : Int) (l1 : List Int) (a2 : Int) (a3 : Int) (a4 : Int) : Option (Bool) := (clusterlocksmill_Light.f l1).bind fun t525 => (if t525 = true then ((clusterlocksmill_Resource.f k a0).bind fun bt527 => ((clusterlockslaw10_made.f k bt527.1 bt527.2.1 bt527.2.2.1 bt527.2.2.2 l1).bind fun t532 => ((clusterlocksmill_Proc.f a2).bind fun bt535 => ((clusterlocksmill_Proc.f a4).bind fun bt538 => ((clusterlocksmill_Amount.f bt527.1 bt527.2.1 bt527.2.2.1 bt527.2.2.2 a3).bind fun bt543 => ((holders_Set.f k t532 bt535.1 bt535.2.1 bt535.2.2 bt543.1 bt543.2).bind fun t546 => ((holders_Set.f k t546 bt535.1 bt535.2.1 bt535.2.2 0 0).bind fun t549 => ((clusterlockslaw10_awake.f k).bind fun t552 => (if t552 = true then ((holders_Get.f k t546 bt535.1 bt535.2.1 bt535.2.2).bind fun bt553 => (if (bt553.1 == bt543.1 && (bt553.2 == bt543.2)) = true then ((holders_Get.f k t549 bt535.1 bt535.2.1 bt535.2.2).bind fun bt555 => ((clusterlocksref04_Zero.f bt555.1 bt555.2).bind fun t557 => (if t557 = true then (if (bt535.1 == bt538.1 && (bt535.2.1 == bt538.2.1 && (bt535.2.2 == bt538.2.2))) = true then (some true) else ((holders_Get.f k t546 bt538.1 bt538.2.1 bt538.2.2).bind fun bt558 => ((clusterlocksref10_Get.f k t532 bt538.1 bt538.2.1 bt538.2.2).bind fun bt560 => (if (bt558.1 == bt560.1 && (bt558.2 == bt560.2)) = true then ((holders_Get.f k t549 bt538.1 bt538.2.1 bt538.2.2).bind fun bt562 => ((clusterlocksref10_Get.f k t532 bt538.1 bt538.2.1 bt538.2.2).bind fun bt564 => (some (bt562.1 == bt564.1 && (bt562.2 == bt564.2))))) else (some false))))) else (some false)))) else (some false))) else (some false)))))))))) else ((clusterlockslaw10_awake.f k).bind fun t526 => (some t526)))
theorem clusterlockslaw10_HoldersGets.mono : ∀ a0 a1 a2 a3 a4 k, LeO (clusterlockslaw10_HoldersGets.f k a0 a1 a2 a3 a4) (clusterlockslaw10_HoldersGets.f (k + 1) a0 a1 a2 a3 a4) := by
 intro a0 a1 a2 a3 a4 k
 unfold clusterlockslaw10_HoldersGets.f
 repeat' first
   | (with_reducible exact clusterlockslaw10_awake.mono _)
   | (with_reducible exact clusterlockslaw10_made.mono _ _ _ _ _ _)
   | (with_reducible exact clusterlocksmill_Resource.mono _ _)
   | (with_reducible exact clusterlocksref10_Get.mono _ _ _ _ _)
   | (with_reducible exact holders_Get.mono _ _ _ _ _)
   | (with_reducible exact holders_Set.mono _ _ _ _ _ _ _)
   | (with_reducible exact LeO.refl _)
   | (with_reducible exact LeO.none _)
   | (with_reducible refine LeO.ite ?_ ?_)
   | (with_reducible refine LeO.bind ?_ (fun _ => ?_))
   | exact clusterlockslaw10_awake.mono _
   | exact clusterlockslaw10_made.mono _ _ _ _ _ _
   | exact clusterlocksmill_Resource.mono _ _
   | exact clusterlocksref10_Get.mono _ _ _ _ _
   | exact holders_Get.mono _ _ _ _ _
   | exact holders_Set.mono _ _ _ _ _ _ _
   | exact LeO.none _
   | refine LeO.ite ?_ ?_
   | refine LeO.bind ?_ (fun _ => ?_)
def clusterlockslaw10_HoldersGets.T9 : Bool × List (List Nat × List Nat) := (true, [([], []), ([0, 0], [0]), ([1], [1]), ([1], [1]), ([2, 3, 1, 1], [1, 2, 3]), ([1], [1]), ([4, 5, 1], [1, 4, 5]), ([1, 6], [1, 6]), ([7, 4], [7]), ([8], [8]), ([8], [8]), ([9, 10, 8, 8], [8, 9, 10]), ([11, 11, 8], [8, 11]), ([8, 12], [8, 12]), ([13, 12], [13]), ([14], [14]), ([14], [14]), ([15, 16, 14], [14, 15, 16]), ([17, 14, 14], [14, 17]), ([18], [18]), ([18], [18]), ([19, 20, 18, 18], [18, 19, 20]), ([18], [18]), ([18], [18]), ([22, 23, 21, 18], [18, 22, 23]), ([21, 24, 18], [18, 21, 24]), ([25, 24, 18], [18, 25]), ([26], [26]), ([26], [26]), ([27, 28, 26, 26], [26, 27, 28]), ([26], [26]), ([26], [26]), ([30, 31, 29, 26], [26, 30, 31]), ([29, 32, 26], [26, 29, 32]), ([26, 33, 18], [18, 26, 33]), ([18, 34, 14], [14, 18, 34]), ([14, 35], [14, 35]), ([36, 32, 0, 1, 2, 3, 4, 5, 6, 7, 8, 9, 10, 11, 12, 13, 14, 15, 16, 17, 18, 19, 20, 21, 22, 23, 24, 25, 26, 27, 28, 29, 30, 31, 32, 33, 34, 35, 36], [36])])
def clusterlockslaw10_HoldersGets.B9 : List Nat := [0, 1, 3, 3, 15, 3, 63, 127, 255, 511, 511, 2047, 4095, 8191, 16383, 32767, 32767, 131071, 262143, 524287, 524287, 2097151, 524287, 524287, 16777215, 33554431, 67108863, 134217727, 134217727, 536870911, 134217727, 134217727, 4294967295, 8589934591, 17179869183, 34359738367, 68719476735, 137438953471]
theorem clusterlockslaw10_HoldersGets.tab9 : rtab .any (opsOf Tryd.f9 9) = clusterlockslaw10_HoldersGets.T9 := by kernel_rfl
theorem clusterlockslaw10_HoldersGets.bits9 : waitsOk clusterlockslaw10_HoldersGets.T9.2 clusterlockslaw10_HoldersGets.B9 = true := by kernel_rfl
set_option maxHeartbeats 8000000 in
set_option maxRecDepth 100000 in
theorem clusterlockslaw10_HoldersGets.calls (k : Nat) (a0 : Int) (A1 : Option Addr) (c1 : Nat) (l1 : List Int) (a2 : Int) (a3 : Int) (a4 : Int) (r : Bool) (w : World) (hr1 : Kd.C (Kd.int .i64) w A1 l1.length l1) (hc1 : l1.length ≤ c1) (hG : GL w) (h : clusterlockslaw10_HoldersGets.f k a0 l1 a2 a3 a4 = some r) (hT : r = true) :
  Calls Tryd.prog 9 #[.int .i64 a0, .slice A1 l1.length c1, .int .i64 a2, .int .i64 a3, .int .i64 a4] w fun e w' => e = .returned (.bool r) ∧ Below w.heap.size w w' := by
 have hu32 := Tryd.underlying32
 have hu24 := Tryd.underlying24
 have hu26 := Tryd.underlying26
 have HG := Aside0.mk hG
 clear hG
 have HR1 := Aside0.mk hr1
 have HC1 := Aside0.mk hc1
 clear hr1 hc1
 have HB := Aside0.mk (Below.refl w.heap.size w)
 have H : ((clusterlocksmill_Light.f l1).bind fun t525 => (if t525 = true then ((clusterlocksmill_Resource.f k a0).bind fun bt527 => ((clusterlockslaw10_made.f k bt527.1 bt527.2.1 bt527.2.2.1 bt527.2.2.2 l1).bind fun t532 => ((clusterlocksmill_Proc.f a2).bind fun bt535 => ((clusterlocksmill_Proc.f a4).bind fun bt538 => ((clusterlocksmill_Amount.f bt527.1 bt527.2.1 bt527.2.2.1 bt527.2.2.2 a3).bind fun bt543 => ((holders_Set.f k t532 bt535.1 bt535.2.1 bt535.2.2 bt543.1 bt543.2).bind fun t546 => ((holders_Set.f k t546 bt535.1 bt535.2.1 bt535.2.2 0 0).bind fun t549 => ((clusterlockslaw10_awake.f k).bind fun t552 => (if t552 = true then ((holders_Get.f k t546 bt535.1 bt535.2.1 bt535.2.2).bind fun bt553 => (if (bt553.1 == bt543.1 && (bt553.2 == bt543.2)) = true then ((holders_Get.f k t549 bt535.1 bt535.2.1 bt535.2.2).bind fun bt555 => ((clusterlocksref04_Zero.f bt555.1 bt555.2).bind fun t557 => (if t557 = true then (if (bt535.1 == bt538.1 && (bt535.2.1 == bt538.2.1 && (bt535.2.2 == bt538.2.2))) = true then (some true) else ((holders_Get.f k t546 bt538.1 bt538.2.1 bt538.2.2).bind fun bt558 => ((clusterlocksref10_Get.f k t532 bt538.1 bt538.2.1 bt538.2.2).bind fun bt560 => (if (bt558.1 == bt560.1 && (bt558.2 == bt560.2)) = true then ((holders_Get.f k t549 bt538.1 bt538.2.1 bt538.2.2).bind fun bt562 => ((clusterlocksref10_Get.f k t532 bt538.1 bt538.2.1 bt538.2.2).bind fun bt564 => (some (bt562.1 == bt564.1 && (bt562.2 == bt564.2))))) else (some false))))) else (some false)))) else (some false))) else (some false)))))))))) else ((clusterlockslaw10_awake.f k).bind fun t526 => (some t526)))) = some r := h
 have HRT := Aside0.mk hT
 clear h
 obtain ⟨t525, A60, H⟩ := Option.bind_eq_some_iff.mp H
 have A6 := Aside0.mk A60; clear A60
 by_cases c7 : t525 = true
 ·subst c7
  rw [if_pos rfl] at H
  replace H := Option.bind_eq_some_iff.mp H
  obtain ⟨⟨t527, t528, t529, t530⟩, A80, H⟩ := H
  replace H : ((clusterlockslaw10_made.f k t527 t528 t529 t530 l1).bind fun t532 => ((clusterlocksmill_Proc.f a2).bind fun bt535 => ((clusterlocksmill_Proc.f a4).bind fun bt538 => ((clusterlocksmill_Amount.f t527 t528 t529 t530 a3).bind fun bt543 => ((holders_Set.f k t532 bt535.1 bt535.2.1 bt535.2.2 bt543.1 bt543.2).bind fun t546 => ((holders_Set.f k t546 bt535.1 bt535.2.1 bt535.2.2 0 0).bind fun t549 => ((clusterlockslaw10_awake.f k).bind fun t552 => (if t552 = true then ((holders_Get.f k t546 bt535.1 bt535.2.1 bt535.2.2).bind fun bt553 => (if (bt553.1 == bt543.1 && (bt553.2 == bt543.2)) = true then ((holders_Get.f k t549 bt535.1 bt535.2.1 bt535.2.2).bind fun bt555 => ((clusterlocksref04_Zero.f bt555.1 bt555.2).bind fun t557 => (if t557 = true then (if (bt535.1 == bt538.1 && (bt535.2.1 == bt538.2.1 && (bt535.2.2 == bt538.2.2))) = true then (some true) else ((holders_Get.f k t546 bt538.1 bt538.2.1 bt538.2.2).bind fun bt558 => ((clusterlocksref10_Get.f k t532 bt538.1 bt538.2.1 bt538.2.2).bind fun bt560 => (if (bt558.1 == bt560.1 && (bt558.2 == bt560.2)) = true then ((holders_Get.f k t549 bt538.1 bt538.2.1 bt538.2.2).bind fun bt562 => ((clusterlocksref10_Get.f k t532 bt538.1 bt538.2.1 bt538.2.2).bind fun bt564 => (some (bt562.1 == bt564.1 && (bt562.2 == bt564.2))))) else (some false))))) else (some false)))) else (some false))) else (some false))))))))) = some r := H
  have A8 := Aside0.mk A80; clear A80
  obtain ⟨t532, A90, H⟩ := Option.bind_eq_some_iff.mp H
  have A9 := Aside0.mk A90; clear A90
  replace H := Option.bind_eq_some_iff.mp H
  obtain ⟨⟨t535, t536, t537⟩, A100, H⟩ := H
  replace H : ((clusterlocksmill_Proc.f a4).bind fun bt538 => ((clusterlocksmill_Amount.f t527 t528 t529 t530 a3).bind fun bt543 => ((holders_Set.f k t532 t535 t536 t537 bt543.1 bt543.2).bind fun t546 => ((holders_Set.f k t546 t535 t536 t537 0 0).bind fun t549 => ((clusterlockslaw10_awake.f k).bind fun t552 => (if t552 = true then ((holders_Get.f k t546 t535 t536 t537).bind fun bt553 => (if (bt553.1 == bt543.1 && (bt553.2 == bt543.2)) = true then ((holders_Get.f k t549 t535 t536 t537).bind fun bt555 => ((clusterlocksref04_Zero.f bt555.1 bt555.2).bind fun t557 => (if t557 = true then (if (t535 == bt538.1 && (t536 == bt538.2.1 && (t537 == bt538.2.2))) = true then (some true) else ((holders_Get.f k t546 bt538.1 bt538.2.1 bt538.2.2).bind fun bt558 => ((clusterlocksref10_Get.f k t532 bt538.1 bt538.2.1 bt538.2.2).bind fun bt560 => (if (bt558.1 == bt560.1 && (bt558.2 == bt560.2)) = true then ((holders_Get.f k t549 bt538.1 bt538.2.1 bt538.2.2).bind fun bt562 => ((clusterlocksref10_Get.f k t532 bt538.1 bt538.2.1 bt538.2.2).bind fun bt564 => (some (bt562.1 == bt564.1 && (bt562.2 == bt564.2))))) else (some false))))) else (some false)))) else (some false))) else (some false))))))) = some r := H
  have A10 := Aside0.mk A100; clear A100
  replace H := Option.bind_eq_some_iff.mp H
  obtain ⟨⟨t538, t539, t540⟩, A110, H⟩ := H
  replace H : ((clusterlocksmill_Amount.f t527 t528 t529 t530 a3).bind fun bt543 => ((holders_Set.f k t532 t535 t536 t537 bt543.1 bt543.2).bind fun t546 => ((holders_Set.f k t546 t535 t536 t537 0 0).bind fun t549 => ((clusterlockslaw10_awake.f k).bind fun t552 => (if t552 = true then ((holders_Get.f k t546 t535 t536 t537).bind fun bt553 => (if (bt553.1 == bt543.1 && (bt553.2 == bt543.2)) = true then ((holders_Get.f k t549 t535 t536 t537).bind fun bt555 => ((clusterlocksref04_Zero.f bt555.1 bt555.2).bind fun t557 => (if t557 = true then (if (t535 == t538 && (t536 == t539 && (t537 == t540))) = true then (some true) else ((holders_Get.f k t546 t538 t539 t540).bind fun bt558 => ((clusterlocksref10_Get.f k t532 t538 t539 t540).bind fun bt560 => (if (bt558.1 == bt560.1 && (bt558.2 == bt560.2)) = true then ((holders_Get.f k t549 t538 t539 t540).bind fun bt562 => ((clusterlocksref10_Get.f k t532 t538 t539 t540).bind fun bt564 => (some (bt562.1 == bt564.1 && (bt562.2 == bt564.2))))) else (some false))))) else (some false)))) else (some false))) else (some false)))))) = some r := H
  have A11 := Aside0.mk A110; clear A110
  replace H := Option.bind_eq_some_iff.mp H
  obtain ⟨⟨t543, t544⟩, A120, H⟩ := H
  replace H : ((holders_Set.f k t532 t535 t536 t537 t543 t544).bind fun t546 => ((holders_Set.f k t546 t535 t536 t537 0 0).bind fun t549 => ((clusterlockslaw10_awake.f k).bind fun t552 => (if t552 = true then ((holders_Get.f k t546 t535 t536 t537).bind fun bt553 => (if (bt553.1 == t543 && (bt553.2 == t544)) = true then ((holders_Get.f k t549 t535 t536 t537).bind fun bt555 => ((clusterlocksref04_Zero.f bt555.1 bt555.2).bind fun t557 => (if t557 = true then (if (t535 == t538 && (t536 == t539 && (t537 == t540))) = true then (some true) else ((holders_Get.f k t546 t538 t539 t540).bind fun bt558 => ((clusterlocksref10_Get.f k t532 t538 t539 t540).bind fun bt560 => (if (bt558.1 == bt560.1 && (bt558.2 == bt560.2)) = true then ((holders_Get.f k t549 t538 t539 t540).bind fun bt562 => ((clusterlocksref10_Get.f k t532 t538 t539 t540).bind fun bt564 => (some (bt562.1 == bt564.1 && (bt562.2 == bt564.2))))) else (some false))))) else (some false)))) else (some false))) else (some false))))) = some r := H
  have A12 := Aside0.mk A120; clear A120
  obtain ⟨t546, A130, H⟩ := Option.bind_eq_some_iff.mp H
  have A13 := Aside0.mk A130; clear A130
  obtain ⟨t549, A140, H⟩ := Option.bind_eq_some_iff.mp H
  have A14 := Aside0.mk A140; clear A140
  obtain ⟨t552, A150, H⟩ := Option.bind_eq_some_iff.mp H
  have A15 := Aside0.mk A150; clear A150
  by_cases c16 : t552 = true
  ·subst c16
   rw [if_pos rfl] at H
   replace H := Option.bind_eq_some_iff.mp H
   obtain ⟨⟨t553, t554⟩, A170, H⟩ := H
   replace H : (if (t553 == t543 && (t554 == t544)) = true then ((holders_Get.f k t549 t535 t536 t537).bind fun bt555 => ((clusterlocksref04_Zero.f bt555.1 bt555.2).bind fun t557 => (if t557 = true then (if (t535 == t538 && (t536 == t539 && (t537 == t540))) = true then (some true) else ((holders_Get.f k t546 t538 t539 t540).bind fun bt558 => ((clusterlocksref10_Get.f k t532 t538 t539 t540).bind fun bt560 => (if (bt558.1 == bt560.1 && (bt558.2 == bt560.2)) = true then ((holders_Get.f k t549 t538 t539 t540).bind fun bt562 => ((clusterlocksref10_Get.f k t532 t538 t539 t540).bind fun bt564 => (some (bt562.1 == bt564.1 && (bt562.2 == bt564.2))))) else (some false))))) else (some false)))) else (some false)) = some r := H
   have A17 := Aside0.mk A170; clear A170
   by_cases c18 : (t553 == t543 && (t554 == t544)) = true
   ·rw [if_pos c18] at H
    have c18b0 : (t553 == t543 && (t554 == t544)) = true := c18
    (try (have c18b1 : decide (t553 = t543 && (t554 == t544)) = true := by simpa using c18))
    (try (have c18b2 : (t553 == t543 && (t554 == t544)) = true := by simpa using c18))
    clear c18
    replace H := Option.bind_eq_some_iff.mp H
    obtain ⟨⟨t555, t556⟩, A190, H⟩ := H
    replace H : ((clusterlocksref04_Zero.f t555 t556).bind fun t557 => (if t557 = true then (if (t535 == t538 && (t536 == t539 && (t537 == t540))) = true then (some true) else ((holders_Get.f k t546 t538 t539 t540).bind fun bt558 => ((clusterlocksref10_Get.f k t532 t538 t539 t540).bind fun bt560 => (if (bt558.1 == bt560.1 && (bt558.2 == bt560.2)) = true then ((holders_Get.f k t549 t538 t539 t540).bind fun bt562 => ((clusterlocksref10_Get.f k t532 t538 t539 t540).bind fun bt564 => (some (bt562.1 == bt564.1 && (bt562.2 == bt564.2))))) else (some false))))) else (some false))) = some r := H
    have A19 := Aside0.mk A190; clear A190
    obtain ⟨t557, A200, H⟩ := Option.bind_eq_some_iff.mp H
    have A20 := Aside0.mk A200; clear A200
    by_cases c21 : t557 = true
    ·subst c21
     rw [if_pos rfl] at H
     by_cases c22 : (t535 == t538 && (t536 == t539 && (t537 == t540))) = true
     ·rw [if_pos c22] at H
      have c22b0 : (t535 == t538 && (t536 == t539 && (t537 == t540))) = true := c22
      (try (have c22b1 : decide (t535 = t538 && (t536 == t539 && (t537 == t540))) = true := by simpa using c22))
      (try (have c22b2 : (t535 == t538 && (t536 == t539 && (t537 == t540))) = true := by simpa using c22))
      clear c22
      obtain rfl := Option.some.inj H
      go_enter Tryd.func9, Tryd.ntmps9
      try go_wp2_with (first | ((with_reducible refine gate_callee (f := 20) rfl ?_); refine goesL_ (some 19) rfl rfl Tryd.func20 (by kernel_rfl) rfl #[.slice A1 l1.length c1] rfl (by (try simp only [mA]); first | done | rfl) ?_; (with_reducible refine (clusterlocksmill_Light.calls _ _ l1 true _ ?side1 ?side2 A6.out).mono ?_); (case side1 => repeat (first | exact HR1.out | (with_reducible refine Kd.C_alloc ?_ _) | (with_reducible refine Kd.C_drewN ?_ _) | (with_reducible refine Kd.C_drew ?_))); (case side2 => exact HC1.out); rintro e w' ⟨rfl, ⟨nd, rfl⟩⟩; refine ⟨_, rfl, ?_⟩) | ((with_reducible refine gate_callee (f := 21) rfl ?_); refine goesL_ (some 23) rfl rfl Tryd.func21 (by kernel_rfl) rfl #[.int .i64 a0] rfl (by (try simp only [mA]); first | done | rfl) ?_; (with_reducible refine (clusterlocksmill_Resource.calls k a0 t527 t528 t529 t530 _ A8.out).mono ?_); rintro e w23 ⟨rfl, hb⟩; refine ⟨_, rfl, ?_⟩; replace HB := bB HB hb; (try clear hb); (try clear hk)) | ((with_reducible refine gate_dst (N := 11) rfl ?_); refine box_event ?hg (N := 11) ?hd (cs := #[.string (⟨#[]⟩ : ByteArray), .int .i64 0, .int .i64 0, .int .i64 0]) (t := 32) ?hr ?_; (case hd => rfl); (case hg => rfl); (case hr => first | (go_simp; done) | (go_simp; rfl)); intro gb531 hg w24 hbox hb; have BK531 := Aside0.mk hbox; have GW531 := gE HB hg; replace HB := bB HB hb; have GE531 := GW531; clear hb hbox hg; have hcz25_0 : w24.cell? ⟨gb531, 0, none⟩ = some (.string (⟨#[]⟩ : ByteArray)) := bC BK531 0 rfl; have hcz25_1 : w24.cell? ⟨gb531, 1, none⟩ = some (.int .i64 0) := bC BK531 1 rfl; have hcz25_2 : w24.cell? ⟨gb531, 2, none⟩ = some (.int .i64 0) := bC BK531 2 rfl; have hcz25_3 : w24.cell? ⟨gb531, 3, none⟩ = some (.int .i64 0) := bC BK531 3 rfl; have hfz25_0 := bF BK531 0; have hfz25_1 := bF BK531 1; have hfz25_2 := bF BK531 2; have hfz25_3 := bF BK531 3) | ((with_reducible refine gate_callee (f := 22) rfl ?_); refine goesL_ (some 26) rfl rfl Tryd.func22 (by kernel_rfl) rfl #[.agg #[.string t527, .int .i64 t528, .int .i64 t529, .int .i64 t530], .slice A1 l1.length c1] rfl (by (try simp only [mA]); first | done | rfl) ?_; (with_reducible refine (clusterlockslaw10_made.calls k t527 t528 t529 t530 _ _ l1 t532 _ ?side1 ?side2 A9.out).mono ?_); (case side1 => exact Kd.C_below HR1.out (by repeat (first | (with_reducible first | exact HB.out | apply bL | apply bM | apply bR | refine bS ?_ GE531.out) | exact HB.out))); (case side2 => exact HC1.out); rintro e w26 ⟨v533, rfl, ho0, hb⟩; refine ⟨_, rfl, ?_⟩; have HO534 := Aside0.mk (Kd.R_lower ho0 (below_size (by repeat (first | (with_reducible first | exact HB.out | apply bL | apply bM | apply bR | refine bS ?_ GE531.out) | exact HB.out)))); replace BK531 := Aside0.mk (blk_below (g := gb531) (o := .cells #[.string t527, .int .i64 t528, .int .i64 t529, .int .i64 t530] 32 (0, 0)) (by (with_reducible repeat first | refine bN ?_ _ | refine bD ?_ | refine bA ?_ _); refine blk_put (cs := #[.string t527, .int .i64 t528, .int .i64 t529, .int .i64 0]) ?_ 3 _ rfl; (with_reducible repeat first | refine bN ?_ _ | refine bD ?_ | refine bA ?_ _); refine blk_put (cs := #[.string t527, .int .i64 t528, .int .i64 0, .int .i64 0]) ?_ 2 _ rfl; (with_reducible repeat first | refine bN ?_ _ | refine bD ?_ | refine bA ?_ _); refine blk_put (cs := #[.string t527, .int .i64 0, .int .i64 0, .int .i64 0]) ?_ 1 _ rfl; (with_reducible repeat first | refine bN ?_ _ | refine bD ?_ | refine bA ?_ _); refine blk_put (cs := #[.string (⟨#[]⟩ : ByteArray), .int .i64 0, .int .i64 0, .int .i64 0]) ?_ 0 _ rfl; (with_reducible repeat first | refine bN ?_ _ | refine bD ?_ | refine bA ?_ _); exact BK531.out) hb); replace HB := Aside0.mk (below_step (by repeat (first | (with_reducible first | exact HB.out | apply bL | apply bM | apply bR | refine bS ?_ GE531.out) | exact HB.out)) hb); (try clear hb); (try clear hk); (try clear ho0)) | ((with_reducible refine gate_callee (f := 23) rfl ?_); refine goesL_ (some 28) rfl rfl Tryd.func23 (by kernel_rfl) rfl #[.int .i64 a2] rfl (by (try simp only [mA]); first | done | rfl) ?_; (with_reducible refine (clusterlocksmill_Proc.calls a2 t535 t536 t537 _ A10.out).mono ?_); rintro e w27 ⟨rfl, hb⟩; refine ⟨_, rfl, ?_⟩; replace HO534 := Aside0.mk (Kd.R_below (by (with_reducible repeat (first | apply Kd.R_alloc | apply Kd.R_drewN | apply Kd.R_drew)); exact HO534.out) hb); replace BK531 := bK BK531 hb; replace HB := Aside0.mk (below_step (by repeat (first | (with_reducible first | exact HB.out | apply bL | apply bM | apply bR | refine bS ?_ GE531.out) | exact HB.out)) hb); (try clear hb); (try clear hk)) | ((with_reducible refine gate_callee (f := 23) rfl ?_); refine goesL_ (some 30) rfl rfl Tryd.func23 (by kernel_rfl) rfl #[.int .i64 a4] rfl (by (try simp only [mA]); first | done | rfl) ?_; (with_reducible refine (clusterlocksmill_Proc.calls a4 t538 t539 t540 _ A11.out).mono ?_); rintro e w28 ⟨rfl, hb⟩; refine ⟨_, rfl, ?_⟩; replace HO534 := Aside0.mk (Kd.R_below (by (with_reducible repeat (first | apply Kd.R_alloc | apply Kd.R_drewN | apply Kd.R_drew)); exact HO534.out) hb); replace BK531 := bK BK531 hb; replace HB := Aside0.mk (below_step (by repeat (first | (with_reducible first | exact HB.out | apply bL | apply bM | apply bR | refine bS ?_ GE531.out) | exact HB.out)) hb); (try clear hb); (try clear hk)) | ((with_reducible refine gate_dst (N := 13) rfl ?_); refine box_event ?hg (N := 13) ?hd (cs := #[.int .i64 0, .int .i64 0, .int .i64 0]) (t := 24) ?hr ?_; (case hd => rfl); (case hg => rfl); (case hr => first | (go_simp; done) | (go_simp; rfl)); intro gb541 hg w29 hbox hb; replace HO534 := Aside0.mk (Kd.R_below (by (with_reducible repeat (first | apply Kd.R_alloc | apply Kd.R_drewN | apply Kd.R_drew)); exact HO534.out) hb); have BK541 := Aside0.mk hbox; have GW541 := Aside0.mk ((by rw [hg]; exact (below_size (by repeat (first | (with_reducible first | exact HB.out | apply bL | apply bM | apply bR | refine bS ?_ GE531.out) | exact HB.out))) : w.heap.size ≤ gb541)); replace HB := Aside0.mk (below_step (by repeat (first | (with_reducible first | exact HB.out | apply bL | apply bM | apply bR | refine bS ?_ GE531.out) | exact HB.out)) hb); have GE541 := GW541; have NB531_541 := gN BK531 hg; replace BK531 := bK BK531 hb; have NB541_531 := Aside0.mk NB531_541.out.symm; clear hb hbox hg) | ((with_reducible refine gate_dst (N := 14) rfl ?_); refine box_event ?hg (N := 14) ?hd (cs := #[.int .i64 0, .int .i64 0, .int .i64 0]) (t := 24) ?hr ?_; (case hd => rfl); (case hg => rfl); (case hr => first | (go_simp; done) | (go_simp; rfl)); intro gb542 hg w30 hbox hb; replace HO534 := Aside0.mk (Kd.R_below (by (with_reducible repeat (first | apply Kd.R_alloc | apply Kd.R_drewN | apply Kd.R_drew)); exact HO534.out) hb); have BK542 := Aside0.mk hbox; have GW542 := Aside0.mk ((by rw [hg]; exact (below_size (by repeat (first | (with_reducible first | exact HB.out | apply bL | apply bM | apply bR | refine bS ?_ GE531.out | refine bS ?_ GE541.out) | exact HB.out))) : w.heap.size ≤ gb542)); replace HB := Aside0.mk (below_step (by repeat (first | (with_reducible first | exact HB.out | apply bL | apply bM | apply bR | refine bS ?_ GE531.out | refine bS ?_ GE541.out) | exact HB.out)) hb); have GE542 := GW542; have NB531_542 := gN BK531 hg; replace BK531 := bK BK531 hb; have NB542_531 := Aside0.mk NB531_542.out.symm; have NB541_542 := gN BK541 hg; replace BK541 := bK BK541 hb; have NB542_541 := Aside0.mk NB541_542.out.symm; clear hb hbox hg; have hnb31 := NB541_531.out; have hnc31 := NB531_541.out; have hnb32 := NB541_542.out; have hnc32 := NB542_541.out; obtain ⟨hcz33_0, hcz33_1, hcz33_2, hfz33_0, hfz33_1, hfz33_2⟩ := d3 BK541; have hnb34 := NB542_531.out; have hnc34 := NB531_542.out; obtain ⟨hcz35_0, hcz35_1, hcz35_2, hfz35_0, hfz35_1, hfz35_2⟩ := d3 BK542; have hcz36_0 : w30.cell? ⟨gb531, 0, none⟩ = some (.string t527) := bC BK531 0 rfl; have hcz36_1 : w30.cell? ⟨gb531, 1, none⟩ = some (.int .i64 t528) := bC BK531 1 rfl; have hcz36_2 : w30.cell? ⟨gb531, 2, none⟩ = some (.int .i64 t529) := bC BK531 2 rfl; have hcz36_3 : w30.cell? ⟨gb531, 3, none⟩ = some (.int .i64 t530) := bC BK531 3 rfl; have hfz36_0 := bF BK531 0; have hfz36_1 := bF BK531 1; have hfz36_2 := bF BK531 2; have hfz36_3 := bF BK531 3) | ((with_reducible refine gate_callee (f := 24) rfl ?_); refine goesL_ (some 33) rfl rfl Tryd.func24 (by kernel_rfl) rfl #[.agg #[.string t527, .int .i64 t528, .int .i64 t529, .int .i64 t530], .int .i64 a3] rfl (by (try simp only [mA]); first | done | rfl) ?_; (with_reducible refine (clusterlocksmill_Amount.calls t527 t528 t529 t530 a3 t543 t544 _ A12.out).mono ?_); rintro e w37 ⟨rfl, hb⟩; refine ⟨_, rfl, ?_⟩; replace HO534 := Aside0.mk (Kd.R_below (by (with_reducible repeat (first | apply Kd.R_alloc | apply Kd.R_drewN | apply Kd.R_drew)); exact (Kd.R_mono (Kd.R_mono (Kd.R_far (p := ⟨gb542, 2, none⟩) (Kd.R_far (p := ⟨gb542, 1, none⟩) (Kd.R_far (p := ⟨gb542, 0, none⟩) (Kd.R_far (p := ⟨gb541, 2, none⟩) (Kd.R_far (p := ⟨gb541, 1, none⟩) (Kd.R_far (p := ⟨gb541, 0, none⟩) (Kd.R_types (Kd.R_types HO534.out BK541.out (by decide)) BK542.out (by decide)) (fun _ hk => hk.1.2) (.int .i64 t535)) (fun _ hk => hk.1.2) (.int .i64 t536)) (fun _ hk => hk.1.2) (.int .i64 t537)) (fun _ hk => hk.2) (.int .i64 t538)) (fun _ hk => hk.2) (.int .i64 t539)) (fun _ hk => hk.2) (.int .i64 t540)) (fun _ h_ => h_.1)) (fun _ h_ => h_.1))) hb); replace BK531 := Aside0.mk (blk_below (g := gb531) (o := .cells #[.string t527, .int .i64 t528, .int .i64 t529, .int .i64 t530] 32 (0, 0)) (by (with_reducible repeat first | refine bN ?_ _ | refine bD ?_ | refine bA ?_ _); refine blk_far ?_ NB531_542.out _; (with_reducible repeat first | refine bN ?_ _ | refine bD ?_ | refine bA ?_ _); refine blk_far ?_ NB531_542.out _; (with_reducible repeat first | refine bN ?_ _ | refine bD ?_ | refine bA ?_ _); refine blk_far ?_ NB531_542.out _; (with_reducible repeat first | refine bN ?_ _ | refine bD ?_ | refine bA ?_ _); refine blk_far ?_ NB531_541.out _; (with_reducible repeat first | refine bN ?_ _ | refine bD ?_ | refine bA ?_ _); refine blk_far ?_ NB531_541.out _; (with_reducible repeat first | refine bN ?_ _ | refine bD ?_ | refine bA ?_ _); refine blk_far ?_ NB531_541.out _; (with_reducible repeat first | refine bN ?_ _ | refine bD ?_ | refine bA ?_ _); exact BK531.out) hb); replace BK541 := Aside0.mk (blk_below (g := gb541) (o := .cells #[.int .i64 t535, .int .i64 t536, .int .i64 t537] 24 (0, 0)) (by (with_reducible repeat first | refine bN ?_ _ | refine bD ?_ | refine bA ?_ _); refine blk_far ?_ NB541_542.out _; (with_reducible repeat first | refine bN ?_ _ | refine bD ?_ | refine bA ?_ _); refine blk_far ?_ NB541_542.out _; (with_reducible repeat first | refine bN ?_ _ | refine bD ?_ | refine bA ?_ _); refine blk_far ?_ NB541_542.out _; (with_reducible repeat first | refine bN ?_ _ | refine bD ?_ | refine bA ?_ _); refine blk_put (cs := #[.int .i64 t535, .int .i64 t536, .int .i64 0]) ?_ 2 _ rfl; (with_reducible repeat first | refine bN ?_ _ | refine bD ?_ | refine bA ?_ _); refine blk_put (cs := #[.int .i64 t535, .int .i64 0, .int .i64 0]) ?_ 1 _ rfl; (with_reducible repeat first | refine bN ?_ _ | refine bD ?_ | refine bA ?_ _); refine blk_put (cs := #[.int .i64 0, .int .i64 0, .int .i64 0]) ?_ 0 _ rfl; (with_reducible repeat first | refine bN ?_ _ | refine bD ?_ | refine bA ?_ _); exact BK541.out) hb); replace BK542 := Aside0.mk (blk_below (g := gb542) (o := .cells #[.int .i64 t538, .int .i64 t539, .int .i64 t540] 24 (0, 0)) (by (with_reducible repeat first | refine bN ?_ _ | refine bD ?_ | refine bA ?_ _); refine blk_put (cs := #[.int .i64 t538, .int .i64 t539, .int .i64 0]) ?_ 2 _ rfl; (with_reducible repeat first | refine bN ?_ _ | refine bD ?_ | refine bA ?_ _); refine blk_put (cs := #[.int .i64 t538, .int .i64 0, .int .i64 0]) ?_ 1 _ rfl; (with_reducible repeat first | refine bN ?_ _ | refine bD ?_ | refine bA ?_ _); refine blk_put (cs := #[.int .i64 0, .int .i64 0, .int .i64 0]) ?_ 0 _ rfl; (with_reducible repeat first | refine bN ?_ _ | refine bD ?_ | refine bA ?_ _); refine blk_far ?_ NB542_541.out _; (with_reducible repeat first | refine bN ?_ _ | refine bD ?_ | refine bA ?_ _); refine blk_far ?_ NB542_541.out _; (with_reducible repeat first | refine bN ?_ _ | refine bD ?_ | refine bA ?_ _); refine blk_far ?_ NB542_541.out _; (with_reducible repeat first | refine bN ?_ _ | refine bD ?_ | refine bA ?_ _); exact BK542.out) hb); replace HB := Aside0.mk (below_step (by repeat (first | (with_reducible first | exact HB.out | apply bL | apply bM | apply bR | refine bS ?_ GE531.out | refine bS ?_ GE541.out | refine bS ?_ GE542.out) | exact HB.out)) hb); (try clear hb); (try clear hk)) | ((with_reducible refine gate_dst (N := 15) rfl ?_); refine box_event ?hg (N := 15) ?hd (cs := #[.int .i64 0, .int .i64 0]) (t := 26) ?hr ?_; (case hd => rfl); (case hg => rfl); (case hr => first | (go_simp; done) | (go_simp; rfl)); intro gb545 hg w38 hbox hb; replace HO534 := Aside0.mk (Kd.R_below (by (with_reducible repeat (first | apply Kd.R_alloc | apply Kd.R_drewN | apply Kd.R_drew)); exact HO534.out) hb); have BK545 := Aside0.mk hbox; have GW545 := Aside0.mk ((by rw [hg]; exact (below_size (by repeat (first | (with_reducible first | exact HB.out | apply bL | apply bM | apply bR | refine bS ?_ GE531.out | refine bS ?_ GE541.out | refine bS ?_ GE542.out) | exact HB.out))) : w.heap.size ≤ gb545)); replace HB := Aside0.mk (below_step (by repeat (first | (with_reducible first | exact HB.out | apply bL | apply bM | apply bR | refine bS ?_ GE531.out | refine bS ?_ GE541.out | refine bS ?_ GE542.out) | exact HB.out)) hb); have GE545 := GW545; have NB531_545 := gN BK531 hg; replace BK531 := bK BK531 hb; have NB545_531 := Aside0.mk NB531_545.out.symm; have NB541_545 := gN BK541 hg; replace BK541 := bK BK541 hb; have NB545_541 := Aside0.mk NB541_545.out.symm; have NB542_545 := gN BK542 hg; replace BK542 := bK BK542 hb; have NB545_542 := Aside0.mk NB542_545.out.symm; clear hb hbox hg; have hnb39 := NB545_531.out; have hnc39 := NB531_545.out; have hnb40 := NB545_541.out; have hnc40 := NB541_545.out; have hnb41 := NB545_542.out; have hnc41 := NB542_545.out; obtain ⟨hcz42_0, hcz42_1, hfz42_0, hfz42_1⟩ := d2 BK545; obtain ⟨hcz43_0, hcz43_1, hcz43_2, hfz43_0, hfz43_1, hfz43_2⟩ := d3 BK541; obtain ⟨Ao44, co44, eo44⟩ := Kd.R_slice HO534.out; subst eo44) | ((with_reducible refine gate_callee (f := 13) rfl ?_); refine goesL_ (some 37) rfl rfl Tryd.func13 (by kernel_rfl) rfl #[.slice Ao44 t532.length co44, .agg #[.int .i64 t535, .int .i64 t536, .int .i64 t537], .agg #[.int .i64 t543, .int .i64 t544]] rfl (by (try simp only [mA]); first | done | rfl) ?_; (with_reducible refine (holders_Set.calls k _ _ t532 t535 t536 t537 t543 t544 t546 _ ?side1 ?side2 A13.out).mono ?_); (case side1 => refine (Kd.R_reads' (e := 53) (base := w.heap.size) (ok := fun k_ => True) (n := t532.length) (c := co44) ?_).2.2; exact (by (with_reducible repeat (first | apply Kd.R_alloc | apply Kd.R_drewN | apply Kd.R_drew)); exact (Kd.R_mono (Kd.R_far (p := ⟨gb545, 1, none⟩) (Kd.R_far (p := ⟨gb545, 0, none⟩) (Kd.R_types HO534.out BK545.out (by decide)) (fun _ hk => hk.2) (.int .i64 t543)) (fun _ hk => hk.2) (.int .i64 t544)) (fun _ h_ => h_.1)))); (case side2 => exact (Kd.R_reads' HO534.out).2.1); rintro e w45 ⟨v547, rfl, ho0, hb⟩; refine ⟨_, rfl, ?_⟩; have HO548 := Aside0.mk (Kd.R_lower (Kd.R_new' ho0 (Kd.R_lt (by (with_reducible repeat (first | apply Kd.R_alloc | apply Kd.R_drewN | apply Kd.R_drew)); exact (Kd.R_mono (Kd.R_far (p := ⟨gb545, 1, none⟩) (Kd.R_far (p := ⟨gb545, 0, none⟩) (Kd.R_types HO534.out BK545.out (by decide)) (fun _ hk => hk.2) (.int .i64 t543)) (fun _ hk => hk.2) (.int .i64 t544)) (fun _ h_ => h_.1))))) (below_size (by repeat (first | (with_reducible first | exact HB.out | apply bL | apply bM | apply bR | refine bS ?_ GE531.out | refine bS ?_ GE541.out | refine bS ?_ GE542.out | refine bS ?_ GE545.out) | exact HB.out)))); replace HO534 := Aside0.mk (Kd.R_elder' (by (with_reducible repeat (first | apply Kd.R_alloc | apply Kd.R_drewN | apply Kd.R_drew)); exact (Kd.R_mono (Kd.R_far (p := ⟨gb545, 1, none⟩) (Kd.R_far (p := ⟨gb545, 0, none⟩) (Kd.R_types HO534.out BK545.out (by decide)) (fun _ hk => hk.2) (.int .i64 t543)) (fun _ hk => hk.2) (.int .i64 t544)) (fun _ h_ => h_.1))) (Kd.R_base ho0) hb); replace BK531 := Aside0.mk (blk_below (g := gb531) (o := .cells #[.string t527, .int .i64 t528, .int .i64 t529, .int .i64 t530] 32 (0, 0)) (by (with_reducible repeat first | refine bN ?_ _ | refine bD ?_ | refine bA ?_ _); refine blk_far ?_ NB531_545.out _; (with_reducible repeat first | refine bN ?_ _ | refine bD ?_ | refine bA ?_ _); refine blk_far ?_ NB531_545.out _; (with_reducible repeat first | refine bN ?_ _ | refine bD ?_ | refine bA ?_ _); exact BK531.out) hb); replace BK541 := Aside0.mk (blk_below (g := gb541) (o := .cells #[.int .i64 t535, .int .i64 t536, .int .i64 t537] 24 (0, 0)) (by (with_reducible repeat first | refine bN ?_ _ | refine bD ?_ | refine bA ?_ _); refine blk_far ?_ NB541_545.out _; (with_reducible repeat first | refine bN ?_ _ | refine bD ?_ | refine bA ?_ _); refine blk_far ?_ NB541_545.out _; (with_reducible repeat first | refine bN ?_ _ | refine bD ?_ | refine bA ?_ _); exact BK541.out) hb); replace BK542 := Aside0.mk (blk_below (g := gb542) (o := .cells #[.int .i64 t538, .int .i64 t539, .int .i64 t540] 24 (0, 0)) (by (with_reducible repeat first | refine bN ?_ _ | refine bD ?_ | refine bA ?_ _); refine blk_far ?_ NB542_545.out _; (with_reducible repeat first | refine bN ?_ _ | refine bD ?_ | refine bA ?_ _); refine blk_far ?_ NB542_545.out _; (with_reducible repeat first | refine bN ?_ _ | refine bD ?_ | refine bA ?_ _); exact BK542.out) hb); replace BK545 := Aside0.mk (blk_below (g := gb545) (o := .cells #[.int .i64 t543, .int .i64 t544] 26 (0, 0)) (by (with_reducible repeat first | refine bN ?_ _ | refine bD ?_ | refine bA ?_ _); refine blk_put (cs := #[.int .i64 t543, .int .i64 0]) ?_ 1 _ rfl; (with_reducible repeat first | refine bN ?_ _ | refine bD ?_ | refine bA ?_ _); refine blk_put (cs := #[.int .i64 0, .int .i64 0]) ?_ 0 _ rfl; (with_reducible repeat first | refine bN ?_ _ | refine bD ?_ | refine bA ?_ _); exact BK545.out) hb); replace HB := Aside0.mk (below_step (by repeat (first | (with_reducible first | exact HB.out | apply bL | apply bM | apply bR | refine bS ?_ GE531.out | refine bS ?_ GE541.out | refine bS ?_ GE542.out | refine bS ?_ GE545.out) | exact HB.out)) hb); (try clear hb); (try clear hk); (try clear ho0); obtain ⟨hcz46_0, hcz46_1, hcz46_2, hfz46_0, hfz46_1, hfz46_2⟩ := d3 BK541; obtain ⟨Ao47, co47, eo47⟩ := Kd.R_slice HO548.out; subst eo47) | ((with_reducible refine gate_callee (f := 13) rfl ?_); refine goesL_ (some 41) rfl rfl Tryd.func13 (by kernel_rfl) rfl #[.slice Ao47 t546.length co47, .agg #[.int .i64 t535, .int .i64 t536, .int .i64 t537], .agg #[.int .i64 0, .int .i64 0]] rfl (by (try simp only [mA]); first | done | rfl) ?_; (with_reducible refine (holders_Set.calls k _ _ t546 t535 t536 t537 0 0 t549 _ ?side1 ?side2 A14.out).mono ?_); (case side1 => repeat (first | exact (Kd.R_reads' HO548.out).2.2 | (with_reducible refine Kd.C_alloc ?_ _) | (with_reducible refine Kd.C_drewN ?_ _) | (with_reducible refine Kd.C_drew ?_))); (case side2 => exact (Kd.R_reads' HO548.out).2.1); rintro e w48 ⟨v550, rfl, ho0, hb⟩; refine ⟨_, rfl, ?_⟩; have HO551 := Aside0.mk (Kd.R_lower (Kd.R_new' (Kd.R_new' ho0 (Kd.R_lt (by (with_reducible repeat (first | apply Kd.R_alloc | apply Kd.R_drewN | apply Kd.R_drew)); exact HO534.out))) (Kd.R_lt (by (with_reducible repeat (first | apply Kd.R_alloc | apply Kd.R_drewN | apply Kd.R_drew)); exact HO548.out))) (below_size (by repeat (first | (with_reducible first | exact HB.out | apply bL | apply bM | apply bR | refine bS ?_ GE531.out | refine bS ?_ GE541.out | refine bS ?_ GE542.out | refine bS ?_ GE545.out) | exact HB.out)))); replace HO534 := Aside0.mk (Kd.R_elder' (by (with_reducible repeat (first | apply Kd.R_alloc | apply Kd.R_drewN | apply Kd.R_drew)); exact HO534.out) (Kd.R_base ho0) hb); replace HO548 := Aside0.mk (Kd.R_elder' (by (with_reducible repeat (first | apply Kd.R_alloc | apply Kd.R_drewN | apply Kd.R_drew)); exact HO548.out) (Kd.R_base ho0) hb); replace BK531 := bK BK531 hb; replace BK541 := bK BK541 hb; replace BK542 := bK BK542 hb; replace BK545 := bK BK545 hb; replace HB := Aside0.mk (below_step (by repeat (first | (with_reducible first | exact HB.out | apply bL | apply bM | apply bR | refine bS ?_ GE531.out | refine bS ?_ GE541.out | refine bS ?_ GE542.out | refine bS ?_ GE545.out) | exact HB.out)) hb); (try clear hb); (try clear hk); (try clear ho0)))
      replace HO534 := Aside0.mk (Kd.R_drew HO534.out)
      replace HO548 := Aside0.mk (Kd.R_drew HO548.out)
      replace HO551 := Aside0.mk (Kd.R_drew HO551.out)
      replace BK531 := Aside0.mk (blk_drew BK531.out)
      replace BK541 := Aside0.mk (blk_drew BK541.out)
      replace BK542 := Aside0.mk (blk_drew BK542.out)
      replace BK545 := Aside0.mk (blk_drew BK545.out)
      replace HB := Aside0.mk (below_drew1 HB.out)
      obtain ⟨Ao52, co52, eo52⟩ := Kd.R_slice HO551.out
      (first | subst eo52 | (injection eo52 with f1_ f2_ f3_; have f4_ := f1_.symm; have f5_ := f3_.symm; clear f1_ f2_ f3_; subst f4_; subst f5_))
      refine start_ (n := 38) (S := fun w' => w'.cell? ⟨gb541, 0, none⟩ = some (.int .i64 t535) ∧ w'.cell? ⟨gb541, 1, none⟩ = some (.int .i64 t536) ∧ w'.cell? ⟨gb541, 2, none⟩ = some (.int .i64 t537) ∧ w'.cell? ⟨gb545, 0, none⟩ = some (.int .i64 t543) ∧ w'.cell? ⟨gb545, 1, none⟩ = some (.int .i64 t544) ∧ w'.cell? ⟨gb542, 0, none⟩ = some (.int .i64 t538) ∧ w'.cell? ⟨gb542, 1, none⟩ = some (.int .i64 t539) ∧ w'.cell? ⟨gb542, 2, none⟩ = some (.int .i64 t540)) (ds := []) q27_0 (by kernel_rfl) rfl rfl ⟨bC BK541 0 rfl, bC BK541 1 rfl, bC BK541 2 rfl, bC BK545 0 rfl, bC BK545 1 rfl, bC BK542 0 rfl, bC BK542 1 rfl, bC BK542 2 rfl⟩ (fun hHeld => ?_); refine with_tabW clusterlockslaw10_HoldersGets.tab9 clusterlockslaw10_HoldersGets.bits9 (fun HT_ HW_ => ?_)
      generalize w48.drew = w49 at HO534 HO548 HO551 BK531 BK541 BK542 BK545 HB hHeld ⊢
      refine one_ (i := 0) (N := some 42) q27_1 rfl rfl (one_of HT_.out (by kernel_rfl)) (by decide) (fun K hK => ?_)
      refine goes_ Tryd.func11 (by kernel_rfl) rfl #[] (by rfl) rfl rfl (by (try simp only [mA]); first | done | rfl) ?_
      with_reducible refine (clusterlockslaw10_awake.calls k  true _ ?side1 A15.out).mono ?_
      (case side1 => exact GL.below HG.out (by repeat (first | (with_reducible first | exact HB.out | apply bL | apply bM | apply bR | refine bS ?_ GE531.out | refine bS ?_ GE541.out | refine bS ?_ GE542.out | refine bS ?_ GE545.out) | exact HB.out)))
      rintro e w50 ⟨rfl, hb⟩
      refine ⟨_, rfl, ?_⟩
      replace HO534 := Aside0.mk (Kd.R_below (by (with_reducible repeat (first | apply Kd.R_alloc | apply Kd.R_drewN | apply Kd.R_drew)); exact HO534.out) hb)
      replace HO548 := Aside0.mk (Kd.R_below (by (with_reducible repeat (first | apply Kd.R_alloc | apply Kd.R_drewN | apply Kd.R_drew)); exact HO548.out) hb)
      replace HO551 := Aside0.mk (Kd.R_below (by (with_reducible repeat (first | apply Kd.R_alloc | apply Kd.R_drewN | apply Kd.R_drew)); exact HO551.out) hb)
      replace BK531 := bK BK531 hb
      replace BK541 := bK BK541 hb
      replace BK542 := bK BK542 hb
      replace BK545 := bK BK545 hb
      replace HB := Aside0.mk (below_step (by repeat (first | (with_reducible first | exact HB.out | apply bL | apply bM | apply bR | refine bS ?_ GE531.out | refine bS ?_ GE541.out | refine bS ?_ GE542.out | refine bS ?_ GE545.out) | exact HB.out)) hb)
      (try clear hb)
      (try clear hk)
      refine hK.out _ _ ⟨bC BK541 0 rfl, bC BK541 1 rfl, bC BK541 2 rfl, bC BK545 0 rfl, bC BK545 1 rfl, bC BK542 0 rfl, bC BK542 1 rfl, bC BK542 2 rfl⟩ (fun hHeld => ?_)
      clear hK K
      refine norm_ (a' := ?_) ?_ ?_
      rotate_left
      ·show Act.put _ (some 42) _ = _
       simp only [sP]
       rfl
      refine pu HT_ 1 43 q27_2 rfl rfl (by kernel_rfl) (fun _ _ _ => id) (.inl ⟨by rfl, by intro w'; go_simp; with_reducible rfl⟩) (by simp only [sP]; rfl) ?_
      refine pu HT_ 2 44 q27_3 rfl rfl (by kernel_rfl) (fun _ _ _ => id) (.inl ⟨by rfl, by intro w'; go_simp; with_reducible rfl⟩) (by simp only [sP]; rfl) ?_
      refine tk HT_ HW_ 3 45 q27_4 rfl rfl (by kernel_rfl) (fun _ _ _ => id) (.inl ⟨by rfl, by rintro w' ⟨s0, s1, s2, s3, s4, s5, s6, s7⟩; go_simp; with_reducible rfl⟩) hHeld (by simp only [sP]; rfl) ?_
      refine tk HT_ HW_ 5 47 q27_5 rfl rfl (by kernel_rfl) (fun _ _ _ => id) (.inl ⟨by rfl, by rintro w' ⟨s0, s1, s2, s3, s4, s5, s6, s7⟩; go_simp; with_reducible rfl⟩) hHeld (by simp only [sP]; rfl) ?_
      refine one_ (i := 4) (N := some 46) q27_6 rfl rfl (one_of HT_.out (by kernel_rfl)) (by decide) (fun K hK => ?_)
      refine goes_ Tryd.func27 (by kernel_rfl) rfl #[.slice Ao47 t546.length co47, .agg #[.int .i64 t535, .int .i64 t536, .int .i64 t537]] (by rfl) rfl rfl (by (try simp only [mA]); first | done | rfl) ?_
      with_reducible refine (holders_Get.calls k _ _ t546 t535 t536 t537 t553 t554 _ ?side1 ?side2 A17.out).mono ?_
      (case side1 => repeat (first | exact (Kd.R_reads' HO548.out).2.2 | (with_reducible refine Kd.C_alloc ?_ _) | (with_reducible refine Kd.C_drewN ?_ _) | (with_reducible refine Kd.C_drew ?_)))
      (case side2 => exact (Kd.R_reads' HO548.out).2.1)
      rintro e w51 ⟨rfl, hb⟩
      refine ⟨_, rfl, ?_⟩
      replace HO534 := Aside0.mk (Kd.R_below (by (with_reducible repeat (first | apply Kd.R_alloc | apply Kd.R_drewN | apply Kd.R_drew)); exact HO534.out) hb)
      replace HO548 := Aside0.mk (Kd.R_below (by (with_reducible repeat (first | apply Kd.R_alloc | apply Kd.R_drewN | apply Kd.R_drew)); exact HO548.out) hb)
      replace HO551 := Aside0.mk (Kd.R_below (by (with_reducible repeat (first | apply Kd.R_alloc | apply Kd.R_drewN | apply Kd.R_drew)); exact HO551.out) hb)
      replace BK531 := bK BK531 hb
      replace BK541 := bK BK541 hb
      replace BK542 := bK BK542 hb
      replace BK545 := bK BK545 hb
      replace HB := Aside0.mk (below_step (by repeat (first | (with_reducible first | exact HB.out | apply bL | apply bM | apply bR | refine bS ?_ GE531.out | refine bS ?_ GE541.out | refine bS ?_ GE542.out | refine bS ?_ GE545.out) | exact HB.out)) hb)
      (try clear hb)
      (try clear hk)
      refine hK.out _ _ ⟨bC BK541 0 rfl, bC BK541 1 rfl, bC BK541 2 rfl, bC BK545 0 rfl, bC BK545 1 rfl, bC BK542 0 rfl, bC BK542 1 rfl, bC BK542 2 rfl⟩ (fun hHeld => ?_)
      clear hK K
      refine norm_ (a' := ?_) ?_ ?_
      rotate_left
      ·show Act.put _ (some 46) _ = _
       simp only [sP]
       rfl
      refine pu HT_ 6 48 q27_7 rfl rfl (by kernel_rfl) (fun _ _ _ => id) (.inl ⟨by rfl, by intro w'; go_simp; with_reducible rfl⟩) (by simp only [sP]; rfl) ?_
      refine pu HT_ 7 49 q27_8 rfl rfl (by kernel_rfl) (fun _ _ _ => id) (.inl ⟨by rfl, by intro w'; go_simp; with_reducible rfl⟩) (by simp only [sP]; rfl) ?_
      refine pu HT_ 8 50 q27_9 rfl rfl (by kernel_rfl) (fun _ _ _ => id) (.inl ⟨by rfl, by intro w'; go_simp; with_reducible rfl⟩) (by simp only [sP]; rfl) ?_
      refine pu HT_ 9 51 q27_10 rfl rfl (by kernel_rfl) (fun _ _ _ => id) (.inl ⟨by rfl, by intro w'; go_simp; with_reducible rfl⟩) (by simp only [sP]; rfl) ?_
      refine tk HT_ HW_ 10 52 q27_11 rfl rfl (by kernel_rfl) (fun _ _ _ => id) (.inl ⟨by rfl, by rintro w' ⟨s0, s1, s2, s3, s4, s5, s6, s7⟩; go_simp; with_reducible rfl⟩) hHeld (by simp only [sP]; rfl) ?_
      refine one_ (i := 11) (N := some 53) q27_12 rfl rfl (one_of HT_.out (by kernel_rfl)) (by decide) (fun K hK => ?_)
      refine goes_ Tryd.func27 (by kernel_rfl) rfl #[.slice Ao52 t549.length co52, .agg #[.int .i64 t535, .int .i64 t536, .int .i64 t537]] (by rfl) rfl rfl (by (try simp only [mA]); first | done | rfl) ?_
      with_reducible refine (holders_Get.calls k _ _ t549 t535 t536 t537 t555 t556 _ ?side1 ?side2 A19.out).mono ?_
      (case side1 => repeat (first | exact (Kd.R_reads' HO551.out).2.2 | (with_reducible refine Kd.C_alloc ?_ _) | (with_reducible refine Kd.C_drewN ?_ _) | (with_reducible refine Kd.C_drew ?_)))
      (case side2 => exact (Kd.R_reads' HO551.out).2.1)
      rintro e w53 ⟨rfl, hb⟩
      refine ⟨_, rfl, ?_⟩
      replace HO534 := Aside0.mk (Kd.R_below (by (with_reducible repeat (first | apply Kd.R_alloc | apply Kd.R_drewN | apply Kd.R_drew)); exact HO534.out) hb)
      replace HO548 := Aside0.mk (Kd.R_below (by (with_reducible repeat (first | apply Kd.R_alloc | apply Kd.R_drewN | apply Kd.R_drew)); exact HO548.out) hb)
      replace HO551 := Aside0.mk (Kd.R_below (by (with_reducible repeat (first | apply Kd.R_alloc | apply Kd.R_drewN | apply Kd.R_drew)); exact HO551.out) hb)
      replace BK531 := bK BK531 hb
      replace BK541 := bK BK541 hb
      replace BK542 := bK BK542 hb
      replace BK545 := bK BK545 hb
      replace HB := Aside0.mk (below_step (by repeat (first | (with_reducible first | exact HB.out | apply bL | apply bM | apply bR | refine bS ?_ GE531.out | refine bS ?_ GE541.out | refine bS ?_ GE542.out | refine bS ?_ GE545.out) | exact HB.out)) hb)
      (try clear hb)
      (try clear hk)
      refine hK.out _ _ ⟨bC BK541 0 rfl, bC BK541 1 rfl, bC BK541 2 rfl, bC BK545 0 rfl, bC BK545 1 rfl, bC BK542 0 rfl, bC BK542 1 rfl, bC BK542 2 rfl⟩ (fun hHeld => ?_)
      clear hK K
      refine norm_ (a' := ?_) ?_ ?_
      rotate_left
      ·show Act.put _ (some 53) _ = _
       simp only [sP]
       rfl
      refine one_ (i := 12) (N := some 54) q27_13 rfl rfl (one_of HT_.out (by kernel_rfl)) (by decide) (fun K hK => ?_)
      refine goes_ Tryd.func28 (by kernel_rfl) rfl #[.agg #[.int .i64 t555, .int .i64 t556]] (by rfl) rfl rfl (by (try simp only [mA]); first | done | rfl) ?_
      with_reducible refine (clusterlocksref04_Zero.calls t555 t556 true _ A20.out).mono ?_
      rintro e w54 ⟨rfl, hb⟩
      refine ⟨_, rfl, ?_⟩
      replace HO534 := Aside0.mk (Kd.R_below (by (with_reducible repeat (first | apply Kd.R_alloc | apply Kd.R_drewN | apply Kd.R_drew)); exact HO534.out) hb)
      replace HO548 := Aside0.mk (Kd.R_below (by (with_reducible repeat (first | apply Kd.R_alloc | apply Kd.R_drewN | apply Kd.R_drew)); exact HO548.out) hb)
      replace HO551 := Aside0.mk (Kd.R_below (by (with_reducible repeat (first | apply Kd.R_alloc | apply Kd.R_drewN | apply Kd.R_drew)); exact HO551.out) hb)
      replace BK531 := bK BK531 hb
      replace BK541 := bK BK541 hb
      replace BK542 := bK BK542 hb
      replace BK545 := bK BK545 hb
      replace HB := Aside0.mk (below_step (by repeat (first | (with_reducible first | exact HB.out | apply bL | apply bM | apply bR | refine bS ?_ GE531.out | refine bS ?_ GE541.out | refine bS ?_ GE542.out | refine bS ?_ GE545.out) | exact HB.out)) hb)
      (try clear hb)
      (try clear hk)
      refine hK.out _ _ ⟨bC BK541 0 rfl, bC BK541 1 rfl, bC BK541 2 rfl, bC BK545 0 rfl, bC BK545 1 rfl, bC BK542 0 rfl, bC BK542 1 rfl, bC BK542 2 rfl⟩ (fun hHeld => ?_)
      clear hK K
      refine norm_ (a' := ?_) ?_ ?_
      rotate_left
      ·show Act.put _ (some 54) _ = _
       simp only [sP]
       rfl
      refine pu HT_ 13 55 q27_14 rfl rfl (by kernel_rfl) (fun _ _ _ => id) (.inl ⟨by rfl, by intro w'; go_simp; with_reducible rfl⟩) (by simp only [sP]; rfl) ?_
      refine pu HT_ 14 56 q27_15 rfl rfl (by kernel_rfl) (fun _ _ _ => id) (.inl ⟨by rfl, by intro w'; go_simp; with_reducible rfl⟩) (by simp only [sP]; rfl) ?_
      refine tk HT_ HW_ 15 57 q27_16 rfl rfl (by kernel_rfl) (fun _ _ _ => id) (.inl ⟨by rfl, by rintro w' ⟨s0, s1, s2, s3, s4, s5, s6, s7⟩; go_simp; with_reducible rfl⟩) hHeld (by simp only [sP]; rfl) ?_
      refine tk HT_ HW_ 16 58 q27_17 rfl rfl (by kernel_rfl) (fun _ _ _ => id) (.inl ⟨by rfl, by rintro w' ⟨s0, s1, s2, s3, s4, s5, s6, s7⟩; go_simp; with_reducible rfl⟩) hHeld (by simp only [sP]; rfl) ?_
      refine pu HT_ 17 59 q27_18 rfl rfl (by kernel_rfl) (fun _ _ _ => id) (.inl ⟨by rfl, by intro w'; go_simp; with_reducible rfl⟩) (by simp only [sP]; rfl) ?_
      refine pu HT_ 18 60 q27_19 rfl rfl (by kernel_rfl) (fun _ _ _ => id) (.inl ⟨by rfl, by intro w'; go_simp; with_reducible rfl⟩) (by simp only [sP]; rfl) ?_
      refine pu HT_ 19 61 q27_20 rfl rfl (by kernel_rfl) (fun _ _ _ => id) (.inr ⟨by rfl, rfl⟩) (by simp only [sP]; rfl) ?_
      refine pu HT_ 20 62 #[T,T,T,T,T,T,T,T,T,T,T,T,T,T,T,T,T,T,T,T,T,F,F,F,F,F,F,F,F,F,F,F,F,F,F,F,F,F] rfl rfl (by kernel_rfl) (fun _ _ _ => id) (.inr ⟨by rfl, rfl⟩) (by simp only [sP]; rfl) ?_
      refine pu HT_ 21 63 #[T,T,T,T,T,T,T,T,T,T,T,T,T,T,T,T,T,T,T,T,T,T,F,F,F,F,F,F,F,F,F,F,F,F,F,F,F,F] rfl rfl (by kernel_rfl) (fun _ _ _ => id) (.inr ⟨by rfl, rfl⟩) (by simp only [sP]; rfl) ?_
      refine pu HT_ 22 64 #[T,T,T,T,T,T,T,T,T,T,T,T,T,T,T,T,T,T,T,T,T,T,T,F,F,F,F,F,F,F,F,F,F,F,F,F,F,F] rfl rfl (by kernel_rfl) (fun _ _ _ => id) (.inr ⟨by rfl, rfl⟩) (by simp only [sP]; rfl) ?_
      refine pu HT_ 23 65 q27_21 rfl rfl (by kernel_rfl) (fun _ _ _ => id) (.inr ⟨by rfl, rfl⟩) (by simp only [sP]; rfl) ?_
      refine pu HT_ 24 66 q27_22 rfl rfl (by kernel_rfl) (fun _ _ _ => id) (.inr ⟨by rfl, rfl⟩) (by simp only [sP]; rfl) ?_
      refine pu HT_ 25 67 q27_23 rfl rfl (by kernel_rfl) (fun _ _ _ => id) (.inr ⟨by rfl, rfl⟩) (by simp only [sP]; rfl) ?_
      refine pu HT_ 26 68 q27_24 rfl rfl (by kernel_rfl) (fun _ _ _ => id) (.inr ⟨by rfl, rfl⟩) (by simp only [sP]; rfl) ?_
      refine pu HT_ 27 69 q27_25 rfl rfl (by kernel_rfl) (fun _ _ _ => id) (.inr ⟨by rfl, rfl⟩) (by simp only [sP]; rfl) ?_
      refine pu HT_ 28 70 #[T,T,T,T,T,T,T,T,T,T,T,T,T,T,T,T,T,T,T,T,T,T,T,T,T,T,T,T,T,F,F,F,F,F,F,F,F,F] rfl rfl (by kernel_rfl) (fun _ _ _ => id) (.inr ⟨by rfl, rfl⟩) (by simp only [sP]; rfl) ?_
      refine pu HT_ 29 71 #[T,T,T,T,T,T,T,T,T,T,T,T,T,T,T,T,T,T,T,T,T,T,T,T,T,T,T,T,T,T,F,F,F,F,F,F,F,F] rfl rfl (by kernel_rfl) (fun _ _ _ => id) (.inr ⟨by rfl, rfl⟩) (by simp only [sP]; rfl) ?_
      refine pu HT_ 30 72 #[T,T,T,T,T,T,T,T,T,T,T,T,T,T,T,T,T,T,T,T,T,T,T,T,T,T,T,T,T,T,T,F,F,F,F,F,F,F] rfl rfl (by kernel_rfl) (fun _ _ _ => id) (.inr ⟨by rfl, rfl⟩) (by simp only [sP]; rfl) ?_
      refine pu HT_ 31 73 q27_26 rfl rfl (by kernel_rfl) (fun _ _ _ => id) (.inr ⟨by rfl, rfl⟩) (by simp only [sP]; rfl) ?_
      refine pu HT_ 32 74 q27_27 rfl rfl (by kernel_rfl) (fun _ _ _ => id) (.inr ⟨by rfl, rfl⟩) (by simp only [sP]; rfl) ?_
      refine pu HT_ 33 75 q27_28 rfl rfl (by kernel_rfl) (fun _ _ _ => id) (.inr ⟨by rfl, rfl⟩) (by simp only [sP]; rfl) ?_
      refine pu HT_ 34 76 q27_29 rfl rfl (by kernel_rfl) (fun _ _ _ => id) (.inr ⟨by rfl, rfl⟩) (by simp only [sP]; rfl) ?_
      refine pu HT_ 35 77 q27_30 rfl rfl (by kernel_rfl) (fun _ _ _ => id) (.inl ⟨by rfl, by intro w'; go_simp; with_reducible rfl⟩) (by simp only [sP]; rfl) ?_
      refine pu HT_ 36 78 q27_31 rfl rfl (by kernel_rfl) (fun _ _ _ => id) (.inl ⟨by rfl, by intro w'; go_simp; with_reducible rfl⟩) (by simp only [sP]; rfl) ?_
      refine pu HT_ 37 10 q27_32 rfl rfl (by kernel_rfl) (fun _ _ _ => id) (.inl ⟨by rfl, by intro w'; go_simp; with_reducible rfl⟩) (by simp only [sP]; rfl) ?_
      refine done_ (done_of HT_.out (by kernel_rfl)) ?_
      try go_wp2
      go_ret
      exact ⟨by first | rfl | (simp [errW_none, errW_some] <;> rfl) | (simp [*, errW_none, errW_some] <;> rfl), by repeat (first | (with_reducible first | exact HB.out | apply bL | apply bM | apply bR | refine bS ?_ GE531.out | refine bS ?_ GE541.out | refine bS ?_ GE542.out | refine bS ?_ GE545.out) | exact HB.out)⟩
     ·rw [if_neg c22] at H
      have c22b0 : (t535 == t538 && (t536 == t539 && (t537 == t540))) = false := by simpa using c22
      (try (have c22b1 : decide (t535 = t538 && (t536 == t539 && (t537 == t540))) = false := by simpa using c22))
      (try (have c22b2 : (t535 == t538 && (t536 == t539 && (t537 == t540))) = false := by simpa using c22))
      (try (have c22b3 : ¬ (t535 = t538 && (t536 == t539 && (t537 == t540))) := by simpa using c22))
      clear c22
      replace H := Option.bind_eq_some_iff.mp H
      obtain ⟨⟨t558, t559⟩, A550, H⟩ := H
      replace H : ((clusterlocksref10_Get.f k t532 t538 t539 t540).bind fun bt560 => (if (t558 == bt560.1 && (t559 == bt560.2)) = true then ((holders_Get.f k t549 t538 t539 t540).bind fun bt562 => ((clusterlocksref10_Get.f k t532 t538 t539 t540).bind fun bt564 => (some (bt562.1 == bt564.1 && (bt562.2 == bt564.2))))) else (some false))) = some r := H
      have A55 := Aside0.mk A550; clear A550
      replace H := Option.bind_eq_some_iff.mp H
      obtain ⟨⟨t560, t561⟩, A560, H⟩ := H
      replace H : (if (t558 == t560 && (t559 == t561)) = true then ((holders_Get.f k t549 t538 t539 t540).bind fun bt562 => ((clusterlocksref10_Get.f k t532 t538 t539 t540).bind fun bt564 => (some (bt562.1 == bt564.1 && (bt562.2 == bt564.2))))) else (some false)) = some r := H
      have A56 := Aside0.mk A560; clear A560
      have HH_ := Aside0.mk H
      clear H
      go_enter Tryd.func9, Tryd.ntmps9
      have H := HH_.out
      clear HH_
      by_cases c57 : (t558 == t560 && (t559 == t561)) = true
      ·rw [if_pos c57] at H
       have c57b0 : (t558 == t560 && (t559 == t561)) = true := c57
       (try (have c57b1 : decide (t558 = t560 && (t559 == t561)) = true := by simpa using c57))
       (try (have c57b2 : (t558 == t560 && (t559 == t561)) = true := by simpa using c57))
       clear c57
       replace H := Option.bind_eq_some_iff.mp H
       obtain ⟨⟨t562, t563⟩, A580, H⟩ := H
       replace H : ((clusterlocksref10_Get.f k t532 t538 t539 t540).bind fun bt564 => (some (t562 == bt564.1 && (t563 == bt564.2)))) = some r := H
       have A58 := Aside0.mk A580; clear A580
       replace H := Option.bind_eq_some_iff.mp H
       obtain ⟨⟨t564, t565⟩, A590, H⟩ := H
       replace H : (some (t562 == t564 && (t563 == t565))) = some r := H
       have A59 := Aside0.mk A590; clear A590
       obtain rfl := Option.some.inj H
       (try simp only [c57b0, c57b1, c57b2])
       try go_wp2_with (first | ((with_reducible refine gate_callee (f := 20) rfl ?_); refine goesL_ (some 19) rfl rfl Tryd.func20 (by kernel_rfl) rfl #[.slice A1 l1.length c1] rfl (by (try simp only [mA]); first | done | rfl) ?_; (with_reducible refine (clusterlocksmill_Light.calls _ _ l1 true _ ?side1 ?side2 A6.out).mono ?_); (case side1 => repeat (first | exact HR1.out | (with_reducible refine Kd.C_alloc ?_ _) | (with_reducible refine Kd.C_drewN ?_ _) | (with_reducible refine Kd.C_drew ?_))); (case side2 => exact HC1.out); rintro e w' ⟨rfl, ⟨nd, rfl⟩⟩; refine ⟨_, rfl, ?_⟩) | ((with_reducible refine gate_callee (f := 21) rfl ?_); refine goesL_ (some 23) rfl rfl Tryd.func21 (by kernel_rfl) rfl #[.int .i64 a0] rfl (by (try simp only [mA]); first | done | rfl) ?_; (with_reducible refine (clusterlocksmill_Resource.calls k a0 t527 t528 t529 t530 _ A8.out).mono ?_); rintro e w60 ⟨rfl, hb⟩; refine ⟨_, rfl, ?_⟩; replace HB := bB HB hb; (try clear hb); (try clear hk)) | ((with_reducible refine gate_dst (N := 11) rfl ?_); refine box_event ?hg (N := 11) ?hd (cs := #[.string (⟨#[]⟩ : ByteArray), .int .i64 0, .int .i64 0, .int .i64 0]) (t := 32) ?hr ?_; (case hd => rfl); (case hg => rfl); (case hr => first | (go_simp; done) | (go_simp; rfl)); intro gb531 hg w61 hbox hb; have BK531 := Aside0.mk hbox; have GW531 := gE HB hg; replace HB := bB HB hb; have GE531 := GW531; clear hb hbox hg; have hcz62_0 : w61.cell? ⟨gb531, 0, none⟩ = some (.string (⟨#[]⟩ : ByteArray)) := bC BK531 0 rfl; have hcz62_1 : w61.cell? ⟨gb531, 1, none⟩ = some (.int .i64 0) := bC BK531 1 rfl; have hcz62_2 : w61.cell? ⟨gb531, 2, none⟩ = some (.int .i64 0) := bC BK531 2 rfl; have hcz62_3 : w61.cell? ⟨gb531, 3, none⟩ = some (.int .i64 0) := bC BK531 3 rfl; have hfz62_0 := bF BK531 0; have hfz62_1 := bF BK531 1; have hfz62_2 := bF BK531 2; have hfz62_3 := bF BK531 3) | ((with_reducible refine gate_callee (f := 22) rfl ?_); refine goesL_ (some 26) rfl rfl Tryd.func22 (by kernel_rfl) rfl #[.agg #[.string t527, .int .i64 t528, .int .i64 t529, .int .i64 t530], .slice A1 l1.length c1] rfl (by (try simp only [mA]); first | done | rfl) ?_; (with_reducible refine (clusterlockslaw10_made.calls k t527 t528 t529 t530 _ _ l1 t532 _ ?side1 ?side2 A9.out).mono ?_); (case side1 => exact Kd.C_below HR1.out (by repeat (first | (with_reducible first | exact HB.out | apply bL | apply bM | apply bR | refine bS ?_ GE531.out) | exact HB.out))); (case side2 => exact HC1.out); rintro e w63 ⟨v533, rfl, ho0, hb⟩; refine ⟨_, rfl, ?_⟩; have HO534 := Aside0.mk (Kd.R_lower ho0 (below_size (by repeat (first | (with_reducible first | exact HB.out | apply bL | apply bM | apply bR | refine bS ?_ GE531.out) | exact HB.out)))); replace BK531 := Aside0.mk (blk_below (g := gb531) (o := .cells #[.string t527, .int .i64 t528, .int .i64 t529, .int .i64 t530] 32 (0, 0)) (by (with_reducible repeat first | refine bN ?_ _ | refine bD ?_ | refine bA ?_ _); refine blk_put (cs := #[.string t527, .int .i64 t528, .int .i64 t529, .int .i64 0]) ?_ 3 _ rfl; (with_reducible repeat first | refine bN ?_ _ | refine bD ?_ | refine bA ?_ _); refine blk_put (cs := #[.string t527, .int .i64 t528, .int .i64 0, .int .i64 0]) ?_ 2 _ rfl; (with_reducible repeat first | refine bN ?_ _ | refine bD ?_ | refine bA ?_ _); refine blk_put (cs := #[.string t527, .int .i64 0, .int .i64 0, .int .i64 0]) ?_ 1 _ rfl; (with_reducible repeat first | refine bN ?_ _ | refine bD ?_ | refine bA ?_ _); refine blk_put (cs := #[.string (⟨#[]⟩ : ByteArray), .int .i64 0, .int .i64 0, .int .i64 0]) ?_ 0 _ rfl; (with_reducible repeat first | refine bN ?_ _ | refine bD ?_ | refine bA ?_ _); exact BK531.out) hb); replace HB := Aside0.mk (below_step (by repeat (first | (with_reducible first | exact HB.out | apply bL | apply bM | apply bR | refine bS ?_ GE531.out) | exact HB.out)) hb); (try clear hb); (try clear hk); (try clear ho0)) | ((with_reducible refine gate_callee (f := 23) rfl ?_); refine goesL_ (some 28) rfl rfl Tryd.func23 (by kernel_rfl) rfl #[.int .i64 a2] rfl (by (try simp only [mA]); first | done | rfl) ?_; (with_reducible refine (clusterlocksmill_Proc.calls a2 t535 t536 t537 _ A10.out).mono ?_); rintro e w64 ⟨rfl, hb⟩; refine ⟨_, rfl, ?_⟩; replace HO534 := Aside0.mk (Kd.R_below (by (with_reducible repeat (first | apply Kd.R_alloc | apply Kd.R_drewN | apply Kd.R_drew)); exact HO534.out) hb); replace BK531 := bK BK531 hb; replace HB := Aside0.mk (below_step (by repeat (first | (with_reducible first | exact HB.out | apply bL | apply bM | apply bR | refine bS ?_ GE531.out) | exact HB.out)) hb); (try clear hb); (try clear hk)) | ((with_reducible refine gate_callee (f := 23) rfl ?_); refine goesL_ (some 30) rfl rfl Tryd.func23 (by kernel_rfl) rfl #[.int .i64 a4] rfl (by (try simp only [mA]); first | done | rfl) ?_; (with_reducible refine (clusterlocksmill_Proc.calls a4 t538 t539 t540 _ A11.out).mono ?_); rintro e w65 ⟨rfl, hb⟩; refine ⟨_, rfl, ?_⟩; replace HO534 := Aside0.mk (Kd.R_below (by (with_reducible repeat (first | apply Kd.R_alloc | apply Kd.R_drewN | apply Kd.R_drew)); exact HO534.out) hb); replace BK531 := bK BK531 hb; replace HB := Aside0.mk (below_step (by repeat (first | (with_reducible first | exact HB.out | apply bL | apply bM | apply bR | refine bS ?_ GE531.out) | exact HB.out)) hb); (try clear hb); (try clear hk)) | ((with_reducible refine gate_dst (N := 13) rfl ?_); refine box_event ?hg (N := 13) ?hd (cs := #[.int .i64 0, .int .i64 0, .int .i64 0]) (t := 24) ?hr ?_; (case hd => rfl); (case hg => rfl); (case hr => first | (go_simp; done) | (go_simp; rfl)); intro gb541 hg w66 hbox hb; replace HO534 := Aside0.mk (Kd.R_below (by (with_reducible repeat (first | apply Kd.R_alloc | apply Kd.R_drewN | apply Kd.R_drew)); exact HO534.out) hb); have BK541 := Aside0.mk hbox; have GW541 := Aside0.mk ((by rw [hg]; exact (below_size (by repeat (first | (with_reducible first | exact HB.out | apply bL | apply bM | apply bR | refine bS ?_ GE531.out) | exact HB.out))) : w.heap.size ≤ gb541)); replace HB := Aside0.mk (below_step (by repeat (first | (with_reducible first | exact HB.out | apply bL | apply bM | apply bR | refine bS ?_ GE531.out) | exact HB.out)) hb); have GE541 := GW541; have NB531_541 := gN BK531 hg; replace BK531 := bK BK531 hb; have NB541_531 := Aside0.mk NB531_541.out.symm; clear hb hbox hg) | ((with_reducible refine gate_dst (N := 14) rfl ?_); refine box_event ?hg (N := 14) ?hd (cs := #[.int .i64 0, .int .i64 0, .int .i64 0]) (t := 24) ?hr ?_; (case hd => rfl); (case hg => rfl); (case hr => first | (go_simp; done) | (go_simp; rfl)); intro gb542 hg w67 hbox hb; replace HO534 := Aside0.mk (Kd.R_below (by (with_reducible repeat (first | apply Kd.R_alloc | apply Kd.R_drewN | apply Kd.R_drew)); exact HO534.out) hb); have BK542 := Aside0.mk hbox; have GW542 := Aside0.mk ((by rw [hg]; exact (below_size (by repeat (first | (with_reducible first | exact HB.out | apply bL | apply bM | apply bR | refine bS ?_ GE531.out | refine bS ?_ GE541.out) | exact HB.out))) : w.heap.size ≤ gb542)); replace HB := Aside0.mk (below_step (by repeat (first | (with_reducible first | exact HB.out | apply bL | apply bM | apply bR | refine bS ?_ GE531.out | refine bS ?_ GE541.out) | exact HB.out)) hb); have GE542 := GW542; have NB531_542 := gN BK531 hg; replace BK531 := bK BK531 hb; have NB542_531 := Aside0.mk NB531_542.out.symm; have NB541_542 := gN BK541 hg; replace BK541 := bK BK541 hb; have NB542_541 := Aside0.mk NB541_542.out.symm; clear hb hbox hg; have hnb68 := NB541_531.out; have hnc68 := NB531_541.out; have hnb69 := NB541_542.out; have hnc69 := NB542_541.out; obtain ⟨hcz70_0, hcz70_1, hcz70_2, hfz70_0, hfz70_1, hfz70_2⟩ := d3 BK541; have hnb71 := NB542_531.out; have hnc71 := NB531_542.out; obtain ⟨hcz72_0, hcz72_1, hcz72_2, hfz72_0, hfz72_1, hfz72_2⟩ := d3 BK542; have hcz73_0 : w67.cell? ⟨gb531, 0, none⟩ = some (.string t527) := bC BK531 0 rfl; have hcz73_1 : w67.cell? ⟨gb531, 1, none⟩ = some (.int .i64 t528) := bC BK531 1 rfl; have hcz73_2 : w67.cell? ⟨gb531, 2, none⟩ = some (.int .i64 t529) := bC BK531 2 rfl; have hcz73_3 : w67.cell? ⟨gb531, 3, none⟩ = some (.int .i64 t530) := bC BK531 3 rfl; have hfz73_0 := bF BK531 0; have hfz73_1 := bF BK531 1; have hfz73_2 := bF BK531 2; have hfz73_3 := bF BK531 3) | ((with_reducible refine gate_callee (f := 24) rfl ?_); refine goesL_ (some 33) rfl rfl Tryd.func24 (by kernel_rfl) rfl #[.agg #[.string t527, .int .i64 t528, .int .i64 t529, .int .i64 t530], .int .i64 a3] rfl (by (try simp only [mA]); first | done | rfl) ?_; (with_reducible refine (clusterlocksmill_Amount.calls t527 t528 t529 t530 a3 t543 t544 _ A12.out).mono ?_); rintro e w74 ⟨rfl, hb⟩; refine ⟨_, rfl, ?_⟩; replace HO534 := Aside0.mk (Kd.R_below (by (with_reducible repeat (first | apply Kd.R_alloc | apply Kd.R_drewN | apply Kd.R_drew)); exact (Kd.R_mono (Kd.R_mono (Kd.R_far (p := ⟨gb542, 2, none⟩) (Kd.R_far (p := ⟨gb542, 1, none⟩) (Kd.R_far (p := ⟨gb542, 0, none⟩) (Kd.R_far (p := ⟨gb541, 2, none⟩) (Kd.R_far (p := ⟨gb541, 1, none⟩) (Kd.R_far (p := ⟨gb541, 0, none⟩) (Kd.R_types (Kd.R_types HO534.out BK541.out (by decide)) BK542.out (by decide)) (fun _ hk => hk.1.2) (.int .i64 t535)) (fun _ hk => hk.1.2) (.int .i64 t536)) (fun _ hk => hk.1.2) (.int .i64 t537)) (fun _ hk => hk.2) (.int .i64 t538)) (fun _ hk => hk.2) (.int .i64 t539)) (fun _ hk => hk.2) (.int .i64 t540)) (fun _ h_ => h_.1)) (fun _ h_ => h_.1))) hb); replace BK531 := Aside0.mk (blk_below (g := gb531) (o := .cells #[.string t527, .int .i64 t528, .int .i64 t529, .int .i64 t530] 32 (0, 0)) (by (with_reducible repeat first | refine bN ?_ _ | refine bD ?_ | refine bA ?_ _); refine blk_far ?_ NB531_542.out _; (with_reducible repeat first | refine bN ?_ _ | refine bD ?_ | refine bA ?_ _); refine blk_far ?_ NB531_542.out _; (with_reducible repeat first | refine bN ?_ _ | refine bD ?_ | refine bA ?_ _); refine blk_far ?_ NB531_542.out _; (with_reducible repeat first | refine bN ?_ _ | refine bD ?_ | refine bA ?_ _); refine blk_far ?_ NB531_541.out _; (with_reducible repeat first | refine bN ?_ _ | refine bD ?_ | refine bA ?_ _); refine blk_far ?_ NB531_541.out _; (with_reducible repeat first | refine bN ?_ _ | refine bD ?_ | refine bA ?_ _); refine blk_far ?_ NB531_541.out _; (with_reducible repeat first | refine bN ?_ _ | refine bD ?_ | refine bA ?_ _); exact BK531.out) hb); replace BK541 := Aside0.mk (blk_below (g := gb541) (o := .cells #[.int .i64 t535, .int .i64 t536, .int .i64 t537] 24 (0, 0)) (by (with_reducible repeat first | refine bN ?_ _ | refine bD ?_ | refine bA ?_ _); refine blk_far ?_ NB541_542.out _; (with_reducible repeat first | refine bN ?_ _ | refine bD ?_ | refine bA ?_ _); refine blk_far ?_ NB541_542.out _; (with_reducible repeat first | refine bN ?_ _ | refine bD ?_ | refine bA ?_ _); refine blk_far ?_ NB541_542.out _; (with_reducible repeat first | refine bN ?_ _ | refine bD ?_ | refine bA ?_ _); refine blk_put (cs := #[.int .i64 t535, .int .i64 t536, .int .i64 0]) ?_ 2 _ rfl; (with_reducible repeat first | refine bN ?_ _ | refine bD ?_ | refine bA ?_ _); refine blk_put (cs := #[.int .i64 t535, .int .i64 0, .int .i64 0]) ?_ 1 _ rfl; (with_reducible repeat first | refine bN ?_ _ | refine bD ?_ | refine bA ?_ _); refine blk_put (cs := #[.int .i64 0, .int .i64 0, .int .i64 0]) ?_ 0 _ rfl; (with_reducible repeat first | refine bN ?_ _ | refine bD ?_ | refine bA ?_ _); exact BK541.out) hb); replace BK542 := Aside0.mk (blk_below (g := gb542) (o := .cells #[.int .i64 t538, .int .i64 t539, .int .i64 t540] 24 (0, 0)) (by (with_reducible repeat first | refine bN ?_ _ | refine bD ?_ | refine bA ?_ _); refine blk_put (cs := #[.int .i64 t538, .int .i64 t539, .int .i64 0]) ?_ 2 _ rfl; (with_reducible repeat first | refine bN ?_ _ | refine bD ?_ | refine bA ?_ _); refine blk_put (cs := #[.int .i64 t538, .int .i64 0, .int .i64 0]) ?_ 1 _ rfl; (with_reducible repeat first | refine bN ?_ _ | refine bD ?_ | refine bA ?_ _); refine blk_put (cs := #[.int .i64 0, .int .i64 0, .int .i64 0]) ?_ 0 _ rfl; (with_reducible repeat first | refine bN ?_ _ | refine bD ?_ | refine bA ?_ _); refine blk_far ?_ NB542_541.out _; (with_reducible repeat first | refine bN ?_ _ | refine bD ?_ | refine bA ?_ _); refine blk_far ?_ NB542_541.out _; (with_reducible repeat first | refine bN ?_ _ | refine bD ?_ | refine bA ?_ _); refine blk_far ?_ NB542_541.out _; (with_reducible repeat first | refine bN ?_ _ | refine bD ?_ | refine bA ?_ _); exact BK542.out) hb); replace HB := Aside0.mk (below_step (by repeat (first | (with_reducible first | exact HB.out | apply bL | apply bM | apply bR | refine bS ?_ GE531.out | refine bS ?_ GE541.out | refine bS ?_ GE542.out) | exact HB.out)) hb); (try clear hb); (try clear hk)) | ((with_reducible refine gate_dst (N := 15) rfl ?_); refine box_event ?hg (N := 15) ?hd (cs := #[.int .i64 0, .int .i64 0]) (t := 26) ?hr ?_; (case hd => rfl); (case hg => rfl); (case hr => first | (go_simp; done) | (go_simp; rfl)); intro gb545 hg w75 hbox hb; replace HO534 := Aside0.mk (Kd.R_below (by (with_reducible repeat (first | apply Kd.R_alloc | apply Kd.R_drewN | apply Kd.R_drew)); exact HO534.out) hb); have BK545 := Aside0.mk hbox; have GW545 := Aside0.mk ((by rw [hg]; exact (below_size (by repeat (first | (with_reducible first | exact HB.out | apply bL | apply bM | apply bR | refine bS ?_ GE531.out | refine bS ?_ GE541.out | refine bS ?_ GE542.out) | exact HB.out))) : w.heap.size ≤ gb545)); replace HB := Aside0.mk (below_step (by repeat (first | (with_reducible first | exact HB.out | apply bL | apply bM | apply bR | refine bS ?_ GE531.out | refine bS ?_ GE541.out | refine bS ?_ GE542.out) | exact HB.out)) hb); have GE545 := GW545; have NB531_545 := gN BK531 hg; replace BK531 := bK BK531 hb; have NB545_531 := Aside0.mk NB531_545.out.symm; have NB541_545 := gN BK541 hg; replace BK541 := bK BK541 hb; have NB545_541 := Aside0.mk NB541_545.out.symm; have NB542_545 := gN BK542 hg; replace BK542 := bK BK542 hb; have NB545_542 := Aside0.mk NB542_545.out.symm; clear hb hbox hg; have hnb76 := NB545_531.out; have hnc76 := NB531_545.out; have hnb77 := NB545_541.out; have hnc77 := NB541_545.out; have hnb78 := NB545_542.out; have hnc78 := NB542_545.out; obtain ⟨hcz79_0, hcz79_1, hfz79_0, hfz79_1⟩ := d2 BK545; obtain ⟨hcz80_0, hcz80_1, hcz80_2, hfz80_0, hfz80_1, hfz80_2⟩ := d3 BK541; obtain ⟨Ao81, co81, eo81⟩ := Kd.R_slice HO534.out; subst eo81) | ((with_reducible refine gate_callee (f := 13) rfl ?_); refine goesL_ (some 37) rfl rfl Tryd.func13 (by kernel_rfl) rfl #[.slice Ao81 t532.length co81, .agg #[.int .i64 t535, .int .i64 t536, .int .i64 t537], .agg #[.int .i64 t543, .int .i64 t544]] rfl (by (try simp only [mA]); first | done | rfl) ?_; (with_reducible refine (holders_Set.calls k _ _ t532 t535 t536 t537 t543 t544 t546 _ ?side1 ?side2 A13.out).mono ?_); (case side1 => refine (Kd.R_reads' (e := 53) (base := w.heap.size) (ok := fun k_ => True) (n := t532.length) (c := co81) ?_).2.2; exact (by (with_reducible repeat (first | apply Kd.R_alloc | apply Kd.R_drewN | apply Kd.R_drew)); exact (Kd.R_mono (Kd.R_far (p := ⟨gb545, 1, none⟩) (Kd.R_far (p := ⟨gb545, 0, none⟩) (Kd.R_types HO534.out BK545.out (by decide)) (fun _ hk => hk.2) (.int .i64 t543)) (fun _ hk => hk.2) (.int .i64 t544)) (fun _ h_ => h_.1)))); (case side2 => exact (Kd.R_reads' HO534.out).2.1); rintro e w82 ⟨v547, rfl, ho0, hb⟩; refine ⟨_, rfl, ?_⟩; have HO548 := Aside0.mk (Kd.R_lower (Kd.R_new' ho0 (Kd.R_lt (by (with_reducible repeat (first | apply Kd.R_alloc | apply Kd.R_drewN | apply Kd.R_drew)); exact (Kd.R_mono (Kd.R_far (p := ⟨gb545, 1, none⟩) (Kd.R_far (p := ⟨gb545, 0, none⟩) (Kd.R_types HO534.out BK545.out (by decide)) (fun _ hk => hk.2) (.int .i64 t543)) (fun _ hk => hk.2) (.int .i64 t544)) (fun _ h_ => h_.1))))) (below_size (by repeat (first | (with_reducible first | exact HB.out | apply bL | apply bM | apply bR | refine bS ?_ GE531.out | refine bS ?_ GE541.out | refine bS ?_ GE542.out | refine bS ?_ GE545.out) | exact HB.out)))); replace HO534 := Aside0.mk (Kd.R_elder' (by (with_reducible repeat (first | apply Kd.R_alloc | apply Kd.R_drewN | apply Kd.R_drew)); exact (Kd.R_mono (Kd.R_far (p := ⟨gb545, 1, none⟩) (Kd.R_far (p := ⟨gb545, 0, none⟩) (Kd.R_types HO534.out BK545.out (by decide)) (fun _ hk => hk.2) (.int .i64 t543)) (fun _ hk => hk.2) (.int .i64 t544)) (fun _ h_ => h_.1))) (Kd.R_base ho0) hb); replace BK531 := Aside0.mk (blk_below (g := gb531) (o := .cells #[.string t527, .int .i64 t528, .int .i64 t529, .int .i64 t530] 32 (0, 0)) (by (with_reducible repeat first | refine bN ?_ _ | refine bD ?_ | refine bA ?_ _); refine blk_far ?_ NB531_545.out _; (with_reducible repeat first | refine bN ?_ _ | refine bD ?_ | refine bA ?_ _); refine blk_far ?_ NB531_545.out _; (with_reducible repeat first | refine bN ?_ _ | refine bD ?_ | refine bA ?_ _); exact BK531.out) hb); replace BK541 := Aside0.mk (blk_below (g := gb541) (o := .cells #[.int .i64 t535, .int .i64 t536, .int .i64 t537] 24 (0, 0)) (by (with_reducible repeat first | refine bN ?_ _ | refine bD ?_ | refine bA ?_ _); refine blk_far ?_ NB541_545.out _; (with_reducible repeat first | refine bN ?_ _ | refine bD ?_ | refine bA ?_ _); refine blk_far ?_ NB541_545.out _; (with_reducible repeat first | refine bN ?_ _ | refine bD ?_ | refine bA ?_ _); exact BK541.out) hb); replace BK542 := Aside0.mk (blk_below (g := gb542) (o := .cells #[.int .i64 t538, .int .i64 t539, .int .i64 t540] 24 (0, 0)) (by (with_reducible repeat first | refine bN ?_ _ | refine bD ?_ | refine bA ?_ _); refine blk_far ?_ NB542_545.out _; (with_reducible repeat first | refine bN ?_ _ | refine bD ?_ | refine bA ?_ _); refine blk_far ?_ NB542_545.out _; (with_reducible repeat first | refine bN ?_ _ | refine bD ?_ | refine bA ?_ _); exact BK542.out) hb); replace BK545 := Aside0.mk (blk_below (g := gb545) (o := .cells #[.int .i64 t543, .int .i64 t544] 26 (0, 0)) (by (with_reducible repeat first | refine bN ?_ _ | refine bD ?_ | refine bA ?_ _); refine blk_put (cs := #[.int .i64 t543, .int .i64 0]) ?_ 1 _ rfl; (with_reducible repeat first | refine bN ?_ _ | refine bD ?_ | refine bA ?_ _); refine blk_put (cs := #[.int .i64 0, .int .i64 0]) ?_ 0 _ rfl; (with_reducible repeat first | refine bN ?_ _ | refine bD ?_ | refine bA ?_ _); exact BK545.out) hb); replace HB := Aside0.mk (below_step (by repeat (first | (with_reducible first | exact HB.out | apply bL | apply bM | apply bR | refine bS ?_ GE531.out | refine bS ?_ GE541.out | refine bS ?_ GE542.out | refine bS ?_ GE545.out) | exact HB.out)) hb); (try clear hb); (try clear hk); (try clear ho0); obtain ⟨hcz83_0, hcz83_1, hcz83_2, hfz83_0, hfz83_1, hfz83_2⟩ := d3 BK541; obtain ⟨Ao84, co84, eo84⟩ := Kd.R_slice HO548.out; subst eo84) | ((with_reducible refine gate_callee (f := 13) rfl ?_); refine goesL_ (some 41) rfl rfl Tryd.func13 (by kernel_rfl) rfl #[.slice Ao84 t546.length co84, .agg #[.int .i64 t535, .int .i64 t536, .int .i64 t537], .agg #[.int .i64 0, .int .i64 0]] rfl (by (try simp only [mA]); first | done | rfl) ?_; (with_reducible refine (holders_Set.calls k _ _ t546 t535 t536 t537 0 0 t549 _ ?side1 ?side2 A14.out).mono ?_); (case side1 => repeat (first | exact (Kd.R_reads' HO548.out).2.2 | (with_reducible refine Kd.C_alloc ?_ _) | (with_reducible refine Kd.C_drewN ?_ _) | (with_reducible refine Kd.C_drew ?_))); (case side2 => exact (Kd.R_reads' HO548.out).2.1); rintro e w85 ⟨v550, rfl, ho0, hb⟩; refine ⟨_, rfl, ?_⟩; have HO551 := Aside0.mk (Kd.R_lower (Kd.R_new' (Kd.R_new' ho0 (Kd.R_lt (by (with_reducible repeat (first | apply Kd.R_alloc | apply Kd.R_drewN | apply Kd.R_drew)); exact HO534.out))) (Kd.R_lt (by (with_reducible repeat (first | apply Kd.R_alloc | apply Kd.R_drewN | apply Kd.R_drew)); exact HO548.out))) (below_size (by repeat (first | (with_reducible first | exact HB.out | apply bL | apply bM | apply bR | refine bS ?_ GE531.out | refine bS ?_ GE541.out | refine bS ?_ GE542.out | refine bS ?_ GE545.out) | exact HB.out)))); replace HO534 := Aside0.mk (Kd.R_elder' (by (with_reducible repeat (first | apply Kd.R_alloc | apply Kd.R_drewN | apply Kd.R_drew)); exact HO534.out) (Kd.R_base ho0) hb); replace HO548 := Aside0.mk (Kd.R_elder' (by (with_reducible repeat (first | apply Kd.R_alloc | apply Kd.R_drewN | apply Kd.R_drew)); exact HO548.out) (Kd.R_base ho0) hb); replace BK531 := bK BK531 hb; replace BK541 := bK BK541 hb; replace BK542 := bK BK542 hb; replace BK545 := bK BK545 hb; replace HB := Aside0.mk (below_step (by repeat (first | (with_reducible first | exact HB.out | apply bL | apply bM | apply bR | refine bS ?_ GE531.out | refine bS ?_ GE541.out | refine bS ?_ GE542.out | refine bS ?_ GE545.out) | exact HB.out)) hb); (try clear hb); (try clear hk); (try clear ho0)))
       replace HO534 := Aside0.mk (Kd.R_drew HO534.out)
       replace HO548 := Aside0.mk (Kd.R_drew HO548.out)
       replace HO551 := Aside0.mk (Kd.R_drew HO551.out)
       replace BK531 := Aside0.mk (blk_drew BK531.out)
       replace BK541 := Aside0.mk (blk_drew BK541.out)
       replace BK542 := Aside0.mk (blk_drew BK542.out)
       replace BK545 := Aside0.mk (blk_drew BK545.out)
       replace HB := Aside0.mk (below_drew1 HB.out)
       obtain ⟨Ao89, co89, eo89⟩ := Kd.R_slice HO551.out
       (first | subst eo89 | (injection eo89 with f1_ f2_ f3_; have f4_ := f1_.symm; have f5_ := f3_.symm; clear f1_ f2_ f3_; subst f4_; subst f5_))
       refine start_ (n := 38) (S := fun w' => w'.cell? ⟨gb541, 0, none⟩ = some (.int .i64 t535) ∧ w'.cell? ⟨gb541, 1, none⟩ = some (.int .i64 t536) ∧ w'.cell? ⟨gb541, 2, none⟩ = some (.int .i64 t537) ∧ w'.cell? ⟨gb545, 0, none⟩ = some (.int .i64 t543) ∧ w'.cell? ⟨gb545, 1, none⟩ = some (.int .i64 t544) ∧ w'.cell? ⟨gb542, 0, none⟩ = some (.int .i64 t538) ∧ w'.cell? ⟨gb542, 1, none⟩ = some (.int .i64 t539) ∧ w'.cell? ⟨gb542, 2, none⟩ = some (.int .i64 t540)) (ds := []) q27_0 (by kernel_rfl) rfl rfl ⟨bC BK541 0 rfl, bC BK541 1 rfl, bC BK541 2 rfl, bC BK545 0 rfl, bC BK545 1 rfl, bC BK542 0 rfl, bC BK542 1 rfl, bC BK542 2 rfl⟩ (fun hHeld => ?_); refine with_tabW clusterlockslaw10_HoldersGets.tab9 clusterlockslaw10_HoldersGets.bits9 (fun HT_ HW_ => ?_)
       generalize w85.drew = w86 at HO534 HO548 HO551 BK531 BK541 BK542 BK545 HB hHeld ⊢
       refine one_ (i := 0) (N := some 42) q27_1 rfl rfl (one_of HT_.out (by kernel_rfl)) (by decide) (fun K hK => ?_)
       refine goes_ Tryd.func11 (by kernel_rfl) rfl #[] (by rfl) rfl rfl (by (try simp only [mA]); first | done | rfl) ?_
       with_reducible refine (clusterlockslaw10_awake.calls k  true _ ?side1 A15.out).mono ?_
       (case side1 => exact GL.below HG.out (by repeat (first | (with_reducible first | exact HB.out | apply bL | apply bM | apply bR | refine bS ?_ GE531.out | refine bS ?_ GE541.out | refine bS ?_ GE542.out | refine bS ?_ GE545.out) | exact HB.out)))
       rintro e w87 ⟨rfl, hb⟩
       refine ⟨_, rfl, ?_⟩
       replace HO534 := Aside0.mk (Kd.R_below (by (with_reducible repeat (first | apply Kd.R_alloc | apply Kd.R_drewN | apply Kd.R_drew)); exact HO534.out) hb)
       replace HO548 := Aside0.mk (Kd.R_below (by (with_reducible repeat (first | apply Kd.R_alloc | apply Kd.R_drewN | apply Kd.R_drew)); exact HO548.out) hb)
       replace HO551 := Aside0.mk (Kd.R_below (by (with_reducible repeat (first | apply Kd.R_alloc | apply Kd.R_drewN | apply Kd.R_drew)); exact HO551.out) hb)
       replace BK531 := bK BK531 hb
       replace BK541 := bK BK541 hb
       replace BK542 := bK BK542 hb
       replace BK545 := bK BK545 hb
       replace HB := Aside0.mk (below_step (by repeat (first | (with_reducible first | exact HB.out | apply bL | apply bM | apply bR | refine bS ?_ GE531.out | refine bS ?_ GE541.out | refine bS ?_ GE542.out | refine bS ?_ GE545.out) | exact HB.out)) hb)
       (try clear hb)
       (try clear hk)
       refine hK.out _ _ ⟨bC BK541 0 rfl, bC BK541 1 rfl, bC BK541 2 rfl, bC BK545 0 rfl, bC BK545 1 rfl, bC BK542 0 rfl, bC BK542 1 rfl, bC BK542 2 rfl⟩ (fun hHeld => ?_)
       clear hK K
       refine norm_ (a' := ?_) ?_ ?_
       rotate_left
       ·show Act.put _ (some 42) _ = _
        simp only [sP]
        rfl
       refine pu HT_ 1 43 q27_2 rfl rfl (by kernel_rfl) (fun _ _ _ => id) (.inl ⟨by rfl, by intro w'; go_simp; with_reducible rfl⟩) (by simp only [sP]; rfl) ?_
       refine pu HT_ 2 44 q27_3 rfl rfl (by kernel_rfl) (fun _ _ _ => id) (.inl ⟨by rfl, by intro w'; go_simp; with_reducible rfl⟩) (by simp only [sP]; rfl) ?_
       refine tk HT_ HW_ 3 45 q27_4 rfl rfl (by kernel_rfl) (fun _ _ _ => id) (.inl ⟨by rfl, by rintro w' ⟨s0, s1, s2, s3, s4, s5, s6, s7⟩; go_simp; with_reducible rfl⟩) hHeld (by simp only [sP]; rfl) ?_
       refine tk HT_ HW_ 5 47 q27_5 rfl rfl (by kernel_rfl) (fun _ _ _ => id) (.inl ⟨by rfl, by rintro w' ⟨s0, s1, s2, s3, s4, s5, s6, s7⟩; go_simp; with_reducible rfl⟩) hHeld (by simp only [sP]; rfl) ?_
       refine one_ (i := 4) (N := some 46) q27_6 rfl rfl (one_of HT_.out (by kernel_rfl)) (by decide) (fun K hK => ?_)
       refine goes_ Tryd.func27 (by kernel_rfl) rfl #[.slice Ao84 t546.length co84, .agg #[.int .i64 t535, .int .i64 t536, .int .i64 t537]] (by rfl) rfl rfl (by (try simp only [mA]); first | done | rfl) ?_
       with_reducible refine (holders_Get.calls k _ _ t546 t535 t536 t537 t553 t554 _ ?side1 ?side2 A17.out).mono ?_
       (case side1 => repeat (first | exact (Kd.R_reads' HO548.out).2.2 | (with_reducible refine Kd.C_alloc ?_ _) | (with_reducible refine Kd.C_drewN ?_ _) | (with_reducible refine Kd.C_drew ?_)))
       (case side2 => exact (Kd.R_reads' HO548.out).2.1)
       rintro e w88 ⟨rfl, hb⟩
       refine ⟨_, rfl, ?_⟩
       replace HO534 := Aside0.mk (Kd.R_below (by (with_reducible repeat (first | apply Kd.R_alloc | apply Kd.R_drewN | apply Kd.R_drew)); exact HO534.out) hb)
       replace HO548 := Aside0.mk (Kd.R_below (by (with_reducible repeat (first | apply Kd.R_alloc | apply Kd.R_drewN | apply Kd.R_drew)); exact HO548.out) hb)
       replace HO551 := Aside0.mk (Kd.R_below (by (with_reducible repeat (first | apply Kd.R_alloc | apply Kd.R_drewN | apply Kd.R_drew)); exact HO551.out) hb)
       replace BK531 := bK BK531 hb
       replace BK541 := bK BK541 hb
       replace BK542 := bK BK542 hb
       replace BK545 := bK BK545 hb
       replace HB := Aside0.mk (below_step (by repeat (first | (with_reducible first | exact HB.out | apply bL | apply bM | apply bR | refine bS ?_ GE531.out | refine bS ?_ GE541.out | refine bS ?_ GE542.out | refine bS ?_ GE545.out) | exact HB.out)) hb)
       (try clear hb)
       (try clear hk)
       refine hK.out _ _ ⟨bC BK541 0 rfl, bC BK541 1 rfl, bC BK541 2 rfl, bC BK545 0 rfl, bC BK545 1 rfl, bC BK542 0 rfl, bC BK542 1 rfl, bC BK542 2 rfl⟩ (fun hHeld => ?_)
       clear hK K
       refine norm_ (a' := ?_) ?_ ?_
       rotate_left
       ·show Act.put _ (some 46) _ = _
        simp only [sP]
        rfl
       refine pu HT_ 6 48 q27_7 rfl rfl (by kernel_rfl) (fun _ _ _ => id) (.inl ⟨by rfl, by intro w'; go_simp; with_reducible rfl⟩) (by simp only [sP]; rfl) ?_
       refine pu HT_ 7 49 q27_8 rfl rfl (by kernel_rfl) (fun _ _ _ => id) (.inl ⟨by rfl, by intro w'; go_simp; with_reducible rfl⟩) (by simp only [sP]; rfl) ?_
       refine pu HT_ 8 50 q27_9 rfl rfl (by kernel_rfl) (fun _ _ _ => id) (.inl ⟨by rfl, by intro w'; go_simp; with_reducible rfl⟩) (by simp only [sP]; rfl) ?_
       refine pu HT_ 9 51 q27_10 rfl rfl (by kernel_rfl) (fun _ _ _ => id) (.inl ⟨by rfl, by intro w'; go_simp; with_reducible rfl⟩) (by simp only [sP]; rfl) ?_
       refine tk HT_ HW_ 10 52 q27_11 rfl rfl (by kernel_rfl) (fun _ _ _ => id) (.inl ⟨by rfl, by rintro w' ⟨s0, s1, s2, s3, s4, s5, s6, s7⟩; go_simp; with_reducible rfl⟩) hHeld (by simp only [sP]; rfl) ?_
       refine one_ (i := 11) (N := some 53) q27_12 rfl rfl (one_of HT_.out (by kernel_rfl)) (by decide) (fun K hK => ?_)
       refine goes_ Tryd.func27 (by kernel_rfl) rfl #[.slice Ao89 t549.length co89, .agg #[.int .i64 t535, .int .i64 t536, .int .i64 t537]] (by rfl) rfl rfl (by (try simp only [mA]); first | done | rfl) ?_
       with_reducible refine (holders_Get.calls k _ _ t549 t535 t536 t537 t555 t556 _ ?side1 ?side2 A19.out).mono ?_
       (case side1 => repeat (first | exact (Kd.R_reads' HO551.out).2.2 | (with_reducible refine Kd.C_alloc ?_ _) | (with_reducible refine Kd.C_drewN ?_ _) | (with_reducible refine Kd.C_drew ?_)))
       (case side2 => exact (Kd.R_reads' HO551.out).2.1)
       rintro e w90 ⟨rfl, hb⟩
       refine ⟨_, rfl, ?_⟩
       replace HO534 := Aside0.mk (Kd.R_below (by (with_reducible repeat (first | apply Kd.R_alloc | apply Kd.R_drewN | apply Kd.R_drew)); exact HO534.out) hb)
       replace HO548 := Aside0.mk (Kd.R_below (by (with_reducible repeat (first | apply Kd.R_alloc | apply Kd.R_drewN | apply Kd.R_drew)); exact HO548.out) hb)
       replace HO551 := Aside0.mk (Kd.R_below (by (with_reducible repeat (first | apply Kd.R_alloc | apply Kd.R_drewN | apply Kd.R_drew)); exact HO551.out) hb)
       replace BK531 := bK BK531 hb
       replace BK541 := bK BK541 hb
       replace BK542 := bK BK542 hb
       replace BK545 := bK BK545 hb
       replace HB := Aside0.mk (below_step (by repeat (first | (with_reducible first | exact HB.out | apply bL | apply bM | apply bR | refine bS ?_ GE531.out | refine bS ?_ GE541.out | refine bS ?_ GE542.out | refine bS ?_ GE545.out) | exact HB.out)) hb)
       (try clear hb)
       (try clear hk)
       refine hK.out _ _ ⟨bC BK541 0 rfl, bC BK541 1 rfl, bC BK541 2 rfl, bC BK545 0 rfl, bC BK545 1 rfl, bC BK542 0 rfl, bC BK542 1 rfl, bC BK542 2 rfl⟩ (fun hHeld => ?_)
       clear hK K
       refine norm_ (a' := ?_) ?_ ?_
       rotate_left
       ·show Act.put _ (some 53) _ = _
        simp only [sP]
        rfl
       refine one_ (i := 12) (N := some 54) q27_13 rfl rfl (one_of HT_.out (by kernel_rfl)) (by decide) (fun K hK => ?_)
       refine goes_ Tryd.func28 (by kernel_rfl) rfl #[.agg #[.int .i64 t555, .int .i64 t556]] (by rfl) rfl rfl (by (try simp only [mA]); first | done | rfl) ?_
       with_reducible refine (clusterlocksref04_Zero.calls t555 t556 true _ A20.out).mono ?_
       rintro e w91 ⟨rfl, hb⟩
       refine ⟨_, rfl, ?_⟩
       replace HO534 := Aside0.mk (Kd.R_below (by (with_reducible repeat (first | apply Kd.R_alloc | apply Kd.R_drewN | apply Kd.R_drew)); exact HO534.out) hb)
       replace HO548 := Aside0.mk (Kd.R_below (by (with_reducible repeat (first | apply Kd.R_alloc | apply Kd.R_drewN | apply Kd.R_drew)); exact HO548.out) hb)
       replace HO551 := Aside0.mk (Kd.R_below (by (with_reducible repeat (first | apply Kd.R_alloc | apply Kd.R_drewN | apply Kd.R_drew)); exact HO551.out) hb)
       replace BK531 := bK BK531 hb
       replace BK541 := bK BK541 hb
       replace BK542 := bK BK542 hb
       replace BK545 := bK BK545 hb
       replace HB := Aside0.mk (below_step (by repeat (first | (with_reducible first | exact HB.out | apply bL | apply bM | apply bR | refine bS ?_ GE531.out | refine bS ?_ GE541.out | refine bS ?_ GE542.out | refine bS ?_ GE545.out) | exact HB.out)) hb)
       (try clear hb)
       (try clear hk)
       refine hK.out _ _ ⟨bC BK541 0 rfl, bC BK541 1 rfl, bC BK541 2 rfl, bC BK545 0 rfl, bC BK545 1 rfl, bC BK542 0 rfl, bC BK542 1 rfl, bC BK542 2 rfl⟩ (fun hHeld => ?_)
       clear hK K
       refine norm_ (a' := ?_) ?_ ?_
       rotate_left
       ·show Act.put _ (some 54) _ = _
        simp only [sP]
        rfl
       refine pu HT_ 13 55 q27_14 rfl rfl (by kernel_rfl) (fun _ _ _ => id) (.inl ⟨by rfl, by intro w'; go_simp; with_reducible rfl⟩) (by simp only [sP]; rfl) ?_
       refine pu HT_ 14 56 q27_15 rfl rfl (by kernel_rfl) (fun _ _ _ => id) (.inl ⟨by rfl, by intro w'; go_simp; with_reducible rfl⟩) (by simp only [sP]; rfl) ?_
       refine tk HT_ HW_ 15 57 q27_16 rfl rfl (by kernel_rfl) (fun _ _ _ => id) (.inl ⟨by rfl, by rintro w' ⟨s0, s1, s2, s3, s4, s5, s6, s7⟩; go_simp; with_reducible rfl⟩) hHeld (by simp only [sP]; rfl) ?_
       refine tk HT_ HW_ 16 58 q27_17 rfl rfl (by kernel_rfl) (fun _ _ _ => id) (.inl ⟨by rfl, by rintro w' ⟨s0, s1, s2, s3, s4, s5, s6, s7⟩; go_simp; with_reducible rfl⟩) hHeld (by simp only [sP]; rfl) ?_
       refine pu HT_ 17 59 q27_18 rfl rfl (by kernel_rfl) (fun _ _ _ => id) (.inl ⟨by rfl, by intro w'; go_simp; with_reducible rfl⟩) (by simp only [sP]; rfl) ?_
       refine pu HT_ 18 60 q27_19 rfl rfl (by kernel_rfl) (fun _ _ _ => id) (.inl ⟨by rfl, by intro w'; go_simp; with_reducible rfl⟩) (by simp only [sP]; rfl) ?_
       refine pu HT_ 19 61 q27_20 rfl rfl (by kernel_rfl) (fun _ _ _ => id) (.inl ⟨by rfl, by intro w'; go_simp; with_reducible rfl⟩) (by simp only [sP]; rfl) ?_
       refine pu HT_ 22 64 #[T,T,T,T,T,T,T,T,T,T,T,T,T,T,T,T,T,T,T,T,F,F,T,F,F,F,F,F,F,F,F,F,F,F,F,F,F,F] rfl rfl (by kernel_rfl) (fun _ _ _ => id) (.inl ⟨by rfl, by intro w'; go_simp; with_reducible rfl⟩) (by simp only [sP]; rfl) ?_
       refine tk HT_ HW_ 20 62 #[T,T,T,T,T,T,T,T,T,T,T,T,T,T,T,T,T,T,T,T,T,F,T,F,F,F,F,F,F,F,F,F,F,F,F,F,F,F] rfl rfl (by kernel_rfl) (fun _ _ _ => id) (.inl ⟨by rfl, by rintro w' ⟨s0, s1, s2, s3, s4, s5, s6, s7⟩; go_simp; with_reducible rfl⟩) hHeld (by simp only [sP]; rfl) ?_
       refine tk HT_ HW_ 23 65 #[T,T,T,T,T,T,T,T,T,T,T,T,T,T,T,T,T,T,T,T,T,F,T,T,F,F,F,F,F,F,F,F,F,F,F,F,F,F] rfl rfl (by kernel_rfl) (fun _ _ _ => id) (.inl ⟨by rfl, by rintro w' ⟨s0, s1, s2, s3, s4, s5, s6, s7⟩; go_simp; with_reducible rfl⟩) hHeld (by simp only [sP]; rfl) ?_
       refine one_ (i := 21) (N := some 63) q27_21 rfl rfl (one_of HT_.out (by kernel_rfl)) (by decide) (fun K hK => ?_)
       refine goes_ Tryd.func27 (by kernel_rfl) rfl #[.slice Ao84 t546.length co84, .agg #[.int .i64 t538, .int .i64 t539, .int .i64 t540]] (by rfl) rfl rfl (by (try simp only [mA]); first | done | rfl) ?_
       with_reducible refine (holders_Get.calls k _ _ t546 t538 t539 t540 t558 t559 _ ?side1 ?side2 A55.out).mono ?_
       (case side1 => repeat (first | exact (Kd.R_reads' HO548.out).2.2 | (with_reducible refine Kd.C_alloc ?_ _) | (with_reducible refine Kd.C_drewN ?_ _) | (with_reducible refine Kd.C_drew ?_)))
       (case side2 => exact (Kd.R_reads' HO548.out).2.1)
       rintro e w92 ⟨rfl, hb⟩
       refine ⟨_, rfl, ?_⟩
       replace HO534 := Aside0.mk (Kd.R_below (by (with_reducible repeat (first | apply Kd.R_alloc | apply Kd.R_drewN | apply Kd.R_drew)); exact HO534.out) hb)
       replace HO548 := Aside0.mk (Kd.R_below (by (with_reducible repeat (first | apply Kd.R_alloc | apply Kd.R_drewN | apply Kd.R_drew)); exact HO548.out) hb)
       replace HO551 := Aside0.mk (Kd.R_below (by (with_reducible repeat (first | apply Kd.R_alloc | apply Kd.R_drewN | apply Kd.R_drew)); exact HO551.out) hb)
       replace BK531 := bK BK531 hb
       replace BK541 := bK BK541 hb
       replace BK542 := bK BK542 hb
       replace BK545 := bK BK545 hb
       replace HB := Aside0.mk (below_step (by repeat (first | (with_reducible first | exact HB.out | apply bL | apply bM | apply bR | refine bS ?_ GE531.out | refine bS ?_ GE541.out | refine bS ?_ GE542.out | refine bS ?_ GE545.out) | exact HB.out)) hb)
       (try clear hb)
       (try clear hk)
       refine hK.out _ _ ⟨bC BK541 0 rfl, bC BK541 1 rfl, bC BK541 2 rfl, bC BK545 0 rfl, bC BK545 1 rfl, bC BK542 0 rfl, bC BK542 1 rfl, bC BK542 2 rfl⟩ (fun hHeld => ?_)
       clear hK K
       refine norm_ (a' := ?_) ?_ ?_
       rotate_left
       ·show Act.put _ (some 63) _ = _
        simp only [sP]
        rfl
       refine one_ (i := 24) (N := some 66) q27_22 rfl rfl (one_of HT_.out (by kernel_rfl)) (by decide) (fun K hK => ?_)
       refine goes_ Tryd.func29 (by kernel_rfl) rfl #[.slice Ao81 t532.length co81, .agg #[.int .i64 t538, .int .i64 t539, .int .i64 t540]] (by rfl) rfl rfl (by (try simp only [mA]); first | done | rfl) ?_
       with_reducible refine (clusterlocksref10_Get.calls k _ _ t532 t538 t539 t540 t560 t561 _ ?side1 ?side2 A56.out).mono ?_
       (case side1 => repeat (first | exact (Kd.R_reads' HO534.out).2.2 | (with_reducible refine Kd.C_alloc ?_ _) | (with_reducible refine Kd.C_drewN ?_ _) | (with_reducible refine Kd.C_drew ?_)))
       (case side2 => exact (Kd.R_reads' HO534.out).2.1)
       rintro e w93 ⟨rfl, hb⟩
       refine ⟨_, rfl, ?_⟩
       replace HO534 := Aside0.mk (Kd.R_below (by (with_reducible repeat (first | apply Kd.R_alloc | apply Kd.R_drewN | apply Kd.R_drew)); exact HO534.out) hb)
       replace HO548 := Aside0.mk (Kd.R_below (by (with_reducible repeat (first | apply Kd.R_alloc | apply Kd.R_drewN | apply Kd.R_drew)); exact HO548.out) hb)
       replace HO551 := Aside0.mk (Kd.R_below (by (with_reducible repeat (first | apply Kd.R_alloc | apply Kd.R_drewN | apply Kd.R_drew)); exact HO551.out) hb)
       replace BK531 := bK BK531 hb
       replace BK541 := bK BK541 hb
       replace BK542 := bK BK542 hb
       replace BK545 := bK BK545 hb
       replace HB := Aside0.mk (below_step (by repeat (first | (with_reducible first | exact HB.out | apply bL | apply bM | apply bR | refine bS ?_ GE531.out | refine bS ?_ GE541.out | refine bS ?_ GE542.out | refine bS ?_ GE545.out) | exact HB.out)) hb)
       (try clear hb)
       (try clear hk)
       refine hK.out _ _ ⟨bC BK541 0 rfl, bC BK541 1 rfl, bC BK541 2 rfl, bC BK545 0 rfl, bC BK545 1 rfl, bC BK542 0 rfl, bC BK542 1 rfl, bC BK542 2 rfl⟩ (fun hHeld => ?_)
       clear hK K
       refine norm_ (a' := ?_) ?_ ?_
       rotate_left
       ·show Act.put _ (some 66) _ = _
        simp only [sP]
        rfl
       refine pu HT_ 25 67 q27_23 rfl rfl (by kernel_rfl) (fun _ _ _ => id) (.inl ⟨by rfl, by intro w'; go_simp; with_reducible rfl⟩) (by simp only [sP]; rfl) ?_
       refine pu HT_ 26 68 q27_24 rfl rfl (by kernel_rfl) (fun _ _ _ => id) (.inl ⟨by rfl, by intro w'; go_simp; with_reducible rfl⟩) (by simp only [sP]; rfl) ?_
       refine pu HT_ 27 69 q27_25 rfl rfl (by kernel_rfl) (fun _ _ _ => id) (.inl ⟨by rfl, by intro w'; go_simp; with_reducible rfl⟩) (by simp only [sP]; rfl) ?_
       refine pu HT_ 30 72 #[T,T,T,T,T,T,T,T,T,T,T,T,T,T,T,T,T,T,T,T,T,T,T,T,T,T,T,T,F,F,T,F,F,F,F,F,F,F] rfl rfl (by kernel_rfl) (fun _ _ _ => id) (.inl ⟨by rfl, by intro w'; go_simp; with_reducible rfl⟩) (by simp only [sP]; rfl) ?_
       refine tk HT_ HW_ 28 70 #[T,T,T,T,T,T,T,T,T,T,T,T,T,T,T,T,T,T,T,T,T,T,T,T,T,T,T,T,T,F,T,F,F,F,F,F,F,F] rfl rfl (by kernel_rfl) (fun _ _ _ => id) (.inl ⟨by rfl, by rintro w' ⟨s0, s1, s2, s3, s4, s5, s6, s7⟩; go_simp; with_reducible rfl⟩) hHeld (by simp only [sP]; rfl) ?_
       refine tk HT_ HW_ 31 73 #[T,T,T,T,T,T,T,T,T,T,T,T,T,T,T,T,T,T,T,T,T,T,T,T,T,T,T,T,T,F,T,T,F,F,F,F,F,F] rfl rfl (by kernel_rfl) (fun _ _ _ => id) (.inl ⟨by rfl, by rintro w' ⟨s0, s1, s2, s3, s4, s5, s6, s7⟩; go_simp; with_reducible rfl⟩) hHeld (by simp only [sP]; rfl) ?_
       refine one_ (i := 29) (N := some 71) q27_26 rfl rfl (one_of HT_.out (by kernel_rfl)) (by decide) (fun K hK => ?_)
       refine goes_ Tryd.func27 (by kernel_rfl) rfl #[.slice Ao89 t549.length co89, .agg #[.int .i64 t538, .int .i64 t539, .int .i64 t540]] (by rfl) rfl rfl (by (try simp only [mA]); first | done | rfl) ?_
       with_reducible refine (holders_Get.calls k _ _ t549 t538 t539 t540 t562 t563 _ ?side1 ?side2 A58.out).mono ?_
       (case side1 => repeat (first | exact (Kd.R_reads' HO551.out).2.2 | (with_reducible refine Kd.C_alloc ?_ _) | (with_reducible refine Kd.C_drewN ?_ _) | (with_reducible refine Kd.C_drew ?_)))
       (case side2 => exact (Kd.R_reads' HO551.out).2.1)
       rintro e w94 ⟨rfl, hb⟩
       refine ⟨_, rfl, ?_⟩
       replace HO534 := Aside0.mk (Kd.R_below (by (with_reducible repeat (first | apply Kd.R_alloc | apply Kd.R_drewN | apply Kd.R_drew)); exact HO534.out) hb)
       replace HO548 := Aside0.mk (Kd.R_below (by (with_reducible repeat (first | apply Kd.R_alloc | apply Kd.R_drewN | apply Kd.R_drew)); exact HO548.out) hb)
       replace HO551 := Aside0.mk (Kd.R_below (by (with_reducible repeat (first | apply Kd.R_alloc | apply Kd.R_drewN | apply Kd.R_drew)); exact HO551.out) hb)
       replace BK531 := bK BK531 hb
       replace BK541 := bK BK541 hb
       replace BK542 := bK BK542 hb
       replace BK545 := bK BK545 hb
       replace HB := Aside0.mk (below_step (by repeat (first | (with_reducible first | exact HB.out | apply bL | apply bM | apply bR | refine bS ?_ GE531.out | refine bS ?_ GE541.out | refine bS ?_ GE542.out | refine bS ?_ GE545.out) | exact HB.out)) hb)
       (try clear hb)
       (try clear hk)
       refine hK.out _ _ ⟨bC BK541 0 rfl, bC BK541 1 rfl, bC BK541 2 rfl, bC BK545 0 rfl, bC BK545 1 rfl, bC BK542 0 rfl, bC BK542 1 rfl, bC BK542 2 rfl⟩ (fun hHeld => ?_)
       clear hK K
       refine norm_ (a' := ?_) ?_ ?_
       rotate_left
       ·show Act.put _ (some 71) _ = _
        simp only [sP]
        rfl
       refine one_ (i := 32) (N := some 74) q27_27 rfl rfl (one_of HT_.out (by kernel_rfl)) (by decide) (fun K hK => ?_)
       refine goes_ Tryd.func29 (by kernel_rfl) rfl #[.slice Ao81 t532.length co81, .agg #[.int .i64 t538, .int .i64 t539, .int .i64 t540]] (by rfl) rfl rfl (by (try simp only [mA]); first | done | rfl) ?_
       with_reducible refine (clusterlocksref10_Get.calls k _ _ t532 t538 t539 t540 t564 t565 _ ?side1 ?side2 A59.out).mono ?_
       (case side1 => repeat (first | exact (Kd.R_reads' HO534.out).2.2 | (with_reducible refine Kd.C_alloc ?_ _) | (with_reducible refine Kd.C_drewN ?_ _) | (with_reducible refine Kd.C_drew ?_)))
       (case side2 => exact (Kd.R_reads' HO534.out).2.1)
       rintro e w95 ⟨rfl, hb⟩
       refine ⟨_, rfl, ?_⟩
       replace HO534 := Aside0.mk (Kd.R_below (by (with_reducible repeat (first | apply Kd.R_alloc | apply Kd.R_drewN | apply Kd.R_drew)); exact HO534.out) hb)
       replace HO548 := Aside0.mk (Kd.R_below (by (with_reducible repeat (first | apply Kd.R_alloc | apply Kd.R_drewN | apply Kd.R_drew)); exact HO548.out) hb)
       replace HO551 := Aside0.mk (Kd.R_below (by (with_reducible repeat (first | apply Kd.R_alloc | apply Kd.R_drewN | apply Kd.R_drew)); exact HO551.out) hb)
       replace BK531 := bK BK531 hb
       replace BK541 := bK BK541 hb
       replace BK542 := bK BK542 hb
       replace BK545 := bK BK545 hb
       replace HB := Aside0.mk (below_step (by repeat (first | (with_reducible first | exact HB.out | apply bL | apply bM | apply bR | refine bS ?_ GE531.out | refine bS ?_ GE541.out | refine bS ?_ GE542.out | refine bS ?_ GE545.out) | exact HB.out)) hb)
       (try clear hb)
       (try clear hk)
       refine hK.out _ _ ⟨bC BK541 0 rfl, bC BK541 1 rfl, bC BK541 2 rfl, bC BK545 0 rfl, bC BK545 1 rfl, bC BK542 0 rfl, bC BK542 1 rfl, bC BK542 2 rfl⟩ (fun hHeld => ?_)
       clear hK K
       refine norm_ (a' := ?_) ?_ ?_
       rotate_left
       ·show Act.put _ (some 74) _ = _
        simp only [sP]
        rfl
       refine pu HT_ 33 75 q27_28 rfl rfl (by kernel_rfl) (fun _ _ _ => id) (.inl ⟨by rfl, by intro w'; go_simp; with_reducible rfl⟩) (by simp only [sP]; rfl) ?_
       refine pu HT_ 34 76 q27_29 rfl rfl (by kernel_rfl) (fun _ _ _ => id) (.inl ⟨by rfl, by intro w'; go_simp; with_reducible rfl⟩) (by simp only [sP]; rfl) ?_
       refine pu HT_ 35 77 q27_30 rfl rfl (by kernel_rfl) (fun _ _ _ => id) (.inl ⟨by rfl, by intro w'; go_simp; with_reducible rfl⟩) (by simp only [sP]; rfl) ?_
       refine pu HT_ 36 78 q27_31 rfl rfl (by kernel_rfl) (fun _ _ _ => id) (.inl ⟨by rfl, by intro w'; go_simp; with_reducible rfl⟩) (by simp only [sP]; rfl) ?_
       refine pu HT_ 37 10 q27_32 rfl rfl (by kernel_rfl) (fun _ _ _ => id) (.inl ⟨by rfl, by intro w'; go_simp; with_reducible rfl⟩) (by simp only [sP]; rfl) ?_
       refine done_ (done_of HT_.out (by kernel_rfl)) ?_
       try go_wp2
       go_ret
       exact ⟨by first | rfl | (simp [errW_none, errW_some] <;> rfl) | (simp [*, errW_none, errW_some] <;> rfl), by repeat (first | (with_reducible first | exact HB.out | apply bL | apply bM | apply bR | refine bS ?_ GE531.out | refine bS ?_ GE541.out | refine bS ?_ GE542.out | refine bS ?_ GE545.out) | exact HB.out)⟩
      ·rw [if_neg c57] at H
       have c57b0 : (t558 == t560 && (t559 == t561)) = false := by simpa using c57
       (try (have c57b1 : decide (t558 = t560 && (t559 == t561)) = false := by simpa using c57))
       (try (have c57b2 : (t558 == t560 && (t559 == t561)) = false := by simpa using c57))
       (try (have c57b3 : ¬ (t558 = t560 && (t559 == t561)) := by simpa using c57))
       clear c57
       exact absurd (Option.some.inj H) (by rw [HRT.out]; decide)
    ·replace c21 := Bool.eq_false_iff.mpr c21
     subst c21
     rw [if_neg (show ¬ (false = true) by decide)] at H
     exact absurd (Option.some.inj H) (by rw [HRT.out]; decide)
   ·rw [if_neg c18] at H
    have c18b0 : (t553 == t543 && (t554 == t544)) = false := by simpa using c18
    (try (have c18b1 : decide (t553 = t543 && (t554 == t544)) = false := by simpa using c18))
    (try (have c18b2 : (t553 == t543 && (t554 == t544)) = false := by simpa using c18))
    (try (have c18b3 : ¬ (t553 = t543 && (t554 == t544)) := by simpa using c18))
    clear c18
    exact absurd (Option.some.inj H) (by rw [HRT.out]; decide)
  ·replace c16 := Bool.eq_false_iff.mpr c16
   subst c16
   rw [if_neg (show ¬ (false = true) by decide)] at H
   exact absurd (Option.some.inj H) (by rw [HRT.out]; decide)
 ·replace c7 := Bool.eq_false_iff.mpr c7
  subst c7
  rw [if_neg (show ¬ (false = true) by decide)] at H
  obtain ⟨t526, A2190, H⟩ := Option.bind_eq_some_iff.mp H
  have A219 := Aside0.mk A2190; clear A2190
  obtain rfl := Option.some.inj H
  go_enter Tryd.func9, Tryd.ntmps9
  go_wp2_with (first | ((with_reducible refine gate_callee (f := 20) rfl ?_); refine goesL_ (some 19) rfl rfl Tryd.func20 (by kernel_rfl) rfl #[.slice A1 l1.length c1] rfl (by (try simp only [mA]); first | done | rfl) ?_; (with_reducible refine (clusterlocksmill_Light.calls _ _ l1 false _ ?side1 ?side2 A6.out).mono ?_); (case side1 => repeat (first | exact HR1.out | (with_reducible refine Kd.C_alloc ?_ _) | (with_reducible refine Kd.C_drewN ?_ _) | (with_reducible refine Kd.C_drew ?_))); (case side2 => exact HC1.out); rintro e w' ⟨rfl, ⟨nd, rfl⟩⟩; refine ⟨_, rfl, ?_⟩) | ((with_reducible refine gate_callee (f := 11) rfl ?_); refine goesL_ (some 21) rfl rfl Tryd.func11 (by kernel_rfl) rfl #[] rfl (by (try simp only [mA]); first | done | rfl) ?_; (with_reducible refine (clusterlockslaw10_awake.calls k  t526 _ ?side1 A219.out).mono ?_); (case side1 => exact GL.below HG.out (uB HB)); rintro e w220 ⟨rfl, hb⟩; refine ⟨_, rfl, ?_⟩; replace HB := bB HB hb; (try clear hb); (try clear hk)))
  go_ret
  exact ⟨by first | rfl | (simp [errW_none, errW_some] <;> rfl) | (simp [*, errW_none, errW_some] <;> rfl), by repeat (first | (with_reducible first | exact HB.out | apply bL | apply bM | apply bR) | exact HB.out)⟩
end Go.Proofs.YtnmemkphfgdplaaDoor.PA
