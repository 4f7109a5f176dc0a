-- Printed by wip/tool/myprint.py for this claim; Lean checks it.
import Derived.Test.YtnmemkphfgdplaaDoorPAx0
import Derived.Test.YtnmemkphfgdplaaDoorSlim
import Derived.Test.YtnmemkphfgdplaaDoorPAx1
import Derived.Test.YtnmemkphfgdplaaDoorPAx4
import Derived.Test.YtnmemkphfgdplaaDoorPAx6
import Derived.Test.YtnmemkphfgdplaaDoorPAx7
import Derived.Test.YtnmemkphfgdplaaDoorPAx9
import Derived.Test.YtnmemkphfgdplaaDoorPAxM
import Derived.Test.YtnmemkphfgdplaaDoorPAx23
namespace Go.Proofs.YtnmemkphfgdplaaDoor.PA
open Go.RowKit Go.Proofs.YtnmemkphfgdplaaDoorW.PrintWords Go.Proofs.YtnmemkphfgdplaaDoorW.PrintLast Go.Proofs.YtnmemkphfgdplaaDoorW.PrintMore
attribute [local go_sem] max2_int min2_int max_two min_two max_three min_three max_four min_four   -- for this text's walks alone
set_option linter.unusedVariables false
set_option linter.unusedSimpArgs false
abbrev q25_0 : Array Bool := #[T,T,T,T,T,T,T,F,F]
abbrev q25_1 : Array Bool := #[T,T,T,T,F,T,T,F,F]
abbrev q25_2 : Array Bool := #[T,T,T,T,T,T,F,F,F]
abbrev q25_3 : Array Bool := #[T,T,T,T,T,F,T,F,F]
abbrev q25_4 : Array Bool := #[T,T,T,T,F,T,F,F,F]
abbrev q25_5 : Array Bool := #[T,T,T,T,F,F,T,F,F]
abbrev q25_6 : Array Bool := #[T,F,T,T,F,T,T,F,F]
abbrev q25_7 : Array Bool := #[T,T,T,T,T,F,F,F,F]
abbrev q25_8 : Array Bool := #[T,T,T,T,F,F,F,F,F]
abbrev q25_9 : Array Bool := #[T,F,T,T,F,T,F,F,F]
abbrev q25_10 : Array Bool := #[T,F,T,T,F,F,T,F,F]

attribute [local go_sem high] eqA24
/-! ### clusterlockslaw10_HoldersShrinks: function 7 -/
def clusterlockslaw10_HoldersShrinks.f (k : Nat) (a0 : Int) (l1 : List Int) (a2 : Int) (a3 : Int) (a4 : Int) : Option (Bool) := (clusterlocksmill_Light.f l1).bind fun t466 => (if t466 = true then ((clusterlocksmill_Resource.f k a0).bind fun bt468 => ((clusterlockslaw10_made.f k bt468.1 bt468.2.1 bt468.2.2.1 bt468.2.2.2 l1).bind fun t473 => ((clusterlocksmill_Proc.f a2).bind fun bt476 => ((holders_Set.f k t473 bt476.1 bt476.2.1 bt476.2.2 0 0).bind fun t479 => ((clusterlocksmill_Proc.f a3).bind fun bt482 => ((clusterlocksmill_Amount.f bt468.1 bt468.2.1 bt468.2.2.1 bt468.2.2.2 a4).bind fun bt485 => ((clusterlocksmill_Proc.f a2).bind fun bt489 => (if (bt489.1 == bt482.1 && (bt489.2.1 == bt482.2.1 && (bt489.2.2 == bt482.2.2))) = true then ((clusterlockslaw10_awake.f k).bind fun t492 => (if t492 = true then ((holders_Valid.f k bt468.1 bt468.2.1 bt468.2.2.1 bt468.2.2.2 t479).bind fun t493 => (some t493)) else (some false))) else ((clusterlockslaw10_awake.f k).bind fun t494 => (if t494 = true then ((holders_Valid.f k bt468.1 bt468.2.1 bt468.2.2.1 bt468.2.2.2 t473).bind fun t495 => (if t495 = true then ((holders_Valid.f k bt468.1 bt468.2.1 bt468.2.2.1 bt468.2.2.2 t479).bind fun t496 => (if t496 = true then ((holders_Room.f k bt468.1 bt468.2.1 bt468.2.2.1 bt468.2.2.2 t473 bt482.1 bt482.2.1 bt482.2.2 bt485.1 bt485.2).bind fun t497 => (if t497 = true then ((holders_Room.f k bt468.1 bt468.2.1 bt468.2.2.1 bt468.2.2.2 t479 bt482.1 bt482.2.1 bt482.2.2 bt485.1 bt485.2).bind fun t498 => (some t498)) else (some true))) else (some false))) else (some false))) else (some false))))))))))) else ((clusterlockslaw10_awake.f k).bind fun t467 => (some t467)))
theorem clusterlockslaw10_HoldersShrinks.mono : ∀ a0 a1 a2 a3 a4 k, LeO (clusterlockslaw10_HoldersShrinks.f k a0 a1 a2 a3 a4) (clusterlockslaw10_HoldersShrinks.f (k + 1) a0 a1 a2 a3 a4) := by
 intro a0 a1 a2 a3 a4 k
 unfold clusterlockslaw10_HoldersShrinks.f
 repeat' first
   | (with_reducible exact clusterlockslaw10_awake.mono _)
   | (with_reducible exact clusterlockslaw10_made.mono _ _ _ _ _ _)
   | (with_reducible exact clusterlocksmill_Resource.mono _ _)
   | (with_reducible exact holders_Room.mono _ _ _ _ _ _ _ _ _ _ _)
   | (with_reducible exact holders_Set.mono _ _ _ _ _ _ _)
   | (with_reducible exact holders_Valid.mono _ _ _ _ _ _)
   | (with_reducible exact LeO.refl _)
   | (with_reducible exact LeO.none _)
   | (with_reducible refine LeO.ite ?_ ?_)
   | (with_reducible refine LeO.bind ?_ (fun _ => ?_))
   | exact clusterlockslaw10_awake.mono _
   | exact clusterlockslaw10_made.mono _ _ _ _ _ _
   | exact clusterlocksmill_Resource.mono _ _
   | exact holders_Room.mono _ _ _ _ _ _ _ _ _ _ _
   | exact holders_Set.mono _ _ _ _ _ _ _
   | exact holders_Valid.mono _ _ _ _ _ _
   | exact LeO.none _
   | refine LeO.ite ?_ ?_
   | refine LeO.bind ?_ (fun _ => ?_)
def clusterlockslaw10_HoldersShrinks.T6 : Bool × List (List Nat × List Nat) := (true, [([], []), ([0], [0]), ([], []), ([], []), ([2, 3, 1], [2, 3]), ([], []), ([], []), ([5, 1, 4, 0, 1, 5, 6], [1, 5]), ([6, 4, 7, 0, 1, 2, 3, 4, 5, 6, 7], [4, 6])])
def clusterlockslaw10_HoldersShrinks.B6 : List Nat := [0, 1, 0, 0, 15, 0, 0, 127, 255]
theorem clusterlockslaw10_HoldersShrinks.tab6 : rtab .any (opsOf Tryd.f7 6) = clusterlockslaw10_HoldersShrinks.T6 := by kernel_rfl
theorem clusterlockslaw10_HoldersShrinks.bits6 : waitsOk clusterlockslaw10_HoldersShrinks.T6.2 clusterlockslaw10_HoldersShrinks.B6 = true := by kernel_rfl
set_option maxHeartbeats 8000000 in
set_option maxRecDepth 100000 in
theorem clusterlockslaw10_HoldersShrinks.calls (k : Nat) (a0 : Int) (A1 : Option Addr) (c1 : Nat) (l1 : List Int) (a2 : Int) (a3 : Int) (a4 : Int) (r : Bool) (w : World) (hr1 : Kd.C (Kd.int .i64) w A1 l1.length l1) (hc1 : l1.length ≤ c1) (hG : GL w) (h : clusterlockslaw10_HoldersShrinks.f k a0 l1 a2 a3 a4 = some r) (hT : r = true) :
  Calls Tryd.prog 7 #[.int .i64 a0, .slice A1 l1.length c1, .int .i64 a2, .int .i64 a3, .int .i64 a4] w fun e w' => e = .returned (.bool r) ∧ Below w.heap.size w w' := by
 have hu32 := Tryd.underlying32
 have hu26 := Tryd.underlying26
 have hu24 := Tryd.underlying24
 have HG := Aside0.mk hG
 clear hG
 have HR1 := Aside0.mk hr1
 have HC1 := Aside0.mk hc1
 clear hr1 hc1
 have HB := Aside0.mk (Below.refl w.heap.size w)
 have H : ((clusterlocksmill_Light.f l1).bind fun t466 => (if t466 = true then ((clusterlocksmill_Resource.f k a0).bind fun bt468 => ((clusterlockslaw10_made.f k bt468.1 bt468.2.1 bt468.2.2.1 bt468.2.2.2 l1).bind fun t473 => ((clusterlocksmill_Proc.f a2).bind fun bt476 => ((holders_Set.f k t473 bt476.1 bt476.2.1 bt476.2.2 0 0).bind fun t479 => ((clusterlocksmill_Proc.f a3).bind fun bt482 => ((clusterlocksmill_Amount.f bt468.1 bt468.2.1 bt468.2.2.1 bt468.2.2.2 a4).bind fun bt485 => ((clusterlocksmill_Proc.f a2).bind fun bt489 => (if (bt489.1 == bt482.1 && (bt489.2.1 == bt482.2.1 && (bt489.2.2 == bt482.2.2))) = true then ((clusterlockslaw10_awake.f k).bind fun t492 => (if t492 = true then ((holders_Valid.f k bt468.1 bt468.2.1 bt468.2.2.1 bt468.2.2.2 t479).bind fun t493 => (some t493)) else (some false))) else ((clusterlockslaw10_awake.f k).bind fun t494 => (if t494 = true then ((holders_Valid.f k bt468.1 bt468.2.1 bt468.2.2.1 bt468.2.2.2 t473).bind fun t495 => (if t495 = true then ((holders_Valid.f k bt468.1 bt468.2.1 bt468.2.2.1 bt468.2.2.2 t479).bind fun t496 => (if t496 = true then ((holders_Room.f k bt468.1 bt468.2.1 bt468.2.2.1 bt468.2.2.2 t473 bt482.1 bt482.2.1 bt482.2.2 bt485.1 bt485.2).bind fun t497 => (if t497 = true then ((holders_Room.f k bt468.1 bt468.2.1 bt468.2.2.1 bt468.2.2.2 t479 bt482.1 bt482.2.1 bt482.2.2 bt485.1 bt485.2).bind fun t498 => (some t498)) else (some true))) else (some false))) else (some false))) else (some false))))))))))) else ((clusterlockslaw10_awake.f k).bind fun t467 => (some t467)))) = some r := h
 have HRT := Aside0.mk hT
 clear h
 obtain ⟨t466, A60, H⟩ := Option.bind_eq_some_iff.mp H
 have A6 := Aside0.mk A60; clear A60
 by_cases c7 : t466 = true
 ·subst c7
  rw [if_pos rfl] at H
  replace H := Option.bind_eq_some_iff.mp H
  obtain ⟨⟨t468, t469, t470, t471⟩, A80, H⟩ := H
  replace H : ((clusterlockslaw10_made.f k t468 t469 t470 t471 l1).bind fun t473 => ((clusterlocksmill_Proc.f a2).bind fun bt476 => ((holders_Set.f k t473 bt476.1 bt476.2.1 bt476.2.2 0 0).bind fun t479 => ((clusterlocksmill_Proc.f a3).bind fun bt482 => ((clusterlocksmill_Amount.f t468 t469 t470 t471 a4).bind fun bt485 => ((clusterlocksmill_Proc.f a2).bind fun bt489 => (if (bt489.1 == bt482.1 && (bt489.2.1 == bt482.2.1 && (bt489.2.2 == bt482.2.2))) = true then ((clusterlockslaw10_awake.f k).bind fun t492 => (if t492 = true then ((holders_Valid.f k t468 t469 t470 t471 t479).bind fun t493 => (some t493)) else (some false))) else ((clusterlockslaw10_awake.f k).bind fun t494 => (if t494 = true then ((holders_Valid.f k t468 t469 t470 t471 t473).bind fun t495 => (if t495 = true then ((holders_Valid.f k t468 t469 t470 t471 t479).bind fun t496 => (if t496 = true then ((holders_Room.f k t468 t469 t470 t471 t473 bt482.1 bt482.2.1 bt482.2.2 bt485.1 bt485.2).bind fun t497 => (if t497 = true then ((holders_Room.f k t468 t469 t470 t471 t479 bt482.1 bt482.2.1 bt482.2.2 bt485.1 bt485.2).bind fun t498 => (some t498)) else (some true))) else (some false))) else (some false))) else (some false)))))))))) = some r := H
  have A8 := Aside0.mk A80; clear A80
  obtain ⟨t473, A90, H⟩ := Option.bind_eq_some_iff.mp H
  have A9 := Aside0.mk A90; clear A90
  replace H := Option.bind_eq_some_iff.mp H
  obtain ⟨⟨t476, t477, t478⟩, A100, H⟩ := H
  replace H : ((holders_Set.f k t473 t476 t477 t478 0 0).bind fun t479 => ((clusterlocksmill_Proc.f a3).bind fun bt482 => ((clusterlocksmill_Amount.f t468 t469 t470 t471 a4).bind fun bt485 => ((clusterlocksmill_Proc.f a2).bind fun bt489 => (if (bt489.1 == bt482.1 && (bt489.2.1 == bt482.2.1 && (bt489.2.2 == bt482.2.2))) = true then ((clusterlockslaw10_awake.f k).bind fun t492 => (if t492 = true then ((holders_Valid.f k t468 t469 t470 t471 t479).bind fun t493 => (some t493)) else (some false))) else ((clusterlockslaw10_awake.f k).bind fun t494 => (if t494 = true then ((holders_Valid.f k t468 t469 t470 t471 t473).bind fun t495 => (if t495 = true then ((holders_Valid.f k t468 t469 t470 t471 t479).bind fun t496 => (if t496 = true then ((holders_Room.f k t468 t469 t470 t471 t473 bt482.1 bt482.2.1 bt482.2.2 bt485.1 bt485.2).bind fun t497 => (if t497 = true then ((holders_Room.f k t468 t469 t470 t471 t479 bt482.1 bt482.2.1 bt482.2.2 bt485.1 bt485.2).bind fun t498 => (some t498)) else (some true))) else (some false))) else (some false))) else (some false)))))))) = some r := H
  have A10 := Aside0.mk A100; clear A100
  obtain ⟨t479, A110, H⟩ := Option.bind_eq_some_iff.mp H
  have A11 := Aside0.mk A110; clear A110
  replace H := Option.bind_eq_some_iff.mp H
  obtain ⟨⟨t482, t483, t484⟩, A120, H⟩ := H
  replace H : ((clusterlocksmill_Amount.f t468 t469 t470 t471 a4).bind fun bt485 => ((clusterlocksmill_Proc.f a2).bind fun bt489 => (if (bt489.1 == t482 && (bt489.2.1 == t483 && (bt489.2.2 == t484))) = true then ((clusterlockslaw10_awake.f k).bind fun t492 => (if t492 = true then ((holders_Valid.f k t468 t469 t470 t471 t479).bind fun t493 => (some t493)) else (some false))) else ((clusterlockslaw10_awake.f k).bind fun t494 => (if t494 = true then ((holders_Valid.f k t468 t469 t470 t471 t473).bind fun t495 => (if t495 = true then ((holders_Valid.f k t468 t469 t470 t471 t479).bind fun t496 => (if t496 = true then ((holders_Room.f k t468 t469 t470 t471 t473 t482 t483 t484 bt485.1 bt485.2).bind fun t497 => (if t497 = true then ((holders_Room.f k t468 t469 t470 t471 t479 t482 t483 t484 bt485.1 bt485.2).bind fun t498 => (some t498)) else (some true))) else (some false))) else (some false))) else (some false)))))) = some r := H
  have A12 := Aside0.mk A120; clear A120
  replace H := Option.bind_eq_some_iff.mp H
  obtain ⟨⟨t485, t486⟩, A130, H⟩ := H
  replace H : ((clusterlocksmill_Proc.f a2).bind fun bt489 => (if (bt489.1 == t482 && (bt489.2.1 == t483 && (bt489.2.2 == t484))) = true then ((clusterlockslaw10_awake.f k).bind fun t492 => (if t492 = true then ((holders_Valid.f k t468 t469 t470 t471 t479).bind fun t493 => (some t493)) else (some false))) else ((clusterlockslaw10_awake.f k).bind fun t494 => (if t494 = true then ((holders_Valid.f k t468 t469 t470 t471 t473).bind fun t495 => (if t495 = true then ((holders_Valid.f k t468 t469 t470 t471 t479).bind fun t496 => (if t496 = true then ((holders_Room.f k t468 t469 t470 t471 t473 t482 t483 t484 t485 t486).bind fun t497 => (if t497 = true then ((holders_Room.f k t468 t469 t470 t471 t479 t482 t483 t484 t485 t486).bind fun t498 => (some t498)) else (some true))) else (some false))) else (some false))) else (some false))))) = some r := H
  have A13 := Aside0.mk A130; clear A130
  replace H := Option.bind_eq_some_iff.mp H
  obtain ⟨⟨t489, t490, t491⟩, A140, H⟩ := H
  replace H : (if (t489 == t482 && (t490 == t483 && (t491 == t484))) = true then ((clusterlockslaw10_awake.f k).bind fun t492 => (if t492 = true then ((holders_Valid.f k t468 t469 t470 t471 t479).bind fun t493 => (some t493)) else (some false))) else ((clusterlockslaw10_awake.f k).bind fun t494 => (if t494 = true then ((holders_Valid.f k t468 t469 t470 t471 t473).bind fun t495 => (if t495 = true then ((holders_Valid.f k t468 t469 t470 t471 t479).bind fun t496 => (if t496 = true then ((holders_Room.f k t468 t469 t470 t471 t473 t482 t483 t484 t485 t486).bind fun t497 => (if t497 = true then ((holders_Room.f k t468 t469 t470 t471 t479 t482 t483 t484 t485 t486).bind fun t498 => (some t498)) else (some true))) else (some false))) else (some false))) else (some false)))) = some r := H
  have A14 := Aside0.mk A140; clear A140
  have HH_ := Aside0.mk H
  clear H
  go_enter Tryd.func7, Tryd.ntmps7
  try go_wp2_with (first | ((with_reducible refine gate_callee (f := 20) rfl ?_); refine goesL_ (some 17) rfl rfl Tryd.func20 (by kernel_rfl) rfl #[.slice A1 l1.length c1] rfl (by (try simp only [mA]); first | done | rfl) ?_; (with_reducible refine (clusterlocksmill_Light.calls _ _ l1 true _ ?side1 ?side2 A6.out).mono ?_); (case side1 => repeat (first | exact HR1.out | (with_reducible refine Kd.C_alloc ?_ _) | (with_reducible refine Kd.C_drewN ?_ _) | (with_reducible refine Kd.C_drew ?_))); (case side2 => exact HC1.out); rintro e w' ⟨rfl, ⟨nd, rfl⟩⟩; refine ⟨_, rfl, ?_⟩) | ((with_reducible refine gate_callee (f := 21) rfl ?_); refine goesL_ (some 21) rfl rfl Tryd.func21 (by kernel_rfl) rfl #[.int .i64 a0] rfl (by (try simp only [mA]); first | done | rfl) ?_; (with_reducible refine (clusterlocksmill_Resource.calls k a0 t468 t469 t470 t471 _ A8.out).mono ?_); rintro e w19 ⟨rfl, hb⟩; refine ⟨_, rfl, ?_⟩; replace HB := bB HB hb; (try clear hb); (try clear hk)) | ((with_reducible refine gate_dst (N := 11) rfl ?_); refine box_event ?hg (N := 11) ?hd (cs := #[.string (⟨#[]⟩ : ByteArray), .int .i64 0, .int .i64 0, .int .i64 0]) (t := 32) ?hr ?_; (case hd => rfl); (case hg => rfl); (case hr => first | (go_simp; done) | (go_simp; rfl)); intro gb472 hg w20 hbox hb; have BK472 := Aside0.mk hbox; have GW472 := gE HB hg; replace HB := bB HB hb; have GE472 := GW472; clear hb hbox hg; have hcz21_0 : w20.cell? ⟨gb472, 0, none⟩ = some (.string (⟨#[]⟩ : ByteArray)) := bC BK472 0 rfl; have hcz21_1 : w20.cell? ⟨gb472, 1, none⟩ = some (.int .i64 0) := bC BK472 1 rfl; have hcz21_2 : w20.cell? ⟨gb472, 2, none⟩ = some (.int .i64 0) := bC BK472 2 rfl; have hcz21_3 : w20.cell? ⟨gb472, 3, none⟩ = some (.int .i64 0) := bC BK472 3 rfl; have hfz21_0 := bF BK472 0; have hfz21_1 := bF BK472 1; have hfz21_2 := bF BK472 2; have hfz21_3 := bF BK472 3) | ((with_reducible refine gate_callee (f := 22) rfl ?_); refine goesL_ (some 24) rfl rfl Tryd.func22 (by kernel_rfl) rfl #[.agg #[.string t468, .int .i64 t469, .int .i64 t470, .int .i64 t471], .slice A1 l1.length c1] rfl (by (try simp only [mA]); first | done | rfl) ?_; (with_reducible refine (clusterlockslaw10_made.calls k t468 t469 t470 t471 _ _ l1 t473 _ ?side1 ?side2 A9.out).mono ?_); (case side1 => exact Kd.C_below HR1.out (by repeat (first | (with_reducible first | exact HB.out | apply bL | apply bM | apply bR | refine bS ?_ GE472.out) | exact HB.out))); (case side2 => exact HC1.out); rintro e w22 ⟨v474, rfl, ho0, hb⟩; refine ⟨_, rfl, ?_⟩; have HO475 := Aside0.mk (Kd.R_lower ho0 (below_size (by repeat (first | (with_reducible first | exact HB.out | apply bL | apply bM | apply bR | refine bS ?_ GE472.out) | exact HB.out)))); replace BK472 := Aside0.mk (blk_below (g := gb472) (o := .cells #[.string t468, .int .i64 t469, .int .i64 t470, .int .i64 t471] 32 (0, 0)) (by (with_reducible repeat first | refine bN ?_ _ | refine bD ?_ | refine bA ?_ _); refine blk_put (cs := #[.string t468, .int .i64 t469, .int .i64 t470, .int .i64 0]) ?_ 3 _ rfl; (with_reducible repeat first | refine bN ?_ _ | refine bD ?_ | refine bA ?_ _); refine blk_put (cs := #[.string t468, .int .i64 t469, .int .i64 0, .int .i64 0]) ?_ 2 _ rfl; (with_reducible repeat first | refine bN ?_ _ | refine bD ?_ | refine bA ?_ _); refine blk_put (cs := #[.string t468, .int .i64 0, .int .i64 0, .int .i64 0]) ?_ 1 _ rfl; (with_reducible repeat first | refine bN ?_ _ | refine bD ?_ | refine bA ?_ _); refine blk_put (cs := #[.string (⟨#[]⟩ : ByteArray), .int .i64 0, .int .i64 0, .int .i64 0]) ?_ 0 _ rfl; (with_reducible repeat first | refine bN ?_ _ | refine bD ?_ | refine bA ?_ _); exact BK472.out) hb); replace HB := Aside0.mk (below_step (by repeat (first | (with_reducible first | exact HB.out | apply bL | apply bM | apply bR | refine bS ?_ GE472.out) | exact HB.out)) hb); (try clear hb); (try clear hk); (try clear ho0)) | ((with_reducible refine gate_callee (f := 23) rfl ?_); refine goesL_ (some 27) rfl rfl Tryd.func23 (by kernel_rfl) rfl #[.int .i64 a2] rfl (by (try simp only [mA]); first | done | rfl) ?_; (with_reducible refine (clusterlocksmill_Proc.calls a2 t476 t477 t478 _ A10.out).mono ?_); rintro e w23 ⟨rfl, hb⟩; refine ⟨_, rfl, ?_⟩; replace HO475 := Aside0.mk (Kd.R_below (by (with_reducible repeat (first | apply Kd.R_alloc | apply Kd.R_drewN | apply Kd.R_drew)); exact HO475.out) hb); replace BK472 := bK BK472 hb; replace HB := Aside0.mk (below_step (by repeat (first | (with_reducible first | exact HB.out | apply bL | apply bM | apply bR | refine bS ?_ GE472.out) | exact HB.out)) hb); (try clear hb); (try clear hk); obtain ⟨Ao24, co24, eo24⟩ := Kd.R_slice HO475.out; subst eo24) | ((with_reducible refine gate_callee (f := 13) rfl ?_); refine goesL_ (some 29) rfl rfl Tryd.func13 (by kernel_rfl) rfl #[.slice Ao24 t473.length co24, .agg #[.int .i64 t476, .int .i64 t477, .int .i64 t478], .agg #[.int .i64 0, .int .i64 0]] rfl (by (try simp only [mA]); first | done | rfl) ?_; (with_reducible refine (holders_Set.calls k _ _ t473 t476 t477 t478 0 0 t479 _ ?side1 ?side2 A11.out).mono ?_); (case side1 => repeat (first | exact (Kd.R_reads' HO475.out).2.2 | (with_reducible refine Kd.C_alloc ?_ _) | (with_reducible refine Kd.C_drewN ?_ _) | (with_reducible refine Kd.C_drew ?_))); (case side2 => exact (Kd.R_reads' HO475.out).2.1); rintro e w25 ⟨v480, rfl, ho0, hb⟩; refine ⟨_, rfl, ?_⟩; have HO481 := Aside0.mk (Kd.R_lower (Kd.R_new' ho0 (Kd.R_lt (by (with_reducible repeat (first | apply Kd.R_alloc | apply Kd.R_drewN | apply Kd.R_drew)); exact HO475.out))) (below_size (by repeat (first | (with_reducible first | exact HB.out | apply bL | apply bM | apply bR | refine bS ?_ GE472.out) | exact HB.out)))); replace HO475 := Aside0.mk (Kd.R_elder' (by (with_reducible repeat (first | apply Kd.R_alloc | apply Kd.R_drewN | apply Kd.R_drew)); exact HO475.out) (Kd.R_base ho0) hb); replace BK472 := bK BK472 hb; replace HB := Aside0.mk (below_step (by repeat (first | (with_reducible first | exact HB.out | apply bL | apply bM | apply bR | refine bS ?_ GE472.out) | exact HB.out)) hb); (try clear hb); (try clear hk); (try clear ho0)))
  replace HO475 := Aside0.mk (Kd.R_drew HO475.out)
  replace HO481 := Aside0.mk (Kd.R_drew HO481.out)
  replace BK472 := Aside0.mk (blk_drew BK472.out)
  replace HB := Aside0.mk (below_drew1 HB.out)
  refine start_ (n := 9) (S := fun w' => w'.cell? ⟨gb472, 0, none⟩ = some (.string t468) ∧ w'.cell? ⟨gb472, 1, none⟩ = some (.int .i64 t469) ∧ w'.cell? ⟨gb472, 2, none⟩ = some (.int .i64 t470) ∧ w'.cell? ⟨gb472, 3, none⟩ = some (.int .i64 t471)) (ds := []) #[F,F,F,F,F,F,F,F,F] (by kernel_rfl) rfl rfl ⟨bC BK472 0 rfl, bC BK472 1 rfl, bC BK472 2 rfl, bC BK472 3 rfl⟩ (fun hHeld => ?_); refine with_tabW clusterlockslaw10_HoldersShrinks.tab6 clusterlockslaw10_HoldersShrinks.bits6 (fun HT_ HW_ => ?_)
  generalize w25.drew = w26 at HO475 HO481 BK472 HB hHeld ⊢
  refine pu HT_ 0 30 #[T,F,F,F,F,F,F,F,F] rfl rfl (by kernel_rfl) (fun _ _ _ => id) (.inl ⟨by rfl, by intro w'; go_simp; with_reducible rfl⟩) (by simp only [sP]; rfl) ?_
  refine pu HT_ 3 33 #[T,F,F,T,F,F,F,F,F] rfl rfl (by kernel_rfl) (fun _ _ _ => id) (.inl ⟨by rfl, by intro w'; go_simp; with_reducible rfl⟩) (by simp only [sP]; rfl) ?_
  refine tk HT_ HW_ 2 32 #[T,F,T,T,F,F,F,F,F] rfl rfl (by kernel_rfl) (fun _ _ _ => id) (.inl ⟨by rfl, by rintro w' ⟨s0, s1, s2, s3⟩; go_simp; with_reducible rfl⟩) hHeld (by simp only [sP]; rfl) ?_
  refine join_ (σ := Nat × Nat) 2 q25_0 (fun s_ => [(31, .agg #[.int .i64 t482, .int .i64 t483, .int .i64 t484]), (34, .agg #[.int .i64 t485, .int .i64 t486]), (14, .pointer (some ⟨s_.1, 0, none⟩)), (15, .pointer (some ⟨s_.2, 0, none⟩))]) (fun s_ w' => (w'.cell? ⟨gb472, 0, none⟩ = some (.string t468) ∧ w'.cell? ⟨gb472, 1, none⟩ = some (.int .i64 t469) ∧ w'.cell? ⟨gb472, 2, none⟩ = some (.int .i64 t470) ∧ w'.cell? ⟨gb472, 3, none⟩ = some (.int .i64 t471)) ∧ (Kd.R k53 53 w' w.heap.size (fun k_ => some k_ ≠ (v480 : Value).ownBlock) (.slice Ao24 t473.length co24) t473) ∧ (Kd.R k53 53 w' w.heap.size (fun k_ => some k_ ≠ (.slice Ao24 t473.length co24 : Value).ownBlock) v480 t479) ∧ (w'.heap[gb472]? = some (.cells #[.string t468, .int .i64 t469, .int .i64 t470, .int .i64 t471] 32 (0, 0))) ∧ (w'.heap[s_.1]? = some (.cells #[.int .i64 0, .int .i64 0, .int .i64 0] 24 (0, 0))) ∧ (w'.heap[s_.2]? = some (.cells #[.int .i64 0, .int .i64 0] 26 (0, 0))) ∧ (w.heap.size ≤ s_.1) ∧ (w.heap.size ≤ s_.1) ∧ (gb472 ≠ s_.1) ∧ (s_.1 ≠ gb472) ∧ (s_.2 ≠ s_.1) ∧ (s_.1 ≠ s_.2) ∧ (w.heap.size ≤ s_.2) ∧ (w.heap.size ≤ s_.2) ∧ (gb472 ≠ s_.2) ∧ (s_.2 ≠ gb472) ∧ (Below w.heap.size w w')) ?_ ?_
  rotate_left
  ·intro hJ1_4_5_6
   refine join_ (σ := Nat) 3 q25_2 (fun s_ => [(31, .agg #[.int .i64 t482, .int .i64 t483, .int .i64 t484]), (34, .agg #[.int .i64 t485, .int .i64 t486]), (14, .pointer (some ⟨s_, 0, none⟩))]) (fun s_ w' => (w'.cell? ⟨gb472, 0, none⟩ = some (.string t468) ∧ w'.cell? ⟨gb472, 1, none⟩ = some (.int .i64 t469) ∧ w'.cell? ⟨gb472, 2, none⟩ = some (.int .i64 t470) ∧ w'.cell? ⟨gb472, 3, none⟩ = some (.int .i64 t471)) ∧ (Kd.R k53 53 w' w.heap.size (fun k_ => some k_ ≠ (v480 : Value).ownBlock) (.slice Ao24 t473.length co24) t473) ∧ (Kd.R k53 53 w' w.heap.size (fun k_ => some k_ ≠ (.slice Ao24 t473.length co24 : Value).ownBlock) v480 t479) ∧ (w'.heap[gb472]? = some (.cells #[.string t468, .int .i64 t469, .int .i64 t470, .int .i64 t471] 32 (0, 0))) ∧ (w'.heap[s_]? = some (.cells #[.int .i64 0, .int .i64 0, .int .i64 0] 24 (0, 0))) ∧ (w.heap.size ≤ s_) ∧ (w.heap.size ≤ s_) ∧ (gb472 ≠ s_) ∧ (s_ ≠ gb472) ∧ (Below w.heap.size w w')) ?_ ?_
   rotate_left
   ·intro hJ1_4_5
    refine join_ (σ := Nat) 3 q25_3 (fun s_ => [(31, .agg #[.int .i64 t482, .int .i64 t483, .int .i64 t484]), (34, .agg #[.int .i64 t485, .int .i64 t486]), (15, .pointer (some ⟨s_, 0, none⟩))]) (fun s_ w' => (w'.cell? ⟨gb472, 0, none⟩ = some (.string t468) ∧ w'.cell? ⟨gb472, 1, none⟩ = some (.int .i64 t469) ∧ w'.cell? ⟨gb472, 2, none⟩ = some (.int .i64 t470) ∧ w'.cell? ⟨gb472, 3, none⟩ = some (.int .i64 t471)) ∧ (Kd.R k53 53 w' w.heap.size (fun k_ => some k_ ≠ (v480 : Value).ownBlock) (.slice Ao24 t473.length co24) t473) ∧ (Kd.R k53 53 w' w.heap.size (fun k_ => some k_ ≠ (.slice Ao24 t473.length co24 : Value).ownBlock) v480 t479) ∧ (w'.heap[gb472]? = some (.cells #[.string t468, .int .i64 t469, .int .i64 t470, .int .i64 t471] 32 (0, 0))) ∧ (w'.heap[s_]? = some (.cells #[.int .i64 0, .int .i64 0] 26 (0, 0))) ∧ (w.heap.size ≤ s_) ∧ (w.heap.size ≤ s_) ∧ (gb472 ≠ s_) ∧ (s_ ≠ gb472) ∧ (Below w.heap.size w w')) ?_ ?_
    rotate_left
    ·intro hJ1_4_6
     refine join_ (σ := Nat × Nat) 3 q25_1 (fun s_ => [(31, .agg #[.int .i64 t482, .int .i64 t483, .int .i64 t484]), (14, .pointer (some ⟨s_.1, 0, none⟩)), (15, .pointer (some ⟨s_.2, 0, none⟩))]) (fun s_ w' => (w'.cell? ⟨gb472, 0, none⟩ = some (.string t468) ∧ w'.cell? ⟨gb472, 1, none⟩ = some (.int .i64 t469) ∧ w'.cell? ⟨gb472, 2, none⟩ = some (.int .i64 t470) ∧ w'.cell? ⟨gb472, 3, none⟩ = some (.int .i64 t471)) ∧ (Kd.R k53 53 w' w.heap.size (fun k_ => some k_ ≠ (v480 : Value).ownBlock) (.slice Ao24 t473.length co24) t473) ∧ (Kd.R k53 53 w' w.heap.size (fun k_ => some k_ ≠ (.slice Ao24 t473.length co24 : Value).ownBlock) v480 t479) ∧ (w'.heap[gb472]? = some (.cells #[.string t468, .int .i64 t469, .int .i64 t470, .int .i64 t471] 32 (0, 0))) ∧ (w'.heap[s_.1]? = some (.cells #[.int .i64 0, .int .i64 0, .int .i64 0] 24 (0, 0))) ∧ (w'.heap[s_.2]? = some (.cells #[.int .i64 0, .int .i64 0] 26 (0, 0))) ∧ (w.heap.size ≤ s_.1) ∧ (w.heap.size ≤ s_.1) ∧ (gb472 ≠ s_.1) ∧ (s_.1 ≠ gb472) ∧ (s_.2 ≠ s_.1) ∧ (s_.1 ≠ s_.2) ∧ (w.heap.size ≤ s_.2) ∧ (w.heap.size ≤ s_.2) ∧ (gb472 ≠ s_.2) ∧ (s_.2 ≠ gb472) ∧ (Below w.heap.size w w')) ?_ ?_
     rotate_left
     ·intro hJ1_5_6
      refine join_ (σ := Unit) 4 q25_7 (fun s_ => [(31, .agg #[.int .i64 t482, .int .i64 t483, .int .i64 t484]), (34, .agg #[.int .i64 t485, .int .i64 t486])]) (fun s_ w' => (w'.cell? ⟨gb472, 0, none⟩ = some (.string t468) ∧ w'.cell? ⟨gb472, 1, none⟩ = some (.int .i64 t469) ∧ w'.cell? ⟨gb472, 2, none⟩ = some (.int .i64 t470) ∧ w'.cell? ⟨gb472, 3, none⟩ = some (.int .i64 t471)) ∧ (Kd.R k53 53 w' w.heap.size (fun k_ => some k_ ≠ (v480 : Value).ownBlock) (.slice Ao24 t473.length co24) t473) ∧ (Kd.R k53 53 w' w.heap.size (fun k_ => some k_ ≠ (.slice Ao24 t473.length co24 : Value).ownBlock) v480 t479) ∧ (w'.heap[gb472]? = some (.cells #[.string t468, .int .i64 t469, .int .i64 t470, .int .i64 t471] 32 (0, 0))) ∧ (Below w.heap.size w w')) ?_ ?_
      rotate_left
      ·intro hJ1_4
       refine join_ (σ := Nat) 4 q25_4 (fun s_ => [(31, .agg #[.int .i64 t482, .int .i64 t483, .int .i64 t484]), (14, .pointer (some ⟨s_, 0, none⟩))]) (fun s_ w' => (w'.cell? ⟨gb472, 0, none⟩ = some (.string t468) ∧ w'.cell? ⟨gb472, 1, none⟩ = some (.int .i64 t469) ∧ w'.cell? ⟨gb472, 2, none⟩ = some (.int .i64 t470) ∧ w'.cell? ⟨gb472, 3, none⟩ = some (.int .i64 t471)) ∧ (Kd.R k53 53 w' w.heap.size (fun k_ => some k_ ≠ (v480 : Value).ownBlock) (.slice Ao24 t473.length co24) t473) ∧ (Kd.R k53 53 w' w.heap.size (fun k_ => some k_ ≠ (.slice Ao24 t473.length co24 : Value).ownBlock) v480 t479) ∧ (w'.heap[gb472]? = some (.cells #[.string t468, .int .i64 t469, .int .i64 t470, .int .i64 t471] 32 (0, 0))) ∧ (w'.heap[s_]? = some (.cells #[.int .i64 0, .int .i64 0, .int .i64 0] 24 (0, 0))) ∧ (w.heap.size ≤ s_) ∧ (w.heap.size ≤ s_) ∧ (gb472 ≠ s_) ∧ (s_ ≠ gb472) ∧ (Below w.heap.size w w')) ?_ ?_
       rotate_left
       ·intro hJ1_5
        refine join_ (σ := Nat) 4 q25_5 (fun s_ => [(31, .agg #[.int .i64 t482, .int .i64 t483, .int .i64 t484]), (15, .pointer (some ⟨s_, 0, none⟩))]) (fun s_ w' => (w'.cell? ⟨gb472, 0, none⟩ = some (.string t468) ∧ w'.cell? ⟨gb472, 1, none⟩ = some (.int .i64 t469) ∧ w'.cell? ⟨gb472, 2, none⟩ = some (.int .i64 t470) ∧ w'.cell? ⟨gb472, 3, none⟩ = some (.int .i64 t471)) ∧ (Kd.R k53 53 w' w.heap.size (fun k_ => some k_ ≠ (v480 : Value).ownBlock) (.slice Ao24 t473.length co24) t473) ∧ (Kd.R k53 53 w' w.heap.size (fun k_ => some k_ ≠ (.slice Ao24 t473.length co24 : Value).ownBlock) v480 t479) ∧ (w'.heap[gb472]? = some (.cells #[.string t468, .int .i64 t469, .int .i64 t470, .int .i64 t471] 32 (0, 0))) ∧ (w'.heap[s_]? = some (.cells #[.int .i64 0, .int .i64 0] 26 (0, 0))) ∧ (w.heap.size ≤ s_) ∧ (w.heap.size ≤ s_) ∧ (gb472 ≠ s_) ∧ (s_ ≠ gb472) ∧ (Below w.heap.size w w')) ?_ ?_
        rotate_left
        ·intro hJ1_6
         refine join_ (σ := Nat × Nat) 4 q25_6 (fun s_ => [(14, .pointer (some ⟨s_.1, 0, none⟩)), (15, .pointer (some ⟨s_.2, 0, none⟩))]) (fun s_ w' => (w'.cell? ⟨gb472, 0, none⟩ = some (.string t468) ∧ w'.cell? ⟨gb472, 1, none⟩ = some (.int .i64 t469) ∧ w'.cell? ⟨gb472, 2, none⟩ = some (.int .i64 t470) ∧ w'.cell? ⟨gb472, 3, none⟩ = some (.int .i64 t471)) ∧ (Kd.R k53 53 w' w.heap.size (fun k_ => some k_ ≠ (v480 : Value).ownBlock) (.slice Ao24 t473.length co24) t473) ∧ (Kd.R k53 53 w' w.heap.size (fun k_ => some k_ ≠ (.slice Ao24 t473.length co24 : Value).ownBlock) v480 t479) ∧ (w'.heap[gb472]? = some (.cells #[.string t468, .int .i64 t469, .int .i64 t470, .int .i64 t471] 32 (0, 0))) ∧ (w'.heap[s_.1]? = some (.cells #[.int .i64 0, .int .i64 0, .int .i64 0] 24 (0, 0))) ∧ (w'.heap[s_.2]? = some (.cells #[.int .i64 0, .int .i64 0] 26 (0, 0))) ∧ (w.heap.size ≤ s_.1) ∧ (w.heap.size ≤ s_.1) ∧ (gb472 ≠ s_.1) ∧ (s_.1 ≠ gb472) ∧ (s_.2 ≠ s_.1) ∧ (s_.1 ≠ s_.2) ∧ (w.heap.size ≤ s_.2) ∧ (w.heap.size ≤ s_.2) ∧ (gb472 ≠ s_.2) ∧ (s_.2 ≠ gb472) ∧ (Below w.heap.size w w')) ?_ ?_
         rotate_left
         ·intro hJ5_6
          refine join_ (σ := Unit) 5 q25_8 (fun s_ => [(31, .agg #[.int .i64 t482, .int .i64 t483, .int .i64 t484])]) (fun s_ w' => (w'.cell? ⟨gb472, 0, none⟩ = some (.string t468) ∧ w'.cell? ⟨gb472, 1, none⟩ = some (.int .i64 t469) ∧ w'.cell? ⟨gb472, 2, none⟩ = some (.int .i64 t470) ∧ w'.cell? ⟨gb472, 3, none⟩ = some (.int .i64 t471)) ∧ (Kd.R k53 53 w' w.heap.size (fun k_ => some k_ ≠ (v480 : Value).ownBlock) (.slice Ao24 t473.length co24) t473) ∧ (Kd.R k53 53 w' w.heap.size (fun k_ => some k_ ≠ (.slice Ao24 t473.length co24 : Value).ownBlock) v480 t479) ∧ (w'.heap[gb472]? = some (.cells #[.string t468, .int .i64 t469, .int .i64 t470, .int .i64 t471] 32 (0, 0))) ∧ (Below w.heap.size w w')) ?_ ?_
          rotate_left
          ·intro hJ1
           refine join_ (σ := Nat) 5 q25_9 (fun s_ => [(14, .pointer (some ⟨s_, 0, none⟩))]) (fun s_ w' => (w'.cell? ⟨gb472, 0, none⟩ = some (.string t468) ∧ w'.cell? ⟨gb472, 1, none⟩ = some (.int .i64 t469) ∧ w'.cell? ⟨gb472, 2, none⟩ = some (.int .i64 t470) ∧ w'.cell? ⟨gb472, 3, none⟩ = some (.int .i64 t471)) ∧ (Kd.R k53 53 w' w.heap.size (fun k_ => some k_ ≠ (v480 : Value).ownBlock) (.slice Ao24 t473.length co24) t473) ∧ (Kd.R k53 53 w' w.heap.size (fun k_ => some k_ ≠ (.slice Ao24 t473.length co24 : Value).ownBlock) v480 t479) ∧ (w'.heap[gb472]? = some (.cells #[.string t468, .int .i64 t469, .int .i64 t470, .int .i64 t471] 32 (0, 0))) ∧ (w'.heap[s_]? = some (.cells #[.int .i64 0, .int .i64 0, .int .i64 0] 24 (0, 0))) ∧ (w.heap.size ≤ s_) ∧ (w.heap.size ≤ s_) ∧ (gb472 ≠ s_) ∧ (s_ ≠ gb472) ∧ (Below w.heap.size w w')) ?_ ?_
           rotate_left
           ·intro hJ5
            refine join_ (σ := Nat) 5 q25_10 (fun s_ => [(15, .pointer (some ⟨s_, 0, none⟩))]) (fun s_ w' => (w'.cell? ⟨gb472, 0, none⟩ = some (.string t468) ∧ w'.cell? ⟨gb472, 1, none⟩ = some (.int .i64 t469) ∧ w'.cell? ⟨gb472, 2, none⟩ = some (.int .i64 t470) ∧ w'.cell? ⟨gb472, 3, none⟩ = some (.int .i64 t471)) ∧ (Kd.R k53 53 w' w.heap.size (fun k_ => some k_ ≠ (v480 : Value).ownBlock) (.slice Ao24 t473.length co24) t473) ∧ (Kd.R k53 53 w' w.heap.size (fun k_ => some k_ ≠ (.slice Ao24 t473.length co24 : Value).ownBlock) v480 t479) ∧ (w'.heap[gb472]? = some (.cells #[.string t468, .int .i64 t469, .int .i64 t470, .int .i64 t471] 32 (0, 0))) ∧ (w'.heap[s_]? = some (.cells #[.int .i64 0, .int .i64 0] 26 (0, 0))) ∧ (w.heap.size ≤ s_) ∧ (w.heap.size ≤ s_) ∧ (gb472 ≠ s_) ∧ (s_ ≠ gb472) ∧ (Below w.heap.size w w')) ?_ ?_
            rotate_left
            ·intro hJ6
             refine three_ (i := 1) (j := 5) (k := 6) (Ni := some 31) (Nj := some 14) (Nk := some 15) q25_8 q25_9 q25_10 rfl rfl rfl rfl rfl rfl (three_of HT_.out (by kernel_rfl)) (by decide) (by decide) (by decide) (fun K hK => ?_) (fun K hK => ?_) (fun K hK => ?_)
             ·skip
              refine goes_ Tryd.func23 (by kernel_rfl) rfl #[.int .i64 a3] (by rfl) rfl rfl (by (try simp only [mA]); first | done | rfl) ?_
              with_reducible refine (clusterlocksmill_Proc.calls a3 t482 t483 t484 _ A12.out).mono ?_
              rintro e w27 ⟨rfl, hb⟩
              refine ⟨_, rfl, ?_⟩
              replace HO475 := Aside0.mk (Kd.R_below (by (with_reducible repeat (first | apply Kd.R_alloc | apply Kd.R_drewN | apply Kd.R_drew)); exact HO475.out) hb)
              replace HO481 := Aside0.mk (Kd.R_below (by (with_reducible repeat (first | apply Kd.R_alloc | apply Kd.R_drewN | apply Kd.R_drew)); exact HO481.out) hb)
              replace BK472 := bK BK472 hb
              replace HB := Aside0.mk (below_step (by repeat (first | (with_reducible first | exact HB.out | apply bL | apply bM | apply bR | refine bS ?_ GE472.out) | exact HB.out)) hb)
              (try clear hb)
              (try clear hk)
              refine hK.out _ _ ⟨bC BK472 0 rfl, bC BK472 1 rfl, bC BK472 2 rfl, bC BK472 3 rfl⟩ (fun hHeld => ?_)
              clear hK K
              refine norm_ (a' := ?_) ?_ ?_
              rotate_left
              ·show Act.put _ (some 31) _ = _
               simp only [sP]
               rfl
              exact norm_ (by first | (simp only [putAll, sP]; done) | (simp only [putAll, sP]; rfl)) (hJ1 () _ ⟨hHeld, (by (with_reducible repeat (first | apply Kd.R_alloc | apply Kd.R_drewN | apply Kd.R_drew)); exact Kd.R_mono HO475.out (fun _ hk => hk.2)), (by (with_reducible repeat (first | apply Kd.R_alloc | apply Kd.R_drewN | apply Kd.R_drew)); exact Kd.R_mono HO481.out (fun _ hk => hk.2)), (uK BK472), (by repeat (first | (with_reducible first | exact HB.out | apply bL | apply bM | apply bR | refine bS ?_ GE472.out) | exact HB.out))⟩)
             ·skip
              refine box_step ?hg (N := 14) ?hd (cs := #[.int .i64 0, .int .i64 0, .int .i64 0]) (t := 24) ?hr ?_; (case hd => rfl); (case hg => rfl); (case hr => first | (go_simp; done) | (go_simp; rfl))
              intro gb487 hg w27 hbox hb
              replace HO475 := Aside0.mk (Kd.R_below (by (with_reducible repeat (first | apply Kd.R_alloc | apply Kd.R_drewN | apply Kd.R_drew)); exact HO475.out) hb)
              replace HO481 := Aside0.mk (Kd.R_below (by (with_reducible repeat (first | apply Kd.R_alloc | apply Kd.R_drewN | apply Kd.R_drew)); exact HO481.out) hb)
              have BK487 := Aside0.mk hbox
              have GW487 := Aside0.mk ((by rw [hg]; exact (below_size (by repeat (first | (with_reducible first | exact HB.out | apply bL | apply bM | apply bR | refine bS ?_ GE472.out) | exact HB.out))) : w.heap.size ≤ gb487))
              have GE487 := Aside0.mk ((by rw [hg]; exact (below_size (by repeat (first | (with_reducible first | exact HB.out | apply bL | apply bM | apply bR | refine bS ?_ GE472.out) | exact HB.out))) : w.heap.size ≤ gb487))
              replace HB := Aside0.mk (below_step (by repeat (first | (with_reducible first | exact HB.out | apply bL | apply bM | apply bR | refine bS ?_ GE472.out) | exact HB.out)) hb)
              have NB472_487 := gN BK472 hg
              replace BK472 := bK BK472 hb
              have NB487_472 := Aside0.mk NB472_487.out.symm
              clear hb hbox hg
              refine hK.out _ _ ⟨bC BK472 0 rfl, bC BK472 1 rfl, bC BK472 2 rfl, bC BK472 3 rfl⟩ (fun hHeld => ?_)
              clear hK K
              refine norm_ (a' := ?_) ?_ ?_
              rotate_left
              ·show Act.put _ (some 14) _ = _
               simp only [sP]
               rfl
              exact norm_ (by first | (simp only [putAll, sP]; done) | (simp only [putAll, sP]; rfl)) (hJ5 (gb487) _ ⟨hHeld, (by (with_reducible repeat (first | apply Kd.R_alloc | apply Kd.R_drewN | apply Kd.R_drew)); exact Kd.R_mono HO475.out (fun _ hk => hk.2)), (by (with_reducible repeat (first | apply Kd.R_alloc | apply Kd.R_drewN | apply Kd.R_drew)); exact Kd.R_mono HO481.out (fun _ hk => hk.2)), (uK BK472), (uK BK487), GW487.out, GE487.out, NB472_487.out, NB487_472.out, (by repeat (first | (with_reducible first | exact HB.out | apply bL | apply bM | apply bR | refine bS ?_ GE472.out | refine bS ?_ GE487.out) | exact HB.out))⟩)
             ·skip
              refine box_step ?hg (N := 15) ?hd (cs := #[.int .i64 0, .int .i64 0]) (t := 26) ?hr ?_; (case hd => rfl); (case hg => rfl); (case hr => first | (go_simp; done) | (go_simp; rfl))
              intro gb488 hg w27 hbox hb
              replace HO475 := Aside0.mk (Kd.R_below (by (with_reducible repeat (first | apply Kd.R_alloc | apply Kd.R_drewN | apply Kd.R_drew)); exact HO475.out) hb)
              replace HO481 := Aside0.mk (Kd.R_below (by (with_reducible repeat (first | apply Kd.R_alloc | apply Kd.R_drewN | apply Kd.R_drew)); exact HO481.out) hb)
              have BK488 := Aside0.mk hbox
              have GW488 := Aside0.mk ((by rw [hg]; exact (below_size (by repeat (first | (with_reducible first | exact HB.out | apply bL | apply bM | apply bR | refine bS ?_ GE472.out) | exact HB.out))) : w.heap.size ≤ gb488))
              have GE488 := Aside0.mk ((by rw [hg]; exact (below_size (by repeat (first | (with_reducible first | exact HB.out | apply bL | apply bM | apply bR | refine bS ?_ GE472.out) | exact HB.out))) : w.heap.size ≤ gb488))
              replace HB := Aside0.mk (below_step (by repeat (first | (with_reducible first | exact HB.out | apply bL | apply bM | apply bR | refine bS ?_ GE472.out) | exact HB.out)) hb)
              have NB472_488 := gN BK472 hg
              replace BK472 := bK BK472 hb
              have NB488_472 := Aside0.mk NB472_488.out.symm
              clear hb hbox hg
              refine hK.out _ _ ⟨bC BK472 0 rfl, bC BK472 1 rfl, bC BK472 2 rfl, bC BK472 3 rfl⟩ (fun hHeld => ?_)
              clear hK K
              refine norm_ (a' := ?_) ?_ ?_
              rotate_left
              ·show Act.put _ (some 15) _ = _
               simp only [sP]
               rfl
              exact norm_ (by first | (simp only [putAll, sP]; done) | (simp only [putAll, sP]; rfl)) (hJ6 (gb488) _ ⟨hHeld, (by (with_reducible repeat (first | apply Kd.R_alloc | apply Kd.R_drewN | apply Kd.R_drew)); exact Kd.R_mono HO475.out (fun _ hk => hk.2)), (by (with_reducible repeat (first | apply Kd.R_alloc | apply Kd.R_drewN | apply Kd.R_drew)); exact Kd.R_mono HO481.out (fun _ hk => hk.2)), (uK BK472), (uK BK488), GW488.out, GE488.out, NB472_488.out, NB488_472.out, (by repeat (first | (with_reducible first | exact HB.out | apply bL | apply bM | apply bR | refine bS ?_ GE472.out | refine bS ?_ GE488.out) | exact HB.out))⟩)
            ·skip
             rintro gb488 w28 ⟨hS_, h0_, h1_, h2_, h3_, h4_, h5_, h6_, h7_, h8_⟩
             have n0_ : Aside0 (Kd.R k53 53 w28 w.heap.size (fun k_ => some k_ ≠ (v480 : Value).ownBlock) (.slice Ao24 t473.length co24) t473) := ⟨h0_⟩
             have n1_ : Aside0 (Kd.R k53 53 w28 w.heap.size (fun k_ => some k_ ≠ (.slice Ao24 t473.length co24 : Value).ownBlock) v480 t479) := ⟨h1_⟩
             have n2_ : Aside0 (w28.heap[gb472]? = some (.cells #[.string t468, .int .i64 t469, .int .i64 t470, .int .i64 t471] 32 (0, 0))) := ⟨h2_⟩
             have n3_ : Aside0 (w28.heap[gb488]? = some (.cells #[.int .i64 0, .int .i64 0] 26 (0, 0))) := ⟨h3_⟩
             have n4_ : Aside0 (w.heap.size ≤ gb488) := ⟨h4_⟩
             have n5_ : Aside0 (w.heap.size ≤ gb488) := ⟨h5_⟩
             have n6_ : Aside0 (gb472 ≠ gb488) := ⟨h6_⟩
             have n7_ : Aside0 (gb488 ≠ gb472) := ⟨h7_⟩
             have n8_ : Aside0 (Below w.heap.size w w28) := ⟨h8_⟩
             clear HO475
             clear HO481
             clear BK472
             clear HB
             clear h0_ h1_ h2_ h3_ h4_ h5_ h6_ h7_ h8_
             have HO475 := n0_
             have HO481 := n1_
             have BK472 := n2_
             have BK488 := n3_
             have GW488 := n4_
             have GE488 := n5_
             have NB472_488 := n6_
             have NB488_472 := n7_
             have HB := n8_
             clear n0_ n1_ n2_ n3_ n4_ n5_ n6_ n7_ n8_
             have hHeld : w28.cell? ⟨gb472, 0, none⟩ = some (.string t468) ∧ w28.cell? ⟨gb472, 1, none⟩ = some (.int .i64 t469) ∧ w28.cell? ⟨gb472, 2, none⟩ = some (.int .i64 t470) ∧ w28.cell? ⟨gb472, 3, none⟩ = some (.int .i64 t471) := hS_
             refine norm_ (a' := ?_) ?_ ?_
             rotate_left
             ·simp only [putAll, sP]
              rfl
             refine two_ (i := 1) (j := 5) (Ni := some 31) (Nj := some 14) q25_5 q25_6 rfl rfl rfl rfl (two_of HT_.out (by kernel_rfl)) (by decide) (by decide) (fun K hK => ?_) (fun K hK => ?_)
             ·skip
              refine goes_ Tryd.func23 (by kernel_rfl) rfl #[.int .i64 a3] (by rfl) rfl rfl (by (try simp only [mA]); first | done | rfl) ?_
              with_reducible refine (clusterlocksmill_Proc.calls a3 t482 t483 t484 _ A12.out).mono ?_
              rintro e w29 ⟨rfl, hb⟩
              refine ⟨_, rfl, ?_⟩
              replace HO475 := Aside0.mk (Kd.R_below (by (with_reducible repeat (first | apply Kd.R_alloc | apply Kd.R_drewN | apply Kd.R_drew)); exact HO475.out) hb)
              replace HO481 := Aside0.mk (Kd.R_below (by (with_reducible repeat (first | apply Kd.R_alloc | apply Kd.R_drewN | apply Kd.R_drew)); exact HO481.out) hb)
              replace BK472 := bK BK472 hb
              replace BK488 := bK BK488 hb
              replace HB := Aside0.mk (below_step (by repeat (first | (with_reducible first | exact HB.out | apply bL | apply bM | apply bR | refine bS ?_ GE472.out | refine bS ?_ GE488.out) | exact HB.out)) hb)
              (try clear hb)
              (try clear hk)
              refine hK.out _ _ ⟨bC BK472 0 rfl, bC BK472 1 rfl, bC BK472 2 rfl, bC BK472 3 rfl⟩ (fun hHeld => ?_)
              clear hK K
              refine norm_ (a' := ?_) ?_ ?_
              rotate_left
              ·show Act.put _ (some 31) _ = _
               simp only [sP]
               rfl
              exact norm_ (by first | (simp only [putAll, sP]; done) | (simp only [putAll, sP]; rfl)) (hJ1_6 (gb488) _ ⟨hHeld, (by (with_reducible repeat (first | apply Kd.R_alloc | apply Kd.R_drewN | apply Kd.R_drew)); exact HO475.out), (by (with_reducible repeat (first | apply Kd.R_alloc | apply Kd.R_drewN | apply Kd.R_drew)); exact HO481.out), (uK BK472), (uK BK488), GW488.out, GE488.out, NB472_488.out, NB488_472.out, (by repeat (first | (with_reducible first | exact HB.out | apply bL | apply bM | apply bR | refine bS ?_ GE472.out | refine bS ?_ GE488.out) | exact HB.out))⟩)
             ·skip
              refine box_step ?hg (N := 14) ?hd (cs := #[.int .i64 0, .int .i64 0, .int .i64 0]) (t := 24) ?hr ?_; (case hd => rfl); (case hg => rfl); (case hr => first | (go_simp; done) | (go_simp; rfl))
              intro gb487 hg w29 hbox hb
              replace HO475 := Aside0.mk (Kd.R_below (by (with_reducible repeat (first | apply Kd.R_alloc | apply Kd.R_drewN | apply Kd.R_drew)); exact HO475.out) hb)
              replace HO481 := Aside0.mk (Kd.R_below (by (with_reducible repeat (first | apply Kd.R_alloc | apply Kd.R_drewN | apply Kd.R_drew)); exact HO481.out) hb)
              have BK487 := Aside0.mk hbox
              have GW487 := Aside0.mk ((by rw [hg]; exact (below_size (by repeat (first | (with_reducible first | exact HB.out | apply bL | apply bM | apply bR | refine bS ?_ GE472.out | refine bS ?_ GE488.out) | exact HB.out))) : w.heap.size ≤ gb487))
              have GE487 := Aside0.mk ((by rw [hg]; exact (below_size (by repeat (first | (with_reducible first | exact HB.out | apply bL | apply bM | apply bR | refine bS ?_ GE472.out | refine bS ?_ GE488.out) | exact HB.out))) : w.heap.size ≤ gb487))
              replace HB := Aside0.mk (below_step (by repeat (first | (with_reducible first | exact HB.out | apply bL | apply bM | apply bR | refine bS ?_ GE472.out | refine bS ?_ GE488.out) | exact HB.out)) hb)
              have NB472_487 := gN BK472 hg
              replace BK472 := bK BK472 hb
              have NB487_472 := Aside0.mk NB472_487.out.symm
              have NB488_487 := gN BK488 hg
              replace BK488 := bK BK488 hb
              have NB487_488 := Aside0.mk NB488_487.out.symm
              clear hb hbox hg
              refine hK.out _ _ ⟨bC BK472 0 rfl, bC BK472 1 rfl, bC BK472 2 rfl, bC BK472 3 rfl⟩ (fun hHeld => ?_)
              clear hK K
              refine norm_ (a' := ?_) ?_ ?_
              rotate_left
              ·show Act.put _ (some 14) _ = _
               simp only [sP]
               rfl
              exact norm_ (by first | (simp only [putAll, sP]; done) | (simp only [putAll, sP]; rfl)) (hJ5_6 (gb487, gb488) _ ⟨hHeld, (by (with_reducible repeat (first | apply Kd.R_alloc | apply Kd.R_drewN | apply Kd.R_drew)); exact HO475.out), (by (with_reducible repeat (first | apply Kd.R_alloc | apply Kd.R_drewN | apply Kd.R_drew)); exact HO481.out), (uK BK472), (uK BK487), (uK BK488), GW487.out, GE487.out, NB472_487.out, NB487_472.out, NB488_487.out, NB487_488.out, GW488.out, GE488.out, NB472_488.out, NB488_472.out, (by repeat (first | (with_reducible first | exact HB.out | apply bL | apply bM | apply bR | refine bS ?_ GE472.out | refine bS ?_ GE488.out | refine bS ?_ GE487.out) | exact HB.out))⟩)
           ·skip
            rintro gb487 w28 ⟨hS_, h0_, h1_, h2_, h3_, h4_, h5_, h6_, h7_, h8_⟩
            have n0_ : Aside0 (Kd.R k53 53 w28 w.heap.size (fun k_ => some k_ ≠ (v480 : Value).ownBlock) (.slice Ao24 t473.length co24) t473) := ⟨h0_⟩
            have n1_ : Aside0 (Kd.R k53 53 w28 w.heap.size (fun k_ => some k_ ≠ (.slice Ao24 t473.length co24 : Value).ownBlock) v480 t479) := ⟨h1_⟩
            have n2_ : Aside0 (w28.heap[gb472]? = some (.cells #[.string t468, .int .i64 t469, .int .i64 t470, .int .i64 t471] 32 (0, 0))) := ⟨h2_⟩
            have n3_ : Aside0 (w28.heap[gb487]? = some (.cells #[.int .i64 0, .int .i64 0, .int .i64 0] 24 (0, 0))) := ⟨h3_⟩
            have n4_ : Aside0 (w.heap.size ≤ gb487) := ⟨h4_⟩
            have n5_ : Aside0 (w.heap.size ≤ gb487) := ⟨h5_⟩
            have n6_ : Aside0 (gb472 ≠ gb487) := ⟨h6_⟩
            have n7_ : Aside0 (gb487 ≠ gb472) := ⟨h7_⟩
            have n8_ : Aside0 (Below w.heap.size w w28) := ⟨h8_⟩
            clear HO475
            clear HO481
            clear BK472
            clear HB
            clear h0_ h1_ h2_ h3_ h4_ h5_ h6_ h7_ h8_
            have HO475 := n0_
            have HO481 := n1_
            have BK472 := n2_
            have BK487 := n3_
            have GW487 := n4_
            have GE487 := n5_
            have NB472_487 := n6_
            have NB487_472 := n7_
            have HB := n8_
            clear n0_ n1_ n2_ n3_ n4_ n5_ n6_ n7_ n8_
            have hHeld : w28.cell? ⟨gb472, 0, none⟩ = some (.string t468) ∧ w28.cell? ⟨gb472, 1, none⟩ = some (.int .i64 t469) ∧ w28.cell? ⟨gb472, 2, none⟩ = some (.int .i64 t470) ∧ w28.cell? ⟨gb472, 3, none⟩ = some (.int .i64 t471) := hS_
            refine norm_ (a' := ?_) ?_ ?_
            rotate_left
            ·simp only [putAll, sP]
             rfl
            refine two_ (i := 1) (j := 6) (Ni := some 31) (Nj := some 15) q25_4 q25_6 rfl rfl rfl rfl (two_of HT_.out (by kernel_rfl)) (by decide) (by decide) (fun K hK => ?_) (fun K hK => ?_)
            ·skip
             refine goes_ Tryd.func23 (by kernel_rfl) rfl #[.int .i64 a3] (by rfl) rfl rfl (by (try simp only [mA]); first | done | rfl) ?_
             with_reducible refine (clusterlocksmill_Proc.calls a3 t482 t483 t484 _ A12.out).mono ?_
             rintro e w29 ⟨rfl, hb⟩
             refine ⟨_, rfl, ?_⟩
             replace HO475 := Aside0.mk (Kd.R_below (by (with_reducible repeat (first | apply Kd.R_alloc | apply Kd.R_drewN | apply Kd.R_drew)); exact HO475.out) hb)
             replace HO481 := Aside0.mk (Kd.R_below (by (with_reducible repeat (first | apply Kd.R_alloc | apply Kd.R_drewN | apply Kd.R_drew)); exact HO481.out) hb)
             replace BK472 := bK BK472 hb
             replace BK487 := bK BK487 hb
             replace HB := Aside0.mk (below_step (by repeat (first | (with_reducible first | exact HB.out | apply bL | apply bM | apply bR | refine bS ?_ GE472.out | refine bS ?_ GE487.out) | exact HB.out)) hb)
             (try clear hb)
             (try clear hk)
             refine hK.out _ _ ⟨bC BK472 0 rfl, bC BK472 1 rfl, bC BK472 2 rfl, bC BK472 3 rfl⟩ (fun hHeld => ?_)
             clear hK K
             refine norm_ (a' := ?_) ?_ ?_
             rotate_left
             ·show Act.put _ (some 31) _ = _
              simp only [sP]
              rfl
             exact norm_ (by first | (simp only [putAll, sP]; done) | (simp only [putAll, sP]; rfl)) (hJ1_5 (gb487) _ ⟨hHeld, (by (with_reducible repeat (first | apply Kd.R_alloc | apply Kd.R_drewN | apply Kd.R_drew)); exact HO475.out), (by (with_reducible repeat (first | apply Kd.R_alloc | apply Kd.R_drewN | apply Kd.R_drew)); exact HO481.out), (uK BK472), (uK BK487), GW487.out, GE487.out, NB472_487.out, NB487_472.out, (by repeat (first | (with_reducible first | exact HB.out | apply bL | apply bM | apply bR | refine bS ?_ GE472.out | refine bS ?_ GE487.out) | exact HB.out))⟩)
            ·skip
             refine box_step ?hg (N := 15) ?hd (cs := #[.int .i64 0, .int .i64 0]) (t := 26) ?hr ?_; (case hd => rfl); (case hg => rfl); (case hr => first | (go_simp; done) | (go_simp; rfl))
             intro gb488 hg w29 hbox hb
             replace HO475 := Aside0.mk (Kd.R_below (by (with_reducible repeat (first | apply Kd.R_alloc | apply Kd.R_drewN | apply Kd.R_drew)); exact HO475.out) hb)
             replace HO481 := Aside0.mk (Kd.R_below (by (with_reducible repeat (first | apply Kd.R_alloc | apply Kd.R_drewN | apply Kd.R_drew)); exact HO481.out) hb)
             have BK488 := Aside0.mk hbox
             have GW488 := Aside0.mk ((by rw [hg]; exact (below_size (by repeat (first | (with_reducible first | exact HB.out | apply bL | apply bM | apply bR | refine bS ?_ GE472.out | refine bS ?_ GE487.out) | exact HB.out))) : w.heap.size ≤ gb488))
             have GE488 := Aside0.mk ((by rw [hg]; exact (below_size (by repeat (first | (with_reducible first | exact HB.out | apply bL | apply bM | apply bR | refine bS ?_ GE472.out | refine bS ?_ GE487.out) | exact HB.out))) : w.heap.size ≤ gb488))
             replace HB := Aside0.mk (below_step (by repeat (first | (with_reducible first | exact HB.out | apply bL | apply bM | apply bR | refine bS ?_ GE472.out | refine bS ?_ GE487.out) | exact HB.out)) hb)
             have NB472_488 := gN BK472 hg
             replace BK472 := bK BK472 hb
             have NB488_472 := Aside0.mk NB472_488.out.symm
             have NB487_488 := gN BK487 hg
             replace BK487 := bK BK487 hb
             have NB488_487 := Aside0.mk NB487_488.out.symm
             clear hb hbox hg
             refine hK.out _ _ ⟨bC BK472 0 rfl, bC BK472 1 rfl, bC BK472 2 rfl, bC BK472 3 rfl⟩ (fun hHeld => ?_)
             clear hK K
             refine norm_ (a' := ?_) ?_ ?_
             rotate_left
             ·show Act.put _ (some 15) _ = _
              simp only [sP]
              rfl
             exact norm_ (by first | (simp only [putAll, sP]; done) | (simp only [putAll, sP]; rfl)) (hJ5_6 (gb487, gb488) _ ⟨hHeld, (by (with_reducible repeat (first | apply Kd.R_alloc | apply Kd.R_drewN | apply Kd.R_drew)); exact HO475.out), (by (with_reducible repeat (first | apply Kd.R_alloc | apply Kd.R_drewN | apply Kd.R_drew)); exact HO481.out), (uK BK472), (uK BK487), (uK BK488), GW487.out, GE487.out, NB472_487.out, NB487_472.out, NB488_487.out, NB487_488.out, GW488.out, GE488.out, NB472_488.out, NB488_472.out, (by repeat (first | (with_reducible first | exact HB.out | apply bL | apply bM | apply bR | refine bS ?_ GE472.out | refine bS ?_ GE487.out | refine bS ?_ GE488.out) | exact HB.out))⟩)
          ·skip
           rintro _ w28 ⟨hS_, h0_, h1_, h2_, h3_⟩
           have n0_ : Aside0 (Kd.R k53 53 w28 w.heap.size (fun k_ => some k_ ≠ (v480 : Value).ownBlock) (.slice Ao24 t473.length co24) t473) := ⟨h0_⟩
           have n1_ : Aside0 (Kd.R k53 53 w28 w.heap.size (fun k_ => some k_ ≠ (.slice Ao24 t473.length co24 : Value).ownBlock) v480 t479) := ⟨h1_⟩
           have n2_ : Aside0 (w28.heap[gb472]? = some (.cells #[.string t468, .int .i64 t469, .int .i64 t470, .int .i64 t471] 32 (0, 0))) := ⟨h2_⟩
           have n3_ : Aside0 (Below w.heap.size w w28) := ⟨h3_⟩
           clear HO475
           clear HO481
           clear BK472
           clear HB
           clear h0_ h1_ h2_ h3_
           have HO475 := n0_
           have HO481 := n1_
           have BK472 := n2_
           have HB := n3_
           clear n0_ n1_ n2_ n3_
           have hHeld : w28.cell? ⟨gb472, 0, none⟩ = some (.string t468) ∧ w28.cell? ⟨gb472, 1, none⟩ = some (.int .i64 t469) ∧ w28.cell? ⟨gb472, 2, none⟩ = some (.int .i64 t470) ∧ w28.cell? ⟨gb472, 3, none⟩ = some (.int .i64 t471) := hS_
           refine norm_ (a' := ?_) ?_ ?_
           rotate_left
           ·simp only [putAll, sP]
            rfl
           refine three_ (i := 4) (j := 5) (k := 6) (Ni := some 34) (Nj := some 14) (Nk := some 15) q25_7 q25_4 q25_5 rfl rfl rfl rfl rfl rfl (three_of HT_.out (by kernel_rfl)) (by decide) (by decide) (by decide) (fun K hK => ?_) (fun K hK => ?_) (fun K hK => ?_)
           ·skip
            refine goes_ Tryd.func24 (by kernel_rfl) rfl #[.agg #[.string t468, .int .i64 t469, .int .i64 t470, .int .i64 t471], .int .i64 a4] (by rfl) rfl rfl (by (try simp only [mA]); first | done | rfl) ?_
            with_reducible refine (clusterlocksmill_Amount.calls t468 t469 t470 t471 a4 t485 t486 _ A13.out).mono ?_
            rintro e w29 ⟨rfl, hb⟩
            refine ⟨_, rfl, ?_⟩
            replace HO475 := Aside0.mk (Kd.R_below (by (with_reducible repeat (first | apply Kd.R_alloc | apply Kd.R_drewN | apply Kd.R_drew)); exact HO475.out) hb)
            replace HO481 := Aside0.mk (Kd.R_below (by (with_reducible repeat (first | apply Kd.R_alloc | apply Kd.R_drewN | apply Kd.R_drew)); exact HO481.out) hb)
            replace BK472 := bK BK472 hb
            replace HB := Aside0.mk (below_step (by repeat (first | (with_reducible first | exact HB.out | apply bL | apply bM | apply bR | refine bS ?_ GE472.out) | exact HB.out)) hb)
            (try clear hb)
            (try clear hk)
            refine hK.out _ _ ⟨bC BK472 0 rfl, bC BK472 1 rfl, bC BK472 2 rfl, bC BK472 3 rfl⟩ (fun hHeld => ?_)
            clear hK K
            refine norm_ (a' := ?_) ?_ ?_
            rotate_left
            ·show Act.put _ (some 34) _ = _
             simp only [sP]
             rfl
            exact norm_ (by first | (simp only [putAll, sP]; done) | (simp only [putAll, sP]; rfl)) (hJ1_4 () _ ⟨hHeld, (by (with_reducible repeat (first | apply Kd.R_alloc | apply Kd.R_drewN | apply Kd.R_drew)); exact HO475.out), (by (with_reducible repeat (first | apply Kd.R_alloc | apply Kd.R_drewN | apply Kd.R_drew)); exact HO481.out), (uK BK472), (by repeat (first | (with_reducible first | exact HB.out | apply bL | apply bM | apply bR | refine bS ?_ GE472.out) | exact HB.out))⟩)
           ·skip
            refine box_step ?hg (N := 14) ?hd (cs := #[.int .i64 0, .int .i64 0, .int .i64 0]) (t := 24) ?hr ?_; (case hd => rfl); (case hg => rfl); (case hr => first | (go_simp; done) | (go_simp; rfl))
            intro gb487 hg w29 hbox hb
            replace HO475 := Aside0.mk (Kd.R_below (by (with_reducible repeat (first | apply Kd.R_alloc | apply Kd.R_drewN | apply Kd.R_drew)); exact HO475.out) hb)
            replace HO481 := Aside0.mk (Kd.R_below (by (with_reducible repeat (first | apply Kd.R_alloc | apply Kd.R_drewN | apply Kd.R_drew)); exact HO481.out) hb)
            have BK487 := Aside0.mk hbox
            have GW487 := Aside0.mk ((by rw [hg]; exact (below_size (by repeat (first | (with_reducible first | exact HB.out | apply bL | apply bM | apply bR | refine bS ?_ GE472.out) | exact HB.out))) : w.heap.size ≤ gb487))
            have GE487 := Aside0.mk ((by rw [hg]; exact (below_size (by repeat (first | (with_reducible first | exact HB.out | apply bL | apply bM | apply bR | refine bS ?_ GE472.out) | exact HB.out))) : w.heap.size ≤ gb487))
            replace HB := Aside0.mk (below_step (by repeat (first | (with_reducible first | exact HB.out | apply bL | apply bM | apply bR | refine bS ?_ GE472.out) | exact HB.out)) hb)
            have NB472_487 := gN BK472 hg
            replace BK472 := bK BK472 hb
            have NB487_472 := Aside0.mk NB472_487.out.symm
            clear hb hbox hg
            refine hK.out _ _ ⟨bC BK472 0 rfl, bC BK472 1 rfl, bC BK472 2 rfl, bC BK472 3 rfl⟩ (fun hHeld => ?_)
            clear hK K
            refine norm_ (a' := ?_) ?_ ?_
            rotate_left
            ·show Act.put _ (some 14) _ = _
             simp only [sP]
             rfl
            exact norm_ (by first | (simp only [putAll, sP]; done) | (simp only [putAll, sP]; rfl)) (hJ1_5 (gb487) _ ⟨hHeld, (by (with_reducible repeat (first | apply Kd.R_alloc | apply Kd.R_drewN | apply Kd.R_drew)); exact HO475.out), (by (with_reducible repeat (first | apply Kd.R_alloc | apply Kd.R_drewN | apply Kd.R_drew)); exact HO481.out), (uK BK472), (uK BK487), GW487.out, GE487.out, NB472_487.out, NB487_472.out, (by repeat (first | (with_reducible first | exact HB.out | apply bL | apply bM | apply bR | refine bS ?_ GE472.out | refine bS ?_ GE487.out) | exact HB.out))⟩)
           ·skip
            refine box_step ?hg (N := 15) ?hd (cs := #[.int .i64 0, .int .i64 0]) (t := 26) ?hr ?_; (case hd => rfl); (case hg => rfl); (case hr => first | (go_simp; done) | (go_simp; rfl))
            intro gb488 hg w29 hbox hb
            replace HO475 := Aside0.mk (Kd.R_below (by (with_reducible repeat (first | apply Kd.R_alloc | apply Kd.R_drewN | apply Kd.R_drew)); exact HO475.out) hb)
            replace HO481 := Aside0.mk (Kd.R_below (by (with_reducible repeat (first | apply Kd.R_alloc | apply Kd.R_drewN | apply Kd.R_drew)); exact HO481.out) hb)
            have BK488 := Aside0.mk hbox
            have GW488 := Aside0.mk ((by rw [hg]; exact (below_size (by repeat (first | (with_reducible first | exact HB.out | apply bL | apply bM | apply bR | refine bS ?_ GE472.out) | exact HB.out))) : w.heap.size ≤ gb488))
            have GE488 := Aside0.mk ((by rw [hg]; exact (below_size (by repeat (first | (with_reducible first | exact HB.out | apply bL | apply bM | apply bR | refine bS ?_ GE472.out) | exact HB.out))) : w.heap.size ≤ gb488))
            replace HB := Aside0.mk (below_step (by repeat (first | (with_reducible first | exact HB.out | apply bL | apply bM | apply bR | refine bS ?_ GE472.out) | exact HB.out)) hb)
            have NB472_488 := gN BK472 hg
            replace BK472 := bK BK472 hb
            have NB488_472 := Aside0.mk NB472_488.out.symm
            clear hb hbox hg
            refine hK.out _ _ ⟨bC BK472 0 rfl, bC BK472 1 rfl, bC BK472 2 rfl, bC BK472 3 rfl⟩ (fun hHeld => ?_)
            clear hK K
            refine norm_ (a' := ?_) ?_ ?_
            rotate_left
            ·show Act.put _ (some 15) _ = _
             simp only [sP]
             rfl
            exact norm_ (by first | (simp only [putAll, sP]; done) | (simp only [putAll, sP]; rfl)) (hJ1_6 (gb488) _ ⟨hHeld, (by (with_reducible repeat (first | apply Kd.R_alloc | apply Kd.R_drewN | apply Kd.R_drew)); exact HO475.out), (by (with_reducible repeat (first | apply Kd.R_alloc | apply Kd.R_drewN | apply Kd.R_drew)); exact HO481.out), (uK BK472), (uK BK488), GW488.out, GE488.out, NB472_488.out, NB488_472.out, (by repeat (first | (with_reducible first | exact HB.out | apply bL | apply bM | apply bR | refine bS ?_ GE472.out | refine bS ?_ GE488.out) | exact HB.out))⟩)
         ·skip
          rintro ⟨gb487, gb488⟩ w29 ⟨hS_, h0_, h1_, h2_, h3_, h4_, h5_, h6_, h7_, h8_, h9_, h10_, h11_, h12_, h13_, h14_, h15_⟩
          have n0_ : Aside0 (Kd.R k53 53 w29 w.heap.size (fun k_ => some k_ ≠ (v480 : Value).ownBlock) (.slice Ao24 t473.length co24) t473) := ⟨h0_⟩
          have n1_ : Aside0 (Kd.R k53 53 w29 w.heap.size (fun k_ => some k_ ≠ (.slice Ao24 t473.length co24 : Value).ownBlock) v480 t479) := ⟨h1_⟩
          have n2_ : Aside0 (w29.heap[gb472]? = some (.cells #[.string t468, .int .i64 t469, .int .i64 t470, .int .i64 t471] 32 (0, 0))) := ⟨h2_⟩
          have n3_ : Aside0 (w29.heap[gb487]? = some (.cells #[.int .i64 0, .int .i64 0, .int .i64 0] 24 (0, 0))) := ⟨h3_⟩
          have n4_ : Aside0 (w29.heap[gb488]? = some (.cells #[.int .i64 0, .int .i64 0] 26 (0, 0))) := ⟨h4_⟩
          have n5_ : Aside0 (w.heap.size ≤ gb487) := ⟨h5_⟩
          have n6_ : Aside0 (w.heap.size ≤ gb487) := ⟨h6_⟩
          have n7_ : Aside0 (gb472 ≠ gb487) := ⟨h7_⟩
          have n8_ : Aside0 (gb487 ≠ gb472) := ⟨h8_⟩
          have n9_ : Aside0 (gb488 ≠ gb487) := ⟨h9_⟩
          have n10_ : Aside0 (gb487 ≠ gb488) := ⟨h10_⟩
          have n11_ : Aside0 (w.heap.size ≤ gb488) := ⟨h11_⟩
          have n12_ : Aside0 (w.heap.size ≤ gb488) := ⟨h12_⟩
          have n13_ : Aside0 (gb472 ≠ gb488) := ⟨h13_⟩
          have n14_ : Aside0 (gb488 ≠ gb472) := ⟨h14_⟩
          have n15_ : Aside0 (Below w.heap.size w w29) := ⟨h15_⟩
          clear HO475
          clear HO481
          clear BK472
          clear HB
          clear h0_ h1_ h2_ h3_ h4_ h5_ h6_ h7_ h8_ h9_ h10_ h11_ h12_ h13_ h14_ h15_
          have HO475 := n0_
          have HO481 := n1_
          have BK472 := n2_
          have BK487 := n3_
          have BK488 := n4_
          have GW487 := n5_
          have GE487 := n6_
          have NB472_487 := n7_
          have NB487_472 := n8_
          have NB488_487 := n9_
          have NB487_488 := n10_
          have GW488 := n11_
          have GE488 := n12_
          have NB472_488 := n13_
          have NB488_472 := n14_
          have HB := n15_
          clear n0_ n1_ n2_ n3_ n4_ n5_ n6_ n7_ n8_ n9_ n10_ n11_ n12_ n13_ n14_ n15_
          have hHeld : w29.cell? ⟨gb472, 0, none⟩ = some (.string t468) ∧ w29.cell? ⟨gb472, 1, none⟩ = some (.int .i64 t469) ∧ w29.cell? ⟨gb472, 2, none⟩ = some (.int .i64 t470) ∧ w29.cell? ⟨gb472, 3, none⟩ = some (.int .i64 t471) := hS_
          refine norm_ (a' := ?_) ?_ ?_
          rotate_left
          ·simp only [putAll, sP]
           rfl
          refine one_ (i := 1) (N := some 31) q25_1 rfl rfl (one_of HT_.out (by kernel_rfl)) (by decide) (fun K hK => ?_)
          refine goes_ Tryd.func23 (by kernel_rfl) rfl #[.int .i64 a3] (by rfl) rfl rfl (by (try simp only [mA]); first | done | rfl) ?_
          with_reducible refine (clusterlocksmill_Proc.calls a3 t482 t483 t484 _ A12.out).mono ?_
          rintro e w30 ⟨rfl, hb⟩
          refine ⟨_, rfl, ?_⟩
          replace HO475 := Aside0.mk (Kd.R_below (by (with_reducible repeat (first | apply Kd.R_alloc | apply Kd.R_drewN | apply Kd.R_drew)); exact HO475.out) hb)
          replace HO481 := Aside0.mk (Kd.R_below (by (with_reducible repeat (first | apply Kd.R_alloc | apply Kd.R_drewN | apply Kd.R_drew)); exact HO481.out) hb)
          replace BK472 := bK BK472 hb
          replace BK487 := bK BK487 hb
          replace BK488 := bK BK488 hb
          replace HB := Aside0.mk (below_step (by repeat (first | (with_reducible first | exact HB.out | apply bL | apply bM | apply bR | refine bS ?_ GE472.out | refine bS ?_ GE487.out | refine bS ?_ GE488.out) | exact HB.out)) hb)
          (try clear hb)
          (try clear hk)
          refine hK.out _ _ ⟨bC BK472 0 rfl, bC BK472 1 rfl, bC BK472 2 rfl, bC BK472 3 rfl⟩ (fun hHeld => ?_)
          clear hK K
          refine norm_ (a' := ?_) ?_ ?_
          rotate_left
          ·show Act.put _ (some 31) _ = _
           simp only [sP]
           rfl
          exact norm_ (by first | (simp only [putAll, sP]; done) | (simp only [putAll, sP]; rfl)) (hJ1_5_6 (gb487, gb488) _ ⟨hHeld, (by (with_reducible repeat (first | apply Kd.R_alloc | apply Kd.R_drewN | apply Kd.R_drew)); exact HO475.out), (by (with_reducible repeat (first | apply Kd.R_alloc | apply Kd.R_drewN | apply Kd.R_drew)); exact HO481.out), (uK BK472), (uK BK487), (uK BK488), GW487.out, GE487.out, NB472_487.out, NB487_472.out, NB488_487.out, NB487_488.out, GW488.out, GE488.out, NB472_488.out, NB488_472.out, (by repeat (first | (with_reducible first | exact HB.out | apply bL | apply bM | apply bR | refine bS ?_ GE472.out | refine bS ?_ GE487.out | refine bS ?_ GE488.out) | exact HB.out))⟩)
        ·skip
         rintro gb488 w29 ⟨hS_, h0_, h1_, h2_, h3_, h4_, h5_, h6_, h7_, h8_⟩
         have n0_ : Aside0 (Kd.R k53 53 w29 w.heap.size (fun k_ => some k_ ≠ (v480 : Value).ownBlock) (.slice Ao24 t473.length co24) t473) := ⟨h0_⟩
         have n1_ : Aside0 (Kd.R k53 53 w29 w.heap.size (fun k_ => some k_ ≠ (.slice Ao24 t473.length co24 : Value).ownBlock) v480 t479) := ⟨h1_⟩
         have n2_ : Aside0 (w29.heap[gb472]? = some (.cells #[.string t468, .int .i64 t469, .int .i64 t470, .int .i64 t471] 32 (0, 0))) := ⟨h2_⟩
         have n3_ : Aside0 (w29.heap[gb488]? = some (.cells #[.int .i64 0, .int .i64 0] 26 (0, 0))) := ⟨h3_⟩
         have n4_ : Aside0 (w.heap.size ≤ gb488) := ⟨h4_⟩
         have n5_ : Aside0 (w.heap.size ≤ gb488) := ⟨h5_⟩
         have n6_ : Aside0 (gb472 ≠ gb488) := ⟨h6_⟩
         have n7_ : Aside0 (gb488 ≠ gb472) := ⟨h7_⟩
         have n8_ : Aside0 (Below w.heap.size w w29) := ⟨h8_⟩
         clear HO475
         clear HO481
         clear BK472
         clear HB
         clear h0_ h1_ h2_ h3_ h4_ h5_ h6_ h7_ h8_
         have HO475 := n0_
         have HO481 := n1_
         have BK472 := n2_
         have BK488 := n3_
         have GW488 := n4_
         have GE488 := n5_
         have NB472_488 := n6_
         have NB488_472 := n7_
         have HB := n8_
         clear n0_ n1_ n2_ n3_ n4_ n5_ n6_ n7_ n8_
         have hHeld : w29.cell? ⟨gb472, 0, none⟩ = some (.string t468) ∧ w29.cell? ⟨gb472, 1, none⟩ = some (.int .i64 t469) ∧ w29.cell? ⟨gb472, 2, none⟩ = some (.int .i64 t470) ∧ w29.cell? ⟨gb472, 3, none⟩ = some (.int .i64 t471) := hS_
         refine norm_ (a' := ?_) ?_ ?_
         rotate_left
         ·simp only [putAll, sP]
          rfl
         refine two_ (i := 4) (j := 5) (Ni := some 34) (Nj := some 14) q25_3 q25_1 rfl rfl rfl rfl (two_of HT_.out (by kernel_rfl)) (by decide) (by decide) (fun K hK => ?_) (fun K hK => ?_)
         ·skip
          refine goes_ Tryd.func24 (by kernel_rfl) rfl #[.agg #[.string t468, .int .i64 t469, .int .i64 t470, .int .i64 t471], .int .i64 a4] (by rfl) rfl rfl (by (try simp only [mA]); first | done | rfl) ?_
          with_reducible refine (clusterlocksmill_Amount.calls t468 t469 t470 t471 a4 t485 t486 _ A13.out).mono ?_
          rintro e w30 ⟨rfl, hb⟩
          refine ⟨_, rfl, ?_⟩
          replace HO475 := Aside0.mk (Kd.R_below (by (with_reducible repeat (first | apply Kd.R_alloc | apply Kd.R_drewN | apply Kd.R_drew)); exact HO475.out) hb)
          replace HO481 := Aside0.mk (Kd.R_below (by (with_reducible repeat (first | apply Kd.R_alloc | apply Kd.R_drewN | apply Kd.R_drew)); exact HO481.out) hb)
          replace BK472 := bK BK472 hb
          replace BK488 := bK BK488 hb
          replace HB := Aside0.mk (below_step (by repeat (first | (with_reducible first | exact HB.out | apply bL | apply bM | apply bR | refine bS ?_ GE472.out | refine bS ?_ GE488.out) | exact HB.out)) hb)
          (try clear hb)
          (try clear hk)
          refine hK.out _ _ ⟨bC BK472 0 rfl, bC BK472 1 rfl, bC BK472 2 rfl, bC BK472 3 rfl⟩ (fun hHeld => ?_)
          clear hK K
          refine norm_ (a' := ?_) ?_ ?_
          rotate_left
          ·show Act.put _ (some 34) _ = _
           simp only [sP]
           rfl
          exact norm_ (by first | (simp only [putAll, sP]; done) | (simp only [putAll, sP]; rfl)) (hJ1_4_6 (gb488) _ ⟨hHeld, (by (with_reducible repeat (first | apply Kd.R_alloc | apply Kd.R_drewN | apply Kd.R_drew)); exact HO475.out), (by (with_reducible repeat (first | apply Kd.R_alloc | apply Kd.R_drewN | apply Kd.R_drew)); exact HO481.out), (uK BK472), (uK BK488), GW488.out, GE488.out, NB472_488.out, NB488_472.out, (by repeat (first | (with_reducible first | exact HB.out | apply bL | apply bM | apply bR | refine bS ?_ GE472.out | refine bS ?_ GE488.out) | exact HB.out))⟩)
         ·skip
          refine box_step ?hg (N := 14) ?hd (cs := #[.int .i64 0, .int .i64 0, .int .i64 0]) (t := 24) ?hr ?_; (case hd => rfl); (case hg => rfl); (case hr => first | (go_simp; done) | (go_simp; rfl))
          intro gb487 hg w30 hbox hb
          replace HO475 := Aside0.mk (Kd.R_below (by (with_reducible repeat (first | apply Kd.R_alloc | apply Kd.R_drewN | apply Kd.R_drew)); exact HO475.out) hb)
          replace HO481 := Aside0.mk (Kd.R_below (by (with_reducible repeat (first | apply Kd.R_alloc | apply Kd.R_drewN | apply Kd.R_drew)); exact HO481.out) hb)
          have BK487 := Aside0.mk hbox
          have GW487 := Aside0.mk ((by rw [hg]; exact (below_size (by repeat (first | (with_reducible first | exact HB.out | apply bL | apply bM | apply bR | refine bS ?_ GE472.out | refine bS ?_ GE488.out) | exact HB.out))) : w.heap.size ≤ gb487))
          have GE487 := Aside0.mk ((by rw [hg]; exact (below_size (by repeat (first | (with_reducible first | exact HB.out | apply bL | apply bM | apply bR | refine bS ?_ GE472.out | refine bS ?_ GE488.out) | exact HB.out))) : w.heap.size ≤ gb487))
          replace HB := Aside0.mk (below_step (by repeat (first | (with_reducible first | exact HB.out | apply bL | apply bM | apply bR | refine bS ?_ GE472.out | refine bS ?_ GE488.out) | exact HB.out)) hb)
          have NB472_487 := gN BK472 hg
          replace BK472 := bK BK472 hb
          have NB487_472 := Aside0.mk NB472_487.out.symm
          have NB488_487 := gN BK488 hg
          replace BK488 := bK BK488 hb
          have NB487_488 := Aside0.mk NB488_487.out.symm
          clear hb hbox hg
          refine hK.out _ _ ⟨bC BK472 0 rfl, bC BK472 1 rfl, bC BK472 2 rfl, bC BK472 3 rfl⟩ (fun hHeld => ?_)
          clear hK K
          refine norm_ (a' := ?_) ?_ ?_
          rotate_left
          ·show Act.put _ (some 14) _ = _
           simp only [sP]
           rfl
          exact norm_ (by first | (simp only [putAll, sP]; done) | (simp only [putAll, sP]; rfl)) (hJ1_5_6 (gb487, gb488) _ ⟨hHeld, (by (with_reducible repeat (first | apply Kd.R_alloc | apply Kd.R_drewN | apply Kd.R_drew)); exact HO475.out), (by (with_reducible repeat (first | apply Kd.R_alloc | apply Kd.R_drewN | apply Kd.R_drew)); exact HO481.out), (uK BK472), (uK BK487), (uK BK488), GW487.out, GE487.out, NB472_487.out, NB487_472.out, NB488_487.out, NB487_488.out, GW488.out, GE488.out, NB472_488.out, NB488_472.out, (by repeat (first | (with_reducible first | exact HB.out | apply bL | apply bM | apply bR | refine bS ?_ GE472.out | refine bS ?_ GE488.out | refine bS ?_ GE487.out) | exact HB.out))⟩)
       ·skip
        rintro gb487 w29 ⟨hS_, h0_, h1_, h2_, h3_, h4_, h5_, h6_, h7_, h8_⟩
        have n0_ : Aside0 (Kd.R k53 53 w29 w.heap.size (fun k_ => some k_ ≠ (v480 : Value).ownBlock) (.slice Ao24 t473.length co24) t473) := ⟨h0_⟩
        have n1_ : Aside0 (Kd.R k53 53 w29 w.heap.size (fun k_ => some k_ ≠ (.slice Ao24 t473.length co24 : Value).ownBlock) v480 t479) := ⟨h1_⟩
        have n2_ : Aside0 (w29.heap[gb472]? = some (.cells #[.string t468, .int .i64 t469, .int .i64 t470, .int .i64 t471] 32 (0, 0))) := ⟨h2_⟩
        have n3_ : Aside0 (w29.heap[gb487]? = some (.cells #[.int .i64 0, .int .i64 0, .int .i64 0] 24 (0, 0))) := ⟨h3_⟩
        have n4_ : Aside0 (w.heap.size ≤ gb487) := ⟨h4_⟩
        have n5_ : Aside0 (w.heap.size ≤ gb487) := ⟨h5_⟩
        have n6_ : Aside0 (gb472 ≠ gb487) := ⟨h6_⟩
        have n7_ : Aside0 (gb487 ≠ gb472) := ⟨h7_⟩
        have n8_ : Aside0 (Below w.heap.size w w29) := ⟨h8_⟩
        clear HO475
        clear HO481
        clear BK472
        clear HB
        clear h0_ h1_ h2_ h3_ h4_ h5_ h6_ h7_ h8_
        have HO475 := n0_
        have HO481 := n1_
        have BK472 := n2_
        have BK487 := n3_
        have GW487 := n4_
        have GE487 := n5_
        have NB472_487 := n6_
        have NB487_472 := n7_
        have HB := n8_
        clear n0_ n1_ n2_ n3_ n4_ n5_ n6_ n7_ n8_
        have hHeld : w29.cell? ⟨gb472, 0, none⟩ = some (.string t468) ∧ w29.cell? ⟨gb472, 1, none⟩ = some (.int .i64 t469) ∧ w29.cell? ⟨gb472, 2, none⟩ = some (.int .i64 t470) ∧ w29.cell? ⟨gb472, 3, none⟩ = some (.int .i64 t471) := hS_
        refine norm_ (a' := ?_) ?_ ?_
        rotate_left
        ·simp only [putAll, sP]
         rfl
        refine two_ (i := 4) (j := 6) (Ni := some 34) (Nj := some 15) q25_2 q25_1 rfl rfl rfl rfl (two_of HT_.out (by kernel_rfl)) (by decide) (by decide) (fun K hK => ?_) (fun K hK => ?_)
        ·skip
         refine goes_ Tryd.func24 (by kernel_rfl) rfl #[.agg #[.string t468, .int .i64 t469, .int .i64 t470, .int .i64 t471], .int .i64 a4] (by rfl) rfl rfl (by (try simp only [mA]); first | done | rfl) ?_
         with_reducible refine (clusterlocksmill_Amount.calls t468 t469 t470 t471 a4 t485 t486 _ A13.out).mono ?_
         rintro e w30 ⟨rfl, hb⟩
         refine ⟨_, rfl, ?_⟩
         replace HO475 := Aside0.mk (Kd.R_below (by (with_reducible repeat (first | apply Kd.R_alloc | apply Kd.R_drewN | apply Kd.R_drew)); exact HO475.out) hb)
         replace HO481 := Aside0.mk (Kd.R_below (by (with_reducible repeat (first | apply Kd.R_alloc | apply Kd.R_drewN | apply Kd.R_drew)); exact HO481.out) hb)
         replace BK472 := bK BK472 hb
         replace BK487 := bK BK487 hb
         replace HB := Aside0.mk (below_step (by repeat (first | (with_reducible first | exact HB.out | apply bL | apply bM | apply bR | refine bS ?_ GE472.out | refine bS ?_ GE487.out) | exact HB.out)) hb)
         (try clear hb)
         (try clear hk)
         refine hK.out _ _ ⟨bC BK472 0 rfl, bC BK472 1 rfl, bC BK472 2 rfl, bC BK472 3 rfl⟩ (fun hHeld => ?_)
         clear hK K
         refine norm_ (a' := ?_) ?_ ?_
         rotate_left
         ·show Act.put _ (some 34) _ = _
          simp only [sP]
          rfl
         exact norm_ (by first | (simp only [putAll, sP]; done) | (simp only [putAll, sP]; rfl)) (hJ1_4_5 (gb487) _ ⟨hHeld, (by (with_reducible repeat (first | apply Kd.R_alloc | apply Kd.R_drewN | apply Kd.R_drew)); exact HO475.out), (by (with_reducible repeat (first | apply Kd.R_alloc | apply Kd.R_drewN | apply Kd.R_drew)); exact HO481.out), (uK BK472), (uK BK487), GW487.out, GE487.out, NB472_487.out, NB487_472.out, (by repeat (first | (with_reducible first | exact HB.out | apply bL | apply bM | apply bR | refine bS ?_ GE472.out | refine bS ?_ GE487.out) | exact HB.out))⟩)
        ·skip
         refine box_step ?hg (N := 15) ?hd (cs := #[.int .i64 0, .int .i64 0]) (t := 26) ?hr ?_; (case hd => rfl); (case hg => rfl); (case hr => first | (go_simp; done) | (go_simp; rfl))
         intro gb488 hg w30 hbox hb
         replace HO475 := Aside0.mk (Kd.R_below (by (with_reducible repeat (first | apply Kd.R_alloc | apply Kd.R_drewN | apply Kd.R_drew)); exact HO475.out) hb)
         replace HO481 := Aside0.mk (Kd.R_below (by (with_reducible repeat (first | apply Kd.R_alloc | apply Kd.R_drewN | apply Kd.R_drew)); exact HO481.out) hb)
         have BK488 := Aside0.mk hbox
         have GW488 := Aside0.mk ((by rw [hg]; exact (below_size (by repeat (first | (with_reducible first | exact HB.out | apply bL | apply bM | apply bR | refine bS ?_ GE472.out | refine bS ?_ GE487.out) | exact HB.out))) : w.heap.size ≤ gb488))
         have GE488 := Aside0.mk ((by rw [hg]; exact (below_size (by repeat (first | (with_reducible first | exact HB.out | apply bL | apply bM | apply bR | refine bS ?_ GE472.out | refine bS ?_ GE487.out) | exact HB.out))) : w.heap.size ≤ gb488))
         replace HB := Aside0.mk (below_step (by repeat (first | (with_reducible first | exact HB.out | apply bL | apply bM | apply bR | refine bS ?_ GE472.out | refine bS ?_ GE487.out) | exact HB.out)) hb)
         have NB472_488 := gN BK472 hg
         replace BK472 := bK BK472 hb
         have NB488_472 := Aside0.mk NB472_488.out.symm
         have NB487_488 := gN BK487 hg
         replace BK487 := bK BK487 hb
         have NB488_487 := Aside0.mk NB487_488.out.symm
         clear hb hbox hg
         refine hK.out _ _ ⟨bC BK472 0 rfl, bC BK472 1 rfl, bC BK472 2 rfl, bC BK472 3 rfl⟩ (fun hHeld => ?_)
         clear hK K
         refine norm_ (a' := ?_) ?_ ?_
         rotate_left
         ·show Act.put _ (some 15) _ = _
          simp only [sP]
          rfl
         exact norm_ (by first | (simp only [putAll, sP]; done) | (simp only [putAll, sP]; rfl)) (hJ1_5_6 (gb487, gb488) _ ⟨hHeld, (by (with_reducible repeat (first | apply Kd.R_alloc | apply Kd.R_drewN | apply Kd.R_drew)); exact HO475.out), (by (with_reducible repeat (first | apply Kd.R_alloc | apply Kd.R_drewN | apply Kd.R_drew)); exact HO481.out), (uK BK472), (uK BK487), (uK BK488), GW487.out, GE487.out, NB472_487.out, NB487_472.out, NB488_487.out, NB487_488.out, GW488.out, GE488.out, NB472_488.out, NB488_472.out, (by repeat (first | (with_reducible first | exact HB.out | apply bL | apply bM | apply bR | refine bS ?_ GE472.out | refine bS ?_ GE487.out | refine bS ?_ GE488.out) | exact HB.out))⟩)
      ·skip
       rintro _ w29 ⟨hS_, h0_, h1_, h2_, h3_⟩
       have n0_ : Aside0 (Kd.R k53 53 w29 w.heap.size (fun k_ => some k_ ≠ (v480 : Value).ownBlock) (.slice Ao24 t473.length co24) t473) := ⟨h0_⟩
       have n1_ : Aside0 (Kd.R k53 53 w29 w.heap.size (fun k_ => some k_ ≠ (.slice Ao24 t473.length co24 : Value).ownBlock) v480 t479) := ⟨h1_⟩
       have n2_ : Aside0 (w29.heap[gb472]? = some (.cells #[.string t468, .int .i64 t469, .int .i64 t470, .int .i64 t471] 32 (0, 0))) := ⟨h2_⟩
       have n3_ : Aside0 (Below w.heap.size w w29) := ⟨h3_⟩
       clear HO475
       clear HO481
       clear BK472
       clear HB
       clear h0_ h1_ h2_ h3_
       have HO475 := n0_
       have HO481 := n1_
       have BK472 := n2_
       have HB := n3_
       clear n0_ n1_ n2_ n3_
       have hHeld : w29.cell? ⟨gb472, 0, none⟩ = some (.string t468) ∧ w29.cell? ⟨gb472, 1, none⟩ = some (.int .i64 t469) ∧ w29.cell? ⟨gb472, 2, none⟩ = some (.int .i64 t470) ∧ w29.cell? ⟨gb472, 3, none⟩ = some (.int .i64 t471) := hS_
       refine norm_ (a' := ?_) ?_ ?_
       rotate_left
       ·simp only [putAll, sP]
        rfl
       refine two_ (i := 5) (j := 6) (Ni := some 14) (Nj := some 15) q25_2 q25_3 rfl rfl rfl rfl (two_of HT_.out (by kernel_rfl)) (by decide) (by decide) (fun K hK => ?_) (fun K hK => ?_)
       ·skip
        refine box_step ?hg (N := 14) ?hd (cs := #[.int .i64 0, .int .i64 0, .int .i64 0]) (t := 24) ?hr ?_; (case hd => rfl); (case hg => rfl); (case hr => first | (go_simp; done) | (go_simp; rfl))
        intro gb487 hg w30 hbox hb
        replace HO475 := Aside0.mk (Kd.R_below (by (with_reducible repeat (first | apply Kd.R_alloc | apply Kd.R_drewN | apply Kd.R_drew)); exact HO475.out) hb)
        replace HO481 := Aside0.mk (Kd.R_below (by (with_reducible repeat (first | apply Kd.R_alloc | apply Kd.R_drewN | apply Kd.R_drew)); exact HO481.out) hb)
        have BK487 := Aside0.mk hbox
        have GW487 := Aside0.mk ((by rw [hg]; exact (below_size (by repeat (first | (with_reducible first | exact HB.out | apply bL | apply bM | apply bR | refine bS ?_ GE472.out) | exact HB.out))) : w.heap.size ≤ gb487))
        have GE487 := Aside0.mk ((by rw [hg]; exact (below_size (by repeat (first | (with_reducible first | exact HB.out | apply bL | apply bM | apply bR | refine bS ?_ GE472.out) | exact HB.out))) : w.heap.size ≤ gb487))
        replace HB := Aside0.mk (below_step (by repeat (first | (with_reducible first | exact HB.out | apply bL | apply bM | apply bR | refine bS ?_ GE472.out) | exact HB.out)) hb)
        have NB472_487 := gN BK472 hg
        replace BK472 := bK BK472 hb
        have NB487_472 := Aside0.mk NB472_487.out.symm
        clear hb hbox hg
        refine hK.out _ _ ⟨bC BK472 0 rfl, bC BK472 1 rfl, bC BK472 2 rfl, bC BK472 3 rfl⟩ (fun hHeld => ?_)
        clear hK K
        refine norm_ (a' := ?_) ?_ ?_
        rotate_left
        ·show Act.put _ (some 14) _ = _
         simp only [sP]
         rfl
        exact norm_ (by first | (simp only [putAll, sP]; done) | (simp only [putAll, sP]; rfl)) (hJ1_4_5 (gb487) _ ⟨hHeld, (by (with_reducible repeat (first | apply Kd.R_alloc | apply Kd.R_drewN | apply Kd.R_drew)); exact HO475.out), (by (with_reducible repeat (first | apply Kd.R_alloc | apply Kd.R_drewN | apply Kd.R_drew)); exact HO481.out), (uK BK472), (uK BK487), GW487.out, GE487.out, NB472_487.out, NB487_472.out, (by repeat (first | (with_reducible first | exact HB.out | apply bL | apply bM | apply bR | refine bS ?_ GE472.out | refine bS ?_ GE487.out) | exact HB.out))⟩)
       ·skip
        refine box_step ?hg (N := 15) ?hd (cs := #[.int .i64 0, .int .i64 0]) (t := 26) ?hr ?_; (case hd => rfl); (case hg => rfl); (case hr => first | (go_simp; done) | (go_simp; rfl))
        intro gb488 hg w30 hbox hb
        replace HO475 := Aside0.mk (Kd.R_below (by (with_reducible repeat (first | apply Kd.R_alloc | apply Kd.R_drewN | apply Kd.R_drew)); exact HO475.out) hb)
        replace HO481 := Aside0.mk (Kd.R_below (by (with_reducible repeat (first | apply Kd.R_alloc | apply Kd.R_drewN | apply Kd.R_drew)); exact HO481.out) hb)
        have BK488 := Aside0.mk hbox
        have GW488 := Aside0.mk ((by rw [hg]; exact (below_size (by repeat (first | (with_reducible first | exact HB.out | apply bL | apply bM | apply bR | refine bS ?_ GE472.out) | exact HB.out))) : w.heap.size ≤ gb488))
        have GE488 := Aside0.mk ((by rw [hg]; exact (below_size (by repeat (first | (with_reducible first | exact HB.out | apply bL | apply bM | apply bR | refine bS ?_ GE472.out) | exact HB.out))) : w.heap.size ≤ gb488))
        replace HB := Aside0.mk (below_step (by repeat (first | (with_reducible first | exact HB.out | apply bL | apply bM | apply bR | refine bS ?_ GE472.out) | exact HB.out)) hb)
        have NB472_488 := gN BK472 hg
        replace BK472 := bK BK472 hb
        have NB488_472 := Aside0.mk NB472_488.out.symm
        clear hb hbox hg
        refine hK.out _ _ ⟨bC BK472 0 rfl, bC BK472 1 rfl, bC BK472 2 rfl, bC BK472 3 rfl⟩ (fun hHeld => ?_)
        clear hK K
        refine norm_ (a' := ?_) ?_ ?_
        rotate_left
        ·show Act.put _ (some 15) _ = _
         simp only [sP]
         rfl
        exact norm_ (by first | (simp only [putAll, sP]; done) | (simp only [putAll, sP]; rfl)) (hJ1_4_6 (gb488) _ ⟨hHeld, (by (with_reducible repeat (first | apply Kd.R_alloc | apply Kd.R_drewN | apply Kd.R_drew)); exact HO475.out), (by (with_reducible repeat (first | apply Kd.R_alloc | apply Kd.R_drewN | apply Kd.R_drew)); exact HO481.out), (uK BK472), (uK BK488), GW488.out, GE488.out, NB472_488.out, NB488_472.out, (by repeat (first | (with_reducible first | exact HB.out | apply bL | apply bM | apply bR | refine bS ?_ GE472.out | refine bS ?_ GE488.out) | exact HB.out))⟩)
     ·skip
      rintro ⟨gb487, gb488⟩ w30 ⟨hS_, h0_, h1_, h2_, h3_, h4_, h5_, h6_, h7_, h8_, h9_, h10_, h11_, h12_, h13_, h14_, h15_⟩
      have n0_ : Aside0 (Kd.R k53 53 w30 w.heap.size (fun k_ => some k_ ≠ (v480 : Value).ownBlock) (.slice Ao24 t473.length co24) t473) := ⟨h0_⟩
      have n1_ : Aside0 (Kd.R k53 53 w30 w.heap.size (fun k_ => some k_ ≠ (.slice Ao24 t473.length co24 : Value).ownBlock) v480 t479) := ⟨h1_⟩
      have n2_ : Aside0 (w30.heap[gb472]? = some (.cells #[.string t468, .int .i64 t469, .int .i64 t470, .int .i64 t471] 32 (0, 0))) := ⟨h2_⟩
      have n3_ : Aside0 (w30.heap[gb487]? = some (.cells #[.int .i64 0, .int .i64 0, .int .i64 0] 24 (0, 0))) := ⟨h3_⟩
      have n4_ : Aside0 (w30.heap[gb488]? = some (.cells #[.int .i64 0, .int .i64 0] 26 (0, 0))) := ⟨h4_⟩
      have n5_ : Aside0 (w.heap.size ≤ gb487) := ⟨h5_⟩
      have n6_ : Aside0 (w.heap.size ≤ gb487) := ⟨h6_⟩
      have n7_ : Aside0 (gb472 ≠ gb487) := ⟨h7_⟩
      have n8_ : Aside0 (gb487 ≠ gb472) := ⟨h8_⟩
      have n9_ : Aside0 (gb488 ≠ gb487) := ⟨h9_⟩
      have n10_ : Aside0 (gb487 ≠ gb488) := ⟨h10_⟩
      have n11_ : Aside0 (w.heap.size ≤ gb488) := ⟨h11_⟩
      have n12_ : Aside0 (w.heap.size ≤ gb488) := ⟨h12_⟩
      have n13_ : Aside0 (gb472 ≠ gb488) := ⟨h13_⟩
      have n14_ : Aside0 (gb488 ≠ gb472) := ⟨h14_⟩
      have n15_ : Aside0 (Below w.heap.size w w30) := ⟨h15_⟩
      clear HO475
      clear HO481
      clear BK472
      clear HB
      clear h0_ h1_ h2_ h3_ h4_ h5_ h6_ h7_ h8_ h9_ h10_ h11_ h12_ h13_ h14_ h15_
      have HO475 := n0_
      have HO481 := n1_
      have BK472 := n2_
      have BK487 := n3_
      have BK488 := n4_
      have GW487 := n5_
      have GE487 := n6_
      have NB472_487 := n7_
      have NB487_472 := n8_
      have NB488_487 := n9_
      have NB487_488 := n10_
      have GW488 := n11_
      have GE488 := n12_
      have NB472_488 := n13_
      have NB488_472 := n14_
      have HB := n15_
      clear n0_ n1_ n2_ n3_ n4_ n5_ n6_ n7_ n8_ n9_ n10_ n11_ n12_ n13_ n14_ n15_
      have hHeld : w30.cell? ⟨gb472, 0, none⟩ = some (.string t468) ∧ w30.cell? ⟨gb472, 1, none⟩ = some (.int .i64 t469) ∧ w30.cell? ⟨gb472, 2, none⟩ = some (.int .i64 t470) ∧ w30.cell? ⟨gb472, 3, none⟩ = some (.int .i64 t471) := hS_
      refine norm_ (a' := ?_) ?_ ?_
      rotate_left
      ·simp only [putAll, sP]
       rfl
      refine one_ (i := 4) (N := some 34) q25_0 rfl rfl (one_of HT_.out (by kernel_rfl)) (by decide) (fun K hK => ?_)
      refine goes_ Tryd.func24 (by kernel_rfl) rfl #[.agg #[.string t468, .int .i64 t469, .int .i64 t470, .int .i64 t471], .int .i64 a4] (by rfl) rfl rfl (by (try simp only [mA]); first | done | rfl) ?_
      with_reducible refine (clusterlocksmill_Amount.calls t468 t469 t470 t471 a4 t485 t486 _ A13.out).mono ?_
      rintro e w31 ⟨rfl, hb⟩
      refine ⟨_, rfl, ?_⟩
      replace HO475 := Aside0.mk (Kd.R_below (by (with_reducible repeat (first | apply Kd.R_alloc | apply Kd.R_drewN | apply Kd.R_drew)); exact HO475.out) hb)
      replace HO481 := Aside0.mk (Kd.R_below (by (with_reducible repeat (first | apply Kd.R_alloc | apply Kd.R_drewN | apply Kd.R_drew)); exact HO481.out) hb)
      replace BK472 := bK BK472 hb
      replace BK487 := bK BK487 hb
      replace BK488 := bK BK488 hb
      replace HB := Aside0.mk (below_step (by repeat (first | (with_reducible first | exact HB.out | apply bL | apply bM | apply bR | refine bS ?_ GE472.out | refine bS ?_ GE487.out | refine bS ?_ GE488.out) | exact HB.out)) hb)
      (try clear hb)
      (try clear hk)
      refine hK.out _ _ ⟨bC BK472 0 rfl, bC BK472 1 rfl, bC BK472 2 rfl, bC BK472 3 rfl⟩ (fun hHeld => ?_)
      clear hK K
      refine norm_ (a' := ?_) ?_ ?_
      rotate_left
      ·show Act.put _ (some 34) _ = _
       simp only [sP]
       rfl
      exact norm_ (by first | (simp only [putAll, sP]; done) | (simp only [putAll, sP]; rfl)) (hJ1_4_5_6 (gb487, gb488) _ ⟨hHeld, (by (with_reducible repeat (first | apply Kd.R_alloc | apply Kd.R_drewN | apply Kd.R_drew)); exact HO475.out), (by (with_reducible repeat (first | apply Kd.R_alloc | apply Kd.R_drewN | apply Kd.R_drew)); exact HO481.out), (uK BK472), (uK BK487), (uK BK488), GW487.out, GE487.out, NB472_487.out, NB487_472.out, NB488_487.out, NB487_488.out, GW488.out, GE488.out, NB472_488.out, NB488_472.out, (by repeat (first | (with_reducible first | exact HB.out | apply bL | apply bM | apply bR | refine bS ?_ GE472.out | refine bS ?_ GE487.out | refine bS ?_ GE488.out) | exact HB.out))⟩)
    ·skip
     rintro gb488 w30 ⟨hS_, h0_, h1_, h2_, h3_, h4_, h5_, h6_, h7_, h8_⟩
     have n0_ : Aside0 (Kd.R k53 53 w30 w.heap.size (fun k_ => some k_ ≠ (v480 : Value).ownBlock) (.slice Ao24 t473.length co24) t473) := ⟨h0_⟩
     have n1_ : Aside0 (Kd.R k53 53 w30 w.heap.size (fun k_ => some k_ ≠ (.slice Ao24 t473.length co24 : Value).ownBlock) v480 t479) := ⟨h1_⟩
     have n2_ : Aside0 (w30.heap[gb472]? = some (.cells #[.string t468, .int .i64 t469, .int .i64 t470, .int .i64 t471] 32 (0, 0))) := ⟨h2_⟩
     have n3_ : Aside0 (w30.heap[gb488]? = some (.cells #[.int .i64 0, .int .i64 0] 26 (0, 0))) := ⟨h3_⟩
     have n4_ : Aside0 (w.heap.size ≤ gb488) := ⟨h4_⟩
     have n5_ : Aside0 (w.heap.size ≤ gb488) := ⟨h5_⟩
     have n6_ : Aside0 (gb472 ≠ gb488) := ⟨h6_⟩
     have n7_ : Aside0 (gb488 ≠ gb472) := ⟨h7_⟩
     have n8_ : Aside0 (Below w.heap.size w w30) := ⟨h8_⟩
     clear HO475
     clear HO481
     clear BK472
     clear HB
     clear h0_ h1_ h2_ h3_ h4_ h5_ h6_ h7_ h8_
     have HO475 := n0_
     have HO481 := n1_
     have BK472 := n2_
     have BK488 := n3_
     have GW488 := n4_
     have GE488 := n5_
     have NB472_488 := n6_
     have NB488_472 := n7_
     have HB := n8_
     clear n0_ n1_ n2_ n3_ n4_ n5_ n6_ n7_ n8_
     have hHeld : w30.cell? ⟨gb472, 0, none⟩ = some (.string t468) ∧ w30.cell? ⟨gb472, 1, none⟩ = some (.int .i64 t469) ∧ w30.cell? ⟨gb472, 2, none⟩ = some (.int .i64 t470) ∧ w30.cell? ⟨gb472, 3, none⟩ = some (.int .i64 t471) := hS_
     refine norm_ (a' := ?_) ?_ ?_
     rotate_left
     ·simp only [putAll, sP]
      rfl
     refine one_ (i := 5) (N := some 14) q25_0 rfl rfl (one_of HT_.out (by kernel_rfl)) (by decide) (fun K hK => ?_)
     refine box_step ?hg (N := 14) ?hd (cs := #[.int .i64 0, .int .i64 0, .int .i64 0]) (t := 24) ?hr ?_; (case hd => rfl); (case hg => rfl); (case hr => first | (go_simp; done) | (go_simp; rfl))
     intro gb487 hg w31 hbox hb
     replace HO475 := Aside0.mk (Kd.R_below (by (with_reducible repeat (first | apply Kd.R_alloc | apply Kd.R_drewN | apply Kd.R_drew)); exact HO475.out) hb)
     replace HO481 := Aside0.mk (Kd.R_below (by (with_reducible repeat (first | apply Kd.R_alloc | apply Kd.R_drewN | apply Kd.R_drew)); exact HO481.out) hb)
     have BK487 := Aside0.mk hbox
     have GW487 := Aside0.mk ((by rw [hg]; exact (below_size (by repeat (first | (with_reducible first | exact HB.out | apply bL | apply bM | apply bR | refine bS ?_ GE472.out | refine bS ?_ GE488.out) | exact HB.out))) : w.heap.size ≤ gb487))
     have GE487 := Aside0.mk ((by rw [hg]; exact (below_size (by repeat (first | (with_reducible first | exact HB.out | apply bL | apply bM | apply bR | refine bS ?_ GE472.out | refine bS ?_ GE488.out) | exact HB.out))) : w.heap.size ≤ gb487))
     replace HB := Aside0.mk (below_step (by repeat (first | (with_reducible first | exact HB.out | apply bL | apply bM | apply bR | refine bS ?_ GE472.out | refine bS ?_ GE488.out) | exact HB.out)) hb)
     have NB472_487 := gN BK472 hg
     replace BK472 := bK BK472 hb
     have NB487_472 := Aside0.mk NB472_487.out.symm
     have NB488_487 := gN BK488 hg
     replace BK488 := bK BK488 hb
     have NB487_488 := Aside0.mk NB488_487.out.symm
     clear hb hbox hg
     refine hK.out _ _ ⟨bC BK472 0 rfl, bC BK472 1 rfl, bC BK472 2 rfl, bC BK472 3 rfl⟩ (fun hHeld => ?_)
     clear hK K
     refine norm_ (a' := ?_) ?_ ?_
     rotate_left
     ·show Act.put _ (some 14) _ = _
      simp only [sP]
      rfl
     exact norm_ (by first | (simp only [putAll, sP]; done) | (simp only [putAll, sP]; rfl)) (hJ1_4_5_6 (gb487, gb488) _ ⟨hHeld, (by (with_reducible repeat (first | apply Kd.R_alloc | apply Kd.R_drewN | apply Kd.R_drew)); exact HO475.out), (by (with_reducible repeat (first | apply Kd.R_alloc | apply Kd.R_drewN | apply Kd.R_drew)); exact HO481.out), (uK BK472), (uK BK487), (uK BK488), GW487.out, GE487.out, NB472_487.out, NB487_472.out, NB488_487.out, NB487_488.out, GW488.out, GE488.out, NB472_488.out, NB488_472.out, (by repeat (first | (with_reducible first | exact HB.out | apply bL | apply bM | apply bR | refine bS ?_ GE472.out | refine bS ?_ GE488.out | refine bS ?_ GE487.out) | exact HB.out))⟩)
   ·skip
    rintro gb487 w30 ⟨hS_, h0_, h1_, h2_, h3_, h4_, h5_, h6_, h7_, h8_⟩
    have n0_ : Aside0 (Kd.R k53 53 w30 w.heap.size (fun k_ => some k_ ≠ (v480 : Value).ownBlock) (.slice Ao24 t473.length co24) t473) := ⟨h0_⟩
    have n1_ : Aside0 (Kd.R k53 53 w30 w.heap.size (fun k_ => some k_ ≠ (.slice Ao24 t473.length co24 : Value).ownBlock) v480 t479) := ⟨h1_⟩
    have n2_ : Aside0 (w30.heap[gb472]? = some (.cells #[.string t468, .int .i64 t469, .int .i64 t470, .int .i64 t471] 32 (0, 0))) := ⟨h2_⟩
    have n3_ : Aside0 (w30.heap[gb487]? = some (.cells #[.int .i64 0, .int .i64 0, .int .i64 0] 24 (0, 0))) := ⟨h3_⟩
    have n4_ : Aside0 (w.heap.size ≤ gb487) := ⟨h4_⟩
    have n5_ : Aside0 (w.heap.size ≤ gb487) := ⟨h5_⟩
    have n6_ : Aside0 (gb472 ≠ gb487) := ⟨h6_⟩
    have n7_ : Aside0 (gb487 ≠ gb472) := ⟨h7_⟩
    have n8_ : Aside0 (Below w.heap.size w w30) := ⟨h8_⟩
    clear HO475
    clear HO481
    clear BK472
    clear HB
    clear h0_ h1_ h2_ h3_ h4_ h5_ h6_ h7_ h8_
    have HO475 := n0_
    have HO481 := n1_
    have BK472 := n2_
    have BK487 := n3_
    have GW487 := n4_
    have GE487 := n5_
    have NB472_487 := n6_
    have NB487_472 := n7_
    have HB := n8_
    clear n0_ n1_ n2_ n3_ n4_ n5_ n6_ n7_ n8_
    have hHeld : w30.cell? ⟨gb472, 0, none⟩ = some (.string t468) ∧ w30.cell? ⟨gb472, 1, none⟩ = some (.int .i64 t469) ∧ w30.cell? ⟨gb472, 2, none⟩ = some (.int .i64 t470) ∧ w30.cell? ⟨gb472, 3, none⟩ = some (.int .i64 t471) := hS_
    refine norm_ (a' := ?_) ?_ ?_
    rotate_left
    ·simp only [putAll, sP]
     rfl
    refine one_ (i := 6) (N := some 15) q25_0 rfl rfl (one_of HT_.out (by kernel_rfl)) (by decide) (fun K hK => ?_)
    refine box_step ?hg (N := 15) ?hd (cs := #[.int .i64 0, .int .i64 0]) (t := 26) ?hr ?_; (case hd => rfl); (case hg => rfl); (case hr => first | (go_simp; done) | (go_simp; rfl))
    intro gb488 hg w31 hbox hb
    replace HO475 := Aside0.mk (Kd.R_below (by (with_reducible repeat (first | apply Kd.R_alloc | apply Kd.R_drewN | apply Kd.R_drew)); exact HO475.out) hb)
    replace HO481 := Aside0.mk (Kd.R_below (by (with_reducible repeat (first | apply Kd.R_alloc | apply Kd.R_drewN | apply Kd.R_drew)); exact HO481.out) hb)
    have BK488 := Aside0.mk hbox
    have GW488 := Aside0.mk ((by rw [hg]; exact (below_size (by repeat (first | (with_reducible first | exact HB.out | apply bL | apply bM | apply bR | refine bS ?_ GE472.out | refine bS ?_ GE487.out) | exact HB.out))) : w.heap.size ≤ gb488))
    have GE488 := Aside0.mk ((by rw [hg]; exact (below_size (by repeat (first | (with_reducible first | exact HB.out | apply bL | apply bM | apply bR | refine bS ?_ GE472.out | refine bS ?_ GE487.out) | exact HB.out))) : w.heap.size ≤ gb488))
    replace HB := Aside0.mk (below_step (by repeat (first | (with_reducible first | exact HB.out | apply bL | apply bM | apply bR | refine bS ?_ GE472.out | refine bS ?_ GE487.out) | exact HB.out)) hb)
    have NB472_488 := gN BK472 hg
    replace BK472 := bK BK472 hb
    have NB488_472 := Aside0.mk NB472_488.out.symm
    have NB487_488 := gN BK487 hg
    replace BK487 := bK BK487 hb
    have NB488_487 := Aside0.mk NB487_488.out.symm
    clear hb hbox hg
    refine hK.out _ _ ⟨bC BK472 0 rfl, bC BK472 1 rfl, bC BK472 2 rfl, bC BK472 3 rfl⟩ (fun hHeld => ?_)
    clear hK K
    refine norm_ (a' := ?_) ?_ ?_
    rotate_left
    ·show Act.put _ (some 15) _ = _
     simp only [sP]
     rfl
    exact norm_ (by first | (simp only [putAll, sP]; done) | (simp only [putAll, sP]; rfl)) (hJ1_4_5_6 (gb487, gb488) _ ⟨hHeld, (by (with_reducible repeat (first | apply Kd.R_alloc | apply Kd.R_drewN | apply Kd.R_drew)); exact HO475.out), (by (with_reducible repeat (first | apply Kd.R_alloc | apply Kd.R_drewN | apply Kd.R_drew)); exact HO481.out), (uK BK472), (uK BK487), (uK BK488), GW487.out, GE487.out, NB472_487.out, NB487_472.out, NB488_487.out, NB487_488.out, GW488.out, GE488.out, NB472_488.out, NB488_472.out, (by repeat (first | (with_reducible first | exact HB.out | apply bL | apply bM | apply bR | refine bS ?_ GE472.out | refine bS ?_ GE487.out | refine bS ?_ GE488.out) | exact HB.out))⟩)
  rintro ⟨gb487, gb488⟩ w31 ⟨hS_, h0_, h1_, h2_, h3_, h4_, h5_, h6_, h7_, h8_, h9_, h10_, h11_, h12_, h13_, h14_, h15_⟩
  have n0_ : Aside0 (Kd.R k53 53 w31 w.heap.size (fun k_ => some k_ ≠ (v480 : Value).ownBlock) (.slice Ao24 t473.length co24) t473) := ⟨h0_⟩
  have n1_ : Aside0 (Kd.R k53 53 w31 w.heap.size (fun k_ => some k_ ≠ (.slice Ao24 t473.length co24 : Value).ownBlock) v480 t479) := ⟨h1_⟩
  have n2_ : Aside0 (w31.heap[gb472]? = some (.cells #[.string t468, .int .i64 t469, .int .i64 t470, .int .i64 t471] 32 (0, 0))) := ⟨h2_⟩
  have n3_ : Aside0 (w31.heap[gb487]? = some (.cells #[.int .i64 0, .int .i64 0, .int .i64 0] 24 (0, 0))) := ⟨h3_⟩
  have n4_ : Aside0 (w31.heap[gb488]? = some (.cells #[.int .i64 0, .int .i64 0] 26 (0, 0))) := ⟨h4_⟩
  have n5_ : Aside0 (w.heap.size ≤ gb487) := ⟨h5_⟩
  have n6_ : Aside0 (w.heap.size ≤ gb487) := ⟨h6_⟩
  have n7_ : Aside0 (gb472 ≠ gb487) := ⟨h7_⟩
  have n8_ : Aside0 (gb487 ≠ gb472) := ⟨h8_⟩
  have n9_ : Aside0 (gb488 ≠ gb487) := ⟨h9_⟩
  have n10_ : Aside0 (gb487 ≠ gb488) := ⟨h10_⟩
  have n11_ : Aside0 (w.heap.size ≤ gb488) := ⟨h11_⟩
  have n12_ : Aside0 (w.heap.size ≤ gb488) := ⟨h12_⟩
  have n13_ : Aside0 (gb472 ≠ gb488) := ⟨h13_⟩
  have n14_ : Aside0 (gb488 ≠ gb472) := ⟨h14_⟩
  have n15_ : Aside0 (Below w.heap.size w w31) := ⟨h15_⟩
  clear HO475
  clear HO481
  clear BK472
  clear HB
  clear h0_ h1_ h2_ h3_ h4_ h5_ h6_ h7_ h8_ h9_ h10_ h11_ h12_ h13_ h14_ h15_
  have HO475 := n0_
  have HO481 := n1_
  have BK472 := n2_
  have BK487 := n3_
  have BK488 := n4_
  have GW487 := n5_
  have GE487 := n6_
  have NB472_487 := n7_
  have NB487_472 := n8_
  have NB488_487 := n9_
  have NB487_488 := n10_
  have GW488 := n11_
  have GE488 := n12_
  have NB472_488 := n13_
  have NB488_472 := n14_
  have HB := n15_
  clear n0_ n1_ n2_ n3_ n4_ n5_ n6_ n7_ n8_ n9_ n10_ n11_ n12_ n13_ n14_ n15_
  have hHeld : w31.cell? ⟨gb472, 0, none⟩ = some (.string t468) ∧ w31.cell? ⟨gb472, 1, none⟩ = some (.int .i64 t469) ∧ w31.cell? ⟨gb472, 2, none⟩ = some (.int .i64 t470) ∧ w31.cell? ⟨gb472, 3, none⟩ = some (.int .i64 t471) := hS_
  refine norm_ (a' := ?_) ?_ ?_
  rotate_left
  ·simp only [putAll, sP]
   rfl
  refine one_ (i := 7) (N := none) #[T,T,T,T,T,T,T,T,F] rfl rfl (one_of HT_.out (by kernel_rfl)) (by decide) (fun K hK => ?_)
  have hs32 : w31.cell? ⟨gb487, 0, none⟩ = some (.int .i64 0) := bC BK487 0 rfl
  have hfs32 := bF BK487 0
  have hns32_0 := NB472_487.out
  have hns32_2 := NB488_487.out
  have hms32_0 := NB487_472.out
  have hms32_2 := NB487_488.out
  have hs33 : w31.cell? ⟨gb487, 1, none⟩ = some (.int .i64 0) := bC BK487 1 rfl
  have hfs33 := bF BK487 1
  have hns33_0 := NB472_487.out
  have hns33_2 := NB488_487.out
  have hms33_0 := NB487_472.out
  have hms33_2 := NB487_488.out
  have hs34 : w31.cell? ⟨gb487, 2, none⟩ = some (.int .i64 0) := bC BK487 2 rfl
  have hfs34 := bF BK487 2
  have hns34_0 := NB472_487.out
  have hns34_2 := NB488_487.out
  have hms34_0 := NB487_472.out
  have hms34_2 := NB487_488.out
  refine skip_ (w1 := ?_) (by rfl) rfl ?_ ?_
  rotate_left
  ·go_simp
   rfl
  refine hK.out _ _ ⟨((cell_far (p := ⟨gb487, _, none⟩) NB472_487.out _).trans (((cell_far (p := ⟨gb487, _, none⟩) NB472_487.out _).trans (((cell_far (p := ⟨gb487, _, none⟩) NB472_487.out _).trans (hHeld.1)))))), ((cell_far (p := ⟨gb487, _, none⟩) NB472_487.out _).trans (((cell_far (p := ⟨gb487, _, none⟩) NB472_487.out _).trans (((cell_far (p := ⟨gb487, _, none⟩) NB472_487.out _).trans (hHeld.2.1)))))), ((cell_far (p := ⟨gb487, _, none⟩) NB472_487.out _).trans (((cell_far (p := ⟨gb487, _, none⟩) NB472_487.out _).trans (((cell_far (p := ⟨gb487, _, none⟩) NB472_487.out _).trans (hHeld.2.2.1)))))), ((cell_far (p := ⟨gb487, _, none⟩) NB472_487.out _).trans (((cell_far (p := ⟨gb487, _, none⟩) NB472_487.out _).trans (((cell_far (p := ⟨gb487, _, none⟩) NB472_487.out _).trans (hHeld.2.2.2))))))⟩ (fun hHeld => ?_)
  clear hK K
  refine one_ (i := 8) (N := none) #[T,T,T,T,T,T,T,T,T] rfl rfl (one_of HT_.out (by kernel_rfl)) (by decide) (fun K hK => ?_)
  have hs35 : w31.cell? ⟨gb488, 0, none⟩ = some (.int .i64 0) := bC BK488 0 rfl
  have hfs35 := bF BK488 0
  have hns35_0 := NB472_488.out
  have hns35_1 := NB487_488.out
  have hms35_0 := NB488_472.out
  have hms35_1 := NB488_487.out
  have hs36 : w31.cell? ⟨gb488, 1, none⟩ = some (.int .i64 0) := bC BK488 1 rfl
  have hfs36 := bF BK488 1
  have hns36_0 := NB472_488.out
  have hns36_1 := NB487_488.out
  have hms36_0 := NB488_472.out
  have hms36_1 := NB488_487.out
  refine skip_ (w1 := ?_) (by rfl) rfl ?_ ?_
  rotate_left
  ·go_simp
   rfl
  refine hK.out _ _ ⟨((cell_far (p := ⟨gb488, _, none⟩) NB472_488.out _).trans (((cell_far (p := ⟨gb488, _, none⟩) NB472_488.out _).trans (hHeld.1)))), ((cell_far (p := ⟨gb488, _, none⟩) NB472_488.out _).trans (((cell_far (p := ⟨gb488, _, none⟩) NB472_488.out _).trans (hHeld.2.1)))), ((cell_far (p := ⟨gb488, _, none⟩) NB472_488.out _).trans (((cell_far (p := ⟨gb488, _, none⟩) NB472_488.out _).trans (hHeld.2.2.1)))), ((cell_far (p := ⟨gb488, _, none⟩) NB472_488.out _).trans (((cell_far (p := ⟨gb488, _, none⟩) NB472_488.out _).trans (hHeld.2.2.2))))⟩ (fun hHeld => ?_)
  clear hK K
  refine done_ (done_of HT_.out (by kernel_rfl)) ?_
  try go_wp2
  have n0_ : Aside0 (Kd.R k53 53 (((((w31.setCell ⟨gb487, 0, none⟩ (.int .i64 t482)).setCell ⟨gb487, 1, none⟩ (.int .i64 t483)).setCell ⟨gb487, 2, none⟩ (.int .i64 t484)).setCell ⟨gb488, 0, none⟩ (.int .i64 t485)).setCell ⟨gb488, 1, none⟩ (.int .i64 t486)) w.heap.size (fun k_ => some k_ ≠ (v480 : Value).ownBlock) (.slice Ao24 t473.length co24) t473) := ⟨by (with_reducible repeat (first | apply Kd.R_alloc | apply Kd.R_drewN | apply Kd.R_drew)); exact Kd.R_mono (Kd.R_far (p := ⟨gb488, 1, none⟩) (Kd.R_far (p := ⟨gb488, 0, none⟩) (Kd.R_far (p := ⟨gb487, 2, none⟩) (Kd.R_far (p := ⟨gb487, 1, none⟩) (Kd.R_far (p := ⟨gb487, 0, none⟩) (Kd.R_types (Kd.R_types HO475.out BK487.out (by decide)) BK488.out (by decide)) (fun _ hk => hk.1.2) (.int .i64 t482)) (fun _ hk => hk.1.2) (.int .i64 t483)) (fun _ hk => hk.1.2) (.int .i64 t484)) (fun _ hk => hk.2) (.int .i64 t485)) (fun _ hk => hk.2) (.int .i64 t486)) (fun _ hk => hk.1.1)⟩
  have n1_ : Aside0 (Kd.R k53 53 (((((w31.setCell ⟨gb487, 0, none⟩ (.int .i64 t482)).setCell ⟨gb487, 1, none⟩ (.int .i64 t483)).setCell ⟨gb487, 2, none⟩ (.int .i64 t484)).setCell ⟨gb488, 0, none⟩ (.int .i64 t485)).setCell ⟨gb488, 1, none⟩ (.int .i64 t486)) w.heap.size (fun k_ => some k_ ≠ (.slice Ao24 t473.length co24 : Value).ownBlock) v480 t479) := ⟨by (with_reducible repeat (first | apply Kd.R_alloc | apply Kd.R_drewN | apply Kd.R_drew)); exact Kd.R_mono (Kd.R_far (p := ⟨gb488, 1, none⟩) (Kd.R_far (p := ⟨gb488, 0, none⟩) (Kd.R_far (p := ⟨gb487, 2, none⟩) (Kd.R_far (p := ⟨gb487, 1, none⟩) (Kd.R_far (p := ⟨gb487, 0, none⟩) (Kd.R_types (Kd.R_types HO481.out BK487.out (by decide)) BK488.out (by decide)) (fun _ hk => hk.1.2) (.int .i64 t482)) (fun _ hk => hk.1.2) (.int .i64 t483)) (fun _ hk => hk.1.2) (.int .i64 t484)) (fun _ hk => hk.2) (.int .i64 t485)) (fun _ hk => hk.2) (.int .i64 t486)) (fun _ hk => hk.1.1)⟩
  have n2_ : Aside0 ((((((w31.setCell ⟨gb487, 0, none⟩ (.int .i64 t482)).setCell ⟨gb487, 1, none⟩ (.int .i64 t483)).setCell ⟨gb487, 2, none⟩ (.int .i64 t484)).setCell ⟨gb488, 0, none⟩ (.int .i64 t485)).setCell ⟨gb488, 1, none⟩ (.int .i64 t486)).heap[gb472]? = some (.cells #[.string t468, .int .i64 t469, .int .i64 t470, .int .i64 t471] 32 (0, 0))) := ⟨by (with_reducible repeat first | refine bN ?_ _ | refine bD ?_ | refine bA ?_ _); refine blk_far ?_ NB472_488.out _; (with_reducible repeat first | refine bN ?_ _ | refine bD ?_ | refine bA ?_ _); refine blk_far ?_ NB472_488.out _; (with_reducible repeat first | refine bN ?_ _ | refine bD ?_ | refine bA ?_ _); refine blk_far ?_ NB472_487.out _; (with_reducible repeat first | refine bN ?_ _ | refine bD ?_ | refine bA ?_ _); refine blk_far ?_ NB472_487.out _; (with_reducible repeat first | refine bN ?_ _ | refine bD ?_ | refine bA ?_ _); refine blk_far ?_ NB472_487.out _; (with_reducible repeat first | refine bN ?_ _ | refine bD ?_ | refine bA ?_ _); exact BK472.out⟩
  have n3_ : Aside0 ((((((w31.setCell ⟨gb487, 0, none⟩ (.int .i64 t482)).setCell ⟨gb487, 1, none⟩ (.int .i64 t483)).setCell ⟨gb487, 2, none⟩ (.int .i64 t484)).setCell ⟨gb488, 0, none⟩ (.int .i64 t485)).setCell ⟨gb488, 1, none⟩ (.int .i64 t486)).heap[gb487]? = some (.cells #[.int .i64 t482, .int .i64 t483, .int .i64 t484] 24 (0, 0))) := ⟨by (with_reducible repeat first | refine bN ?_ _ | refine bD ?_ | refine bA ?_ _); refine blk_far ?_ NB487_488.out _; (with_reducible repeat first | refine bN ?_ _ | refine bD ?_ | refine bA ?_ _); refine blk_far ?_ NB487_488.out _; (with_reducible repeat first | refine bN ?_ _ | refine bD ?_ | refine bA ?_ _); refine blk_put (cs := #[.int .i64 t482, .int .i64 t483, .int .i64 0]) ?_ 2 _ rfl; (with_reducible repeat first | refine bN ?_ _ | refine bD ?_ | refine bA ?_ _); refine blk_put (cs := #[.int .i64 t482, .int .i64 0, .int .i64 0]) ?_ 1 _ rfl; (with_reducible repeat first | refine bN ?_ _ | refine bD ?_ | refine bA ?_ _); refine blk_put (cs := #[.int .i64 0, .int .i64 0, .int .i64 0]) ?_ 0 _ rfl; (with_reducible repeat first | refine bN ?_ _ | refine bD ?_ | refine bA ?_ _); exact BK487.out⟩
  have n4_ : Aside0 ((((((w31.setCell ⟨gb487, 0, none⟩ (.int .i64 t482)).setCell ⟨gb487, 1, none⟩ (.int .i64 t483)).setCell ⟨gb487, 2, none⟩ (.int .i64 t484)).setCell ⟨gb488, 0, none⟩ (.int .i64 t485)).setCell ⟨gb488, 1, none⟩ (.int .i64 t486)).heap[gb488]? = some (.cells #[.int .i64 t485, .int .i64 t486] 26 (0, 0))) := ⟨by (with_reducible repeat first | refine bN ?_ _ | refine bD ?_ | refine bA ?_ _); refine blk_put (cs := #[.int .i64 t485, .int .i64 0]) ?_ 1 _ rfl; (with_reducible repeat first | refine bN ?_ _ | refine bD ?_ | refine bA ?_ _); refine blk_put (cs := #[.int .i64 0, .int .i64 0]) ?_ 0 _ rfl; (with_reducible repeat first | refine bN ?_ _ | refine bD ?_ | refine bA ?_ _); refine blk_far ?_ NB488_487.out _; (with_reducible repeat first | refine bN ?_ _ | refine bD ?_ | refine bA ?_ _); refine blk_far ?_ NB488_487.out _; (with_reducible repeat first | refine bN ?_ _ | refine bD ?_ | refine bA ?_ _); refine blk_far ?_ NB488_487.out _; (with_reducible repeat first | refine bN ?_ _ | refine bD ?_ | refine bA ?_ _); exact BK488.out⟩
  have n5_ : Aside0 (Below w.heap.size w (((((w31.setCell ⟨gb487, 0, none⟩ (.int .i64 t482)).setCell ⟨gb487, 1, none⟩ (.int .i64 t483)).setCell ⟨gb487, 2, none⟩ (.int .i64 t484)).setCell ⟨gb488, 0, none⟩ (.int .i64 t485)).setCell ⟨gb488, 1, none⟩ (.int .i64 t486))) := ⟨by repeat (first | (with_reducible first | exact HB.out | apply bL | apply bM | apply bR | refine bS ?_ GE472.out | refine bS ?_ GE487.out | refine bS ?_ GE488.out) | exact HB.out)⟩
  (try clear HO475)
  (try clear HO481)
  (try clear BK472)
  (try clear BK487)
  (try clear BK488)
  (try clear HB)
  generalize (((((w31.setCell ⟨gb487, 0, none⟩ (.int .i64 t482)).setCell ⟨gb487, 1, none⟩ (.int .i64 t483)).setCell ⟨gb487, 2, none⟩ (.int .i64 t484)).setCell ⟨gb488, 0, none⟩ (.int .i64 t485)).setCell ⟨gb488, 1, none⟩ (.int .i64 t486)) = w37 at n0_ n1_ n2_ n3_ n4_ n5_ ⊢
  have HO475 := n0_
  have HO481 := n1_
  have BK472 := n2_
  have BK487 := n3_
  have BK488 := n4_
  have HB := n5_
  clear n0_ n1_ n2_ n3_ n4_ n5_
  replace HO475 := Aside0.mk (Kd.R_drew HO475.out)
  replace HO481 := Aside0.mk (Kd.R_drew HO481.out)
  replace BK472 := Aside0.mk (blk_drew BK472.out)
  replace BK487 := Aside0.mk (blk_drew BK487.out)
  replace BK488 := Aside0.mk (blk_drew BK488.out)
  replace HB := Aside0.mk (below_drew1 HB.out)
  refine start_ (n := 4) (S := fun w' => w'.cell? ⟨gb487, 0, none⟩ = some (.int .i64 t482) ∧ w'.cell? ⟨gb487, 1, none⟩ = some (.int .i64 t483) ∧ w'.cell? ⟨gb487, 2, none⟩ = some (.int .i64 t484)) (ds := []) #[F,F,F,F] (by kernel_rfl) rfl rfl ⟨bC BK487 0 rfl, bC BK487 1 rfl, bC BK487 2 rfl⟩ (fun hHeld => ?_)
  generalize w37.drew = w38 at HO475 HO481 BK472 BK487 BK488 HB hHeld ⊢
  refine pure_ (i := 0) (N := some 35) (v := ?_) (a' := ?_) #[T,F,F,F] rfl rfl (by kernel_rfl) (fun _ _ _ h => h) (Or.inl ⟨by rfl, ?_⟩) ?_ ?_
  rotate_left
  ·intro w'; go_simp; with_reducible rfl
  rotate_left
  ·simp only [sP]; rfl
  refine take_ (i := 2) (N := some 37) (v := ?_) (a' := ?_) #[T,F,T,F] rfl rfl (by kernel_rfl) (fun _ _ _ h => h) (Or.inl ⟨by rfl, ?_⟩) hHeld ?_ ?_
  rotate_left
  ·rintro w' ⟨s0, s1, s2⟩; go_simp; with_reducible rfl
  rotate_left
  ·simp only [sP]; rfl
  refine one_ (i := 1) (N := some 36) #[T,T,T,F] rfl rfl (by kernel_rfl) (by decide) (fun K hK => ?_)
  refine goes_ Tryd.func23 (by kernel_rfl) rfl #[.int .i64 a2] (by rfl) rfl rfl (by (try simp only [mA]); first | done | rfl) ?_
  with_reducible refine (clusterlocksmill_Proc.calls a2 t489 t490 t491 _ A14.out).mono ?_
  rintro e w39 ⟨rfl, hb⟩
  refine ⟨_, rfl, ?_⟩
  replace HO475 := Aside0.mk (Kd.R_below (by (with_reducible repeat (first | apply Kd.R_alloc | apply Kd.R_drewN | apply Kd.R_drew)); exact HO475.out) hb)
  replace HO481 := Aside0.mk (Kd.R_below (by (with_reducible repeat (first | apply Kd.R_alloc | apply Kd.R_drewN | apply Kd.R_drew)); exact HO481.out) hb)
  replace BK472 := bK BK472 hb
  replace BK487 := bK BK487 hb
  replace BK488 := bK BK488 hb
  replace HB := Aside0.mk (below_step (by repeat (first | (with_reducible first | exact HB.out | apply bL | apply bM | apply bR | refine bS ?_ GE472.out | refine bS ?_ GE487.out | refine bS ?_ GE488.out) | exact HB.out)) hb)
  (try clear hb)
  (try clear hk)
  refine hK.out _ _ ⟨bC BK487 0 rfl, bC BK487 1 rfl, bC BK487 2 rfl⟩ (fun hHeld => ?_)
  clear hK K
  refine norm_ (a' := ?_) ?_ ?_
  rotate_left
  ·show Act.put _ (some 36) _ = _
   simp only [sP]
   rfl
  refine pure_ (i := 3) (N := some 38) (v := ?_) (a' := ?_) #[T,T,T,T] rfl rfl (by kernel_rfl) (fun _ _ _ h => h) (Or.inl ⟨by rfl, ?_⟩) ?_ ?_
  rotate_left
  ·intro w'; go_simp; with_reducible rfl
  rotate_left
  ·simp only [sP]; rfl
  refine done_ (by kernel_rfl) ?_
  have H := HH_.out
  clear HH_
  by_cases c15 : (t489 == t482 && (t490 == t483 && (t491 == t484))) = true
  ·rw [if_pos c15] at H
   have c15b0 : (t489 == t482 && (t490 == t483 && (t491 == t484))) = true := c15
   (try (have c15b1 : decide (t489 = t482 && (t490 == t483 && (t491 == t484))) = true := by simpa using c15))
   (try (have c15b2 : (t489 == t482 && (t490 == t483 && (t491 == t484))) = true := by simpa using c15))
   clear c15
   obtain ⟨t492, A160, H⟩ := Option.bind_eq_some_iff.mp H
   have A16 := Aside0.mk A160; clear A160
   (try simp only [c15b0, c15b1, c15b2])
   by_cases c17 : t492 = true
   ·subst c17
    rw [if_pos rfl] at H
    obtain ⟨t493, A180, H⟩ := Option.bind_eq_some_iff.mp H
    have A18 := Aside0.mk A180; clear A180
    obtain rfl := Option.some.inj H
    try go_wp2_with (first | ((with_reducible refine gate_callee (f := 11) rfl ?_); refine goesL_ (some 39) rfl rfl Tryd.func11 (by kernel_rfl) rfl #[] rfl (by (try simp only [mA]); first | done | rfl) ?_; (with_reducible refine (clusterlockslaw10_awake.calls k  true _ ?side1 A16.out).mono ?_); (case side1 => exact GL.below HG.out (by repeat (first | (with_reducible first | exact HB.out | apply bL | apply bM | apply bR | refine bS ?_ GE472.out | refine bS ?_ GE487.out | refine bS ?_ GE488.out) | exact HB.out))); rintro e w40 ⟨rfl, hb⟩; refine ⟨_, rfl, ?_⟩; replace HO475 := Aside0.mk (Kd.R_below (by (with_reducible repeat (first | apply Kd.R_alloc | apply Kd.R_drewN | apply Kd.R_drew)); exact HO475.out) hb); replace HO481 := Aside0.mk (Kd.R_below (by (with_reducible repeat (first | apply Kd.R_alloc | apply Kd.R_drewN | apply Kd.R_drew)); exact HO481.out) hb); replace BK472 := bK BK472 hb; replace BK487 := bK BK487 hb; replace BK488 := bK BK488 hb; replace HB := Aside0.mk (below_step (by repeat (first | (with_reducible first | exact HB.out | apply bL | apply bM | apply bR | refine bS ?_ GE472.out | refine bS ?_ GE487.out | refine bS ?_ GE488.out) | exact HB.out)) hb); (try clear hb); (try clear hk); have hnb41 := NB472_487.out; have hnc41 := NB487_472.out; have hnb42 := NB472_488.out; have hnc42 := NB488_472.out; obtain ⟨hcz43_0, hcz43_1, hcz43_2, hcz43_3, hfz43_0, hfz43_1, hfz43_2, hfz43_3⟩ := d4 BK472; obtain ⟨Ao44, co44, eo44⟩ := Kd.R_slice HO481.out; subst eo44) | (go_at_call 25; (with_reducible refine (holders_Valid.calls k t468 t469 t470 t471 _ _ t479 t493 _ ?side1 ?side2 ?side3 A18.out).mono ?_); (case side1 => repeat (first | exact (Kd.R_reads' HO481.out).2.2 | (with_reducible refine Kd.C_alloc ?_ _) | (with_reducible refine Kd.C_drewN ?_ _) | (with_reducible refine Kd.C_drew ?_))); (case side2 => exact (Kd.R_reads' HO481.out).2.1); (case side3 => exact GL.below HG.out (by repeat (first | (with_reducible first | exact HB.out | apply bL | apply bM | apply bR | refine bS ?_ GE472.out | refine bS ?_ GE487.out | refine bS ?_ GE488.out) | exact HB.out))); rintro e w45 ⟨rfl, hb⟩; replace HO475 := Aside0.mk (Kd.R_below (by (with_reducible repeat (first | apply Kd.R_alloc | apply Kd.R_drewN | apply Kd.R_drew)); exact HO475.out) hb); replace HO481 := Aside0.mk (Kd.R_below (by (with_reducible repeat (first | apply Kd.R_alloc | apply Kd.R_drewN | apply Kd.R_drew)); exact HO481.out) hb); replace BK472 := bK BK472 hb; replace BK487 := bK BK487 hb; replace BK488 := bK BK488 hb; replace HB := Aside0.mk (below_step (by repeat (first | (with_reducible first | exact HB.out | apply bL | apply bM | apply bR | refine bS ?_ GE472.out | refine bS ?_ GE487.out | refine bS ?_ GE488.out) | exact HB.out)) hb); (try clear hb); (try clear hk)))
    go_ret
    exact ⟨by first | rfl | (simp [errW_none, errW_some] <;> rfl) | (simp [*, errW_none, errW_some] <;> rfl), by repeat (first | (with_reducible first | exact HB.out | apply bL | apply bM | apply bR | refine bS ?_ GE472.out | refine bS ?_ GE487.out | refine bS ?_ GE488.out) | exact HB.out)⟩
   ·replace c17 := Bool.eq_false_iff.mpr c17
    subst c17
    rw [if_neg (show ¬ (false = true) by decide)] at H
    exact absurd (Option.some.inj H) (by rw [HRT.out]; decide)
  ·rw [if_neg c15] at H
   have c15b0 : (t489 == t482 && (t490 == t483 && (t491 == t484))) = false := by simpa using c15
   (try (have c15b1 : decide (t489 = t482 && (t490 == t483 && (t491 == t484))) = false := by simpa using c15))
   (try (have c15b2 : (t489 == t482 && (t490 == t483 && (t491 == t484))) = false := by simpa using c15))
   (try (have c15b3 : ¬ (t489 = t482 && (t490 == t483 && (t491 == t484))) := by simpa using c15))
   clear c15
   obtain ⟨t494, A680, H⟩ := Option.bind_eq_some_iff.mp H
   have A68 := Aside0.mk A680; clear A680
   (try simp only [c15b0, c15b1, c15b2, c15b3])
   by_cases c69 : t494 = true
   ·subst c69
    rw [if_pos rfl] at H
    obtain ⟨t495, A700, H⟩ := Option.bind_eq_some_iff.mp H
    have A70 := Aside0.mk A700; clear A700
    by_cases c71 : t495 = true
    ·subst c71
     rw [if_pos rfl] at H
     obtain ⟨t496, A720, H⟩ := Option.bind_eq_some_iff.mp H
     have A72 := Aside0.mk A720; clear A720
     by_cases c73 : t496 = true
     ·subst c73
      rw [if_pos rfl] at H
      obtain ⟨t497, A740, H⟩ := Option.bind_eq_some_iff.mp H
      have A74 := Aside0.mk A740; clear A740
      by_cases c75 : t497 = true
      ·subst c75
       rw [if_pos rfl] at H
       obtain ⟨t498, A760, H⟩ := Option.bind_eq_some_iff.mp H
       have A76 := Aside0.mk A760; clear A760
       obtain rfl := Option.some.inj H
       try go_wp2_with (first | ((with_reducible refine gate_callee (f := 11) rfl ?_); refine goesL_ (some 45) rfl rfl Tryd.func11 (by kernel_rfl) rfl #[] rfl (by (try simp only [mA]); first | done | rfl) ?_; (with_reducible refine (clusterlockslaw10_awake.calls k  true _ ?side1 A68.out).mono ?_); (case side1 => exact GL.below HG.out (by repeat (first | (with_reducible first | exact HB.out | apply bL | apply bM | apply bR | refine bS ?_ GE472.out | refine bS ?_ GE487.out | refine bS ?_ GE488.out) | exact HB.out))); rintro e w98 ⟨rfl, hb⟩; refine ⟨_, rfl, ?_⟩; replace HO475 := Aside0.mk (Kd.R_below (by (with_reducible repeat (first | apply Kd.R_alloc | apply Kd.R_drewN | apply Kd.R_drew)); exact HO475.out) hb); replace HO481 := Aside0.mk (Kd.R_below (by (with_reducible repeat (first | apply Kd.R_alloc | apply Kd.R_drewN | apply Kd.R_drew)); exact HO481.out) hb); replace BK472 := bK BK472 hb; replace BK487 := bK BK487 hb; replace BK488 := bK BK488 hb; replace HB := Aside0.mk (below_step (by repeat (first | (with_reducible first | exact HB.out | apply bL | apply bM | apply bR | refine bS ?_ GE472.out | refine bS ?_ GE487.out | refine bS ?_ GE488.out) | exact HB.out)) hb); (try clear hb); (try clear hk); have hnb99 := NB472_487.out; have hnc99 := NB487_472.out; have hnb100 := NB472_488.out; have hnc100 := NB488_472.out; have hcz101_0 : w98.cell? ⟨gb472, 0, none⟩ = some (.string t468) := bC BK472 0 rfl; have hcz101_1 : w98.cell? ⟨gb472, 1, none⟩ = some (.int .i64 t469) := bC BK472 1 rfl; have hcz101_2 : w98.cell? ⟨gb472, 2, none⟩ = some (.int .i64 t470) := bC BK472 2 rfl; have hcz101_3 : w98.cell? ⟨gb472, 3, none⟩ = some (.int .i64 t471) := bC BK472 3 rfl; have hfz101_0 := bF BK472 0; have hfz101_1 := bF BK472 1; have hfz101_2 := bF BK472 2; have hfz101_3 := bF BK472 3) | (go_at_call 25; (with_reducible refine (holders_Valid.calls k t468 t469 t470 t471 _ _ t473 true _ ?side1 ?side2 ?side3 A70.out).mono ?_); (case side1 => repeat (first | exact (Kd.R_reads' HO475.out).2.2 | (with_reducible refine Kd.C_alloc ?_ _) | (with_reducible refine Kd.C_drewN ?_ _) | (with_reducible refine Kd.C_drew ?_))); (case side2 => exact (Kd.R_reads' HO475.out).2.1); (case side3 => exact GL.below HG.out (by repeat (first | (with_reducible first | exact HB.out | apply bL | apply bM | apply bR | refine bS ?_ GE472.out | refine bS ?_ GE487.out | refine bS ?_ GE488.out) | exact HB.out))); rintro e w102 ⟨rfl, hb⟩; replace HO475 := Aside0.mk (Kd.R_below (by (with_reducible repeat (first | apply Kd.R_alloc | apply Kd.R_drewN | apply Kd.R_drew)); exact HO475.out) hb); replace HO481 := Aside0.mk (Kd.R_below (by (with_reducible repeat (first | apply Kd.R_alloc | apply Kd.R_drewN | apply Kd.R_drew)); exact HO481.out) hb); replace BK472 := bK BK472 hb; replace BK487 := bK BK487 hb; replace BK488 := bK BK488 hb; replace HB := Aside0.mk (below_step (by repeat (first | (with_reducible first | exact HB.out | apply bL | apply bM | apply bR | refine bS ?_ GE472.out | refine bS ?_ GE487.out | refine bS ?_ GE488.out) | exact HB.out)) hb); (try clear hb); (try clear hk); obtain ⟨hcz103_0, hcz103_1, hcz103_2, hcz103_3, hfz103_0, hfz103_1, hfz103_2, hfz103_3⟩ := d4 BK472; obtain ⟨Ao104, co104, eo104⟩ := Kd.R_slice HO481.out; subst eo104) | (go_at_call 25; (with_reducible refine (holders_Valid.calls k t468 t469 t470 t471 _ _ t479 true _ ?side1 ?side2 ?side3 A72.out).mono ?_); (case side1 => repeat (first | exact (Kd.R_reads' HO481.out).2.2 | (with_reducible refine Kd.C_alloc ?_ _) | (with_reducible refine Kd.C_drewN ?_ _) | (with_reducible refine Kd.C_drew ?_))); (case side2 => exact (Kd.R_reads' HO481.out).2.1); (case side3 => exact GL.below HG.out (by repeat (first | (with_reducible first | exact HB.out | apply bL | apply bM | apply bR | refine bS ?_ GE472.out | refine bS ?_ GE487.out | refine bS ?_ GE488.out) | exact HB.out))); rintro e w105 ⟨rfl, hb⟩; replace HO475 := Aside0.mk (Kd.R_below (by (with_reducible repeat (first | apply Kd.R_alloc | apply Kd.R_drewN | apply Kd.R_drew)); exact HO475.out) hb); replace HO481 := Aside0.mk (Kd.R_below (by (with_reducible repeat (first | apply Kd.R_alloc | apply Kd.R_drewN | apply Kd.R_drew)); exact HO481.out) hb); replace BK472 := bK BK472 hb; replace BK487 := bK BK487 hb; replace BK488 := bK BK488 hb; replace HB := Aside0.mk (below_step (by repeat (first | (with_reducible first | exact HB.out | apply bL | apply bM | apply bR | refine bS ?_ GE472.out | refine bS ?_ GE487.out | refine bS ?_ GE488.out) | exact HB.out)) hb); (try clear hb); (try clear hk); obtain ⟨hcz106_0, hcz106_1, hcz106_2, hcz106_3, hfz106_0, hfz106_1, hfz106_2, hfz106_3⟩ := d4 BK472; have hnb107 := NB487_488.out; have hnc107 := NB488_487.out; obtain ⟨hcz108_0, hcz108_1, hcz108_2, hfz108_0, hfz108_1, hfz108_2⟩ := d3 BK487; have hcz109_0 : w105.cell? ⟨gb488, 0, none⟩ = some (.int .i64 t485) := bC BK488 0 rfl; have hcz109_1 : w105.cell? ⟨gb488, 1, none⟩ = some (.int .i64 t486) := bC BK488 1 rfl; have hfz109_0 := bF BK488 0; have hfz109_1 := bF BK488 1) | (go_at_call 15; (with_reducible refine (holders_Room.calls k t468 t469 t470 t471 _ _ t473 t482 t483 t484 t485 t486 true _ ?side1 ?side2 ?side3 A74.out).mono ?_); (case side1 => repeat (first | exact (Kd.R_reads' HO475.out).2.2 | (with_reducible refine Kd.C_alloc ?_ _) | (with_reducible refine Kd.C_drewN ?_ _) | (with_reducible refine Kd.C_drew ?_))); (case side2 => exact (Kd.R_reads' HO475.out).2.1); (case side3 => exact GL.below HG.out (by repeat (first | (with_reducible first | exact HB.out | apply bL | apply bM | apply bR | refine bS ?_ GE472.out | refine bS ?_ GE487.out | refine bS ?_ GE488.out) | exact HB.out))); rintro e w110 ⟨rfl, hb⟩; replace HO475 := Aside0.mk (Kd.R_below (by (with_reducible repeat (first | apply Kd.R_alloc | apply Kd.R_drewN | apply Kd.R_drew)); exact HO475.out) hb); replace HO481 := Aside0.mk (Kd.R_below (by (with_reducible repeat (first | apply Kd.R_alloc | apply Kd.R_drewN | apply Kd.R_drew)); exact HO481.out) hb); replace BK472 := bK BK472 hb; replace BK487 := bK BK487 hb; replace BK488 := bK BK488 hb; replace HB := Aside0.mk (below_step (by repeat (first | (with_reducible first | exact HB.out | apply bL | apply bM | apply bR | refine bS ?_ GE472.out | refine bS ?_ GE487.out | refine bS ?_ GE488.out) | exact HB.out)) hb); (try clear hb); (try clear hk); obtain ⟨hcz111_0, hcz111_1, hcz111_2, hcz111_3, hfz111_0, hfz111_1, hfz111_2, hfz111_3⟩ := d4 BK472; obtain ⟨hcz112_0, hcz112_1, hcz112_2, hfz112_0, hfz112_1, hfz112_2⟩ := d3 BK487; have hcz113_0 : w110.cell? ⟨gb488, 0, none⟩ = some (.int .i64 t485) := bC BK488 0 rfl; have hcz113_1 : w110.cell? ⟨gb488, 1, none⟩ = some (.int .i64 t486) := bC BK488 1 rfl; have hfz113_0 := bF BK488 0; have hfz113_1 := bF BK488 1) | (go_at_call 15; (with_reducible refine (holders_Room.calls k t468 t469 t470 t471 _ _ t479 t482 t483 t484 t485 t486 t498 _ ?side1 ?side2 ?side3 A76.out).mono ?_); (case side1 => repeat (first | exact (Kd.R_reads' HO481.out).2.2 | (with_reducible refine Kd.C_alloc ?_ _) | (with_reducible refine Kd.C_drewN ?_ _) | (with_reducible refine Kd.C_drew ?_))); (case side2 => exact (Kd.R_reads' HO481.out).2.1); (case side3 => exact GL.below HG.out (by repeat (first | (with_reducible first | exact HB.out | apply bL | apply bM | apply bR | refine bS ?_ GE472.out | refine bS ?_ GE487.out | refine bS ?_ GE488.out) | exact HB.out))); rintro e w114 ⟨rfl, hb⟩; replace HO475 := Aside0.mk (Kd.R_below (by (with_reducible repeat (first | apply Kd.R_alloc | apply Kd.R_drewN | apply Kd.R_drew)); exact HO475.out) hb); replace HO481 := Aside0.mk (Kd.R_below (by (with_reducible repeat (first | apply Kd.R_alloc | apply Kd.R_drewN | apply Kd.R_drew)); exact HO481.out) hb); replace BK472 := bK BK472 hb; replace BK487 := bK BK487 hb; replace BK488 := bK BK488 hb; replace HB := Aside0.mk (below_step (by repeat (first | (with_reducible first | exact HB.out | apply bL | apply bM | apply bR | refine bS ?_ GE472.out | refine bS ?_ GE487.out | refine bS ?_ GE488.out) | exact HB.out)) hb); (try clear hb); (try clear hk)))
       go_ret
       exact ⟨by first | rfl | (simp [errW_none, errW_some] <;> rfl) | (simp [*, errW_none, errW_some] <;> rfl), by repeat (first | (with_reducible first | exact HB.out | apply bL | apply bM | apply bR | refine bS ?_ GE472.out | refine bS ?_ GE487.out | refine bS ?_ GE488.out) | exact HB.out)⟩
      ·replace c75 := Bool.eq_false_iff.mpr c75
       subst c75
       rw [if_neg (show ¬ (false = true) by decide)] at H
       obtain rfl := Option.some.inj H
       try go_wp2_with (first | ((with_reducible refine gate_callee (f := 11) rfl ?_); refine goesL_ (some 45) rfl rfl Tryd.func11 (by kernel_rfl) rfl #[] rfl (by (try simp only [mA]); first | done | rfl) ?_; (with_reducible refine (clusterlockslaw10_awake.calls k  true _ ?side1 A68.out).mono ?_); (case side1 => exact GL.below HG.out (by repeat (first | (with_reducible first | exact HB.out | apply bL | apply bM | apply bR | refine bS ?_ GE472.out | refine bS ?_ GE487.out | refine bS ?_ GE488.out) | exact HB.out))); rintro e w136 ⟨rfl, hb⟩; refine ⟨_, rfl, ?_⟩; replace HO475 := Aside0.mk (Kd.R_below (by (with_reducible repeat (first | apply Kd.R_alloc | apply Kd.R_drewN | apply Kd.R_drew)); exact HO475.out) hb); replace HO481 := Aside0.mk (Kd.R_below (by (with_reducible repeat (first | apply Kd.R_alloc | apply Kd.R_drewN | apply Kd.R_drew)); exact HO481.out) hb); replace BK472 := bK BK472 hb; replace BK487 := bK BK487 hb; replace BK488 := bK BK488 hb; replace HB := Aside0.mk (below_step (by repeat (first | (with_reducible first | exact HB.out | apply bL | apply bM | apply bR | refine bS ?_ GE472.out | refine bS ?_ GE487.out | refine bS ?_ GE488.out) | exact HB.out)) hb); (try clear hb); (try clear hk); have hnb137 := NB472_487.out; have hnc137 := NB487_472.out; have hnb138 := NB472_488.out; have hnc138 := NB488_472.out; have hcz139_0 : w136.cell? ⟨gb472, 0, none⟩ = some (.string t468) := bC BK472 0 rfl; have hcz139_1 : w136.cell? ⟨gb472, 1, none⟩ = some (.int .i64 t469) := bC BK472 1 rfl; have hcz139_2 : w136.cell? ⟨gb472, 2, none⟩ = some (.int .i64 t470) := bC BK472 2 rfl; have hcz139_3 : w136.cell? ⟨gb472, 3, none⟩ = some (.int .i64 t471) := bC BK472 3 rfl; have hfz139_0 := bF BK472 0; have hfz139_1 := bF BK472 1; have hfz139_2 := bF BK472 2; have hfz139_3 := bF BK472 3) | (go_at_call 25; (with_reducible refine (holders_Valid.calls k t468 t469 t470 t471 _ _ t473 true _ ?side1 ?side2 ?side3 A70.out).mono ?_); (case side1 => repeat (first | exact (Kd.R_reads' HO475.out).2.2 | (with_reducible refine Kd.C_alloc ?_ _) | (with_reducible refine Kd.C_drewN ?_ _) | (with_reducible refine Kd.C_drew ?_))); (case side2 => exact (Kd.R_reads' HO475.out).2.1); (case side3 => exact GL.below HG.out (by repeat (first | (with_reducible first | exact HB.out | apply bL | apply bM | apply bR | refine bS ?_ GE472.out | refine bS ?_ GE487.out | refine bS ?_ GE488.out) | exact HB.out))); rintro e w140 ⟨rfl, hb⟩; replace HO475 := Aside0.mk (Kd.R_below (by (with_reducible repeat (first | apply Kd.R_alloc | apply Kd.R_drewN | apply Kd.R_drew)); exact HO475.out) hb); replace HO481 := Aside0.mk (Kd.R_below (by (with_reducible repeat (first | apply Kd.R_alloc | apply Kd.R_drewN | apply Kd.R_drew)); exact HO481.out) hb); replace BK472 := bK BK472 hb; replace BK487 := bK BK487 hb; replace BK488 := bK BK488 hb; replace HB := Aside0.mk (below_step (by repeat (first | (with_reducible first | exact HB.out | apply bL | apply bM | apply bR | refine bS ?_ GE472.out | refine bS ?_ GE487.out | refine bS ?_ GE488.out) | exact HB.out)) hb); (try clear hb); (try clear hk); obtain ⟨hcz141_0, hcz141_1, hcz141_2, hcz141_3, hfz141_0, hfz141_1, hfz141_2, hfz141_3⟩ := d4 BK472; obtain ⟨Ao142, co142, eo142⟩ := Kd.R_slice HO481.out; subst eo142) | (go_at_call 25; (with_reducible refine (holders_Valid.calls k t468 t469 t470 t471 _ _ t479 true _ ?side1 ?side2 ?side3 A72.out).mono ?_); (case side1 => repeat (first | exact (Kd.R_reads' HO481.out).2.2 | (with_reducible refine Kd.C_alloc ?_ _) | (with_reducible refine Kd.C_drewN ?_ _) | (with_reducible refine Kd.C_drew ?_))); (case side2 => exact (Kd.R_reads' HO481.out).2.1); (case side3 => exact GL.below HG.out (by repeat (first | (with_reducible first | exact HB.out | apply bL | apply bM | apply bR | refine bS ?_ GE472.out | refine bS ?_ GE487.out | refine bS ?_ GE488.out) | exact HB.out))); rintro e w143 ⟨rfl, hb⟩; replace HO475 := Aside0.mk (Kd.R_below (by (with_reducible repeat (first | apply Kd.R_alloc | apply Kd.R_drewN | apply Kd.R_drew)); exact HO475.out) hb); replace HO481 := Aside0.mk (Kd.R_below (by (with_reducible repeat (first | apply Kd.R_alloc | apply Kd.R_drewN | apply Kd.R_drew)); exact HO481.out) hb); replace BK472 := bK BK472 hb; replace BK487 := bK BK487 hb; replace BK488 := bK BK488 hb; replace HB := Aside0.mk (below_step (by repeat (first | (with_reducible first | exact HB.out | apply bL | apply bM | apply bR | refine bS ?_ GE472.out | refine bS ?_ GE487.out | refine bS ?_ GE488.out) | exact HB.out)) hb); (try clear hb); (try clear hk); obtain ⟨hcz144_0, hcz144_1, hcz144_2, hcz144_3, hfz144_0, hfz144_1, hfz144_2, hfz144_3⟩ := d4 BK472; have hnb145 := NB487_488.out; have hnc145 := NB488_487.out; obtain ⟨hcz146_0, hcz146_1, hcz146_2, hfz146_0, hfz146_1, hfz146_2⟩ := d3 BK487; have hcz147_0 : w143.cell? ⟨gb488, 0, none⟩ = some (.int .i64 t485) := bC BK488 0 rfl; have hcz147_1 : w143.cell? ⟨gb488, 1, none⟩ = some (.int .i64 t486) := bC BK488 1 rfl; have hfz147_0 := bF BK488 0; have hfz147_1 := bF BK488 1) | (go_at_call 15; (with_reducible refine (holders_Room.calls k t468 t469 t470 t471 _ _ t473 t482 t483 t484 t485 t486 false _ ?side1 ?side2 ?side3 A74.out).mono ?_); (case side1 => repeat (first | exact (Kd.R_reads' HO475.out).2.2 | (with_reducible refine Kd.C_alloc ?_ _) | (with_reducible refine Kd.C_drewN ?_ _) | (with_reducible refine Kd.C_drew ?_))); (case side2 => exact (Kd.R_reads' HO475.out).2.1); (case side3 => exact GL.below HG.out (by repeat (first | (with_reducible first | exact HB.out | apply bL | apply bM | apply bR | refine bS ?_ GE472.out | refine bS ?_ GE487.out | refine bS ?_ GE488.out) | exact HB.out))); rintro e w148 ⟨rfl, hb⟩; replace HO475 := Aside0.mk (Kd.R_below (by (with_reducible repeat (first | apply Kd.R_alloc | apply Kd.R_drewN | apply Kd.R_drew)); exact HO475.out) hb); replace HO481 := Aside0.mk (Kd.R_below (by (with_reducible repeat (first | apply Kd.R_alloc | apply Kd.R_drewN | apply Kd.R_drew)); exact HO481.out) hb); replace BK472 := bK BK472 hb; replace BK487 := bK BK487 hb; replace BK488 := bK BK488 hb; replace HB := Aside0.mk (below_step (by repeat (first | (with_reducible first | exact HB.out | apply bL | apply bM | apply bR | refine bS ?_ GE472.out | refine bS ?_ GE487.out | refine bS ?_ GE488.out) | exact HB.out)) hb); (try clear hb); (try clear hk)))
       go_ret
       exact ⟨by first | rfl | (simp [errW_none, errW_some] <;> rfl) | (simp [*, errW_none, errW_some] <;> rfl), by repeat (first | (with_reducible first | exact HB.out | apply bL | apply bM | apply bR | refine bS ?_ GE472.out | refine bS ?_ GE487.out | refine bS ?_ GE488.out) | exact HB.out)⟩
     ·replace c73 := Bool.eq_false_iff.mpr c73
      subst c73
      rw [if_neg (show ¬ (false = true) by decide)] at H
      exact absurd (Option.some.inj H) (by rw [HRT.out]; decide)
    ·replace c71 := Bool.eq_false_iff.mpr c71
     subst c71
     rw [if_neg (show ¬ (false = true) by decide)] at H
     exact absurd (Option.some.inj H) (by rw [HRT.out]; decide)
   ·replace c69 := Bool.eq_false_iff.mpr c69
    subst c69
    rw [if_neg (show ¬ (false = true) by decide)] at H
    exact absurd (Option.some.inj H) (by rw [HRT.out]; decide)
 ·replace c7 := Bool.eq_false_iff.mpr c7
  subst c7
  rw [if_neg (show ¬ (false = true) by decide)] at H
  obtain ⟨t467, A2260, H⟩ := Option.bind_eq_some_iff.mp H
  have A226 := Aside0.mk A2260; clear A2260
  obtain rfl := Option.some.inj H
  go_enter Tryd.func7, Tryd.ntmps7
  go_wp2_with (first | ((with_reducible refine gate_callee (f := 20) rfl ?_); refine goesL_ (some 17) rfl rfl Tryd.func20 (by kernel_rfl) rfl #[.slice A1 l1.length c1] rfl (by (try simp only [mA]); first | done | rfl) ?_; (with_reducible refine (clusterlocksmill_Light.calls _ _ l1 false _ ?side1 ?side2 A6.out).mono ?_); (case side1 => repeat (first | exact HR1.out | (with_reducible refine Kd.C_alloc ?_ _) | (with_reducible refine Kd.C_drewN ?_ _) | (with_reducible refine Kd.C_drew ?_))); (case side2 => exact HC1.out); rintro e w' ⟨rfl, ⟨nd, rfl⟩⟩; refine ⟨_, rfl, ?_⟩) | ((with_reducible refine gate_callee (f := 11) rfl ?_); refine goesL_ (some 19) rfl rfl Tryd.func11 (by kernel_rfl) rfl #[] rfl (by (try simp only [mA]); first | done | rfl) ?_; (with_reducible refine (clusterlockslaw10_awake.calls k  t467 _ ?side1 A226.out).mono ?_); (case side1 => exact GL.below HG.out (uB HB)); rintro e w227 ⟨rfl, hb⟩; refine ⟨_, rfl, ?_⟩; replace HB := bB HB hb; (try clear hb); (try clear hk)))
  go_ret
  exact ⟨by first | rfl | (simp [errW_none, errW_some] <;> rfl) | (simp [*, errW_none, errW_some] <;> rfl), by repeat (first | (with_reducible first | exact HB.out | apply bL | apply bM | apply bR) | exact HB.out)⟩
end Go.Proofs.YtnmemkphfgdplaaDoor.PA
