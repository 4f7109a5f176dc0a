/- The law HoldersGrow holds: whatever its arguments, the call returns true, and they read as they did. Conditions: none of our own; what the given row and card say. -/
import Derived.Test.YtnmemkphfgdplaaDoorRows
import Derived.Test.YtnmemkphfgdplaaDoorCards
import Derived.Test.YtnmemkphfgdplaaDoorTie
import Derived.Test.YtnmemkphfgdplaaDoorLaid
import Derived.Test.YtnmemkphfgdplaaDoorPAx26
import Derived.Test.YtnmemkphfgdplaaDoorPAxT
import Derived.Test.YtnmemkphfgdplaaDoorBHoldersGrow
import Derived.WalkKit
import Derived.ProofKit
import Derived.OpenShut
import Derived.ShutString
import Derived.ChangeOld
import Derived.Below
import Derived.SizedLaws
import Derived.LaidMore
import Derived.Stop.Joined
import Derived.SevenTiedAt
import Derived.Lib.SmallJoins
namespace Go.Proofs.YtnmemkphfgdplaaDoor.holdersGrow
open Go Go.ChangeShapes Go.WideShapes Go.ChangeAt Go.RowKit
open Go.ChangeMaps (open_string shut_string)
open Go.Proofs.YtnmemkphfgdplaaDoor.PA Go.Proofs.YtnmemkphfgdplaaDoorW.PrintWords
set_option linter.unusedVariables false
set_option maxRecDepth 100000 in
theorem lifted (os : Os) (started : os.Started) (H : Type) (enc : TypeId × Value → H) :
    ReturnsInHanded {} Tryd.checked os 8 .any (fun w args => (Rows.holdersGrowSpec.pre enc Tryd.prog Tryd.f8 [] false w args ∧ laidMetH Tryd.prog LAID w) ∧ sizedMet enc Tryd.prog Tryd.f8 (OpenSpec.ofChange Rows.holdersGrowSpec) false w args) (Rows.holdersGrowSpec.post enc Tryd.prog Tryd.f8 false true false false) := by
  refine returnsInHanded_of_change_and (C := Tryd.checked) (X := fun w _ => laidMetH Tryd.prog LAID w) (fun _ _ _ hh h => h.of_heap hh) own started (by kernel_rfl) Tryd.func8
    (ChangeSpec.witness_shaped (enc := enc) (C := Tryd.checked) (os := os) (X := fun w _ => laidMetH Tryd.prog LAID w) false (World.doorLaid Tryd.prog STEPS os) #[.int .i64 0, .slice none 0 0] 8 rfl (World.shaped_of_RefB (by kernel_rfl) (by kernel_rfl)) (by kernel_rfl) (by kernel_rfl) (by kernel_rfl) (door_met os _)) ?_
  intro W base args ds gs before hval0 hW hcnd hsz0 hL _
  have hval : ∀ (j : Nat) t v, Tryd.f8.params[j]? = some t → args[j]? = some v → Value.okWide Tryd.prog W .any base t v := hval0
  have hW' := hW
  obtain ⟨p, q, hA0, hV, rfl, hfz, hnd⟩ := hW
  have hA : DataW.TrodAll enc Tryd.prog W 0 (fun _ => true) true Tryd.f8.params.toList args.toList ds p := hA0
  have hsz : (DataW.weightsEach Tryd.prog (Tryd.f8.params.toList ++ Rows.holdersGrowSpec.plain.varTypes Tryd.prog) (ds ++ gs)).all (· ≤ reachBytes) = true := hsz0
  rw [Tryd.params8] at hA hval hsz
  obtain ⟨v0, vs0, d0, ds0, p0, q0, hargs, rfl, rfl, h0, r0⟩ := trodAll_cons hA
  obtain ⟨v1, vs1, d1, ds1, p1, q1, rfl, rfl, rfl, h1, r1⟩ := trodAll_cons r0
  obtain ⟨rfl, rfl, rfl⟩ := trodAll_nil r1
  obtain rfl : args = #[v0, v1] := by cases args; simp_all
  obtain ⟨rfl, rfl⟩ := trodVars_none hV
  have g0 := Open.weights_head (show (DataW.weightsEach Tryd.prog (3 :: 37 :: _) (d0 :: d1 :: _)).all (· ≤ reachBytes) = true from hsz)
  have g1 := Open.weights_head (show (DataW.weightsEach Tryd.prog (37 :: _) (d1 :: _)).all (· ≤ reachBytes) = true from g0.2)
  have k0_ := h0
  have lt0 : ∀ x ∈ p0, x.block < W.heap.size := by obtain ⟨m, hm⟩ := k0_; exact DataW.trod_lt m _ _ _ hm
  obtain ⟨fu0, hf0⟩ := h0
  obtain ⟨x0, hK0, ok0_⟩ := (Open.Opens.int Tryd.underlying3 (by kernel_rfl)).2 H enc W _ _ fu0 _ _ hf0 g0.1
  obtain ⟨z0, hz0, _⟩ := open_int Tryd.underlying3 (hval 0 3 v0 rfl rfl) k0_
  subst hz0
  obtain rfl : x0 = z0 := Eq.symm (by have e0 : (Value.cells _).toList = _ := hK0; simpa [Value.cells] using e0)
  have k1_ := h1
  have lt1 : ∀ x ∈ p1, x.block < W.heap.size := by obtain ⟨m, hm⟩ := k1_; exact DataW.trod_lt m _ _ _ hm
  obtain ⟨fu1, hf1⟩ := h1
  obtain ⟨x1, hK1, ok1_⟩ := (Open.Opens.slice (b := 8) Tryd.underlying37 (by kernel_rfl) (by kernel_rfl) (Open.Opens.int Tryd.underlying3 (by kernel_rfl))).2 H enc W _ _ fu1 _ _ hf1 g1.1
  obtain ⟨aa1, ln1, cp1, rfl⟩ := okWide_slice Tryd.underlying37 (hval 1 37 v1 rfl rfl)
  obtain ⟨A1_0, c1_0, e1, hl1_0, hC1_0⟩ := hK1
  obtain ⟨rfl, rfl, rfl⟩ : A1_0 = aa1 ∧ ln1 = x1.length ∧ c1_0 = cp1 := (show aa1 = A1_0 ∧ ln1 = x1.length ∧ cp1 = c1_0 by simpa [Value.cells] using e1).imp Eq.symm (And.imp id Eq.symm)
  clear hA0 hval0 hsz0 hsz
  obtain ⟨k, h⟩ := HoldersGrow_pure x0 x1 ok0_ ok1_
  refine (clusterlockslaw10_HoldersGrow.calls k x0 A1_0 c1_0 x1 true W hC1_0 hl1_0 (gl_of_laid hL) h rfl).mono fun e W' ⟨he, bel0⟩ => ?_
  have bel : Below W.heap.size W W' := bel0
  subst he
  exact ⟨_, rfl, _, _, _, [], _, [], hW', trodAll_mk1 (shut_bool Tryd.underlying4 _), (trodAll_cons_mk (Below.trod laidOut (by kernel_rfl) (of_decide_eq_true (by kernel_rfl)) k0_ bel lt0) (trodAll_cons_mk (Below.trod laidOut (by kernel_rfl) (of_decide_eq_true (by kernel_rfl)) k1_ bel lt1) trodAll_mk0)), rfl, bel.frame _, fun h => by cases h⟩
theorem over : Rows.HoldersGrowSaid :=
  OpenClaim.holds_of_wide 8 Tryd.f8 rfl rfl rfl rfl rfl rfl rfl ⟨rfl, rfl, rfl, rfl, rfl⟩ rfl rfl rfl rfl rfl (by kernel_rfl) Tryd.func8 (by kernel_rfl)
    (of_decide_eq_true (by kernel_rfl)) (by unfold Func.isWrapper; first | (rw [if_pos (by decide +kernel)]; kernel_rfl) | (rw [if_neg (by decide +kernel)]; exact ⟨rfl, rfl⟩))
    (fun os started H enc _ => lifted os started H enc)
theorem card : Rows.HoldersGrowCardSaid :=
  Claim7.holds_tied_plain_at .later [] [.data] true (true, "70fc80ff3f144a9d9a426d2bbf5ace4f6f31836a3aa28394e947ce72703b7b8a") false
    over (fun _ h => by cases h) (by kernel_rfl) (fun _ h => by cases h) holdersGrow_row_tie rfl ⟨rfl, rfl⟩ (by kernel_rfl) rfl
    (fun f fn hf hfn => by
      obtain rfl : f = 8 := Option.some.inj ((show Tryd.prog.funcNamed "clusterlocks/clusterlockslaw10.HoldersGrow" = some 8 by kernel_rfl).symm.trans hf) |>.symm
      obtain rfl : fn = Tryd.f8 := (Option.some.inj (Tryd.func8.symm.trans hfn)).symm
      exact ⟨by kernel_rfl, fun j t ht => by
        rw [Tryd.params8] at ht
        have hm : t ∈ [3, 37] := by simpa using Array.mem_of_getElem? ht
        have hall : ([3, 37].all fun u => !Tryd.prog.wantsStandIn u) = true := by kernel_rfl
        exact (show Tryd.prog.wantsStandIn t = false by simpa using List.all_eq_true.1 hall t hm)⟩)
    (by kernel_rfl)
#print axioms card
end Go.Proofs.YtnmemkphfgdplaaDoor.holdersGrow
namespace Go.Proofs.YtnmemkphfgdplaaDoor
/-- The claim. -/
theorem holdersGrow_holds : Rows.HoldersGrowCardSaid := holdersGrow.card
end Go.Proofs.YtnmemkphfgdplaaDoor
