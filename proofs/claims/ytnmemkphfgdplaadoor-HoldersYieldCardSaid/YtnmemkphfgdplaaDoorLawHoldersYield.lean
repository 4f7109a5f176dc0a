/- The law HoldersYield holds: whatever its arguments, the call returns true, and they read as they did. Conditions: none of our own; what the given row and card say. -/
import Derived.Test.YtnmemkphfgdplaaDoorRows
import Derived.Test.YtnmemkphfgdplaaDoorCards
import Derived.Test.YtnmemkphfgdplaaDoorTie
import Derived.Test.YtnmemkphfgdplaaDoorLaid
import Derived.Test.YtnmemkphfgdplaaDoorPAx24
import Derived.Test.YtnmemkphfgdplaaDoorPAxT
import Derived.Test.YtnmemkphfgdplaaDoorBHoldersYield
import Derived.WalkKit
import Derived.ProofKit
import Derived.OpenShut
import Derived.ShutString
import Derived.ChangeOld
import Derived.Below
import Derived.SizedLaws
import Derived.LaidMore
import Derived.Stop.Joined
import Derived.SevenTiedAt
import Derived.Lib.SmallJoins
namespace Go.Proofs.YtnmemkphfgdplaaDoor.holdersYield
open Go Go.ChangeShapes Go.WideShapes Go.ChangeAt Go.RowKit
open Go.ChangeMaps (open_string shut_string)
open Go.Proofs.YtnmemkphfgdplaaDoor.PA Go.Proofs.YtnmemkphfgdplaaDoorW.PrintWords
set_option linter.unusedVariables false
set_option maxRecDepth 100000 in
theorem lifted (os : Os) (started : os.Started) (H : Type) (enc : TypeId × Value → H) :
    ReturnsInHanded {} Tryd.checked os 6 .any (fun w args => (Rows.holdersYieldSpec.pre enc Tryd.prog Tryd.f6 [] false w args ∧ laidMetH Tryd.prog LAID w) ∧ sizedMet enc Tryd.prog Tryd.f6 (OpenSpec.ofChange Rows.holdersYieldSpec) false w args) (Rows.holdersYieldSpec.post enc Tryd.prog Tryd.f6 false true false false) := by
  refine returnsInHanded_of_change_and (C := Tryd.checked) (X := fun w _ => laidMetH Tryd.prog LAID w) (fun _ _ _ hh h => h.of_heap hh) own started (by kernel_rfl) Tryd.func6
    (ChangeSpec.witness_shaped (enc := enc) (C := Tryd.checked) (os := os) (X := fun w _ => laidMetH Tryd.prog LAID w) false (World.doorLaid Tryd.prog STEPS os) #[.int .i64 0, .slice none 0 0, .int .i64 0, .int .i64 0] 8 rfl (World.shaped_of_RefB (by kernel_rfl) (by kernel_rfl)) (by kernel_rfl) (by kernel_rfl) (by kernel_rfl) (door_met os _)) ?_
  intro W base args ds gs before hval0 hW hcnd hsz0 hL _
  have hval : ∀ (j : Nat) t v, Tryd.f6.params[j]? = some t → args[j]? = some v → Value.okWide Tryd.prog W .any base t v := hval0
  have hW' := hW
  obtain ⟨p, q, hA0, hV, rfl, hfz, hnd⟩ := hW
  have hA : DataW.TrodAll enc Tryd.prog W 0 (fun _ => true) true Tryd.f6.params.toList args.toList ds p := hA0
  have hsz : (DataW.weightsEach Tryd.prog (Tryd.f6.params.toList ++ Rows.holdersYieldSpec.plain.varTypes Tryd.prog) (ds ++ gs)).all (· ≤ reachBytes) = true := hsz0
  rw [Tryd.params6] at hA hval hsz
  obtain ⟨v0, vs0, d0, ds0, p0, q0, hargs, rfl, rfl, h0, r0⟩ := trodAll_cons hA
  obtain ⟨v1, vs1, d1, ds1, p1, q1, rfl, rfl, rfl, h1, r1⟩ := trodAll_cons r0
  obtain ⟨v2, vs2, d2, ds2, p2, q2, rfl, rfl, rfl, h2, r2⟩ := trodAll_cons r1
  obtain ⟨v3, vs3, d3, ds3, p3, q3, rfl, rfl, rfl, h3, r3⟩ := trodAll_cons r2
  obtain ⟨rfl, rfl, rfl⟩ := trodAll_nil r3
  obtain rfl : args = #[v0, v1, v2, v3] := by cases args; simp_all
  obtain ⟨rfl, rfl⟩ := trodVars_none hV
  have g0 := Open.weights_head (show (DataW.weightsEach Tryd.prog (3 :: 37 :: 3 :: 3 :: _) (d0 :: d1 :: d2 :: d3 :: _)).all (· ≤ reachBytes) = true from hsz)
  have g1 := Open.weights_head (show (DataW.weightsEach Tryd.prog (37 :: 3 :: 3 :: _) (d1 :: d2 :: d3 :: _)).all (· ≤ reachBytes) = true from g0.2)
  have g2 := Open.weights_head (show (DataW.weightsEach Tryd.prog (3 :: 3 :: _) (d2 :: d3 :: _)).all (· ≤ reachBytes) = true from g1.2)
  have g3 := Open.weights_head (show (DataW.weightsEach Tryd.prog (3 :: _) (d3 :: _)).all (· ≤ reachBytes) = true from g2.2)
  have k0_ := h0
  have lt0 : ∀ x ∈ p0, x.block < W.heap.size := by obtain ⟨m, hm⟩ := k0_; exact DataW.trod_lt m _ _ _ hm
  obtain ⟨fu0, hf0⟩ := h0
  obtain ⟨x0, hK0, ok0_⟩ := (Open.Opens.int Tryd.underlying3 (by kernel_rfl)).2 H enc W _ _ fu0 _ _ hf0 g0.1
  obtain ⟨z0, hz0, _⟩ := open_int Tryd.underlying3 (hval 0 3 v0 rfl rfl) k0_
  subst hz0
  obtain rfl : x0 = z0 := Eq.symm (by have e0 : (Value.cells _).toList = _ := hK0; simpa [Value.cells] using e0)
  have k1_ := h1
  have lt1 : ∀ x ∈ p1, x.block < W.heap.size := by obtain ⟨m, hm⟩ := k1_; exact DataW.trod_lt m _ _ _ hm
  obtain ⟨fu1, hf1⟩ := h1
  obtain ⟨x1, hK1, ok1_⟩ := (Open.Opens.slice (b := 8) Tryd.underlying37 (by kernel_rfl) (by kernel_rfl) (Open.Opens.int Tryd.underlying3 (by kernel_rfl))).2 H enc W _ _ fu1 _ _ hf1 g1.1
  obtain ⟨aa1, ln1, cp1, rfl⟩ := okWide_slice Tryd.underlying37 (hval 1 37 v1 rfl rfl)
  obtain ⟨A1_0, c1_0, e1, hl1_0, hC1_0⟩ := hK1
  obtain ⟨rfl, rfl, rfl⟩ : A1_0 = aa1 ∧ ln1 = x1.length ∧ c1_0 = cp1 := (show aa1 = A1_0 ∧ ln1 = x1.length ∧ cp1 = c1_0 by simpa [Value.cells] using e1).imp Eq.symm (And.imp id Eq.symm)
  have k2_ := h2
  have lt2 : ∀ x ∈ p2, x.block < W.heap.size := by obtain ⟨m, hm⟩ := k2_; exact DataW.trod_lt m _ _ _ hm
  obtain ⟨fu2, hf2⟩ := h2
  obtain ⟨x2, hK2, ok2_⟩ := (Open.Opens.int Tryd.underlying3 (by kernel_rfl)).2 H enc W _ _ fu2 _ _ hf2 g2.1
  obtain ⟨z2, hz2, _⟩ := open_int Tryd.underlying3 (hval 2 3 v2 rfl rfl) k2_
  subst hz2
  obtain rfl : x2 = z2 := Eq.symm (by have e2 : (Value.cells _).toList = _ := hK2; simpa [Value.cells] using e2)
  have k3_ := h3
  have lt3 : ∀ x ∈ p3, x.block < W.heap.size := by obtain ⟨m, hm⟩ := k3_; exact DataW.trod_lt m _ _ _ hm
  obtain ⟨fu3, hf3⟩ := h3
  obtain ⟨x3, hK3, ok3_⟩ := (Open.Opens.int Tryd.underlying3 (by kernel_rfl)).2 H enc W _ _ fu3 _ _ hf3 g3.1
  obtain ⟨z3, hz3, _⟩ := open_int Tryd.underlying3 (hval 3 3 v3 rfl rfl) k3_
  subst hz3
  obtain rfl : x3 = z3 := Eq.symm (by have e3 : (Value.cells _).toList = _ := hK3; simpa [Value.cells] using e3)
  clear hA0 hval0 hsz0 hsz
  obtain ⟨k, h⟩ := HoldersYield_pure x0 x1 x2 x3 ok0_ ok1_ ok2_ ok3_
  refine (clusterlockslaw10_HoldersYield.calls k x0 A1_0 c1_0 x1 x2 x3 true W hC1_0 hl1_0 (gl_of_laid hL) h rfl).mono fun e W' ⟨he, bel0⟩ => ?_
  have bel : Below W.heap.size W W' := bel0
  subst he
  exact ⟨_, rfl, _, _, _, [], _, [], hW', trodAll_mk1 (shut_bool Tryd.underlying4 _), (trodAll_cons_mk (Below.trod laidOut (by kernel_rfl) (of_decide_eq_true (by kernel_rfl)) k0_ bel lt0) (trodAll_cons_mk (Below.trod laidOut (by kernel_rfl) (of_decide_eq_true (by kernel_rfl)) k1_ bel lt1) (trodAll_cons_mk (Below.trod laidOut (by kernel_rfl) (of_decide_eq_true (by kernel_rfl)) k2_ bel lt2) (trodAll_cons_mk (Below.trod laidOut (by kernel_rfl) (of_decide_eq_true (by kernel_rfl)) k3_ bel lt3) trodAll_mk0)))), rfl, bel.frame _, fun h => by cases h⟩
theorem over : Rows.HoldersYieldSaid :=
  OpenClaim.holds_of_wide 6 Tryd.f6 rfl rfl rfl rfl rfl rfl rfl ⟨rfl, rfl, rfl, rfl, rfl⟩ rfl rfl rfl rfl rfl (by kernel_rfl) Tryd.func6 (by kernel_rfl)
    (of_decide_eq_true (by kernel_rfl)) (by unfold Func.isWrapper; first | (rw [if_pos (by decide +kernel)]; kernel_rfl) | (rw [if_neg (by decide +kernel)]; exact ⟨rfl, rfl⟩))
    (fun os started H enc _ => lifted os started H enc)
theorem card : Rows.HoldersYieldCardSaid :=
  Claim7.holds_tied_plain_at .later [] [.data] true (true, "70fc80ff3f144a9d9a426d2bbf5ace4f6f31836a3aa28394e947ce72703b7b8a") false
    over (fun _ h => by cases h) (by kernel_rfl) (fun _ h => by cases h) holdersYield_row_tie rfl ⟨rfl, rfl⟩ (by kernel_rfl) rfl
    (fun f fn hf hfn => by
      obtain rfl : f = 6 := Option.some.inj ((show Tryd.prog.funcNamed "clusterlocks/clusterlockslaw10.HoldersYield" = some 6 by kernel_rfl).symm.trans hf) |>.symm
      obtain rfl : fn = Tryd.f6 := (Option.some.inj (Tryd.func6.symm.trans hfn)).symm
      exact ⟨by kernel_rfl, fun j t ht => by
        rw [Tryd.params6] at ht
        have hm : t ∈ [3, 37, 3, 3] := by simpa using Array.mem_of_getElem? ht
        have hall : ([3, 37, 3, 3].all fun u => !Tryd.prog.wantsStandIn u) = true := by kernel_rfl
        exact (show Tryd.prog.wantsStandIn t = false by simpa using List.all_eq_true.1 hall t hm)⟩)
    (by kernel_rfl)
#print axioms card
end Go.Proofs.YtnmemkphfgdplaaDoor.holdersYield
namespace Go.Proofs.YtnmemkphfgdplaaDoor
/-- The claim. -/
theorem holdersYield_holds : Rows.HoldersYieldCardSaid := holdersYield.card
end Go.Proofs.YtnmemkphfgdplaaDoor
