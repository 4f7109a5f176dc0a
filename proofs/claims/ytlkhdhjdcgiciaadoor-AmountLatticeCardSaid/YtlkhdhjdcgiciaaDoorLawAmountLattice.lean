/- The law AmountLattice holds: whatever its arguments, the call returns true, and they read as they did. Conditions: none of our own; what the given row and card say. -/
import Derived.Test.YtlkhdhjdcgiciaaDoorRows
import Derived.Test.YtlkhdhjdcgiciaaDoorCards
import Derived.Test.YtlkhdhjdcgiciaaDoorTie
import Derived.Test.YtlkhdhjdcgiciaaDoorLaid
import Derived.Test.YtlkhdhjdcgiciaaDoorPAx17
import Derived.Test.YtlkhdhjdcgiciaaDoorPAOk
import Derived.Test.YtlkhdhjdcgiciaaDoorBAmountLattice
import Derived.WalkKit
import Derived.ProofKit
import Derived.OpenShut
import Derived.ShutString
import Derived.ChangeOld
import Derived.Below
import Derived.SizedLaws
import Derived.LaidMore
import Derived.Stop.Joined
import Derived.SevenTiedAt
import Derived.Lib.SmallJoins
namespace Go.Proofs.YtlkhdhjdcgiciaaDoor.amountLattice
open Go Go.ChangeShapes Go.WideShapes Go.ChangeAt Go.RowKit
open Go.ChangeMaps (open_string shut_string)
open Go.Proofs.YtlkhdhjdcgiciaaDoor.PA Go.Proofs.YtlkhdhjdcgiciaaDoorW.PrintWords
set_option linter.unusedVariables false
set_option maxRecDepth 100000 in
theorem lifted (os : Os) (started : os.Started) (H : Type) (enc : TypeId × Value → H) :
    ReturnsInHanded {} Tryd.checked os 9 .any (fun w args => (Rows.amountLatticeSpec.pre enc Tryd.prog Tryd.f9 [] false w args ∧ laidMetH Tryd.prog LAID w) ∧ sizedMet enc Tryd.prog Tryd.f9 (OpenSpec.ofChange Rows.amountLatticeSpec) false w args) (Rows.amountLatticeSpec.post enc Tryd.prog Tryd.f9 false true false false) := by
  refine returnsInHanded_of_change_and (C := Tryd.checked) (X := fun w _ => laidMetH Tryd.prog LAID w) (fun _ _ _ hh h => h.of_heap hh) own started (by kernel_rfl) Tryd.func9
    (ChangeSpec.witness_shaped (enc := enc) (C := Tryd.checked) (os := os) (X := fun w _ => laidMetH Tryd.prog LAID w) false (World.doorLaid Tryd.prog STEPS os) #[.agg #[.string ⟨#[]⟩, .int .i64 0, .int .i64 0, .int .i64 0], .agg #[.int .i64 0, .int .i64 0], .agg #[.int .i64 0, .int .i64 0], .agg #[.int .i64 0, .int .i64 0]] 8 rfl (World.shaped_of_RefB (by kernel_rfl) (by kernel_rfl)) (by kernel_rfl) (by kernel_rfl) (by kernel_rfl) (door_met os _)) ?_
  intro W base args ds gs before hval0 hW hcnd hsz0 hL _
  have hval : ∀ (j : Nat) t v, Tryd.f9.params[j]? = some t → args[j]? = some v → Value.okWide Tryd.prog W .any base t v := hval0
  have hW' := hW
  obtain ⟨p, q, hA0, hV, rfl, hfz, hnd⟩ := hW
  have hA : DataW.TrodAll enc Tryd.prog W 0 (fun _ => true) true Tryd.f9.params.toList args.toList ds p := hA0
  have hsz : (DataW.weightsEach Tryd.prog (Tryd.f9.params.toList ++ Rows.amountLatticeSpec.plain.varTypes Tryd.prog) (ds ++ gs)).all (· ≤ reachBytes) = true := hsz0
  rw [Tryd.params9] at hA hval hsz
  obtain ⟨v0, vs0, d0, ds0, p0, q0, hargs, rfl, rfl, h0, r0⟩ := trodAll_cons hA
  obtain ⟨v1, vs1, d1, ds1, p1, q1, rfl, rfl, rfl, h1, r1⟩ := trodAll_cons r0
  obtain ⟨v2, vs2, d2, ds2, p2, q2, rfl, rfl, rfl, h2, r2⟩ := trodAll_cons r1
  obtain ⟨v3, vs3, d3, ds3, p3, q3, rfl, rfl, rfl, h3, r3⟩ := trodAll_cons r2
  obtain ⟨rfl, rfl, rfl⟩ := trodAll_nil r3
  obtain rfl : args = #[v0, v1, v2, v3] := by cases args; simp_all
  obtain ⟨rfl, rfl⟩ := trodVars_none hV
  have g0 := Open.weights_head (show (DataW.weightsEach Tryd.prog (23 :: 25 :: 25 :: 25 :: _) (d0 :: d1 :: d2 :: d3 :: _)).all (· ≤ reachBytes) = true from hsz)
  have g1 := Open.weights_head (show (DataW.weightsEach Tryd.prog (25 :: 25 :: 25 :: _) (d1 :: d2 :: d3 :: _)).all (· ≤ reachBytes) = true from g0.2)
  have g2 := Open.weights_head (show (DataW.weightsEach Tryd.prog (25 :: 25 :: _) (d2 :: d3 :: _)).all (· ≤ reachBytes) = true from g1.2)
  have g3 := Open.weights_head (show (DataW.weightsEach Tryd.prog (25 :: _) (d3 :: _)).all (· ≤ reachBytes) = true from g2.2)
  have k0_ := h0
  have lt0 : ∀ x ∈ p0, x.block < W.heap.size := by obtain ⟨m, hm⟩ := k0_; exact DataW.trod_lt m _ _ _ hm
  obtain ⟨fu0, hf0⟩ := h0
  obtain ⟨x0, hK0, ok0_⟩ := o23.2 H enc W _ _ fu0 _ _ hf0 g0.1
  obtain ⟨cs0, rfl, hz0⟩ := okWide_struct Tryd.underlying23 (hval 0 23 v0 rfl rfl)
  obtain e0 := k23_open hK0
  obtain rfl : cs0 = #[.string x0.f0, .int .i64 x0.f1, .int .i64 x0.f2, .int .i64 x0.f3] := Array.toList_inj.1 e0
  have k1_ := h1
  have lt1 : ∀ x ∈ p1, x.block < W.heap.size := by obtain ⟨m, hm⟩ := k1_; exact DataW.trod_lt m _ _ _ hm
  obtain ⟨fu1, hf1⟩ := h1
  obtain ⟨x1, hK1, ok1_⟩ := o25.2 H enc W _ _ fu1 _ _ hf1 g1.1
  obtain ⟨cs1, rfl, hz1⟩ := okWide_struct Tryd.underlying25 (hval 1 25 v1 rfl rfl)
  obtain e1 := k25_open hK1
  obtain rfl : cs1 = #[.int .i64 x1.f0, .int .i64 x1.f1] := Array.toList_inj.1 e1
  have k2_ := h2
  have lt2 : ∀ x ∈ p2, x.block < W.heap.size := by obtain ⟨m, hm⟩ := k2_; exact DataW.trod_lt m _ _ _ hm
  obtain ⟨fu2, hf2⟩ := h2
  obtain ⟨x2, hK2, ok2_⟩ := o25.2 H enc W _ _ fu2 _ _ hf2 g2.1
  obtain ⟨cs2, rfl, hz2⟩ := okWide_struct Tryd.underlying25 (hval 2 25 v2 rfl rfl)
  obtain e2 := k25_open hK2
  obtain rfl : cs2 = #[.int .i64 x2.f0, .int .i64 x2.f1] := Array.toList_inj.1 e2
  have k3_ := h3
  have lt3 : ∀ x ∈ p3, x.block < W.heap.size := by obtain ⟨m, hm⟩ := k3_; exact DataW.trod_lt m _ _ _ hm
  obtain ⟨fu3, hf3⟩ := h3
  obtain ⟨x3, hK3, ok3_⟩ := o25.2 H enc W _ _ fu3 _ _ hf3 g3.1
  obtain ⟨cs3, rfl, hz3⟩ := okWide_struct Tryd.underlying25 (hval 3 25 v3 rfl rfl)
  obtain e3 := k25_open hK3
  obtain rfl : cs3 = #[.int .i64 x3.f0, .int .i64 x3.f1] := Array.toList_inj.1 e3
  clear hA0 hval0 hsz0 hsz
  obtain ⟨k, h⟩ := AmountLattice_pure x0 x1 x2 x3 ok0_ ok1_ ok2_ ok3_
  refine (clusterlockslaw04_AmountLattice.calls k x0.f0 x0.f1 x0.f2 x0.f3 x1.f0 x1.f1 x2.f0 x2.f1 x3.f0 x3.f1 true W  (gl_of_laid hL) h).mono fun e W' ⟨he, bel0⟩ => ?_
  have bel : Below W.heap.size W W' := bel0
  subst he
  exact ⟨_, rfl, _, _, _, [], _, [], hW', trodAll_mk1 (shut_bool Tryd.underlying4 _), (trodAll_cons_mk (Below.trod laidOut (by kernel_rfl) (of_decide_eq_true (by kernel_rfl)) k0_ bel lt0) (trodAll_cons_mk (Below.trod laidOut (by kernel_rfl) (of_decide_eq_true (by kernel_rfl)) k1_ bel lt1) (trodAll_cons_mk (Below.trod laidOut (by kernel_rfl) (of_decide_eq_true (by kernel_rfl)) k2_ bel lt2) (trodAll_cons_mk (Below.trod laidOut (by kernel_rfl) (of_decide_eq_true (by kernel_rfl)) k3_ bel lt3) trodAll_mk0)))), rfl, bel.frame _, fun h => by cases h⟩
theorem over : Rows.AmountLatticeSaid :=
  OpenClaim.holds_of_wide 9 Tryd.f9 rfl rfl rfl rfl rfl rfl rfl ⟨rfl, rfl, rfl, rfl, rfl⟩ rfl rfl rfl rfl rfl (by kernel_rfl) Tryd.func9 (by kernel_rfl)
    (of_decide_eq_true (by kernel_rfl)) (by unfold Func.isWrapper; first | (rw [if_pos (by decide +kernel)]; kernel_rfl) | (rw [if_neg (by decide +kernel)]; exact ⟨rfl, rfl⟩))
    (fun os started H enc _ => lifted os started H enc)
theorem card : Rows.AmountLatticeCardSaid :=
  Claim7.holds_tied_plain_at .later [] [.data, .data, .data, .data] true (true, "76f687751acb78786b8d8ec7d51adad8279aeb83021b977ef45746870b30df48") false
    over (fun _ h => by cases h) (by kernel_rfl) (fun _ h => by cases h) amountLattice_row_tie rfl ⟨rfl, rfl⟩ (by kernel_rfl) rfl
    (fun f fn hf hfn => by
      obtain rfl : f = 9 := Option.some.inj ((show Tryd.prog.funcNamed "clusterlocks/clusterlockslaw04.AmountLattice" = some 9 by kernel_rfl).symm.trans hf) |>.symm
      obtain rfl : fn = Tryd.f9 := (Option.some.inj (Tryd.func9.symm.trans hfn)).symm
      exact ⟨by kernel_rfl, fun j t ht => by
        rw [Tryd.params9] at ht
        have hm : t ∈ [23, 25, 25, 25] := by simpa using Array.mem_of_getElem? ht
        have hall : ([23, 25, 25, 25].all fun u => !Tryd.prog.wantsStandIn u) = true := by kernel_rfl
        exact (show Tryd.prog.wantsStandIn t = false by simpa using List.all_eq_true.1 hall t hm)⟩)
    (by kernel_rfl)
#print axioms card
end Go.Proofs.YtlkhdhjdcgiciaaDoor.amountLattice
namespace Go.Proofs.YtlkhdhjdcgiciaaDoor
/-- The claim. -/
theorem amountLattice_holds : Rows.AmountLatticeCardSaid := amountLattice.card
end Go.Proofs.YtlkhdhjdcgiciaaDoor
