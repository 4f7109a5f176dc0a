/- The law CatalogParses holds: whatever its arguments, the call returns true, and they read as they did. Conditions: none of our own; what the given row and card say. -/
import Derived.Test.YtbiapfjhdggkpaaDoorRows
import Derived.Test.YtbiapfjhdggkpaaDoorCards
import Derived.Test.YtbiapfjhdggkpaaDoorTie
import Derived.Test.YtbiapfjhdggkpaaDoorLaie
import Derived.Test.YtbiapfjhdggkpaaDoorPLCatalogParses
import Derived.Test.YtbiapfjhdggkpaaDoorPAOk
import Derived.Test.YtbiapfjhdggkpaaDoorBCatalogParses
import Derived.WalkKit
import Derived.ProofKit
import Derived.OpenShut
import Derived.ShutString
import Derived.ChangeOld
import Derived.Below
import Derived.SizedLaws
import Derived.LaidMore
import Derived.Stop.Joined
import Derived.SevenTiedAt
import Derived.Lib.SmallJoins
namespace Go.Proofs.YtbiapfjhdggkpaaDoor.catalogParses
open Go Go.ChangeShapes Go.WideShapes Go.ChangeAt Go.RowKit
open Go.ChangeMaps (open_string shut_string)
open Go.Proofs.YtbiapfjhdggkpaaDoor.PA Go.Proofs.YtbiapfjhdggkpaaDoorW.PrintWords
set_option linter.unusedVariables false
set_option maxRecDepth 100000 in
theorem lifted (os : Os) (started : os.Started) (H : Type) (enc : TypeId × Value → H) :
    ReturnsInHanded {} Tryd.checked os 12 .any (fun w args => (Rows.catalogParsesSpec.pre enc Tryd.prog Tryd.f12 [] false w args ∧ laidMetH Tryd.prog LAIE w) ∧ sizedMet enc Tryd.prog Tryd.f12 (OpenSpec.ofChange Rows.catalogParsesSpec) false w args) (Rows.catalogParsesSpec.post enc Tryd.prog Tryd.f12 false true false false) := by
  refine returnsInHanded_of_change_and (C := Tryd.checked) (X := fun w _ => laidMetH Tryd.prog LAIE w) (fun _ _ _ hh h => h.of_heap hh) own started (by kernel_rfl) Tryd.func12
    (ChangeSpec.witness_shaped (enc := enc) (C := Tryd.checked) (os := os) (X := fun w _ => laidMetH Tryd.prog LAIE w) false (World.laidAll Tryd.prog os LAIE) #[.string ⟨#[]⟩] 8 (World.laidAll_os _ _ _) (shape_mete os) (by kernel_rfl) (by kernel_rfl) (by kernel_rfl) (door_mete os _)) ?_
  intro W base args ds gs before hval0 hW hcnd hsz0 hL _
  have hval : ∀ (j : Nat) t v, Tryd.f12.params[j]? = some t → args[j]? = some v → Value.okWide Tryd.prog W .any base t v := hval0
  have hW' := hW
  obtain ⟨p, q, hA0, hV, rfl, hfz, hnd⟩ := hW
  have hA : DataW.TrodAll enc Tryd.prog W 0 (fun _ => true) true Tryd.f12.params.toList args.toList ds p := hA0
  have hsz : (DataW.weightsEach Tryd.prog (Tryd.f12.params.toList ++ Rows.catalogParsesSpec.plain.varTypes Tryd.prog) (ds ++ gs)).all (· ≤ reachBytes) = true := hsz0
  rw [Tryd.params12] at hA hval hsz
  obtain ⟨v0, vs0, d0, ds0, p0, q0, hargs, rfl, rfl, h0, r0⟩ := trodAll_cons hA
  obtain ⟨rfl, rfl, rfl⟩ := trodAll_nil r0
  obtain rfl : args = #[v0] := by cases args; simp_all
  obtain ⟨rfl, rfl⟩ := trodVars_none hV
  have g0 := Open.weights_head (show (DataW.weightsEach Tryd.prog (9 :: _) (d0 :: _)).all (· ≤ reachBytes) = true from hsz)
  have k0_ := h0
  have lt0 : ∀ x ∈ p0, x.block < W.heap.size := by obtain ⟨m, hm⟩ := k0_; exact DataW.trod_lt m _ _ _ hm
  obtain ⟨fu0, hf0⟩ := h0
  obtain ⟨x0, hK0, ok0_⟩ := (Open.Opens.string Tryd.underlying9 (by kernel_rfl)).2 H enc W _ _ fu0 _ _ hf0 g0.1
  obtain ⟨z0, hz0, _⟩ := open_string Tryd.underlying9 (hval 0 9 v0 rfl rfl) k0_
  subst hz0
  obtain rfl : x0 = z0 := Eq.symm (by have e0 : (Value.cells _).toList = _ := hK0; simpa [Value.cells] using e0)
  clear hA0 hval0 hsz0 hsz
  obtain ⟨k, h⟩ := CatalogParses_pure x0 ok0_
  refine (clusterlockslaw05_CatalogParses.calls k x0 true W  h rfl).mono fun e W' ⟨he, bel0⟩ => ?_
  have bel : Below W.heap.size W W' := bel0
  subst he
  exact ⟨_, rfl, _, _, _, [], _, [], hW', trodAll_mk1 (shut_bool Tryd.underlying4 _), (trodAll_cons_mk (Below.trod laidOut (by kernel_rfl) (of_decide_eq_true (by kernel_rfl)) k0_ bel lt0) trodAll_mk0), rfl, bel.frame _, fun h => by cases h⟩
theorem over : Rows.CatalogParsesSaid :=
  OpenClaim.holds_of_wide 12 Tryd.f12 rfl rfl rfl rfl rfl rfl rfl ⟨rfl, rfl, rfl, rfl, rfl⟩ rfl rfl rfl rfl rfl (by kernel_rfl) Tryd.func12 (by kernel_rfl)
    (of_decide_eq_true (by kernel_rfl)) (by unfold Func.isWrapper; first | (rw [if_pos (by decide +kernel)]; kernel_rfl) | (rw [if_neg (by decide +kernel)]; exact ⟨rfl, rfl⟩))
    (fun os started H enc _ => lifted os started H enc)
theorem card : Rows.CatalogParsesCardSaid :=
  Claim7.holds_tied_plain_at .later [] [.data, .data, .data, .data, .pinned] true (true, "9a890f67bf3e353cfc05ab2f2d4ce1e9640598429599cae647b3aaa74c53f0a1") false
    over (fun _ h => by cases h) (by kernel_rfl) (fun _ h => by cases h) catalogParses_row_tie rfl ⟨rfl, rfl⟩ (by kernel_rfl) rfl
    (fun f fn hf hfn => by
      obtain rfl : f = 12 := Option.some.inj ((show Tryd.prog.funcNamed "clusterlocks/clusterlockslaw05.CatalogParses" = some 12 by kernel_rfl).symm.trans hf) |>.symm
      obtain rfl : fn = Tryd.f12 := (Option.some.inj (Tryd.func12.symm.trans hfn)).symm
      exact ⟨by kernel_rfl, fun j t ht => by
        rw [Tryd.params12] at ht
        have hm : t ∈ [9] := by simpa using Array.mem_of_getElem? ht
        have hall : ([9].all fun u => !Tryd.prog.wantsStandIn u) = true := by kernel_rfl
        exact (show Tryd.prog.wantsStandIn t = false by simpa using List.all_eq_true.1 hall t hm)⟩)
    (by kernel_rfl)
#print axioms card
end Go.Proofs.YtbiapfjhdggkpaaDoor.catalogParses
namespace Go.Proofs.YtbiapfjhdggkpaaDoor
/-- The claim. -/
theorem catalogParses_holds : Rows.CatalogParsesCardSaid := catalogParses.card
end Go.Proofs.YtbiapfjhdggkpaaDoor
