/- The law CatalogFormats holds: whatever its arguments, the call returns true, and they read as they did. Conditions: none of our own; what the given row and card say. -/
import Derived.Test.YtbiapfjhdggkpaaDoorRows
import Derived.Test.YtbiapfjhdggkpaaDoorCards
import Derived.Test.YtbiapfjhdggkpaaDoorTie
import Derived.Test.YtbiapfjhdggkpaaDoorLaie
import Derived.Test.YtbiapfjhdggkpaaDoorPLCatalogFormats
import Derived.Test.YtbiapfjhdggkpaaDoorPAOk
import Derived.Test.YtbiapfjhdggkpaaDoorBCatalogFormats
import Derived.WalkKit
import Derived.ProofKit
import Derived.OpenShut
import Derived.ShutString
import Derived.ChangeOld
import Derived.Below
import Derived.SizedLaws
import Derived.LaidMore
import Derived.Stop.Joined
import Derived.SevenTiedAt
import Derived.Lib.SmallJoins
namespace Go.Proofs.YtbiapfjhdggkpaaDoor.catalogFormats
open Go Go.ChangeShapes Go.WideShapes Go.ChangeAt Go.RowKit
open Go.ChangeMaps (open_string shut_string)
open Go.Proofs.YtbiapfjhdggkpaaDoor.PA Go.Proofs.YtbiapfjhdggkpaaDoorW.PrintWords
set_option linter.unusedVariables false
set_option maxRecDepth 100000 in
theorem lifted (os : Os) (started : os.Started) (H : Type) (enc : TypeId × Value → H) :
    ReturnsInHanded {} Tryd.checked os 11 .any (fun w args => (Rows.catalogFormatsSpec.pre enc Tryd.prog Tryd.f11 [] false w args ∧ laidMetH Tryd.prog LAIE w) ∧ sizedMet enc Tryd.prog Tryd.f11 (OpenSpec.ofChange Rows.catalogFormatsSpec) false w args) (Rows.catalogFormatsSpec.post enc Tryd.prog Tryd.f11 false true false false) := by
  refine returnsInHanded_of_change_and (C := Tryd.checked) (X := fun w _ => laidMetH Tryd.prog LAIE w) (fun _ _ _ hh h => h.of_heap hh) own started (by kernel_rfl) Tryd.func11
    (ChangeSpec.witness_shaped (enc := enc) (C := Tryd.checked) (os := os) (X := fun w _ => laidMetH Tryd.prog LAIE w) false (World.laidAll Tryd.prog os LAIE) #[.slice none 0 0] 8 (World.laidAll_os _ _ _) (shape_mete os) (by kernel_rfl) (by kernel_rfl) (by kernel_rfl) (door_mete os _)) ?_
  intro W base args ds gs before hval0 hW hcnd hsz0 hL _
  have hval : ∀ (j : Nat) t v, Tryd.f11.params[j]? = some t → args[j]? = some v → Value.okWide Tryd.prog W .any base t v := hval0
  have hW' := hW
  obtain ⟨p, q, hA0, hV, rfl, hfz, hnd⟩ := hW
  have hA : DataW.TrodAll enc Tryd.prog W 0 (fun _ => true) true Tryd.f11.params.toList args.toList ds p := hA0
  have hsz : (DataW.weightsEach Tryd.prog (Tryd.f11.params.toList ++ Rows.catalogFormatsSpec.plain.varTypes Tryd.prog) (ds ++ gs)).all (· ≤ reachBytes) = true := hsz0
  rw [Tryd.params11] at hA hval hsz
  obtain ⟨v0, vs0, d0, ds0, p0, q0, hargs, rfl, rfl, h0, r0⟩ := trodAll_cons hA
  obtain ⟨rfl, rfl, rfl⟩ := trodAll_nil r0
  obtain rfl : args = #[v0] := by cases args; simp_all
  obtain ⟨rfl, rfl⟩ := trodVars_none hV
  have g0 := Open.weights_head (show (DataW.weightsEach Tryd.prog (24 :: _) (d0 :: _)).all (· ≤ reachBytes) = true from hsz)
  have k0_ := h0
  have lt0 : ∀ x ∈ p0, x.block < W.heap.size := by obtain ⟨m, hm⟩ := k0_; exact DataW.trod_lt m _ _ _ hm
  obtain ⟨fu0, hf0⟩ := h0
  obtain ⟨x0, hK0, ok0_⟩ := (Open.Opens.slice (b := 40) Tryd.underlying24 (by kernel_rfl) (by kernel_rfl) o26).2 H enc W _ _ fu0 _ _ hf0 g0.1
  obtain ⟨aa0, ln0, cp0, rfl⟩ := okWide_slice Tryd.underlying24 (hval 0 24 v0 rfl rfl)
  obtain ⟨A0_0, c0_0, e0, hl0_0, hC0_0⟩ := hK0
  obtain ⟨rfl, rfl, rfl⟩ : A0_0 = aa0 ∧ ln0 = x0.length ∧ c0_0 = cp0 := (show aa0 = A0_0 ∧ ln0 = x0.length ∧ cp0 = c0_0 by simpa [Value.cells] using e0).imp Eq.symm (And.imp id Eq.symm)
  clear hA0 hval0 hsz0 hsz
  obtain ⟨k, h⟩ := CatalogFormats_pure x0 ok0_
  refine (clusterlockslaw05_CatalogFormats.calls k A0_0 c0_0 x0 true W hC0_0 hl0_0 h rfl).mono fun e W' ⟨he, bel0⟩ => ?_
  have bel : Below W.heap.size W W' := bel0
  subst he
  exact ⟨_, rfl, _, _, _, [], _, [], hW', trodAll_mk1 (shut_bool Tryd.underlying4 _), (trodAll_cons_mk (Below.trod laidOut (by kernel_rfl) (of_decide_eq_true (by kernel_rfl)) k0_ bel lt0) trodAll_mk0), rfl, bel.frame _, fun h => by cases h⟩
theorem over : Rows.CatalogFormatsSaid :=
  OpenClaim.holds_of_wide 11 Tryd.f11 rfl rfl rfl rfl rfl rfl rfl ⟨rfl, rfl, rfl, rfl, rfl⟩ rfl rfl rfl rfl rfl (by kernel_rfl) Tryd.func11 (by kernel_rfl)
    (of_decide_eq_true (by kernel_rfl)) (by unfold Func.isWrapper; first | (rw [if_pos (by decide +kernel)]; kernel_rfl) | (rw [if_neg (by decide +kernel)]; exact ⟨rfl, rfl⟩))
    (fun os started H enc _ => lifted os started H enc)
theorem card : Rows.CatalogFormatsCardSaid :=
  Claim7.holds_tied_plain_at .later [] [.data, .data, .data, .data, .pinned] true (true, "9a890f67bf3e353cfc05ab2f2d4ce1e9640598429599cae647b3aaa74c53f0a1") false
    over (fun _ h => by cases h) (by kernel_rfl) (fun _ h => by cases h) catalogFormats_row_tie rfl ⟨rfl, rfl⟩ (by kernel_rfl) rfl
    (fun f fn hf hfn => by
      obtain rfl : f = 11 := Option.some.inj ((show Tryd.prog.funcNamed "clusterlocks/clusterlockslaw05.CatalogFormats" = some 11 by kernel_rfl).symm.trans hf) |>.symm
      obtain rfl : fn = Tryd.f11 := (Option.some.inj (Tryd.func11.symm.trans hfn)).symm
      exact ⟨by kernel_rfl, fun j t ht => by
        rw [Tryd.params11] at ht
        have hm : t ∈ [24] := by simpa using Array.mem_of_getElem? ht
        have hall : ([24].all fun u => !Tryd.prog.wantsStandIn u) = true := by kernel_rfl
        exact (show Tryd.prog.wantsStandIn t = false by simpa using List.all_eq_true.1 hall t hm)⟩)
    (by kernel_rfl)
#print axioms card
end Go.Proofs.YtbiapfjhdggkpaaDoor.catalogFormats
namespace Go.Proofs.YtbiapfjhdggkpaaDoor
/-- The claim. -/
theorem catalogFormats_holds : Rows.CatalogFormatsCardSaid := catalogFormats.card
end Go.Proofs.YtbiapfjhdggkpaaDoor
