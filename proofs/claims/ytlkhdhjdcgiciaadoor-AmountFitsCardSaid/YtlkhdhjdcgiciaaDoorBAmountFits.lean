/- The law AmountFits in plain data, with the facts that it needs. Conditions: those of its statement. -/
import Derived.Test.YtlkhdhjdcgiciaaDoorGL
import Derived.IntWalk
import Derived.Test.YtlkhdhjdcgiciaaDoorPAOk
import Derived.Test.YtlkhdhjdcgiciaaDoorPAx2
import Derived.Test.YtlkhdhjdcgiciaaDoorPAx4
import Derived.Test.YtlkhdhjdcgiciaaDoorPAx5
namespace Go.Proofs.YtlkhdhjdcgiciaaDoor.Amt
set_option linter.unusedVariables false
def valid (m : Int) : Bool := decide (1 ≤ m) && decide (m ≤ 5)
def shaped (k n : Int) : Bool := (k == 1 && n == 1) || (k == 2 && decide (1 ≤ n) && decide (n ≤ 8))
def zero (m u : Int) : Bool := m == 0 && u == 0
def fits (k n m u : Int) : Bool := shaped k n && (if k = 1 then valid m && u == 0 else m == 0 && decide (1 ≤ u) && decide (u ≤ n))
end Go.Proofs.YtlkhdhjdcgiciaaDoor.Amt


/- What the printed functions of the packages mode and amount, and of their references, compute. Conditions: none of our own. -/
namespace Go.Proofs.YtlkhdhjdcgiciaaDoor
open Go.RowKit Go.Proofs.YtlkhdhjdcgiciaaDoorW.PrintWords Go.Proofs.YtlkhdhjdcgiciaaDoorW.PrintLast Go.Proofs.YtlkhdhjdcgiciaaDoorW.PrintMore Amt
namespace PA
set_option linter.unusedVariables false
set_option linter.unusedSimpArgs false
theorem shaped_eq (s : ByteArray) (k n h : Int) : amount_Shaped.f s k n h = some (shaped k n) := by
  unfold amount_Shaped.f shaped
  by_cases h1 : k = 1
  · subst h1; simp
  · rw [if_neg h1]
    by_cases h2 : k = 2
    · subst h2
      by_cases h3 : n ≥ 1
      · rw [if_pos rfl, if_pos h3]; simp [h3]
      · rw [if_pos rfl, if_neg h3]; simp [h3]
    · rw [if_neg h2]; simp [h1, h2]
theorem rshaped_eq (s : ByteArray) (k n h : Int) : clusterlocksref04_Shaped.f s k n h = some (shaped k n) := by
  unfold clusterlocksref04_Shaped.f shaped
  by_cases h1 : k = 1
  · subst h1
    by_cases h3 : n = 1
    · subst h3; simp
    · rw [if_pos rfl, if_neg h3, if_neg (by omega)]; simp [h3]
  · rw [if_neg h1]
    by_cases h2 : k = 2
    · subst h2
      by_cases h3 : n ≥ 1
      · rw [if_pos rfl, if_pos h3]; simp [h3]
      · rw [if_pos rfl, if_neg h3]; simp [h3]
    · rw [if_neg h2]; simp [h1, h2]
theorem valid_eq (m : Int) : mode_Valid.f m = some (valid m) := by
  unfold mode_Valid.f valid
  by_cases h : m ≥ 1
  · rw [if_pos h]; simp [h]
  · rw [if_neg h]; simp [h]
theorem rvalid_eq (m : Int) : clusterlocksref03_Valid.f m = some (valid m) := by
  unfold clusterlocksref03_Valid.f valid
  by_cases h : m ≥ 1
  · rw [if_pos h]; simp [h]
  · rw [if_neg h]; simp [h]
theorem zero_eq (m u : Int) : amount_Zero.f m u = some (zero m u) := rfl
theorem fits_eq (s : ByteArray) (k n h m u : Int) : amount_Fits.f s k n h m u = some (fits k n m u) := by
  unfold amount_Fits.f fits
  simp only [shaped_eq, valid_eq, Option.bind_some]
  cases h0 : shaped k n
  · simp
  · by_cases h1 : k = 1
    · subst h1
      cases hv : valid m <;> simp [hv]
    · by_cases h2 : m = 0
      · by_cases h3 : u ≥ 1 <;> simp [h1, h2, h3]
      · simp [h1, h2]
theorem rfits_eq (s : ByteArray) (k n h m u : Int) : clusterlocksref04_Fits.f s k n h m u = some (fits k n m u) := by
  unfold clusterlocksref04_Fits.f fits
  simp only [rshaped_eq, rvalid_eq, Option.bind_some]
  cases h0 : shaped k n
  · simp
  · by_cases h1 : k = 1
    · subst h1
      cases hv : valid m <;> simp [hv]
    · by_cases h2 : m = 0
      · by_cases h3 : u ≥ 1 <;> simp [h1, h2, h3]
      · simp [h1, h2]
end PA
end Go.Proofs.YtlkhdhjdcgiciaaDoor


/- What Covers and Join compute, in the program and in the reference, and that the two agree. Conditions: none of our own. -/
namespace Go.Proofs.YtlkhdhjdcgiciaaDoor
open Go.RowKit Go.Proofs.YtlkhdhjdcgiciaaDoorW.PrintWords Go.Proofs.YtlkhdhjdcgiciaaDoorW.PrintLast Go.Proofs.YtlkhdhjdcgiciaaDoorW.PrintMore Amt
namespace PA
set_option linter.unusedVariables false
set_option linter.unusedSimpArgs false
end PA
end Go.Proofs.YtlkhdhjdcgiciaaDoor


/- What the two functions Compatible compute of a list of amounts, and Room. Conditions: none of our own. -/
namespace Go.Proofs.YtlkhdhjdcgiciaaDoor
open Go.RowKit Go.Proofs.YtlkhdhjdcgiciaaDoorW.PrintWords Go.Proofs.YtlkhdhjdcgiciaaDoorW.PrintLast Go.Proofs.YtlkhdhjdcgiciaaDoorW.PrintMore Amt
namespace PA
set_option linter.unusedVariables false
set_option linter.unusedSimpArgs false
end PA
end Go.Proofs.YtlkhdhjdcgiciaaDoor


/- What the reference's function Compatible computes of a list of amounts, and its Room. Conditions: none of our own. -/
namespace Go.Proofs.YtlkhdhjdcgiciaaDoor
open Go.RowKit Go.Proofs.YtlkhdhjdcgiciaaDoorW.PrintWords Go.Proofs.YtlkhdhjdcgiciaaDoorW.PrintLast Go.Proofs.YtlkhdhjdcgiciaaDoorW.PrintMore Amt
namespace PA
set_option linter.unusedVariables false
set_option linter.unusedSimpArgs false
end PA
end Go.Proofs.YtlkhdhjdcgiciaaDoor


/- The sanity check of the amounts' laws, and how amounts are written. Conditions: none of our own. -/
namespace Go.Proofs.YtlkhdhjdcgiciaaDoor
open Go.RowKit Go.Proofs.YtlkhdhjdcgiciaaDoorW.PrintWords Go.Proofs.YtlkhdhjdcgiciaaDoorW.PrintLast Go.Proofs.YtlkhdhjdcgiciaaDoorW.PrintMore Amt
namespace PA
set_option linter.unusedVariables false
set_option linter.unusedSimpArgs false
theorem awake_at : clusterlockslaw04_awake.f 30 = some true := by decide +kernel
theorem awake_ev : Ev (fun k => clusterlockslaw04_awake.f k) true := Ev.of (fun k => clusterlockslaw04_awake.mono k) awake_at
end PA
end Go.Proofs.YtlkhdhjdcgiciaaDoor


/- Permitted amounts form a lattice; lists of amounts that may be held together: in plain Lean. Conditions: none of our own. -/
namespace Go.Proofs.YtlkhdhjdcgiciaaDoor
open Go.RowKit Go.Proofs.YtlkhdhjdcgiciaaDoorW.PrintWords Go.Proofs.YtlkhdhjdcgiciaaDoorW.PrintLast Go.Proofs.YtlkhdhjdcgiciaaDoorW.PrintMore Amt
namespace PA
set_option linter.unusedVariables false
set_option linter.unusedSimpArgs false
/-! ### Lists -/
end PA
end Go.Proofs.YtlkhdhjdcgiciaaDoor


/- AmountFits -/
namespace Go.Proofs.YtlkhdhjdcgiciaaDoor.PA
open Go.RowKit Go.Proofs.YtlkhdhjdcgiciaaDoorW.PrintWords Go.Proofs.YtlkhdhjdcgiciaaDoorW.PrintLast Go.Proofs.YtlkhdhjdcgiciaaDoorW.PrintMore
open Amt
set_option linter.unusedVariables false
set_option linter.unusedSimpArgs false
/-- The law as a statement on plain data. -/
def AmountFits_Pure : Prop := ∀ (x0 : S23) (x1 : S25), ok23 x0 → ok25 x1 → ∃ k, clusterlockslaw04_AmountFits.f k x0.f0 x0.f1 x0.f2 x0.f3 x1.f0 x1.f1 = some true
theorem AmountFits_pure : AmountFits_Pure := by
  intro x0 x1 _ _
  obtain ⟨K, hK⟩ := awake_ev
  have h := hK K (Nat.le_refl _)
  simp only at h
  refine ⟨K, ?_⟩
  unfold clusterlockslaw04_AmountFits.f
  simp only [h, Option.bind_some, shaped_eq, rshaped_eq, zero_eq, fits_eq, rfits_eq, zero]
  simp
end Go.Proofs.YtlkhdhjdcgiciaaDoor.PA

