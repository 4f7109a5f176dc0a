/- The law AmountTexts in plain data, with the facts that it needs. Conditions: those of its statement. -/
import Derived.Test.YtlkhdhjdcgiciaaDoorGL
import Derived.IntWalk
import Derived.Test.YtlkhdhjdcgiciaaDoorPAOk
import Derived.Test.YtlkhdhjdcgiciaaDoorPAx2
import Derived.Test.YtlkhdhjdcgiciaaDoorPAx3
import Derived.Test.YtlkhdhjdcgiciaaDoorPAx4
import Derived.Test.YtlkhdhjdcgiciaaDoorPAx7
import Derived.Test.YtlkhdhjdcgiciaaDoorPAx8
namespace Go.Proofs.YtlkhdhjdcgiciaaDoor.Amt
set_option linter.unusedVariables false
def zero (m u : Int) : Bool := m == 0 && u == 0
end Go.Proofs.YtlkhdhjdcgiciaaDoor.Amt


/- What the printed functions of the packages mode and amount, and of their references, compute. Conditions: none of our own. -/
namespace Go.Proofs.YtlkhdhjdcgiciaaDoor
open Go.RowKit Go.Proofs.YtlkhdhjdcgiciaaDoorW.PrintWords Go.Proofs.YtlkhdhjdcgiciaaDoorW.PrintLast Go.Proofs.YtlkhdhjdcgiciaaDoorW.PrintMore Amt
namespace PA
set_option linter.unusedVariables false
set_option linter.unusedSimpArgs false
theorem zero_eq (m u : Int) : amount_Zero.f m u = some (zero m u) := rfl
theorem rzero_eq (m u : Int) : clusterlocksref04_Zero.f m u = some (zero m u) := rfl
end PA
end Go.Proofs.YtlkhdhjdcgiciaaDoor


/- What Covers and Join compute, in the program and in the reference, and that the two agree. Conditions: none of our own. -/
namespace Go.Proofs.YtlkhdhjdcgiciaaDoor
open Go.RowKit Go.Proofs.YtlkhdhjdcgiciaaDoorW.PrintWords Go.Proofs.YtlkhdhjdcgiciaaDoorW.PrintLast Go.Proofs.YtlkhdhjdcgiciaaDoorW.PrintMore Amt
namespace PA
set_option linter.unusedVariables false
set_option linter.unusedSimpArgs false
end PA
end Go.Proofs.YtlkhdhjdcgiciaaDoor


/- What the two functions Compatible compute of a list of amounts, and Room. Conditions: none of our own. -/
namespace Go.Proofs.YtlkhdhjdcgiciaaDoor
open Go.RowKit Go.Proofs.YtlkhdhjdcgiciaaDoorW.PrintWords Go.Proofs.YtlkhdhjdcgiciaaDoorW.PrintLast Go.Proofs.YtlkhdhjdcgiciaaDoorW.PrintMore Amt
namespace PA
set_option linter.unusedVariables false
set_option linter.unusedSimpArgs false
end PA
end Go.Proofs.YtlkhdhjdcgiciaaDoor


/- What the reference's function Compatible computes of a list of amounts, and its Room. Conditions: none of our own. -/
namespace Go.Proofs.YtlkhdhjdcgiciaaDoor
open Go.RowKit Go.Proofs.YtlkhdhjdcgiciaaDoorW.PrintWords Go.Proofs.YtlkhdhjdcgiciaaDoorW.PrintLast Go.Proofs.YtlkhdhjdcgiciaaDoorW.PrintMore Amt
namespace PA
set_option linter.unusedVariables false
set_option linter.unusedSimpArgs false
end PA
end Go.Proofs.YtlkhdhjdcgiciaaDoor


/- The sanity check of the amounts' laws, and how amounts are written. Conditions: none of our own. -/
namespace Go.Proofs.YtlkhdhjdcgiciaaDoor
open Go.RowKit Go.Proofs.YtlkhdhjdcgiciaaDoorW.PrintWords Go.Proofs.YtlkhdhjdcgiciaaDoorW.PrintLast Go.Proofs.YtlkhdhjdcgiciaaDoorW.PrintMore Amt
namespace PA
set_option linter.unusedVariables false
set_option linter.unusedSimpArgs false
theorem awake_at : clusterlockslaw04_awake.f 30 = some true := by decide +kernel
theorem awake_ev : Ev (fun k => clusterlockslaw04_awake.f k) true := Ev.of (fun k => clusterlockslaw04_awake.mono k) awake_at
/-- How an amount is written. -/
def amtText (m u : Int) : List UInt8 := if zero m u then [45] else if u = 0 then (if m = 1 then [73, 83] else if m = 2 then [73, 88] else if m = 3 then [83] else if m = 4 then [83, 73, 88] else if m = 5 then [88] else []) else if m = 0 ∧ 1 ≤ u ∧ u ≤ 8 then [42, UInt8.ofNat (48 + u.toNat)] else []
theorem eight {u : Int} (h : 1 ≤ u ∧ u ≤ 8) : u = 1 ∨ u = 2 ∨ u = 3 ∨ u = 4 ∨ u = 5 ∨ u = 6 ∨ u = 7 ∨ u = 8 := by omega
theorem mfmt_eq (m : Int) : ∃ t : ByteArray, mode_Format.f m = some t ∧ t.toList = (if m = 1 then [73, 83] else if m = 2 then [73, 88] else if m = 3 then [83] else if m = 4 then [83, 73, 88] else if m = 5 then [88] else []) := by
  unfold mode_Format.f
  by_cases h1 : m = 1
  · exact ⟨_, if_pos h1, by rw [if_pos h1]; decide +kernel⟩
  · rw [if_neg h1, if_neg h1]
    by_cases h2 : m = 2
    · exact ⟨_, if_pos h2, by rw [if_pos h2]; decide +kernel⟩
    · rw [if_neg h2, if_neg h2]
      by_cases h3 : m = 3
      · exact ⟨_, if_pos h3, by rw [if_pos h3]; decide +kernel⟩
      · rw [if_neg h3, if_neg h3]
        by_cases h4 : m = 4
        · exact ⟨_, if_pos h4, by rw [if_pos h4]; decide +kernel⟩
        · rw [if_neg h4, if_neg h4]
          by_cases h5 : m = 5
          · exact ⟨_, if_pos h5, by rw [if_pos h5]; decide +kernel⟩
          · rw [if_neg h5, if_neg h5]
            exact ⟨_, rfl, by decide +kernel⟩
theorem rmfmt_eq (m : Int) : ∃ t : ByteArray, clusterlocksref03_Format.f m = some t ∧ t.toList = (if m = 1 then [73, 83] else if m = 2 then [73, 88] else if m = 3 then [83] else if m = 4 then [83, 73, 88] else if m = 5 then [88] else []) := mfmt_eq m
theorem fmt_eq (m u : Int) : ∃ t : ByteArray, Ev (fun k => amount_Format.f k m u) t ∧ t.toList = amtText m u := by
  unfold amtText
  cases hz : zero m u
  · by_cases hu : u = 0
    · obtain ⟨t, h1, h2⟩ := mfmt_eq m
      refine ⟨t, Ev.congr (fun k => ?_) (Ev.now t), by simpa [hu] using h2⟩
      unfold amount_Format.f
      simp only [zero_eq, Option.bind_some, hz, h1]
      rw [if_neg (by decide), if_pos hu]
    · by_cases hm : m = 0 ∧ 1 ≤ u ∧ u ≤ 8
      · obtain ⟨rfl, hm⟩ := hm
        refine ⟨(⟨#[42]⟩ : ByteArray) ++ itoa2 u, ⟨2, fun k hk => ?_⟩, ?_⟩
        · obtain ⟨k, rfl⟩ : ∃ m, k = m + 1 := ⟨k - 1, by omega⟩
          rcases eight hm with rfl | rfl | rfl | rfl | rfl | rfl | rfl | rfl <;> rfl
        · rcases eight hm with rfl | rfl | rfl | rfl | rfl | rfl | rfl | rfl <;> decide +kernel
      · refine ⟨⟨#[]⟩, ⟨2, fun k hk => ?_⟩, ?_⟩
        · obtain ⟨k, rfl⟩ : ∃ m, k = m + 1 := ⟨k - 1, by omega⟩
          unfold amount_Format.f
          simp only [zero_eq, Option.bind_some, hz, amount_Format.j0]
          rw [if_neg (by decide), if_neg hu]
          by_cases h0 : m = 0
          · rw [if_pos h0]
            by_cases h1 : u ≥ 1
            · rw [if_pos h1, if_neg (by simp; omega)]
            · rw [if_neg h1, if_neg (by decide)]
          · rw [if_neg h0, if_neg (by decide)]
        · rw [if_neg (by decide), if_neg hu, if_neg hm]
          decide +kernel
  · refine ⟨⟨#[45]⟩, Ev.congr (fun k => ?_) (Ev.now _), by simp <;> decide +kernel⟩
    unfold amount_Format.f
    simp only [zero_eq, Option.bind_some, hz]
    rw [if_pos trivial]
theorem rfmt_eq (m u : Int) : ∃ t : ByteArray, Ev (fun k => clusterlocksref04_Format.f k m u) t ∧ t.toList = amtText m u := by
  unfold amtText
  cases hz : zero m u
  · by_cases hu : u = 0
    · obtain ⟨t, h1, h2⟩ := rmfmt_eq m
      refine ⟨t, Ev.congr (fun k => ?_) (Ev.now t), by simpa [hu] using h2⟩
      unfold clusterlocksref04_Format.f
      simp only [rzero_eq, Option.bind_some, hz, h1]
      rw [if_neg (by decide), if_pos hu]
    · by_cases hm : m = 0 ∧ 1 ≤ u ∧ u ≤ 8
      · obtain ⟨rfl, hm⟩ := hm
        refine ⟨(⟨#[42]⟩ : ByteArray) ++ strOfNums [(wrap64 (48 + u)) % 256], ⟨3, fun k hk => ?_⟩, ?_⟩
        · obtain ⟨k, rfl⟩ : ∃ m, k = m + 2 := ⟨k - 2, by omega⟩
          rcases eight hm with rfl | rfl | rfl | rfl | rfl | rfl | rfl | rfl <;> rfl
        · rcases eight hm with rfl | rfl | rfl | rfl | rfl | rfl | rfl | rfl <;> decide +kernel
      · refine ⟨⟨#[]⟩, ⟨2, fun k hk => ?_⟩, ?_⟩
        · obtain ⟨k, rfl⟩ : ∃ m, k = m + 1 := ⟨k - 1, by omega⟩
          unfold clusterlocksref04_Format.f
          simp only [rzero_eq, Option.bind_some, hz, clusterlocksref04_Format.j0]
          rw [if_neg (by decide), if_neg hu]
          by_cases h0 : m = 0
          · rw [if_pos h0]
            by_cases h1 : u ≥ 1
            · rw [if_pos h1, if_neg (by simp; omega)]
            · rw [if_neg h1, if_neg (by decide)]
          · rw [if_neg h0, if_neg (by decide)]
        · rw [if_neg (by decide), if_neg hu, if_neg hm]
          decide +kernel
  · refine ⟨⟨#[45]⟩, Ev.congr (fun k => ?_) (Ev.now _), by simp <;> decide +kernel⟩
    unfold clusterlocksref04_Format.f
    simp only [rzero_eq, Option.bind_some, hz]
    rw [if_pos trivial]
end PA
end Go.Proofs.YtlkhdhjdcgiciaaDoor


/- Permitted amounts form a lattice; lists of amounts that may be held together: in plain Lean. Conditions: none of our own. -/
namespace Go.Proofs.YtlkhdhjdcgiciaaDoor
open Go.RowKit Go.Proofs.YtlkhdhjdcgiciaaDoorW.PrintWords Go.Proofs.YtlkhdhjdcgiciaaDoorW.PrintLast Go.Proofs.YtlkhdhjdcgiciaaDoorW.PrintMore Amt
namespace PA
set_option linter.unusedVariables false
set_option linter.unusedSimpArgs false
/-! ### Lists -/
end PA
end Go.Proofs.YtlkhdhjdcgiciaaDoor


/- AmountTexts -/
namespace Go.Proofs.YtlkhdhjdcgiciaaDoor.PA
open Go.RowKit Go.Proofs.YtlkhdhjdcgiciaaDoorW.PrintWords Go.Proofs.YtlkhdhjdcgiciaaDoorW.PrintLast Go.Proofs.YtlkhdhjdcgiciaaDoorW.PrintMore
open Amt
set_option linter.unusedVariables false
set_option linter.unusedSimpArgs false
/-- The law as a statement on plain data. -/
def AmountTexts_Pure : Prop := ∀ (x0 : S25), ok25 x0 → ∃ k, clusterlockslaw04_AmountTexts.f k x0.f0 x0.f1 = some true
theorem AmountTexts_pure : AmountTexts_Pure := by
  intro x1 _
  obtain ⟨K, hK⟩ := awake_ev
  obtain ⟨t, ⟨K1, hK1⟩, ht⟩ := fmt_eq x1.f0 x1.f1
  obtain ⟨t2, ⟨K2, hK2⟩, ht2⟩ := rfmt_eq x1.f0 x1.f1
  have h := hK (K + K1 + K2) (by omega)
  have h1 := hK1 (K + K1 + K2) (by omega)
  have h2 := hK2 (K + K1 + K2) (by omega)
  simp only at h h1 h2
  refine ⟨K + K1 + K2, ?_⟩
  unfold clusterlockslaw04_AmountTexts.f
  simp only [h, h1, h2, Option.bind_some, ht, ht2]
  simp
end Go.Proofs.YtlkhdhjdcgiciaaDoor.PA

