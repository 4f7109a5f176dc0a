/- The law CatalogNames in plain data, with the facts that it needs. Conditions: those of its statement. -/
import Derived.Test.YtbiapfjhdggkpaaDoorT7
import Derived.Test.YtbiapfjhdggkpaaDoorPAOk
import Derived.Test.YtbiapfjhdggkpaaDoorPLCatalogNames
import Derived.Test.YtbiapfjhdggkpaaDoorPAx2
import Derived.Test.YtbiapfjhdggkpaaDoorPAx4
namespace Go.Proofs.YtbiapfjhdggkpaaDoor.PA
open Go.RowKit Go.Proofs.YtbiapfjhdggkpaaDoorW.PrintWords Go.Proofs.YtbiapfjhdggkpaaDoorW.PrintLast Go.Proofs.YtbiapfjhdggkpaaDoorW.PrintMore
set_option linter.unusedVariables false
set_option linter.unusedSimpArgs false
def letterB (c : Int) : Bool := decide (97 ≤ c) && decide (c ≤ 122)
def part (c : Int) : Bool := letterB c || (decide (48 ≤ c) && decide (c ≤ 57)) || c == 95 || c == 45
def ap (s : ByteArray) : Nat → Nat → Bool
  | 0, _ => true
  | d + 1, i => part (bt s (i : Int)) && ap s d (i + 1)
def resv (l : List UInt8) : Bool := l == [97, 108, 108] || (l == [97, 110, 121] || (l == [111, 102] || (l == [112, 114, 105, 111] || l == [108, 105, 109, 105, 116])))
def nameB (s : ByteArray) : Bool := decide (1 ≤ s.size) && (decide (s.size ≤ 12) && (letterB (bt s 0) && (!resv s.toList && ap s s.size 0)))
theorem res_eq (s : ByteArray) : catalog_Reserved.f s = some (resv s.toList) := by
  unfold catalog_Reserved.f resv
  generalize s.toList = x
  by_cases h1 : x = [97, 108, 108]
  · rw [if_pos h1, h1]; rfl
  · rw [if_neg h1, beq_eq_false_iff_ne.mpr h1]
    by_cases h2 : x = [97, 110, 121]
    · rw [if_pos h2, h2]; rfl
    · rw [if_neg h2, beq_eq_false_iff_ne.mpr h2]
      by_cases h3 : x = [111, 102]
      · rw [if_pos h3, h3]; rfl
      · rw [if_neg h3, beq_eq_false_iff_ne.mpr h3]
        by_cases h4 : x = [112, 114, 105, 111]
        · rw [if_pos h4, h4]; rfl
        · rw [if_neg h4, beq_eq_false_iff_ne.mpr h4]
          by_cases h5 : x = [108, 105, 109, 105, 116]
          · rw [if_pos h5, h5]; rfl
          · rw [if_neg h5, beq_eq_false_iff_ne.mpr h5]; rfl
theorem rres_eq (s : ByteArray) : clusterlocksref05_Reserved.f s = some (resv s.toList) := by
  unfold clusterlocksref05_Reserved.f resv
  generalize s.toList = x
  by_cases h1 : x = [97, 108, 108]
  · rw [if_pos h1, h1]; rfl
  · rw [if_neg h1, beq_eq_false_iff_ne.mpr h1]
    by_cases h2 : x = [97, 110, 121]
    · rw [if_pos h2, h2]; rfl
    · rw [if_neg h2, beq_eq_false_iff_ne.mpr h2]
      by_cases h3 : x = [111, 102]
      · rw [if_pos h3, h3]; rfl
      · rw [if_neg h3, beq_eq_false_iff_ne.mpr h3]
        by_cases h4 : x = [112, 114, 105, 111]
        · rw [if_pos h4, h4]; rfl
        · rw [if_neg h4, beq_eq_false_iff_ne.mpr h4]; rfl
theorem letter_eq (c : Int) : clusterlocksref05_Letter.f c = some (letterB c) := by
  unfold clusterlocksref05_Letter.f letterB
  by_cases h : 97 ≤ c
  · rw [if_pos h, decide_eq_true h, Bool.true_and]
  · rw [if_neg h, decide_eq_false h, Bool.false_and]
theorem part_eq (c : Int) : clusterlocksref05_Part.f c = some (part c) := by
  unfold clusterlocksref05_Part.f part
  rw [letter_eq, Option.bind_some]
  cases h : letterB c
  · rw [if_neg (by decide), Bool.false_or]
    by_cases h1 : 48 ≤ c
    · rw [if_pos h1, decide_eq_true h1, Bool.true_and]
      by_cases h2 : c ≤ 57
      · rw [if_pos h2, decide_eq_true h2]; rfl
      · rw [if_neg h2, decide_eq_false h2, Bool.false_or]
        by_cases h3 : c = 95
        · rw [if_pos h3, beq_iff_eq.mpr h3]; rfl
        · rw [if_neg h3, beq_eq_false_iff_ne.mpr h3]; rfl
    · rw [if_neg h1, decide_eq_false h1, Bool.false_and, Bool.false_or]
      by_cases h3 : c = 95
      · rw [if_pos h3, beq_iff_eq.mpr h3]; rfl
      · rw [if_neg h3, beq_eq_false_iff_ne.mpr h3]; rfl
  · rw [if_pos rfl]; rfl
theorem part_iff (c : Int) : part c = true ↔ ((97 ≤ c ∧ c ≤ 122) ∨ (48 ≤ c ∧ c ≤ 57)) ∨ c = 95 ∨ c = 45 := by
  simp only [part, letterB, Bool.or_eq_true, Bool.and_eq_true, decide_eq_true_eq, beq_iff_eq, or_assoc]
theorem vn_l0 (s : ByteArray) (hs : s.size ≤ 12) : ∀ (d i : Nat), i + d = s.size → Ev (fun k => catalog_ValidName.l0 k s (s.size : Int) (i : Int)) (ap s d i) := by
  intro d
  induction d with
  | zero =>
    intro i hi
    refine Ev.step (f := fun _ => some true) (fun k => ?_) (Ev.now _)
    rw [catalog_ValidName.l0, if_neg (by omega)]
  | succ d ih =>
    intro i hi
    have hw : wrap64 ((i : Int) + 1) = ((i + 1 : Nat) : Int) := by unfold wrap64; omega
    have ih' := ih (i + 1) (by omega)
    rw [ap]
    generalize hc : bt s (i : Int) = c
    cases h : part c
    · have h2 : ¬ (part c = true) := by rw [h]; decide
      rw [part_iff] at h2
      refine Ev.step (f := fun _ => some false) (fun k => ?_) (Ev.now _)
      rw [catalog_ValidName.l0, if_pos (by omega), if_pos (by omega), if_pos (by omega), hc]
      generalize catalog_ValidName.l0 k s (s.size : Int) (wrap64 ((i : Int) + 1)) = z
      repeat' split
      all_goals first | rfl | (exfalso; omega)
    · rw [part_iff] at h
      rw [Bool.true_and]
      refine Ev.step (fun k => ?_) ih'
      rw [catalog_ValidName.l0, if_pos (by omega), if_pos (by omega), if_pos (by omega), hc, hw]
      generalize catalog_ValidName.l0 k s (s.size : Int) ((i + 1 : Nat) : Int) = z
      repeat' split
      all_goals first | rfl | (exfalso; omega)
theorem rvn_l0 (s : ByteArray) (hs : s.size ≤ 12) : ∀ (d i : Nat), i + d = s.size → Ev (fun k => clusterlocksref05_ValidName.l0 k s (i : Int)) (ap s d i) := by
  intro d
  induction d with
  | zero =>
    intro i hi
    refine Ev.step (f := fun _ => some true) (fun k => ?_) (Ev.now _)
    rw [clusterlocksref05_ValidName.l0, if_neg (by omega)]
  | succ d ih =>
    intro i hi
    have hw : wrap64 ((i : Int) + 1) = ((i + 1 : Nat) : Int) := by unfold wrap64; omega
    have ih' := ih (i + 1) (by omega)
    rw [ap]
    cases h : part (bt s (i : Int))
    · refine Ev.step (f := fun _ => some false) (fun k => ?_) (Ev.now _)
      rw [clusterlocksref05_ValidName.l0, if_pos (by omega), if_pos (by omega), part_eq, Option.bind_some, h, if_neg (by decide)]
    · rw [Bool.true_and]
      refine Ev.step (fun k => ?_) ih'
      rw [clusterlocksref05_ValidName.l0, if_pos (by omega), if_pos (by omega), part_eq, Option.bind_some, h, if_pos rfl, hw]
theorem vn_j0 (s : ByteArray) (b : Bool) (hs : b = true ∨ s.size ≤ 12) : Ev (fun k => catalog_ValidName.j0 k s b) (!b && ap s s.size 0) := by
  cases b
  · refine Ev.step (fun k => ?_) (vn_l0 s (by rcases hs with h | h; exact absurd h (by decide); exact h) s.size 0 (by omega))
    rw [catalog_ValidName.j0, if_neg (by decide)]
    rfl
  · refine Ev.step (f := fun _ => some false) (fun k => ?_) (Ev.now _)
    rw [catalog_ValidName.j0, if_pos rfl]
theorem rvn_j0 (s : ByteArray) (b : Bool) (hs : b = true ∨ s.size ≤ 12) : Ev (fun k => clusterlocksref05_ValidName.j0 k s b) (!b && ap s s.size 0) := by
  cases b
  · refine Ev.step (fun k => ?_) (rvn_l0 s (by rcases hs with h | h; exact absurd h (by decide); exact h) s.size 0 (by omega))
    rw [clusterlocksref05_ValidName.j0, if_neg (by decide)]
    rfl
  · refine Ev.step (f := fun _ => some false) (fun k => ?_) (Ev.now _)
    rw [clusterlocksref05_ValidName.j0, if_pos rfl]
theorem vn_eq (s : ByteArray) : Ev (fun k => catalog_ValidName.f k s) (nameB s) := by
  unfold nameB
  by_cases h1 : 1 ≤ s.size
  rotate_left
  · rw [decide_eq_false h1, Bool.false_and]
    refine Ev.congr (fun k => ?_) (vn_j0 s true (.inl rfl))
    unfold catalog_ValidName.f
    rw [if_pos (by omega)]
  rw [decide_eq_true h1, Bool.true_and]
  by_cases h2 : s.size ≤ 12
  rotate_left
  · rw [decide_eq_false h2, Bool.false_and]
    refine Ev.congr (fun k => ?_) (vn_j0 s true (.inl rfl))
    unfold catalog_ValidName.f
    rw [if_neg (by omega), if_pos (by omega)]
  rw [decide_eq_true h2, Bool.true_and]
  unfold letterB
  by_cases h3 : 97 ≤ bt s 0
  rotate_left
  · rw [decide_eq_false h3, Bool.false_and, Bool.false_and]
    refine Ev.congr (fun k => ?_) (vn_j0 s true (.inl rfl))
    unfold catalog_ValidName.f
    rw [if_neg (by omega), if_neg (by omega), if_pos (by omega), if_pos (by omega)]
  rw [decide_eq_true h3, Bool.true_and]
  by_cases h4 : bt s 0 ≤ 122
  rotate_left
  · rw [decide_eq_false h4, Bool.false_and]
    refine Ev.congr (fun k => ?_) (vn_j0 s true (.inl rfl))
    unfold catalog_ValidName.f
    rw [if_neg (by omega), if_neg (by omega), if_pos (by omega), if_neg (by omega), if_pos (by omega)]
  rw [decide_eq_true h4, Bool.true_and]
  refine Ev.congr (fun k => ?_) (vn_j0 s (resv s.toList) (.inr h2))
  unfold catalog_ValidName.f
  rw [if_neg (by omega), if_neg (by omega), if_pos (by omega), if_neg (by omega), if_neg (by omega), res_eq, Option.bind_some]
theorem rvn_eq (s : ByteArray) : Ev (fun k => clusterlocksref05_ValidName.f k s) (nameB s) := by
  unfold nameB
  by_cases h1 : 1 ≤ s.size
  rotate_left
  · rw [decide_eq_false h1, Bool.false_and]
    refine Ev.congr (fun k => ?_) (rvn_j0 s true (.inl rfl))
    unfold clusterlocksref05_ValidName.f
    rw [if_pos (by omega)]
  rw [decide_eq_true h1, Bool.true_and]
  by_cases h2 : s.size ≤ 12
  rotate_left
  · rw [decide_eq_false h2, Bool.false_and]
    refine Ev.congr (fun k => ?_) (rvn_j0 s true (.inl rfl))
    unfold clusterlocksref05_ValidName.f
    rw [if_neg (by omega), if_pos (by omega)]
  rw [decide_eq_true h2, Bool.true_and]
  cases h3 : letterB (bt s 0)
  · rw [Bool.false_and]
    refine Ev.congr (fun k => ?_) (rvn_j0 s true (.inl rfl))
    unfold clusterlocksref05_ValidName.f
    rw [if_neg (by omega), if_neg (by omega), if_pos (by omega), letter_eq, Option.bind_some, h3, if_neg (by decide)]
  rw [Bool.true_and]
  refine Ev.congr (fun k => ?_) (rvn_j0 s (resv s.toList) (.inr h2))
  unfold clusterlocksref05_ValidName.f
  rw [if_neg (by omega), if_neg (by omega), if_pos (by omega), letter_eq, Option.bind_some, h3, if_pos rfl, rres_eq, Option.bind_some]
/-! ### resources -/
/-! ### catalogs -/
theorem ev_some {α : Type} {f : Nat → Option α} {r : α} (h : Ev f r) : ∃ k, f k = some r := by
  obtain ⟨K, hK⟩ := h
  exact ⟨K, hK K (Nat.le_refl _)⟩
theorem awake_ev : Ev (fun k => clusterlockslaw05_awake.f k) true := Ev.of (fun k => clusterlockslaw05_awake.mono k) clusterlockslaw05_awake.at
end Go.Proofs.YtbiapfjhdggkpaaDoor.PA


/- CatalogNames: the law in plain Lean. Conditions: none of our own. -/
namespace Go.Proofs.YtbiapfjhdggkpaaDoor.PA
open Go.RowKit Go.Proofs.YtbiapfjhdggkpaaDoorW.PrintWords Go.Proofs.YtbiapfjhdggkpaaDoorW.PrintLast Go.Proofs.YtbiapfjhdggkpaaDoorW.PrintMore
set_option linter.unusedVariables false
/-- The law as a statement on plain data. -/
def CatalogNames_Pure : Prop := ∀ (x0 : ByteArray), x0.size ≤ 140737488351232 → ∃ k, clusterlockslaw05_CatalogNames.f k x0 = some true
theorem CatalogNames_pure : CatalogNames_Pure := by
  intro s _
  refine ev_some ?_
  unfold clusterlockslaw05_CatalogNames.f
  simp only [res_eq, rres_eq, Option.bind_some]
  refine Ev.bind awake_ev (Ev.congr (fun k => if_pos rfl) (Ev.congr (fun k => if_pos (beq_self_eq_true _)) (Ev.bind (vn_eq s) (Ev.bind (rvn_eq s) ?_))))
  rw [beq_self_eq_true]
  exact Ev.now true
end Go.Proofs.YtbiapfjhdggkpaaDoor.PA

