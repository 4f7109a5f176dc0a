/- The law CatalogParses in plain data, with the facts that it needs. Conditions: those of its statement. -/
import Derived.Test.YtbiapfjhdggkpaaDoorT7
import Derived.Test.YtbiapfjhdggkpaaDoorT15
import Derived.Lib.Strings
import Derived.Lib.SmallJoins
import Derived.Test.YtbiapfjhdggkpaaDoorT12
import Derived.Lib.IndexLaws
import Derived.Lib.SplitLaws
import Derived.Test.YtbiapfjhdggkpaaDoorPAOk
import Derived.Test.YtbiapfjhdggkpaaDoorPLCatalogParses
import Derived.Test.YtbiapfjhdggkpaaDoorPAx12
import Derived.Test.YtbiapfjhdggkpaaDoorPAx13
import Derived.Test.YtbiapfjhdggkpaaDoorPAx15
import Derived.Test.YtbiapfjhdggkpaaDoorPAx2
import Derived.Test.YtbiapfjhdggkpaaDoorPAx3
import Derived.Test.YtbiapfjhdggkpaaDoorPAx4
import Derived.Test.YtbiapfjhdggkpaaDoorPAx5
import Derived.Test.YtbiapfjhdggkpaaDoorPAx7
namespace Go.Proofs.YtbiapfjhdggkpaaDoor.PA
open Go.RowKit Go.Proofs.YtbiapfjhdggkpaaDoorW.PrintWords Go.Proofs.YtbiapfjhdggkpaaDoorW.PrintLast Go.Proofs.YtbiapfjhdggkpaaDoorW.PrintMore
set_option linter.unusedVariables false
set_option linter.unusedSimpArgs false
theorem rd26 (l : List S26) (i : Nat) (h : i < l.length) : rd_T26 l (i : Int) = l[i] := by
  unfold rd_T26
  rw [Int.toNat_natCast, List.getD_eq_getElem?_getD, List.getElem?_eq_getElem h]
  rfl
def letterB (c : Int) : Bool := decide (97 ≤ c) && decide (c ≤ 122)
def part (c : Int) : Bool := letterB c || (decide (48 ≤ c) && decide (c ≤ 57)) || c == 95 || c == 45
def ap (s : ByteArray) : Nat → Nat → Bool
  | 0, _ => true
  | d + 1, i => part (bt s (i : Int)) && ap s d (i + 1)
def resv (l : List UInt8) : Bool := l == [97, 108, 108] || (l == [97, 110, 121] || (l == [111, 102] || (l == [112, 114, 105, 111] || l == [108, 105, 109, 105, 116])))
def nameB (s : ByteArray) : Bool := decide (1 ≤ s.size) && (decide (s.size ≤ 12) && (letterB (bt s 0) && (!resv s.toList && ap s s.size 0)))
theorem res_eq (s : ByteArray) : catalog_Reserved.f s = some (resv s.toList) := by
  unfold catalog_Reserved.f resv
  generalize s.toList = x
  by_cases h1 : x = [97, 108, 108]
  · rw [if_pos h1, h1]; rfl
  · rw [if_neg h1, beq_eq_false_iff_ne.mpr h1]
    by_cases h2 : x = [97, 110, 121]
    · rw [if_pos h2, h2]; rfl
    · rw [if_neg h2, beq_eq_false_iff_ne.mpr h2]
      by_cases h3 : x = [111, 102]
      · rw [if_pos h3, h3]; rfl
      · rw [if_neg h3, beq_eq_false_iff_ne.mpr h3]
        by_cases h4 : x = [112, 114, 105, 111]
        · rw [if_pos h4, h4]; rfl
        · rw [if_neg h4, beq_eq_false_iff_ne.mpr h4]
          by_cases h5 : x = [108, 105, 109, 105, 116]
          · rw [if_pos h5, h5]; rfl
          · rw [if_neg h5, beq_eq_false_iff_ne.mpr h5]; rfl
theorem rres_eq (s : ByteArray) : clusterlocksref05_Reserved.f s = some (resv s.toList) := by
  unfold clusterlocksref05_Reserved.f resv
  generalize s.toList = x
  by_cases h1 : x = [97, 108, 108]
  · rw [if_pos h1, h1]; rfl
  · rw [if_neg h1, beq_eq_false_iff_ne.mpr h1]
    by_cases h2 : x = [97, 110, 121]
    · rw [if_pos h2, h2]; rfl
    · rw [if_neg h2, beq_eq_false_iff_ne.mpr h2]
      by_cases h3 : x = [111, 102]
      · rw [if_pos h3, h3]; rfl
      · rw [if_neg h3, beq_eq_false_iff_ne.mpr h3]
        by_cases h4 : x = [112, 114, 105, 111]
        · rw [if_pos h4, h4]; rfl
        · rw [if_neg h4, beq_eq_false_iff_ne.mpr h4]; rfl
theorem letter_eq (c : Int) : clusterlocksref05_Letter.f c = some (letterB c) := by
  unfold clusterlocksref05_Letter.f letterB
  by_cases h : 97 ≤ c
  · rw [if_pos h, decide_eq_true h, Bool.true_and]
  · rw [if_neg h, decide_eq_false h, Bool.false_and]
theorem part_eq (c : Int) : clusterlocksref05_Part.f c = some (part c) := by
  unfold clusterlocksref05_Part.f part
  rw [letter_eq, Option.bind_some]
  cases h : letterB c
  · rw [if_neg (by decide), Bool.false_or]
    by_cases h1 : 48 ≤ c
    · rw [if_pos h1, decide_eq_true h1, Bool.true_and]
      by_cases h2 : c ≤ 57
      · rw [if_pos h2, decide_eq_true h2]; rfl
      · rw [if_neg h2, decide_eq_false h2, Bool.false_or]
        by_cases h3 : c = 95
        · rw [if_pos h3, beq_iff_eq.mpr h3]; rfl
        · rw [if_neg h3, beq_eq_false_iff_ne.mpr h3]; rfl
    · rw [if_neg h1, decide_eq_false h1, Bool.false_and, Bool.false_or]
      by_cases h3 : c = 95
      · rw [if_pos h3, beq_iff_eq.mpr h3]; rfl
      · rw [if_neg h3, beq_eq_false_iff_ne.mpr h3]; rfl
  · rw [if_pos rfl]; rfl
theorem part_iff (c : Int) : part c = true ↔ ((97 ≤ c ∧ c ≤ 122) ∨ (48 ≤ c ∧ c ≤ 57)) ∨ c = 95 ∨ c = 45 := by
  simp only [part, letterB, Bool.or_eq_true, Bool.and_eq_true, decide_eq_true_eq, beq_iff_eq, or_assoc]
theorem vn_l0 (s : ByteArray) (hs : s.size ≤ 12) : ∀ (d i : Nat), i + d = s.size → Ev (fun k => catalog_ValidName.l0 k s (s.size : Int) (i : Int)) (ap s d i) := by
  intro d
  induction d with
  | zero =>
    intro i hi
    refine Ev.step (f := fun _ => some true) (fun k => ?_) (Ev.now _)
    rw [catalog_ValidName.l0, if_neg (by omega)]
  | succ d ih =>
    intro i hi
    have hw : wrap64 ((i : Int) + 1) = ((i + 1 : Nat) : Int) := by unfold wrap64; omega
    have ih' := ih (i + 1) (by omega)
    rw [ap]
    generalize hc : bt s (i : Int) = c
    cases h : part c
    · have h2 : ¬ (part c = true) := by rw [h]; decide
      rw [part_iff] at h2
      refine Ev.step (f := fun _ => some false) (fun k => ?_) (Ev.now _)
      rw [catalog_ValidName.l0, if_pos (by omega), if_pos (by omega), if_pos (by omega), hc]
      generalize catalog_ValidName.l0 k s (s.size : Int) (wrap64 ((i : Int) + 1)) = z
      repeat' split
      all_goals first | rfl | (exfalso; omega)
    · rw [part_iff] at h
      rw [Bool.true_and]
      refine Ev.step (fun k => ?_) ih'
      rw [catalog_ValidName.l0, if_pos (by omega), if_pos (by omega), if_pos (by omega), hc, hw]
      generalize catalog_ValidName.l0 k s (s.size : Int) ((i + 1 : Nat) : Int) = z
      repeat' split
      all_goals first | rfl | (exfalso; omega)
theorem rvn_l0 (s : ByteArray) (hs : s.size ≤ 12) : ∀ (d i : Nat), i + d = s.size → Ev (fun k => clusterlocksref05_ValidName.l0 k s (i : Int)) (ap s d i) := by
  intro d
  induction d with
  | zero =>
    intro i hi
    refine Ev.step (f := fun _ => some true) (fun k => ?_) (Ev.now _)
    rw [clusterlocksref05_ValidName.l0, if_neg (by omega)]
  | succ d ih =>
    intro i hi
    have hw : wrap64 ((i : Int) + 1) = ((i + 1 : Nat) : Int) := by unfold wrap64; omega
    have ih' := ih (i + 1) (by omega)
    rw [ap]
    cases h : part (bt s (i : Int))
    · refine Ev.step (f := fun _ => some false) (fun k => ?_) (Ev.now _)
      rw [clusterlocksref05_ValidName.l0, if_pos (by omega), if_pos (by omega), part_eq, Option.bind_some, h, if_neg (by decide)]
    · rw [Bool.true_and]
      refine Ev.step (fun k => ?_) ih'
      rw [clusterlocksref05_ValidName.l0, if_pos (by omega), if_pos (by omega), part_eq, Option.bind_some, h, if_pos rfl, hw]
theorem vn_j0 (s : ByteArray) (b : Bool) (hs : b = true ∨ s.size ≤ 12) : Ev (fun k => catalog_ValidName.j0 k s b) (!b && ap s s.size 0) := by
  cases b
  · refine Ev.step (fun k => ?_) (vn_l0 s (by rcases hs with h | h; exact absurd h (by decide); exact h) s.size 0 (by omega))
    rw [catalog_ValidName.j0, if_neg (by decide)]
    rfl
  · refine Ev.step (f := fun _ => some false) (fun k => ?_) (Ev.now _)
    rw [catalog_ValidName.j0, if_pos rfl]
theorem rvn_j0 (s : ByteArray) (b : Bool) (hs : b = true ∨ s.size ≤ 12) : Ev (fun k => clusterlocksref05_ValidName.j0 k s b) (!b && ap s s.size 0) := by
  cases b
  · refine Ev.step (fun k => ?_) (rvn_l0 s (by rcases hs with h | h; exact absurd h (by decide); exact h) s.size 0 (by omega))
    rw [clusterlocksref05_ValidName.j0, if_neg (by decide)]
    rfl
  · refine Ev.step (f := fun _ => some false) (fun k => ?_) (Ev.now _)
    rw [clusterlocksref05_ValidName.j0, if_pos rfl]
theorem vn_eq (s : ByteArray) : Ev (fun k => catalog_ValidName.f k s) (nameB s) := by
  unfold nameB
  by_cases h1 : 1 ≤ s.size
  rotate_left
  · rw [decide_eq_false h1, Bool.false_and]
    refine Ev.congr (fun k => ?_) (vn_j0 s true (.inl rfl))
    unfold catalog_ValidName.f
    rw [if_pos (by omega)]
  rw [decide_eq_true h1, Bool.true_and]
  by_cases h2 : s.size ≤ 12
  rotate_left
  · rw [decide_eq_false h2, Bool.false_and]
    refine Ev.congr (fun k => ?_) (vn_j0 s true (.inl rfl))
    unfold catalog_ValidName.f
    rw [if_neg (by omega), if_pos (by omega)]
  rw [decide_eq_true h2, Bool.true_and]
  unfold letterB
  by_cases h3 : 97 ≤ bt s 0
  rotate_left
  · rw [decide_eq_false h3, Bool.false_and, Bool.false_and]
    refine Ev.congr (fun k => ?_) (vn_j0 s true (.inl rfl))
    unfold catalog_ValidName.f
    rw [if_neg (by omega), if_neg (by omega), if_pos (by omega), if_pos (by omega)]
  rw [decide_eq_true h3, Bool.true_and]
  by_cases h4 : bt s 0 ≤ 122
  rotate_left
  · rw [decide_eq_false h4, Bool.false_and]
    refine Ev.congr (fun k => ?_) (vn_j0 s true (.inl rfl))
    unfold catalog_ValidName.f
    rw [if_neg (by omega), if_neg (by omega), if_pos (by omega), if_neg (by omega), if_pos (by omega)]
  rw [decide_eq_true h4, Bool.true_and]
  refine Ev.congr (fun k => ?_) (vn_j0 s (resv s.toList) (.inr h2))
  unfold catalog_ValidName.f
  rw [if_neg (by omega), if_neg (by omega), if_pos (by omega), if_neg (by omega), if_neg (by omega), res_eq, Option.bind_some]
theorem rvn_eq (s : ByteArray) : Ev (fun k => clusterlocksref05_ValidName.f k s) (nameB s) := by
  unfold nameB
  by_cases h1 : 1 ≤ s.size
  rotate_left
  · rw [decide_eq_false h1, Bool.false_and]
    refine Ev.congr (fun k => ?_) (rvn_j0 s true (.inl rfl))
    unfold clusterlocksref05_ValidName.f
    rw [if_pos (by omega)]
  rw [decide_eq_true h1, Bool.true_and]
  by_cases h2 : s.size ≤ 12
  rotate_left
  · rw [decide_eq_false h2, Bool.false_and]
    refine Ev.congr (fun k => ?_) (rvn_j0 s true (.inl rfl))
    unfold clusterlocksref05_ValidName.f
    rw [if_neg (by omega), if_pos (by omega)]
  rw [decide_eq_true h2, Bool.true_and]
  cases h3 : letterB (bt s 0)
  · rw [Bool.false_and]
    refine Ev.congr (fun k => ?_) (rvn_j0 s true (.inl rfl))
    unfold clusterlocksref05_ValidName.f
    rw [if_neg (by omega), if_neg (by omega), if_pos (by omega), letter_eq, Option.bind_some, h3, if_neg (by decide)]
  rw [Bool.true_and]
  refine Ev.congr (fun k => ?_) (rvn_j0 s (resv s.toList) (.inr h2))
  unfold clusterlocksref05_ValidName.f
  rw [if_neg (by omega), if_neg (by omega), if_pos (by omega), letter_eq, Option.bind_some, h3, if_pos rfl, rres_eq, Option.bind_some]
/-! ### resources -/
def shp (k n : Int) : Bool := (k == 1 && n == 1) || (k == 2 && (decide (1 ≤ n) && decide (n ≤ 8)))
theorem shaped_eq (s : ByteArray) (k n h : Int) : amount_Shaped.f s k n h = some (shp k n) := by
  unfold amount_Shaped.f shp
  by_cases h1 : k = 1
  · subst h1
    rw [if_pos rfl]
    cases (n == 1) <;> rfl
  · rw [if_neg h1, beq_eq_false_iff_ne.mpr h1, Bool.false_and, Bool.false_or]
    by_cases h2 : k = 2
    · rw [if_pos h2, beq_iff_eq.mpr h2, Bool.true_and]
      by_cases h3 : 1 ≤ n
      · rw [if_pos h3, decide_eq_true h3, Bool.true_and]
      · rw [if_neg h3, decide_eq_false h3, Bool.false_and]
    · rw [if_neg h2, beq_eq_false_iff_ne.mpr h2, Bool.false_and]
theorem rshaped_eq (s : ByteArray) (k n h : Int) : clusterlocksref04_Shaped.f s k n h = some (shp k n) := by
  unfold clusterlocksref04_Shaped.f shp
  by_cases h1 : k = 1
  · subst h1
    rw [if_pos rfl]
    by_cases hn : n = 1
    · rw [if_pos hn, hn]; rfl
    · rw [if_neg hn, if_neg (by decide), beq_eq_false_iff_ne.mpr hn]; rfl
  · rw [if_neg h1, beq_eq_false_iff_ne.mpr h1, Bool.false_and, Bool.false_or]
    by_cases h2 : k = 2
    · rw [if_pos h2, beq_iff_eq.mpr h2, Bool.true_and]
      by_cases h3 : 1 ≤ n
      · rw [if_pos h3, decide_eq_true h3, Bool.true_and]
      · rw [if_neg h3, decide_eq_false h3, Bool.false_and]
    · rw [if_neg h2, beq_eq_false_iff_ne.mpr h2, Bool.false_and]
def resB (s : ByteArray) (k n h : Int) : Bool := nameB s && (shp k n && (decide (0 ≤ h) && decide (h < 4)))
theorem vr_tail (b : Bool) (h : Int) : (if b = true then (if h ≥ 0 then some (decide (h < 4)) else some false) else some false) = some (b && (decide (0 ≤ h) && decide (h < 4))) := by
  cases b
  · rfl
  · rw [if_pos rfl, Bool.true_and]
    by_cases h0 : 0 ≤ h
    · rw [if_pos h0, decide_eq_true h0, Bool.true_and]
    · rw [if_neg h0, decide_eq_false h0, Bool.false_and]
theorem vr_eq (s : ByteArray) (k n h : Int) : Ev (fun q => catalog_ValidResource.f q s k n h) (resB s k n h) := by
  unfold catalog_ValidResource.f resB
  simp only [shaped_eq, Option.bind_some, vr_tail]
  refine Ev.bind (vn_eq s) ?_
  cases nameB s
  · exact Ev.now _
  · exact Ev.now _
theorem rvr_eq (s : ByteArray) (k n h : Int) : Ev (fun q => clusterlocksref05_ValidResource.f q s k n h) (resB s k n h) := by
  unfold clusterlocksref05_ValidResource.f resB
  simp only [rshaped_eq, Option.bind_some, vr_tail]
  refine Ev.bind (rvn_eq s) ?_
  cases nameB s
  · exact Ev.now _
  · exact Ev.now _
/-! ### catalogs -/
def rB (x : S26) : Bool := resB x.f0 x.f1 x.f2 x.f3
def lt (x y : S26) : Bool := Op.bytesLess x.f0.toList y.f0.toList
def vok (l : List S26) (i : Nat) : Bool := rB (rd_T26 l (i : Int)) && (i == 0 || lt (rd_T26 l ((i : Int) - 1)) (rd_T26 l (i : Int)))
def vall (l : List S26) : Nat → Nat → Bool
  | 0, _ => true
  | d + 1, i => vok l i && vall l d (i + 1)
def validB (l : List S26) : Bool := decide (l.length ≤ 8) && vall l l.length 0
theorem v_l0 (l : List S26) (hl : l.length ≤ 8) : ∀ (d i : Nat), i + d = l.length → Ev (fun k => catalog_Valid.l0 k l l (l.length : Int) (i : Int)) (vall l d i) := by
  intro d
  induction d with
  | zero =>
    intro i hi
    refine Ev.step (f := fun _ => some true) (fun k => ?_) (Ev.now _)
    rw [catalog_Valid.l0, if_neg (by omega)]
  | succ d ih =>
    intro i hi
    have hw : wrap64 ((i : Int) + 1) = ((i + 1 : Nat) : Int) := by unfold wrap64; omega
    have hw2 : wrap64 ((i : Int) - 1) = (i : Int) - 1 := by unfold wrap64; omega
    have ih' := ih (i + 1) (by omega)
    rw [vall]
    refine Ev.step (f := fun k => (catalog_ValidResource.f k (rd_T26 l (i : Int)).f0 (rd_T26 l (i : Int)).f1 (rd_T26 l (i : Int)).f2 (rd_T26 l (i : Int)).f3).bind fun t => if t = true then (if (i : Int) > 0 then (if 0 ≤ (i : Int) - 1 then (if (i : Int) - 1 < (l.length : Int) then (if Op.bytesLess (rd_T26 l ((i : Int) - 1)).f0.toList (rd_T26 l (i : Int)).f0.toList = true then catalog_Valid.l0 k l l (l.length : Int) ((i + 1 : Nat) : Int) else some false) else none) else none) else catalog_Valid.l0 k l l (l.length : Int) ((i + 1 : Nat) : Int)) else some false) (fun k => ?_) ?_
    · rw [catalog_Valid.l0, if_pos (by omega), if_pos (by omega), if_pos (by omega), hw, hw2]
    · refine Ev.bind (vr_eq _ _ _ _) ?_
      unfold vok rB lt
      cases resB (rd_T26 l (i : Int)).f0 (rd_T26 l (i : Int)).f1 (rd_T26 l (i : Int)).f2 (rd_T26 l (i : Int)).f3
      · exact Ev.now _
      · rw [Bool.true_and]
        refine Ev.congr (fun k => if_pos rfl) ?_
        by_cases h0 : i = 0
        · rw [beq_iff_eq.mpr h0, Bool.true_or, Bool.true_and]
          exact Ev.congr (fun k => if_neg (by omega)) ih'
        · rw [beq_eq_false_iff_ne.mpr h0, Bool.false_or]
          refine Ev.congr (fun k => by rw [if_pos (by omega), if_pos (by omega), if_pos (by omega)]) ?_
          cases Op.bytesLess (rd_T26 l ((i : Int) - 1)).f0.toList (rd_T26 l (i : Int)).f0.toList
          · exact Ev.now _
          · exact Ev.congr (fun k => if_pos rfl) ih'
theorem v_eq (l : List S26) : Ev (fun k => catalog_Valid.f k l) (validB l) := by
  unfold catalog_Valid.f validB
  by_cases hl : l.length ≤ 8
  · rw [decide_eq_true hl, Bool.true_and]
    exact Ev.congr (fun k => if_neg (by omega)) (v_l0 l hl l.length 0 (by omega))
  · rw [decide_eq_false hl, Bool.false_and]
    exact Ev.congr (fun k => if_pos (by omega)) (Ev.now _)
theorem rv_l0 (l : List S26) (hl : l.length ≤ 8) : ∀ (d i : Nat), i + d = l.length → Ev (fun k => clusterlocksref05_Valid.l0 k l (i : Int)) (vall l d i) := by
  intro d
  induction d with
  | zero =>
    intro i hi
    refine Ev.step (f := fun _ => some true) (fun k => ?_) (Ev.now _)
    rw [clusterlocksref05_Valid.l0, if_neg (by omega)]
  | succ d ih =>
    intro i hi
    have hw : wrap64 ((i : Int) + 1) = ((i + 1 : Nat) : Int) := by unfold wrap64; omega
    have hw2 : wrap64 ((i : Int) - 1) = (i : Int) - 1 := by unfold wrap64; omega
    have ih' := ih (i + 1) (by omega)
    rw [vall]
    refine Ev.step (f := fun k => (clusterlocksref05_ValidResource.f k (rd_T26 l (i : Int)).f0 (rd_T26 l (i : Int)).f1 (rd_T26 l (i : Int)).f2 (rd_T26 l (i : Int)).f3).bind fun t => if t = true then (if (i : Int) > 0 then (if 0 ≤ (i : Int) - 1 then (if (i : Int) - 1 < (l.length : Int) then (if Op.bytesLess (rd_T26 l ((i : Int) - 1)).f0.toList (rd_T26 l (i : Int)).f0.toList = true then clusterlocksref05_Valid.l0 k l ((i + 1 : Nat) : Int) else some false) else none) else none) else clusterlocksref05_Valid.l0 k l ((i + 1 : Nat) : Int)) else some false) (fun k => ?_) ?_
    · rw [clusterlocksref05_Valid.l0, if_pos (by omega), if_pos (by omega), hw, hw2]
    · refine Ev.bind (rvr_eq _ _ _ _) ?_
      unfold vok rB lt
      cases resB (rd_T26 l (i : Int)).f0 (rd_T26 l (i : Int)).f1 (rd_T26 l (i : Int)).f2 (rd_T26 l (i : Int)).f3
      · exact Ev.now _
      · rw [Bool.true_and]
        refine Ev.congr (fun k => if_pos rfl) ?_
        by_cases h0 : i = 0
        · rw [beq_iff_eq.mpr h0, Bool.true_or, Bool.true_and]
          exact Ev.congr (fun k => if_neg (by omega)) ih'
        · rw [beq_eq_false_iff_ne.mpr h0, Bool.false_or]
          refine Ev.congr (fun k => by rw [if_pos (by omega), if_pos (by omega), if_pos (by omega)]) ?_
          cases Op.bytesLess (rd_T26 l ((i : Int) - 1)).f0.toList (rd_T26 l (i : Int)).f0.toList
          · exact Ev.now _
          · exact Ev.congr (fun k => if_pos rfl) ih'
theorem rv_eq (l : List S26) : Ev (fun k => clusterlocksref05_Valid.f k l) (validB l) := by
  unfold clusterlocksref05_Valid.f validB
  by_cases hl : l.length ≤ 8
  · rw [decide_eq_true hl, Bool.true_and]
    exact Ev.congr (fun k => if_neg (by omega)) (rv_l0 l hl l.length 0 (by omega))
  · rw [decide_eq_false hl, Bool.false_and]
    exact Ev.congr (fun k => if_pos (by omega)) (Ev.now _)
theorem ev_some {α : Type} {f : Nat → Option α} {r : α} (h : Ev f r) : ∃ k, f k = some r := by
  obtain ⟨K, hK⟩ := h
  exact ⟨K, hK K (Nat.le_refl _)⟩
theorem awake_ev : Ev (fun k => clusterlockslaw05_awake.f k) true := Ev.of (fun k => clusterlockslaw05_awake.mono k) clusterlockslaw05_awake.at
end Go.Proofs.YtbiapfjhdggkpaaDoor.PA


/- Catalogs in plain Lean: the order of names, the place of a name, Find and Insert. Conditions: none. -/
namespace Go.Proofs.YtbiapfjhdggkpaaDoor.PA
open Go.RowKit Go.Proofs.YtbiapfjhdggkpaaDoorW.PrintWords Go.Proofs.YtbiapfjhdggkpaaDoorW.PrintLast Go.Proofs.YtbiapfjhdggkpaaDoorW.PrintMore
set_option linter.unusedVariables false
set_option linter.unusedSimpArgs false
/-! ### the order of names -/
theorem bl_cons (a b : UInt8) (x y : List UInt8) : Op.bytesLess (a :: x) (b :: y) = true ↔ a.toNat < b.toNat ∨ (a = b ∧ Op.bytesLess x y = true) := by
  rw [Op.bytesLess, Bool.or_eq_true, Bool.and_eq_true, decide_eq_true_eq, UInt8.lt_iff_toNat_lt, beq_iff_eq]
theorem bl_trans : ∀ x y z : List UInt8, Op.bytesLess x y = true → Op.bytesLess y z = true → Op.bytesLess x z = true
  | _, [], _, h, _ => by cases ‹List UInt8› <;> simp [Op.bytesLess] at h
  | _, _ :: _, [], _, h => by simp [Op.bytesLess] at h
  | [], _ :: _, _ :: _, _, _ => rfl
  | a :: x, b :: y, c :: z, h1, h2 => by
    rw [bl_cons] at h1 h2 ⊢
    rcases h1 with h1 | ⟨rfl, h1⟩
    · rcases h2 with h2 | ⟨rfl, h2⟩
      · left; omega
      · left; exact h1
    · rcases h2 with h2 | ⟨rfl, h2⟩
      · left; exact h2
      · right; exact ⟨rfl, bl_trans x y z h1 h2⟩
/-! ### what validB says -/
theorem vall_iff (l : List S26) : ∀ (d i : Nat), i + d = l.length → (vall l d i = true ↔ ∀ j (h : j < l.length), i ≤ j → rB l[j] = true ∧ ∀ h0 : 0 < j, lt l[j - 1] l[j] = true) := by
  intro d
  induction d with
  | zero =>
    intro i hi
    refine ⟨fun _ j h hj => absurd h (by omega), fun _ => rfl⟩
  | succ d ih =>
    intro i hi
    rw [vall, Bool.and_eq_true, ih (i + 1) (by omega), vok, rd26 l i (by omega), Bool.and_eq_true, Bool.or_eq_true, beq_iff_eq]
    constructor
    · rintro ⟨⟨h1, h2⟩, h3⟩ j h hj
      by_cases e : j = i
      · subst e
        refine ⟨h1, fun h0 => ?_⟩
        rcases h2 with h2 | h2
        · omega
        · have e : ((j : Int) - 1) = ((j - 1 : Nat) : Int) := by omega
          rw [e, rd26 l (j - 1) (by omega)] at h2
          exact h2
      · exact h3 j h (by omega)
    · intro h
      have h0 := h i (by omega) (Nat.le_refl _)
      refine ⟨⟨h0.1, ?_⟩, fun j hj hij => h j hj (by omega)⟩
      by_cases e : i = 0
      · exact .inl e
      · right
        have e2 : ((i : Int) - 1) = ((i - 1 : Nat) : Int) := by omega
        rw [e2, rd26 l (i - 1) (by omega)]
        exact h0.2 (by omega)
def Sorted (l : List S26) : Prop := l.Pairwise fun x y => lt x y = true
structure Good (l : List S26) : Prop where
  len : l.length ≤ 8
  res : ∀ x ∈ l, rB x = true
  srt : Sorted l
theorem good_iff (l : List S26) : validB l = true ↔ Good l := by
  rw [validB, Bool.and_eq_true, decide_eq_true_eq, vall_iff l l.length 0 (by omega)]
  constructor
  · rintro ⟨h1, h2⟩
    refine ⟨h1, fun x hx => ?_, ?_⟩
    · obtain ⟨j, hj, rfl⟩ := List.mem_iff_getElem.1 hx
      exact (h2 j hj (Nat.zero_le _)).1
    · rw [Sorted, List.pairwise_iff_getElem]
      intro i j hi hj hij
      obtain ⟨d, rfl⟩ : ∃ d, j = i + 1 + d := ⟨j - (i + 1), by omega⟩
      clear hij
      induction d with
      | zero => exact (h2 (i + 1) hj (Nat.zero_le _)).2 (by omega)
      | succ d ih =>
        have a1 := ih (by omega)
        have a2 := (h2 (i + 1 + (d + 1)) hj (Nat.zero_le _)).2 (by omega)
        exact bl_trans _ _ _ a1 a2
  · rintro ⟨h1, h2, h3⟩
    refine ⟨h1, fun j hj _ => ⟨h2 _ (List.getElem_mem hj), fun h0 => ?_⟩⟩
    rw [Sorted, List.pairwise_iff_getElem] at h3
    exact h3 (j - 1) j (by omega) hj (by omega)
/-! ### Find -/
/-! ### the place of a name -/
/-! ### Insert -/
/-! ### Same -/
theorem same_l0 (l : List S26) (hl : l.length < 4000000000000) : ∀ (d i : Nat), i + d = l.length → Ev (fun k => clusterlocksref05_Same.l0 k l l (i : Int)) true := by
  intro d
  induction d with
  | zero =>
    intro i hi
    refine Ev.step (f := fun _ => some true) (fun k => ?_) (Ev.now _)
    rw [clusterlocksref05_Same.l0, if_neg (by omega)]
  | succ d ih =>
    intro i hi
    have hw : wrap64 ((i : Int) + 1) = ((i + 1 : Nat) : Int) := by unfold wrap64; omega
    refine Ev.step (fun k => ?_) (ih (i + 1) (by omega))
    rw [clusterlocksref05_Same.l0, if_pos (by omega), if_pos (by omega), if_pos (by omega), beq_self_eq_true, beq_self_eq_true, beq_self_eq_true, beq_self_eq_true, if_neg (by decide), hw]
theorem same_eq (l : List S26) (hl : l.length < 4000000000000) : Ev (fun k => clusterlocksref05_Same.f k l l) true := by
  unfold clusterlocksref05_Same.f
  exact Ev.congr (fun k => if_pos rfl) (same_l0 l hl l.length 0 (by omega))
end Go.Proofs.YtbiapfjhdggkpaaDoor.PA


/- Catalogs in plain Lean: the texts of catalogs. Conditions: none. -/
namespace Go.Proofs.YtbiapfjhdggkpaaDoor.PA
open Go.RowKit Go.Proofs.YtbiapfjhdggkpaaDoorW.PrintWords Go.Proofs.YtbiapfjhdggkpaaDoorW.PrintLast Go.Proofs.YtbiapfjhdggkpaaDoorW.PrintMore
set_option linter.unusedVariables false
set_option linter.unusedSimpArgs false
def mk (l : List UInt8) : ByteArray := ⟨l.toArray⟩
theorem mk_data (l : List UInt8) : (mk l).data.toList = l := rfl
theorem mk_toList (l : List UInt8) : (mk l).toList = l := by rw [Lib.toList_data]; rfl
theorem mk_size (l : List UInt8) : (mk l).size = l.length := rfl
theorem of_data (s : ByteArray) : s = mk s.data.toList := rfl
theorem ba_ext {a b : ByteArray} (h : a.data.toList = b.data.toList) : a = b := by rw [of_data a, of_data b, h]
theorem ba_size (s : ByteArray) : s.size = s.data.toList.length := rfl
def dig (n : Int) : List UInt8 := [UInt8.ofNat (48 + n.toNat)]
theorem dig_itoa {n : Int} (h0 : 0 ≤ n) (h1 : n < 10) : itoaO n = some (mk (dig n)) := by
  unfold itoaO itoa2
  rw [if_pos h0, if_pos (by omega), if_pos h1]
  rfl
def nm (x : S26) : List UInt8 := x.f0.data.toList
def lineL (x : S26) : List UInt8 := if x.f1 = 1 then [108, 111, 99, 107] ++ 32 :: (nm x ++ 32 :: ([97, 116] ++ 32 :: dig x.f3)) else [112, 111, 111, 108] ++ 32 :: (nm x ++ 32 :: (dig x.f2 ++ 32 :: ([97, 116] ++ 32 :: dig x.f3)))
def textL : List S26 → List UInt8
  | [] => []
  | x :: l => lineL x ++ 10 :: textL l
theorem res_parts {x : S26} (h : rB x = true) : nameB x.f0 = true ∧ ((x.f1 = 1 ∧ x.f2 = 1) ∨ (x.f1 = 2 ∧ 1 ≤ x.f2 ∧ x.f2 ≤ 8)) ∧ 0 ≤ x.f3 ∧ x.f3 < 4 ∧ x.f0.size ≤ 12 := by
  unfold rB resB at h
  simp only [Bool.and_eq_true, decide_eq_true_eq, shp, Bool.or_eq_true, beq_iff_eq] at h
  have hn := h.1
  unfold nameB at hn
  simp only [Bool.and_eq_true, decide_eq_true_eq] at hn
  exact ⟨h.1, h.2.1, h.2.2.1, h.2.2.2, hn.2.1⟩
theorem fmtAll_eq : ∀ (l : List S26), (∀ x ∈ l, rB x = true) → fmtAll l = some (textL l)
  | [], _ => rfl
  | x :: l, h => by
    obtain ⟨_, h2, h3, h4, h5⟩ := res_parts (h x List.mem_cons_self)
    rw [fmtAll, fmtAll_eq l (fun y hy => h y (List.mem_cons_of_mem _ hy))]
    have ht : fmtTail x = some ((⟨#[32, 97, 116, 32]⟩ : ByteArray) ++ mk (dig x.f3) ++ (⟨#[10]⟩ : ByteArray)) := by
      unfold fmtTail
      rw [dig_itoa h3 (by omega)]
      rfl
    rw [ht]
    unfold fmtHead
    rw [if_pos h5]
    rcases h2 with ⟨h2, _⟩ | ⟨h2, h6, h7⟩
    · rw [if_pos h2, Option.bind_some, Option.bind_some, Option.bind_some, textL, lineL, if_pos h2]
      congr 1
      rw [Joins.data_append, Joins.data_append, Joins.data_append]
      simp [mk, nm, dig]
    · rw [if_neg (by omega), dig_itoa (by omega) (by omega), Option.bind_some, Option.bind_some, Option.bind_some, Option.bind_some, textL, lineL, if_neg (by omega)]
      congr 1
      rw [Joins.data_append, Joins.data_append, Joins.data_append, Joins.data_append, Joins.data_append]
      simp [mk, nm, dig]
def fmtS (l : List S26) : ByteArray := if validB l = true then mk (textL l) else ⟨#[]⟩
theorem format_eq (l : List S26) : Ev (fun k => catalog_Format.f k l) (fmtS l) := by
  unfold catalog_Format.f fmtS
  refine Ev.bind (v_eq l) ?_
  cases hv : validB l
  · exact Ev.now _
  · have hg := (good_iff l).1 hv
    refine Ev.congr (fun k => if_pos rfl) ?_
    simp only [if_pos hg.len, fmtAll_eq l hg.res, Option.bind_some]
    exact Ev.now _
theorem dec_eq {n : Int} (h0 : 0 ≤ n) (h1 : n < 10) : Ev (fun k => clusterlocksref02_Decimal.f k n) (mk (dig n)) := by
  refine Ev.step (f := fun _ => some (mk (dig n))) (fun k => ?_) (Ev.now _)
  rw [clusterlocksref02_Decimal.f, if_pos h1]
  obtain ⟨m, rfl⟩ : ∃ m : Nat, n = (m : Int) := ⟨n.toNat, by omega⟩
  have hm : m < 10 := by omega
  have key : ∀ m : Nat, m < 10 → (strOfNums [(wrap64 (48 + (m : Int))) % 256]).data.toList = dig (m : Int) := by decide +kernel
  congr 1
  exact ba_ext (key m hm)
theorem rline_eq (x : S26) (h : rB x = true) : Ev (fun k => clusterlocksref05_Line.f k x.f0 x.f1 x.f2 x.f3) (mk (lineL x ++ [10])) := by
  obtain ⟨_, h2, h3, h4, h5⟩ := res_parts h
  unfold clusterlocksref05_Line.f lineL
  have hd : (mk (dig x.f3)).size = 1 := rfl
  rcases h2 with ⟨h2, _⟩ | ⟨h2, h6, h7⟩
  · refine Ev.congr (fun k => if_pos h2) (Ev.congr (fun k => if_pos (by omega)) (Ev.congr (fun k => if_pos ?_) (Ev.bind (dec_eq h3 (by omega)) (Ev.congr (fun k => if_pos ?_) (Ev.congr (fun k => if_pos ?_) ?_)))))
    · simp only [ByteArray.size_append]; show 5 + x.f0.size + 4 ≤ _; omega
    · simp only [ByteArray.size_append]; show 5 + x.f0.size + 4 + 1 ≤ _; omega
    · simp only [ByteArray.size_append]; show 5 + x.f0.size + 4 + 1 + 1 ≤ _; omega
    · rw [if_pos h2]
      have e : ((((⟨#[108, 111, 99, 107, 32]⟩ : ByteArray) ++ x.f0) ++ (⟨#[32, 97, 116, 32]⟩ : ByteArray)) ++ mk (dig x.f3)) ++ (⟨#[10]⟩ : ByteArray) = mk ([108, 111, 99, 107] ++ 32 :: (nm x ++ 32 :: ([97, 116] ++ 32 :: dig x.f3)) ++ [10]) := by
        apply ba_ext
        rw [Joins.data_append, Joins.data_append, Joins.data_append, Joins.data_append]
        simp [mk, nm, dig]
      rw [e]
      exact Ev.now _
  · have hd2 : (mk (dig x.f2)).size = 1 := rfl
    refine Ev.congr (fun k => if_neg (by omega)) (Ev.congr (fun k => if_pos (by omega)) (Ev.congr (fun k => if_pos ?_) (Ev.bind (dec_eq (by omega) (by omega)) (Ev.congr (fun k => if_pos ?_) (Ev.congr (fun k => if_pos ?_) (Ev.bind (dec_eq h3 (by omega)) (Ev.congr (fun k => if_pos ?_) (Ev.congr (fun k => if_pos ?_) ?_))))))))
    · simp only [ByteArray.size_append]; show 5 + x.f0.size + 1 ≤ _; omega
    · simp only [ByteArray.size_append]; show 5 + x.f0.size + 1 + 1 ≤ _; omega
    · simp only [ByteArray.size_append]; show 5 + x.f0.size + 1 + 1 + 4 ≤ _; omega
    · simp only [ByteArray.size_append]; show 5 + x.f0.size + 1 + 1 + 4 + 1 ≤ _; omega
    · simp only [ByteArray.size_append]; show 5 + x.f0.size + 1 + 1 + 4 + 1 + 1 ≤ _; omega
    · rw [if_neg (by omega)]
      have e : ((((((⟨#[112, 111, 111, 108, 32]⟩ : ByteArray) ++ x.f0) ++ (⟨#[32]⟩ : ByteArray)) ++ mk (dig x.f2)) ++ (⟨#[32, 97, 116, 32]⟩ : ByteArray)) ++ mk (dig x.f3)) ++ (⟨#[10]⟩ : ByteArray) = mk ([112, 111, 111, 108] ++ 32 :: (nm x ++ 32 :: (dig x.f2 ++ 32 :: ([97, 116] ++ 32 :: dig x.f3))) ++ [10]) := by
        apply ba_ext
        rw [Joins.data_append, Joins.data_append, Joins.data_append, Joins.data_append, Joins.data_append, Joins.data_append]
        simp [mk, nm, dig]
      rw [e]
      exact Ev.now _
theorem lineL_length {x : S26} (h : rB x = true) : (lineL x).length ≤ 30 := by
  obtain ⟨_, _, _, _, h5⟩ := res_parts h
  have hn : (nm x).length ≤ 12 := h5
  unfold lineL
  split
  · simp only [List.length_append, List.length_cons, List.length_nil, dig]; omega
  · simp only [List.length_append, List.length_cons, List.length_nil, dig]; omega
theorem textL_length : ∀ (l : List S26), (∀ x ∈ l, rB x = true) → (textL l).length ≤ 31 * l.length
  | [], _ => Nat.le_refl _
  | x :: l, h => by
    have h1 := lineL_length (h x List.mem_cons_self)
    have h2 := textL_length l (fun y hy => h y (List.mem_cons_of_mem _ hy))
    rw [textL, List.length_append, List.length_cons, List.length_cons]
    omega
theorem textL_app : ∀ (a b : List S26), textL (a ++ b) = textL a ++ textL b
  | [], b => rfl
  | x :: a, b => by rw [List.cons_append, textL, textL_app a b, textL, List.append_assoc, List.cons_append]
theorem rfmt_l0 (l : List S26) (hg : Good l) : ∀ (d i : Nat), i + d = l.length → Ev (fun k => clusterlocksref05_Format.l0 k l (mk (textL (l.take i))) (i : Int)) (mk (textL l)) := by
  have hl := hg.len
  intro d
  induction d with
  | zero =>
    intro i hi
    refine Ev.step (f := fun _ => some (mk (textL l))) (fun k => ?_) (Ev.now _)
    rw [clusterlocksref05_Format.l0, if_neg (by omega), List.take_of_length_le (by omega)]
  | succ d ih =>
    intro i hi
    have h : i < l.length := by omega
    have hw : wrap64 ((i : Int) + 1) = ((i + 1 : Nat) : Int) := by unfold wrap64; omega
    have hr := hg.res _ (List.getElem_mem h)
    have h1 := textL_length (l.take i) (fun x hx => hg.res x (List.mem_of_mem_take hx))
    have h2 := lineL_length hr
    have ih' := ih (i + 1) (by omega)
    refine Ev.step (f := fun k => (clusterlocksref05_Line.f k (l[i]).f0 (l[i]).f1 (l[i]).f2 (l[i]).f3).bind fun t => if (mk (textL (l.take i))).size + t.size ≤ 9223372036854775807 then clusterlocksref05_Format.l0 k l (mk (textL (l.take i)) ++ t) ((i + 1 : Nat) : Int) else none) (fun k => ?_) ?_
    · rw [clusterlocksref05_Format.l0, if_pos (by omega), if_pos (by omega), rd26 l i h, hw]
    · refine Ev.bind (rline_eq _ hr) (Ev.congr (fun k => if_pos ?_) ?_)
      · rw [mk_size, mk_size, List.length_append, List.length_singleton]
        rw [List.length_take] at h1
        omega
      · have e : mk (textL (l.take i)) ++ mk (lineL l[i] ++ [10]) = mk (textL (l.take (i + 1))) := by
          apply ba_ext
          rw [Joins.data_append, List.take_succ_eq_append_getElem h, textL_app]
          simp [mk, textL]
        rw [e]
        exact ih'
theorem rformat_eq (l : List S26) : Ev (fun k => clusterlocksref05_Format.f k l) (fmtS l) := by
  unfold clusterlocksref05_Format.f fmtS
  refine Ev.bind (rv_eq l) ?_
  cases hv : validB l
  · exact Ev.now _
  · have hg := (good_iff l).1 hv
    exact Ev.congr (fun k => if_pos rfl) (rfmt_l0 l hg l.length 0 (by omega))
end Go.Proofs.YtbiapfjhdggkpaaDoor.PA


/- Catalogs in plain Lean: what catalog.Parse returns. Conditions: none. -/
namespace Go.Proofs.YtbiapfjhdggkpaaDoor.PA
open Go.RowKit Go.Proofs.YtbiapfjhdggkpaaDoorW.PrintWords Go.Proofs.YtbiapfjhdggkpaaDoorW.PrintLast Go.Proofs.YtbiapfjhdggkpaaDoorW.PrintMore
set_option linter.unusedVariables false
set_option linter.unusedSimpArgs false
/-! ### the place of a byte -/
theorem indexByte_app : ∀ (a b : List UInt8) (c : UInt8), c ∉ a → Lib.indexByte (a ++ c :: b) c = (a.length : Int)
  | [], b, c, _ => by
    rw [List.nil_append, Lib.indexByte, beq_self_eq_true, if_pos rfl]
    rfl
  | x :: a, b, c, h => by
    rw [List.mem_cons, not_or] at h
    have ih := indexByte_app a b c h.2
    rw [List.cons_append, Lib.indexByte, beq_eq_false_iff_ne.mpr (Ne.symm h.1), if_neg (by decide), ih, beq_eq_false_iff_ne.mpr (by omega), if_neg (by decide), List.length_cons]
    omega
theorem indexByte_not : ∀ (a : List UInt8) (c : UInt8), c ∉ a → Lib.indexByte a c = -1
  | [], _, _ => rfl
  | x :: a, c, h => by
    rw [List.mem_cons, not_or] at h
    rw [Lib.indexByte, beq_eq_false_iff_ne.mpr (Ne.symm h.1), if_neg (by decide), indexByte_not a c h.2]
    rfl
theorem ext_a (s : ByteArray) (a b : List UInt8) (c : UInt8) (hs : s.data.toList = a ++ c :: b) : s.extract 0 a.length = mk a := by
  apply ba_ext
  rw [Lib.extract_data, hs, mk_data, List.drop_zero, Nat.sub_zero]
  exact List.take_left' rfl
theorem ext_b (s : ByteArray) (a b : List UInt8) (c : UInt8) (hs : s.data.toList = a ++ c :: b) : s.extract (a.length + 1) s.size = mk b := by
  apply ba_ext
  rw [Lib.extract_data, mk_data, ba_size, hs]
  have e : a ++ c :: b = (a ++ [c]) ++ b := by simp
  rw [e, List.drop_left' (by simp), List.take_of_length_le]
  simp only [List.length_append, List.length_singleton]
  omega
theorem cut_hit (s : ByteArray) (a b : List UInt8) (hs : s.data.toList = a ++ 10 :: b) (h : (10 : UInt8) ∉ a) (hz : s.size < 4000000000) : strings_Cut.f s ⟨#[10]⟩ = some (mk a, mk b, true) := by
  unfold strings_Cut.f
  rw [if_pos hz, if_pos (by rfl)]
  have e : cutO s ⟨#[10]⟩ = cutAt s (Lib.indexByte s.data.toList 10) := rfl
  rw [e, hs, indexByte_app a b 10 h]
  unfold cutAt
  rw [if_pos (by omega), Int.toNat_natCast, ext_a s a b 10 hs, ext_b s a b 10 hs]
theorem cut_miss (s : ByteArray) (h : (10 : UInt8) ∉ s.data.toList) (hz : s.size < 4000000000) : strings_Cut.f s ⟨#[10]⟩ = some (s, ⟨#[]⟩, false) := by
  unfold strings_Cut.f
  rw [if_pos hz, if_pos (by rfl)]
  have e : cutO s ⟨#[10]⟩ = cutAt s (Lib.indexByte s.data.toList 10) := rfl
  rw [e, indexByte_not _ 10 h]
  rfl
/-! ### the words of a line -/
def words (s : ByteArray) : List ByteArray := Lib.splitB ⟨#[32]⟩ 0 (Lib.countB s ⟨#[32]⟩) s
theorem split_eq (s : ByteArray) (hz : s.size < 4000000000) : strings_Split.f s ⟨#[32]⟩ = some (words s) := by
  unfold strings_Split.f
  rw [if_pos hz, if_pos (by rfl)]
  rfl
theorem cnt32 (s : ByteArray) : Lib.countB s ⟨#[32]⟩ = s.data.toList.count 32 := Lib.count_one 32 s.data.toList
theorem idx32 (s : ByteArray) : Lib.indexB s ⟨#[32]⟩ = Lib.indexByte s.data.toList 32 := Lib.index_one s.data.toList 32
theorem words_hit (a b : List UInt8) (h : (32 : UInt8) ∉ a) : words (mk (a ++ 32 :: b)) = mk a :: words (mk b) := by
  unfold words
  rw [cnt32, cnt32, mk_data, mk_data, List.count_append, List.count_eq_zero_of_not_mem h, List.count_cons_self, Nat.zero_add, Lib.splitB_hit ⟨#[32]⟩ 0 _ _ a.length (by rw [idx32, mk_data, indexByte_app a b 32 h]), Nat.add_zero, ext_a _ a b 32 rfl]
  have e : (⟨#[32]⟩ : ByteArray).size = 1 := rfl
  rw [e, ext_b _ a b 32 rfl]
theorem words_miss (a : List UInt8) (h : (32 : UInt8) ∉ a) : words (mk a) = [mk a] := by
  unfold words
  exact Lib.splitB_miss ⟨#[32]⟩ 0 _ _ (by rw [idx32, mk_data, indexByte_not a 32 h])
/-! ### names -/
theorem bt_get (s : ByteArray) (i : Nat) (h : i < s.size) : bt s (i : Int) = ((s.data.toList[i]'h).toNat : Int) := by
  unfold bt
  have h2 : ((i : Nat) : Int).toNat < s.size := by rw [Int.toNat_natCast]; exact h
  rw [dif_pos h2]
  rfl
theorem ap_all (s : ByteArray) : ∀ (d i : Nat), i + d = s.size → ap s d i = true → ∀ j (h : j < s.size), i ≤ j → part ((s.data.toList[j]'h).toNat : Int) = true := by
  intro d
  induction d with
  | zero => intro i hi _ j h hij; omega
  | succ d ih =>
    intro i hi ha j h hij
    rw [ap, Bool.and_eq_true] at ha
    by_cases e : j = i
    · subst e
      rw [← bt_get s j h]
      exact ha.1
    · exact ih (i + 1) (by omega) ha.2 j h (by omega)
theorem name_bytes (s : ByteArray) (h : nameB s = true) : ∀ b ∈ s.data.toList, 45 ≤ b.toNat := by
  unfold nameB at h
  simp only [Bool.and_eq_true] at h
  intro b hb
  obtain ⟨j, hj, rfl⟩ := List.mem_iff_getElem.1 hb
  have hp := ap_all s s.size 0 (by omega) h.2.2.2.2 j hj (Nat.zero_le _)
  rw [part_iff] at hp
  omega
theorem name_no (s : ByteArray) (h : nameB s = true) (c : UInt8) (hc : c.toNat < 45) : c ∉ s.data.toList := fun hm => by
  have := name_bytes s h c hm
  omega
theorem dig_no {n : Int} (h0 : 0 ≤ n) (h1 : n < 10) (c : UInt8) (hc : c.toNat < 45) : c ∉ dig n := by
  obtain ⟨m, rfl⟩ : ∃ m : Nat, n = (m : Int) := ⟨n.toNat, by omega⟩
  have key : ∀ m : Nat, m < 10 → 45 ≤ (UInt8.ofNat (48 + ((m : Int)).toNat)).toNat := by decide +kernel
  have := key m (by omega)
  intro hm
  unfold dig at hm
  rw [List.mem_singleton] at hm
  rw [hm] at hc
  omega
theorem lineL_no10 {x : S26} (h : rB x = true) : (10 : UInt8) ∉ lineL x := by
  obtain ⟨h1, h2, h3, h4, _⟩ := res_parts h
  have n1 := name_no x.f0 h1 10 (by decide)
  have n2 := dig_no h3 (by omega) 10 (by decide)
  unfold lineL
  rcases h2 with ⟨h2, _⟩ | ⟨h2, h6, h7⟩
  · rw [if_pos h2]
    simp only [List.mem_append, List.mem_cons, not_or]
    exact ⟨⟨by decide, by decide, by decide, by decide, by simp⟩, by decide, n1, by decide, ⟨by decide, by decide, by simp⟩, by decide, n2⟩
  · have n3 := dig_no (show 0 ≤ x.f2 by omega) (by omega) 10 (by decide)
    rw [if_neg (by omega)]
    simp only [List.mem_append, List.mem_cons, not_or]
    exact ⟨⟨by decide, by decide, by decide, by decide, by simp⟩, by decide, n1, by decide, n3, by decide, ⟨by decide, by decide, by simp⟩, by decide, n2⟩
/-! ### a line -/
theorem digit_some (s : ByteArray) : ∃ r, catalog_digit.f s = some r := by
  unfold catalog_digit.f
  by_cases h : (s.size : Int) = 1
  · rw [if_pos h, if_pos (by omega)]
    split
    · exact ⟨_, rfl⟩
    · split
      · exact ⟨_, rfl⟩
      · exact ⟨_, rfl⟩
  · rw [if_neg h]; exact ⟨_, rfl⟩
theorem digit_dig {n : Int} (h0 : 0 ≤ n) (h1 : n < 10) : catalog_digit.f (mk (dig n)) = some (n, true) := by
  obtain ⟨m, rfl⟩ : ∃ m : Nat, n = (m : Int) := ⟨n.toNat, by omega⟩
  have key : ∀ m : Nat, m < 10 → catalog_digit.f (mk (dig (m : Int))) = some ((m : Int), true) := by decide +kernel
  exact key m (by omega)
theorem line_j2_true (t : List ByteArray) (a : ByteArray) (b c d : Int) : Ev (fun k => catalog_line.j2 k t true a b c d) (⟨#[]⟩, 0, 0, 0, false) := by
  refine Ev.step (f := fun _ => some (⟨#[]⟩, 0, 0, 0, false)) (fun k => ?_) (Ev.now _)
  rw [catalog_line.j2, if_pos rfl]
theorem line_j1 (t : List ByteArray) (a : ByteArray) (b c d : Int) : ∃ r, Ev (fun k => catalog_line.j1 k t a b c d) r := by
  by_cases h4 : (t.length : Int) = 4
  · by_cases h0 : (rdOf ByteArray.empty t 0).toList = ([108, 111, 99, 107] : List UInt8)
    · cases h2 : ((rdOf ByteArray.empty t 2).toList != ([97, 116] : List UInt8))
      · obtain ⟨r, hr⟩ := digit_some (rdOf ByteArray.empty t 3)
        refine ⟨(rdOf ByteArray.empty t 1, b, c, r.1, r.2), Ev.step (f := fun k => catalog_line.j2 k t false a b c d) (fun k => ?_) (Ev.step (f := fun _ => some (rdOf ByteArray.empty t 1, b, c, r.1, r.2)) (fun k => ?_) (Ev.now _))⟩
        · rw [catalog_line.j1, if_pos h4, if_pos (by omega), if_pos h0, if_pos (by omega), h2]
        · rw [catalog_line.j2, if_neg (by decide), if_pos (by omega), hr, Option.bind_some, if_pos (by omega)]
      · refine ⟨_, Ev.step (fun k => ?_) (line_j2_true t a b c d)⟩
        rw [catalog_line.j1, if_pos h4, if_pos (by omega), if_pos h0, if_pos (by omega), h2]
    · refine ⟨_, Ev.step (fun k => ?_) (line_j2_true t a b c d)⟩
      rw [catalog_line.j1, if_pos h4, if_pos (by omega), if_neg h0]
  · refine ⟨_, Ev.step (fun k => ?_) (line_j2_true t a b c d)⟩
    rw [catalog_line.j1, if_neg h4]
theorem line_j0 (t : List ByteArray) (f : Bool) (h5 : f = true → t.length = 5) (a : ByteArray) (b c d : Int) : ∃ r, Ev (fun k => catalog_line.j0 k t f a b c d) r := by
  cases f
  · obtain ⟨r, hr⟩ := line_j1 t a b c d
    refine ⟨r, Ev.step (fun k => ?_) hr⟩
    rw [catalog_line.j0, if_neg (by decide)]
  · have h5 := h5 rfl
    obtain ⟨r, hr⟩ := digit_some (rdOf ByteArray.empty t 2)
    cases hb : r.2
    · refine ⟨(⟨#[]⟩, 0, 0, 0, false), Ev.step (f := fun _ => some (⟨#[]⟩, 0, 0, 0, false)) (fun k => ?_) (Ev.now _)⟩
      rw [catalog_line.j0, if_pos rfl, if_pos (by omega), hr, Option.bind_some, hb, if_neg (by decide)]
    · obtain ⟨r2, hr2⟩ := line_j1 [(⟨#[108, 111, 99, 107]⟩ : ByteArray), rdOf ByteArray.empty t 1, rdOf ByteArray.empty t 3, rdOf ByteArray.empty t 4] a 2 r.1 d
      refine ⟨r2, Ev.step (fun k => ?_) hr2⟩
      rw [catalog_line.j0, if_pos rfl, if_pos (by omega), hr, Option.bind_some, hb, if_pos rfl, if_pos (by omega), if_pos (by omega), if_pos (by omega)]
theorem line_total (s : ByteArray) (hz : s.size < 4000000000) : ∃ r, Ev (fun k => catalog_line.f k s) r := by
  unfold catalog_line.f
  simp only [split_eq s hz, Option.bind_some]
  by_cases h5 : ((words s).length : Int) = 5
  · obtain ⟨r, hr⟩ := line_j0 (words s) ((rdOf ByteArray.empty (words s) 0).toList == ([112, 111, 111, 108] : List UInt8)) (fun _ => by omega) ⟨#[]⟩ 1 1 0
    exact ⟨r, Ev.congr (fun k => by rw [if_pos h5, if_pos (by omega)]) hr⟩
  · obtain ⟨r, hr⟩ := line_j0 (words s) false (fun h => absurd h (by decide)) ⟨#[]⟩ 1 1 0
    exact ⟨r, Ev.congr (fun k => if_neg h5) hr⟩
theorem rd_mk (l : List ByteArray) (i : Nat) (a : List UInt8) (h : l[i]? = some (mk a)) : rdOf ByteArray.empty l (i : Int) = mk a := by
  unfold rdOf
  rw [Int.toNat_natCast, List.getD_eq_getElem?_getD, h]
  rfl
theorem line_lock (a1 a4 : List UInt8) (n : Int) (h0 : 0 ≤ n) (h1 : n < 10) (a : ByteArray) (b c d : Int) : Ev (fun k => catalog_line.j1 k [mk [108, 111, 99, 107], mk a1, mk [97, 116], mk (dig n)] a b c d) (mk a1, b, c, n, true) := by
  have e0 : rdOf ByteArray.empty [mk [108, 111, 99, 107], mk a1, mk [97, 116], mk (dig n)] 0 = mk [108, 111, 99, 107] := rfl
  have e1 : rdOf ByteArray.empty [mk [108, 111, 99, 107], mk a1, mk [97, 116], mk (dig n)] 1 = mk a1 := rfl
  have e2 : rdOf ByteArray.empty [mk [108, 111, 99, 107], mk a1, mk [97, 116], mk (dig n)] 2 = mk [97, 116] := rfl
  have e3 : rdOf ByteArray.empty [mk [108, 111, 99, 107], mk a1, mk [97, 116], mk (dig n)] 3 = mk (dig n) := rfl
  refine Ev.step (f := fun k => catalog_line.j2 k [mk [108, 111, 99, 107], mk a1, mk [97, 116], mk (dig n)] false a b c d) (fun k => ?_) (Ev.step (f := fun _ => some (mk a1, b, c, n, true)) (fun k => ?_) (Ev.now _))
  · rw [catalog_line.j1, if_pos (by rfl), if_pos (by simp), e0, mk_toList, if_pos rfl, if_pos (by simp), e2, mk_toList]
    rfl
  · rw [catalog_line.j2, if_neg (by decide), if_pos (by simp), e3, digit_dig h0 h1, Option.bind_some, e1, if_pos (by simp)]
theorem line_eq (x : S26) (h : rB x = true) : Ev (fun k => catalog_line.f k (mk (lineL x))) (x.f0, x.f1, x.f2, x.f3, true) := by
  obtain ⟨h1, h2, h3, h4, _⟩ := res_parts h
  have hlen := lineL_length h
  have n1 : (32 : UInt8) ∉ nm x := name_no x.f0 h1 32 (by decide)
  have n2 := dig_no h3 (by omega) 32 (by decide)
  have ex : x.f0 = mk (nm x) := rfl
  unfold catalog_line.f
  simp only [split_eq (mk (lineL x)) (by rw [mk_size]; omega), Option.bind_some]
  rcases h2 with ⟨h2, h5⟩ | ⟨h2, h6, h7⟩
  · have hw : words (mk (lineL x)) = [mk [108, 111, 99, 107], mk (nm x), mk [97, 116], mk (dig x.f3)] := by
      unfold lineL
      rw [if_pos h2, words_hit _ _ (by decide), words_hit _ _ n1, words_hit _ _ (by decide), words_miss _ n2]
    rw [hw]
    refine Ev.congr (fun k => if_neg (by simp)) ?_
    have hl := line_lock (nm x) [] x.f3 h3 (by omega) (⟨#[]⟩ : ByteArray) 1 1 0
    rw [← ex] at hl
    refine Ev.step (fun k => ?_) (by rw [h2, h5]; exact hl)
    rw [catalog_line.j0, if_neg (by decide)]
    rfl
  · have n3 := dig_no (show 0 ≤ x.f2 by omega) (by omega) 32 (by decide)
    have hw : words (mk (lineL x)) = [mk [112, 111, 111, 108], mk (nm x), mk (dig x.f2), mk [97, 116], mk (dig x.f3)] := by
      unfold lineL
      rw [if_neg (by omega), words_hit _ _ (by decide), words_hit _ _ n1, words_hit _ _ n3, words_hit _ _ (by decide), words_miss _ n2]
    rw [hw]
    refine Ev.congr (fun k => by rw [if_pos (by rfl), if_pos (by simp)]) ?_
    have e0 : rdOf ByteArray.empty [mk [112, 111, 111, 108], mk (nm x), mk (dig x.f2), mk [97, 116], mk (dig x.f3)] 0 = mk [112, 111, 111, 108] := rfl
    have e1 : rdOf ByteArray.empty [mk [112, 111, 111, 108], mk (nm x), mk (dig x.f2), mk [97, 116], mk (dig x.f3)] 1 = mk (nm x) := rfl
    have e2 : rdOf ByteArray.empty [mk [112, 111, 111, 108], mk (nm x), mk (dig x.f2), mk [97, 116], mk (dig x.f3)] 2 = mk (dig x.f2) := rfl
    have e3 : rdOf ByteArray.empty [mk [112, 111, 111, 108], mk (nm x), mk (dig x.f2), mk [97, 116], mk (dig x.f3)] 3 = mk [97, 116] := rfl
    have e4 : rdOf ByteArray.empty [mk [112, 111, 111, 108], mk (nm x), mk (dig x.f2), mk [97, 116], mk (dig x.f3)] 4 = mk (dig x.f3) := rfl
    have hl := line_lock (nm x) [] x.f3 h3 (by omega) (⟨#[]⟩ : ByteArray) 2 x.f2 0
    rw [← ex] at hl
    refine Ev.step (fun k => ?_) (by rw [h2]; exact hl)
    rw [catalog_line.j0, e0, mk_toList, if_pos (by rfl), if_pos (by simp), e2, digit_dig (by omega) (by omega), Option.bind_some, if_pos rfl, if_pos (by simp), if_pos (by simp), if_pos (by simp), e1, e3, e4]
    rfl
/-! ### Parse -/
theorem parse_go (l : List S26) (hg : Good l) : ∀ (rest acc : List S26), acc ++ rest = l → Ev (fun k => catalog_Parse.l0 k (mk (textL l)) acc (mk (textL rest))) (l, 0) := by
  have hl8 := hg.len
  intro rest
  induction rest with
  | nil =>
    intro acc he
    rw [List.append_nil] at he
    subst he
    have hv := v_eq acc
    rw [(good_iff acc).2 hg] at hv
    have hf := format_eq acc
    unfold fmtS at hf
    rw [if_pos ((good_iff acc).2 hg)] at hf
    refine Ev.step (f := fun k => (catalog_Valid.f k acc).bind fun t178 => (if t178 = true then ((catalog_Format.f k acc).bind fun t179 => (if t179.toList = (mk (textL acc)).toList then (some (acc, 0)) else (some (([] : List (S26)), 6)))) else (some (([] : List (S26)), 6)))) (fun k => ?_) (Ev.bind hv (Ev.congr (fun k => if_pos rfl) (Ev.bind hf (Ev.congr (fun k => if_pos rfl) (Ev.now _)))))
    rw [catalog_Parse.l0, if_pos (by rw [mk_toList]; rfl)]
  | cons x rest ih =>
    intro acc he
    have hx : x ∈ l := by rw [← he]; exact List.mem_append_right _ List.mem_cons_self
    have hr := hg.res x hx
    have ih' := ih (acc ++ [x]) (by rw [List.append_assoc, List.singleton_append]; exact he)
    have hlen : acc.length + (rest.length + 1) = l.length := by rw [← he, List.length_append, List.length_cons]
    have htl : (textL (x :: rest)).length ≤ 31 * (x :: rest).length := textL_length _ (fun y hy => hg.res y (by rw [← he]; exact List.mem_append_right _ hy))
    have hc := cut_hit (mk (textL (x :: rest))) (lineL x) (textL rest) rfl (lineL_no10 hr) (by rw [mk_size]; rw [List.length_cons] at htl; omega)
    refine Ev.step (f := fun k => (catalog_line.f k (mk (lineL x))).bind fun bt169 => (if bt169.2.2.2.2 = true then (if (acc.length : Int) = 8 then (some (([] : List (S26)), 6)) else (if acc.length < 3518437208883 then (catalog_Parse.l0 k (mk (textL l)) (acc ++ [(⟨bt169.1, bt169.2.1, bt169.2.2.1, bt169.2.2.2.1⟩ : S26)]) (mk (textL rest))) else (none))) else (some (([] : List (S26)), 6)))) (fun k => ?_) (Ev.bind (line_eq x hr) (Ev.congr (fun k => if_pos rfl) (Ev.congr (fun k => if_neg (by omega)) (Ev.congr (fun k => if_pos (by omega)) ih'))))
    rw [catalog_Parse.l0, if_neg (by rw [mk_toList, textL]; simp), hc, Option.bind_some]
    rfl
theorem parse_text (l : List S26) (hg : Good l) : Ev (fun k => catalog_Parse.f k (mk (textL l))) (l, 0) := by
  have h1 := textL_length l hg.res
  have h2 := hg.len
  unfold catalog_Parse.f
  exact Ev.congr (fun k => if_neg (by rw [mk_size]; omega)) (parse_go l hg l [] rfl)
end Go.Proofs.YtbiapfjhdggkpaaDoor.PA


/- Catalogs in plain Lean: what catalog.Parse and the reference's Parse return at any text. Conditions: none. -/
namespace Go.Proofs.YtbiapfjhdggkpaaDoor.PA
open Go.RowKit Go.Proofs.YtbiapfjhdggkpaaDoorW.PrintWords Go.Proofs.YtbiapfjhdggkpaaDoorW.PrintLast Go.Proofs.YtbiapfjhdggkpaaDoorW.PrintMore
set_option linter.unusedVariables false
set_option linter.unusedSimpArgs false
/-! ### what Parse returns -/
def ParseOk (s : ByteArray) (r : List S26 × Int) : Prop := r = ([], 6) ∨ ∃ l, r = (l, 0) ∧ Good l ∧ s = mk (textL l)
theorem end_of (s : ByteArray) (acc : List S26) (V : Nat → List S26 → Option Bool) (F : Nat → List S26 → Option ByteArray) (hV : Ev (fun k => V k acc) (validB acc)) (hF : Ev (fun k => F k acc) (fmtS acc)) :
    ∃ r, Ev (fun k => (V k acc).bind fun t178 => (if t178 = true then ((F k acc).bind fun t179 => (if t179.toList = s.toList then (some (acc, (0 : Int))) else (some (([] : List (S26)), 6)))) else (some (([] : List (S26)), 6)))) r ∧ ParseOk s r := by
  cases hv : validB acc
  · rw [hv] at hV
    exact ⟨_, Ev.bind hV (Ev.congr (fun k => if_neg (by decide)) (Ev.now _)), .inl rfl⟩
  · rw [hv] at hV
    have hg := (good_iff acc).1 hv
    have he : fmtS acc = mk (textL acc) := by unfold fmtS; rw [hv]; rfl
    by_cases h : (fmtS acc).toList = s.toList
    · refine ⟨_, Ev.bind hV (Ev.congr (fun k => if_pos rfl) (Ev.bind hF (Ev.congr (fun k => if_pos h) (Ev.now _)))), .inr ⟨acc, rfl, hg, ?_⟩⟩
      rw [he, mk_toList, Lib.toList_data] at h
      exact ba_ext h.symm
    · exact ⟨_, Ev.bind hV (Ev.congr (fun k => if_pos rfl) (Ev.bind hF (Ev.congr (fun k => if_neg h) (Ev.now _)))), .inl rfl⟩
theorem parse_l0 (s : ByteArray) : ∀ (n : Nat) (rest : ByteArray) (acc : List S26), rest.size ≤ n → rest.size ≤ 1024 → acc.length ≤ 8 → ∃ r, Ev (fun k => catalog_Parse.l0 k s acc rest) r ∧ ParseOk s r := by
  intro n
  induction n with
  | zero =>
    intro rest acc hn _ _
    obtain ⟨r, hr, ho⟩ := end_of s acc catalog_Valid.f catalog_Format.f (v_eq acc) (format_eq acc)
    refine ⟨r, Ev.step (fun k => ?_) hr, ho⟩
    have : rest.toList = [] := by
      rw [Lib.toList_data]
      exact List.length_eq_zero_iff.1 (by rw [← ba_size]; omega)
    rw [catalog_Parse.l0, if_pos this]
  | succ n ih =>
    intro rest acc hn hz hacc
    by_cases h0 : rest.toList = ([] : List UInt8)
    · obtain ⟨r, hr, ho⟩ := end_of s acc catalog_Valid.f catalog_Format.f (v_eq acc) (format_eq acc)
      exact ⟨r, Ev.step (fun k => by rw [catalog_Parse.l0, if_pos h0]) hr, ho⟩
    by_cases h10 : (10 : UInt8) ∈ rest.data.toList
    · obtain ⟨a, b, hab, hna⟩ := List.eq_append_cons_of_mem h10
      have hlen : a.length + (b.length + 1) = rest.size := by rw [ba_size, hab, List.length_append, List.length_cons]
      have hc := cut_hit rest a b hab hna (by omega)
      obtain ⟨⟨q0, q1, q2, q3, q4⟩, hq⟩ := line_total (mk a) (by rw [mk_size]; omega)
      cases q4
      · refine ⟨_, Ev.step (f := fun k => (catalog_line.f k (mk a)).bind fun bt169 => (if bt169.2.2.2.2 = true then (if (acc.length : Int) = 8 then (some (([] : List (S26)), 6)) else (if acc.length < 3518437208883 then (catalog_Parse.l0 k s (acc ++ [(⟨bt169.1, bt169.2.1, bt169.2.2.1, bt169.2.2.2.1⟩ : S26)]) (mk b)) else (none))) else (some (([] : List (S26)), 6)))) (fun k => ?_) (Ev.bind hq (Ev.congr (fun k => if_neg (fun h => Bool.noConfusion h)) (Ev.now _))), .inl rfl⟩
        rw [catalog_Parse.l0, if_neg h0, hc, Option.bind_some]
        rfl
      · by_cases h8 : (acc.length : Int) = 8
        · refine ⟨_, Ev.step (f := fun k => (catalog_line.f k (mk a)).bind fun bt169 => (if bt169.2.2.2.2 = true then (if (acc.length : Int) = 8 then (some (([] : List (S26)), 6)) else (if acc.length < 3518437208883 then (catalog_Parse.l0 k s (acc ++ [(⟨bt169.1, bt169.2.1, bt169.2.2.1, bt169.2.2.2.1⟩ : S26)]) (mk b)) else (none))) else (some (([] : List (S26)), 6)))) (fun k => ?_) (Ev.bind hq (Ev.congr (fun k => if_pos rfl) (Ev.congr (fun k => if_pos h8) (Ev.now _)))), .inl rfl⟩
          rw [catalog_Parse.l0, if_neg h0, hc, Option.bind_some]
          rfl
        · obtain ⟨r, hr, ho⟩ := ih (mk b) (acc ++ [(⟨q0, q1, q2, q3⟩ : S26)]) (by rw [mk_size]; omega) (by rw [mk_size]; omega) (by rw [List.length_append, List.length_singleton]; omega)
          refine ⟨r, Ev.step (f := fun k => (catalog_line.f k (mk a)).bind fun bt169 => (if bt169.2.2.2.2 = true then (if (acc.length : Int) = 8 then (some (([] : List (S26)), 6)) else (if acc.length < 3518437208883 then (catalog_Parse.l0 k s (acc ++ [(⟨bt169.1, bt169.2.1, bt169.2.2.1, bt169.2.2.2.1⟩ : S26)]) (mk b)) else (none))) else (some (([] : List (S26)), 6)))) (fun k => ?_) (Ev.bind hq (Ev.congr (fun k => if_pos rfl) (Ev.congr (fun k => if_neg h8) (Ev.congr (fun k => if_pos (by omega)) hr)))), ho⟩
          rw [catalog_Parse.l0, if_neg h0, hc, Option.bind_some]
          rfl
    · have hc := cut_miss rest h10 (by omega)
      obtain ⟨q, hq⟩ := line_total rest (by omega)
      refine ⟨_, Ev.step (f := fun k => (catalog_line.f k rest).bind fun bt169 => (some (([] : List (S26)), (6 : Int)))) (fun k => ?_) (Ev.bind hq (Ev.now _)), .inl rfl⟩
      rw [catalog_Parse.l0, if_neg h0, hc, Option.bind_some]
      simp only [Bool.false_eq_true, if_false]
theorem parse_any (s : ByteArray) (hz : s.size ≤ 1024) : ∃ r, Ev (fun k => catalog_Parse.f k s) r ∧ ParseOk s r := by
  obtain ⟨r, hr, ho⟩ := parse_l0 s s.size s [] (Nat.le_refl _) hz (Nat.zero_le _)
  refine ⟨r, ?_, ho⟩
  unfold catalog_Parse.f
  exact Ev.congr (fun k => if_neg (by omega)) hr
/-! ### the reference's Split -/
def spl (c : UInt8) (last : List UInt8) : List UInt8 → List (List UInt8)
  | [] => [last]
  | b :: t => if b = c then last :: spl c [] t else spl c (last ++ [b]) t
theorem spl_hit (c : UInt8) : ∀ (a b last : List UInt8), c ∉ a → spl c last (a ++ c :: b) = (last ++ a) :: spl c [] b
  | [], b, last, _ => by rw [List.nil_append, spl, if_pos rfl, List.append_nil]
  | x :: a, b, last, h => by
    rw [List.mem_cons, not_or] at h
    rw [List.cons_append, spl, if_neg (Ne.symm h.1), spl_hit c a b _ h.2, List.append_assoc, List.singleton_append]
theorem spl_miss (c : UInt8) : ∀ (a last : List UInt8), c ∉ a → spl c last a = [last ++ a]
  | [], last, _ => by rw [spl, List.append_nil]
  | x :: a, last, h => by
    rw [List.mem_cons, not_or] at h
    rw [spl, if_neg (Ne.symm h.1), spl_miss c a _ h.2, List.append_assoc, List.singleton_append]
theorem spl_len (c : UInt8) : ∀ (a last : List UInt8), (spl c last a).length ≤ a.length + 1
  | [], last => Nat.le_refl _
  | x :: a, last => by
    rw [spl]
    split
    · have := spl_len c a []; rw [List.length_cons, List.length_cons]; omega
    · have := spl_len c a (last ++ [x]); rw [List.length_cons]; omega
theorem spl_sizes (c : UInt8) : ∀ (a last : List UInt8), ∀ y ∈ spl c last a, y.length ≤ last.length + a.length
  | [], last, y, h => by
    rw [spl, List.mem_singleton] at h
    subst h; omega
  | x :: a, last, y, h => by
    rw [spl] at h
    split at h
    · rw [List.mem_cons] at h
      rcases h with rfl | h
      · omega
      · have := spl_sizes c a [] y h
        rw [List.length_nil] at this
        rw [List.length_cons]; omega
    · have := spl_sizes c a (last ++ [x]) y h
      rw [List.length_append, List.length_singleton] at this
      rw [List.length_cons]; omega
theorem set_last (l : List ByteArray) (x y : ByteArray) : (l ++ [x]).set l.length y = l ++ [y] := by
  rw [List.set_append_right _ _ (Nat.le_refl _), Nat.sub_self]
  rfl
theorem rd_last (l : List ByteArray) (x : ByteArray) : rdOf ByteArray.empty (l ++ [x]) (l.length : Int) = x := by
  unfold rdOf
  rw [Int.toNat_natCast, List.getD_eq_getElem?_getD, List.getElem?_append_right (Nat.le_refl _), Nat.sub_self]
  rfl
theorem ext_one (s : ByteArray) (i : Nat) (h : i < s.size) : s.extract i (i + 1) = mk [s.data.toList[i]'h] := by
  apply ba_ext
  rw [Lib.extract_data, mk_data, show i + 1 - i = 1 by omega]
  rw [List.drop_eq_getElem_cons (by exact h)]
  rfl
theorem rsplit_l0 (s : ByteArray) (c : UInt8) (hz : s.size ≤ 1000000) : ∀ (d i : Nat) (init : List ByteArray) (last : List UInt8), i + d = s.size → init.length ≤ i → last.length ≤ i →
    Ev (fun k => clusterlocksref02_Split.l0 k s (c.toNat : Int) (init ++ [mk last]) (i : Int)) (init ++ (spl c last (s.data.toList.drop i)).map mk) := by
  intro d
  induction d with
  | zero =>
    intro i init last hi _ _
    refine Ev.step (f := fun _ => some _) (fun k => ?_) (Ev.now _)
    rw [clusterlocksref02_Split.l0, if_neg (by omega), List.drop_eq_nil_of_le (by rw [← ba_size]; omega)]
    rfl
  | succ d ih =>
    intro i init last hi hin hla
    have h : i < s.size := by omega
    have hw : wrap64 ((i : Int) + 1) = ((i + 1 : Nat) : Int) := by unfold wrap64; omega
    have hdr : s.data.toList.drop i = (s.data.toList[i]'h) :: s.data.toList.drop (i + 1) := List.drop_eq_getElem_cons (by exact h)
    have hll : ((init ++ [mk last]).length : Int) = (init.length : Int) + 1 := by simp
    by_cases hb : (s.data.toList[i]'h) = c
    · have ih' := ih (i + 1) (init ++ [mk last]) [] (by omega) (by rw [List.length_append, List.length_singleton]; omega) (by simp)
      rw [hdr, spl, if_pos hb]
      refine Ev.step (fun k => ?_) (by rw [List.map_cons, List.append_cons]; exact ih')
      rw [clusterlocksref02_Split.l0, if_pos (by omega), if_pos (by omega), bt_get s i h, hb, if_pos rfl, if_pos (by rw [List.length_append, List.length_singleton]; omega), hw]
      rfl
    · have hne : ¬ ((s.data.toList[i]'h).toNat : Int) = (c.toNat : Int) := fun e => hb (UInt8.toNat_inj.1 (by omega))
      have ih' := ih (i + 1) init (last ++ [s.data.toList[i]'h]) (by omega) (by omega) (by rw [List.length_append, List.length_singleton]; omega)
      rw [hdr, spl, if_neg hb]
      have hw2 : wrap64 (((init ++ [mk last]).length : Int) - 1) = (init.length : Int) := by rw [hll]; unfold wrap64; omega
      have he := ext_one s i h
      refine Ev.step (fun k => ?_) ih'
      rw [clusterlocksref02_Split.l0, if_pos (by omega), if_pos (by omega), bt_get s i h, if_neg hne, hw2, hw, if_pos (by omega), if_pos (by omega), if_pos (by omega), if_pos (by omega), rd_last, Int.toNat_natCast, Int.toNat_natCast, Int.toNat_natCast, he, set_last, if_pos (by rw [mk_size, mk_size, List.length_singleton]; omega)]
      have e : mk last ++ mk [s.data.toList[i]'h] = mk (last ++ [s.data.toList[i]'h]) := by
        apply ba_ext
        rw [Joins.data_append]
        simp [mk]
      rw [e]
theorem rsplit (s : ByteArray) (c : UInt8) (hz : s.size ≤ 1000000) : Ev (fun k => clusterlocksref02_Split.f k s (c.toNat : Int)) ((spl c [] s.data.toList).map mk) := by
  have h := rsplit_l0 s c hz s.size 0 [] [] (by omega) (Nat.le_refl _) (Nat.le_refl _)
  rw [List.nil_append, List.nil_append, List.drop_zero] at h
  exact h
/-! ### the reference's Number -/
theorem num_l0 (s : ByteArray) (hz : s.size ≤ 1000000) : ∀ (d i : Nat) (v : Int), i + d = s.size → ∃ r, Ev (fun k => clusterlocksref02_Number.l0 k s v (i : Int)) r := by
  intro d
  induction d with
  | zero =>
    intro i v hi
    refine ⟨_, Ev.step (f := fun _ => some (v, true)) (fun k => ?_) (Ev.now _)⟩
    rw [clusterlocksref02_Number.l0, if_neg (by omega)]
  | succ d ih =>
    intro i v hi
    have hw : wrap64 ((i : Int) + 1) = ((i + 1 : Nat) : Int) := by unfold wrap64; omega
    by_cases h1 : bt s (i : Int) < 48
    · refine ⟨_, Ev.step (f := fun _ => some (0, false)) (fun k => ?_) (Ev.now _)⟩
      rw [clusterlocksref02_Number.l0, if_pos (by omega), if_pos (by omega), if_pos h1]
    · by_cases h2 : bt s (i : Int) > 57
      · refine ⟨_, Ev.step (f := fun _ => some (0, false)) (fun k => ?_) (Ev.now _)⟩
        rw [clusterlocksref02_Number.l0, if_pos (by omega), if_pos (by omega), if_neg h1, if_pos h2]
      · obtain ⟨r, hr⟩ := ih (i + 1) (wrap64 ((wrap64 (10 * v)) + (((bt s (i : Int)) - 48) % 256))) (by omega)
        refine ⟨r, Ev.step (fun k => ?_) hr⟩
        rw [clusterlocksref02_Number.l0, if_pos (by omega), if_pos (by omega), if_neg h1, if_neg h2, hw]
theorem num_j0 (s : ByteArray) (hz : s.size ≤ 1000000) (b : Bool) : ∃ r, Ev (fun k => clusterlocksref02_Number.j0 k s b) r := by
  cases b
  · obtain ⟨r, hr⟩ := num_l0 s hz s.size 0 0 (by omega)
    refine ⟨r, Ev.step (fun k => ?_) hr⟩
    rw [clusterlocksref02_Number.j0, if_neg (by decide)]
    rfl
  · refine ⟨_, Ev.step (f := fun _ => some (0, false)) (fun k => ?_) (Ev.now _)⟩
    rw [clusterlocksref02_Number.j0, if_pos rfl]
theorem num_some (s : ByteArray) (hz : s.size ≤ 1000000) : ∃ r, Ev (fun k => clusterlocksref02_Number.f k s) r := by
  unfold clusterlocksref02_Number.f
  by_cases h1 : (s.size : Int) < 1
  · obtain ⟨r, hr⟩ := num_j0 s hz true
    exact ⟨r, Ev.congr (fun k => if_pos h1) hr⟩
  by_cases h2 : (s.size : Int) > 4
  · obtain ⟨r, hr⟩ := num_j0 s hz true
    exact ⟨r, Ev.congr (fun k => if_neg h1) (Ev.congr (fun k => if_pos h2) hr)⟩
  by_cases h3 : (s.size : Int) > 1
  · obtain ⟨r, hr⟩ := num_j0 s hz (bt s 0 == 48)
    exact ⟨r, Ev.congr (fun k => if_neg h1) (Ev.congr (fun k => if_neg h2) (Ev.congr (fun k => if_pos h3) (Ev.congr (fun k => if_pos (by omega)) hr)))⟩
  · obtain ⟨r, hr⟩ := num_j0 s hz false
    exact ⟨r, Ev.congr (fun k => if_neg h1) (Ev.congr (fun k => if_neg h2) (Ev.congr (fun k => if_neg h3) hr))⟩
theorem num_dig {n : Int} (h0 : 0 ≤ n) (h1 : n < 10) : Ev (fun k => clusterlocksref02_Number.f k (mk (dig n))) (n, true) := by
  obtain ⟨m, rfl⟩ : ∃ m : Nat, n = (m : Int) := ⟨n.toNat, by omega⟩
  have key : ∀ m : Nat, m < 10 → clusterlocksref02_Number.f 3 (mk (dig (m : Int))) = some ((m : Int), true) := by decide +kernel
  exact Ev.of (fun k => clusterlocksref02_Number.mono _ k) (key m (by omega))
/-! ### the reference's Parse -/
theorem rd_size (l : List ByteArray) (i : Nat) (B : Nat) (h : ∀ y ∈ l, y.size ≤ B) : (rdOf ByteArray.empty l (i : Int)).size ≤ B := by
  unfold rdOf
  rw [Int.toNat_natCast, List.getD_eq_getElem?_getD]
  cases hg : l[i]? with
  | none => exact Nat.zero_le _
  | some y => exact h y (List.mem_of_getElem? hg)
theorem rparse_j2 (s : ByteArray) (acc : List S26) (ls : List ByteArray) (i : Nat) (t : List ByteArray) (ht : ∀ y ∈ t, y.size ≤ 1024) (h4 : t.length = 4) (hi : i < 100000) (hacc : acc.length ≤ i)
    (ih : ∀ acc' : List S26, acc'.length ≤ i + 1 → ∃ r, Ev (fun k => clusterlocksref05_Parse.l0 k s acc' ls ((i + 1 : Nat) : Int)) r ∧ ParseOk s r)
    (a : ByteArray) (b c d : Int) : ∃ r, Ev (fun k => clusterlocksref05_Parse.j2 k s acc ls (i : Int) t a b c d) r ∧ ParseOk s r := by
  have hw : wrap64 ((i : Int) + 1) = ((i + 1 : Nat) : Int) := by unfold wrap64; omega
  obtain ⟨⟨q, ok⟩, hq⟩ := num_some (rdOf ByteArray.empty t 3) (by have := rd_size t 3 1024 ht; exact Nat.le_trans this (by omega))
  let F : Nat → Int × Bool → Option (List S26 × Int) := fun k bt218 => (if bt218.2 = true then (if 2 < (t.length : Int) then (if (rdOf ByteArray.empty t 2).toList = ([97, 116] : List UInt8) then (if 1 < (t.length : Int) then (if acc.length < 3518437208883 then (clusterlocksref05_Parse.l0 k s (acc ++ [(⟨rdOf ByteArray.empty t 1, b, c, bt218.1⟩ : S26)]) ls (wrap64 ((i : Int) + 1))) else (none)) else (none)) else (some (([] : List (S26)), 6))) else (none)) else (some (([] : List (S26)), 6)))
  have step : ∀ k, clusterlocksref05_Parse.j2 (k + 1) s acc ls (i : Int) t a b c d = (clusterlocksref02_Number.f k (rdOf ByteArray.empty t 3)).bind (F k) := fun k => by
    rw [clusterlocksref05_Parse.j2, if_pos (by omega)]
  cases ok
  · exact ⟨_, Ev.step step (Ev.bind hq (Ev.congr (fun k => if_neg (fun h => Bool.noConfusion h)) (Ev.now _))), .inl rfl⟩
  · by_cases hat : (rdOf ByteArray.empty t 2).toList = ([97, 116] : List UInt8)
    · obtain ⟨r, hr, ho⟩ := ih (acc ++ [(⟨rdOf ByteArray.empty t 1, b, c, q⟩ : S26)]) (by rw [List.length_append, List.length_singleton]; omega)
      rw [← hw] at hr
      exact ⟨r, Ev.step step (Ev.bind hq (Ev.congr (fun k => if_pos rfl) (Ev.congr (fun k => if_pos (by omega)) (Ev.congr (fun k => if_pos hat) (Ev.congr (fun k => if_pos (by omega)) (Ev.congr (fun k => if_pos (by omega)) hr)))))), ho⟩
    · exact ⟨_, Ev.step step (Ev.bind hq (Ev.congr (fun k => if_pos rfl) (Ev.congr (fun k => if_pos (by omega)) (Ev.congr (fun k => if_neg hat) (Ev.now _))))), .inl rfl⟩
theorem rparse_j1 (s : ByteArray) (acc : List S26) (ls : List ByteArray) (i : Nat) (t : List ByteArray) (ht : ∀ y ∈ t, y.size ≤ 1024) (f : Bool) (h5 : f = true → t.length = 5) (hi : i < 100000) (hacc : acc.length ≤ i)
    (ih : ∀ acc' : List S26, acc'.length ≤ i + 1 → ∃ r, Ev (fun k => clusterlocksref05_Parse.l0 k s acc' ls ((i + 1 : Nat) : Int)) r ∧ ParseOk s r)
    (a : ByteArray) (b c d : Int) : ∃ r, Ev (fun k => clusterlocksref05_Parse.j1 k s acc ls (i : Int) t f a b c d) r ∧ ParseOk s r := by
  cases f
  · by_cases h4 : (t.length : Int) = 4
    · by_cases h0 : (rdOf ByteArray.empty t 0).toList = ([108, 111, 99, 107] : List UInt8)
      · obtain ⟨r, hr, ho⟩ := rparse_j2 s acc ls i t ht (by omega) hi hacc ih a b c d
        refine ⟨r, Ev.step (fun k => ?_) hr, ho⟩
        rw [clusterlocksref05_Parse.j1, if_neg (by decide), if_pos h4, if_pos (by omega), if_pos h0]
      · refine ⟨_, Ev.step (f := fun _ => some ([], 6)) (fun k => ?_) (Ev.now _), .inl rfl⟩
        rw [clusterlocksref05_Parse.j1, if_neg (by decide), if_pos h4, if_pos (by omega), if_neg h0]
    · refine ⟨_, Ev.step (f := fun _ => some ([], 6)) (fun k => ?_) (Ev.now _), .inl rfl⟩
      rw [clusterlocksref05_Parse.j1, if_neg (by decide), if_neg h4]
  · have h5 := h5 rfl
    obtain ⟨⟨q, ok⟩, hq⟩ := num_some (rdOf ByteArray.empty t 2) (by have := rd_size t 2 1024 ht; exact Nat.le_trans this (by omega))
    let F : Nat → Int × Bool → Option (List S26 × Int) := fun k bt207 => (if bt207.2 = true then (if 0 < (t.length : Int) then (if 1 < (t.length : Int) then (if 3 < (t.length : Int) then (if 4 < (t.length : Int) then (clusterlocksref05_Parse.j2 k s acc ls (i : Int) (([rdOf ByteArray.empty t 0, rdOf ByteArray.empty t 1, rdOf ByteArray.empty t 3, rdOf ByteArray.empty t 4] : List ByteArray)) a 2 bt207.1 d) else (none)) else (none)) else (none)) else (none)) else (some (([] : List (S26)), 6)))
    have step : ∀ k, clusterlocksref05_Parse.j1 (k + 1) s acc ls (i : Int) t true a b c d = (clusterlocksref02_Number.f k (rdOf ByteArray.empty t 2)).bind (F k) := fun k => by
      rw [clusterlocksref05_Parse.j1, if_pos rfl, if_pos (by omega)]
    cases ok
    · exact ⟨_, Ev.step step (Ev.bind hq (Ev.congr (fun k => if_neg (fun h => Bool.noConfusion h)) (Ev.now _))), .inl rfl⟩
    · obtain ⟨r, hr, ho⟩ := rparse_j2 s acc ls i [rdOf ByteArray.empty t 0, rdOf ByteArray.empty t 1, rdOf ByteArray.empty t 3, rdOf ByteArray.empty t 4]
        (fun y hy => by
          simp only [List.mem_cons, List.not_mem_nil, or_false] at hy
          rcases hy with rfl | rfl | rfl | rfl
          · exact rd_size t 0 1024 ht
          · exact rd_size t 1 1024 ht
          · exact rd_size t 3 1024 ht
          · exact rd_size t 4 1024 ht) rfl hi hacc ih a 2 q d
      exact ⟨r, Ev.step step (Ev.bind hq (Ev.congr (fun k => if_pos rfl) (Ev.congr (fun k => if_pos (by omega)) (Ev.congr (fun k => if_pos (by omega)) (Ev.congr (fun k => if_pos (by omega)) (Ev.congr (fun k => if_pos (by omega)) hr)))))), ho⟩
theorem rparse_l0 (s : ByteArray) (ls : List ByteArray) (hls : ls.length < 10000) (hsz : ∀ y ∈ ls, y.size ≤ 1024) : ∀ (d i : Nat) (acc : List S26), i + d = ls.length → acc.length ≤ i →
    ∃ r, Ev (fun k => clusterlocksref05_Parse.l0 k s acc ls (i : Int)) r ∧ ParseOk s r := by
  intro d
  induction d with
  | zero =>
    intro i acc hi hacc
    have hw : wrap64 ((i : Int) + 1) = ((i + 1 : Nat) : Int) := by unfold wrap64; omega
    obtain ⟨r, hr, ho⟩ := end_of s acc clusterlocksref05_Valid.f clusterlocksref05_Format.f (rv_eq acc) (rformat_eq acc)
    refine ⟨r, Ev.step (fun k => ?_) hr, ho⟩
    rw [clusterlocksref05_Parse.l0, hw, if_neg (by omega)]
  | succ d ih =>
    intro i acc hi hacc
    have hw : wrap64 ((i : Int) + 1) = ((i + 1 : Nat) : Int) := by unfold wrap64; omega
    by_cases hlast : ((i + 1 : Nat) : Int) < (ls.length : Int)
    · have hs := rd_size ls i 1024 hsz
      have hsp := rsplit (rdOf ByteArray.empty ls (i : Int)) 32 (by omega)
      have htz : ∀ y ∈ (spl 32 [] (rdOf ByteArray.empty ls (i : Int)).data.toList).map mk, y.size ≤ 1024 := fun y hy => by
        obtain ⟨z, hz, rfl⟩ := List.mem_map.1 hy
        have := spl_sizes 32 _ _ z hz
        rw [List.length_nil, ← ba_size] at this
        rw [mk_size]; omega
      generalize (spl 32 [] (rdOf ByteArray.empty ls (i : Int)).data.toList).map mk = t at hsp htz
      let F : Nat → List ByteArray → Option (List S26 × Int) := fun k t201 => (if (t201.length : Int) = 5 then (if 0 < (t201.length : Int) then (clusterlocksref05_Parse.j1 k s acc ls (i : Int) t201 ((rdOf ByteArray.empty t201 0).toList == ([112, 111, 111, 108] : List UInt8)) (⟨#[]⟩ : ByteArray) 1 1 0) else (none)) else (clusterlocksref05_Parse.j1 k s acc ls (i : Int) t201 false (⟨#[]⟩ : ByteArray) 1 1 0))
      have step : ∀ k, clusterlocksref05_Parse.l0 (k + 1) s acc ls (i : Int) = (clusterlocksref02_Split.f k (rdOf ByteArray.empty ls (i : Int)) 32).bind (F k) := fun k => by
        rw [clusterlocksref05_Parse.l0, hw, if_pos hlast, if_pos (by omega), if_pos (by omega)]
      have ih' : ∀ acc' : List S26, acc'.length ≤ i + 1 → ∃ r, Ev (fun k => clusterlocksref05_Parse.l0 k s acc' ls ((i + 1 : Nat) : Int)) r ∧ ParseOk s r := fun acc' h' => ih (i + 1) acc' (by omega) h'
      by_cases h5 : (t.length : Int) = 5
      · obtain ⟨r, hr, ho⟩ := rparse_j1 s acc ls i t htz ((rdOf ByteArray.empty t 0).toList == ([112, 111, 111, 108] : List UInt8)) (fun _ => by omega) (by omega) hacc ih' ⟨#[]⟩ 1 1 0
        exact ⟨r, Ev.step step (Ev.bind hsp (Ev.congr (fun k => if_pos h5) (Ev.congr (fun k => if_pos (by omega)) hr))), ho⟩
      · obtain ⟨r, hr, ho⟩ := rparse_j1 s acc ls i t htz false (fun h => absurd h (by decide)) (by omega) hacc ih' ⟨#[]⟩ 1 1 0
        exact ⟨r, Ev.step step (Ev.bind hsp (Ev.congr (fun k => if_neg h5) hr)), ho⟩
    · obtain ⟨r, hr, ho⟩ := end_of s acc clusterlocksref05_Valid.f clusterlocksref05_Format.f (rv_eq acc) (rformat_eq acc)
      refine ⟨r, Ev.step (fun k => ?_) hr, ho⟩
      rw [clusterlocksref05_Parse.l0, hw, if_neg hlast]
theorem rparse_any (s : ByteArray) (hz : s.size ≤ 1024) : ∃ r, Ev (fun k => clusterlocksref05_Parse.f k s) r ∧ ParseOk s r := by
  have h1 := spl_len 10 s.data.toList []
  rw [← ba_size] at h1
  obtain ⟨r, hr, ho⟩ := rparse_l0 s ((spl 10 [] s.data.toList).map mk) (by rw [List.length_map]; omega) (fun y hy => by
    obtain ⟨z, hz', rfl⟩ := List.mem_map.1 hy
    have := spl_sizes 10 _ _ z hz'
    rw [List.length_nil, ← ba_size] at this
    rw [mk_size]; omega) ((spl 10 [] s.data.toList).map mk).length 0 [] (by omega) (Nat.le_refl _)
  refine ⟨r, ?_, ho⟩
  unfold clusterlocksref05_Parse.f
  exact Ev.congr (fun k => if_neg (by omega)) (Ev.bind (rsplit s 10 (by omega)) hr)
/-! ### the reference's Parse at the text of a catalog -/
theorem spl_text : ∀ (l : List S26), (∀ x ∈ l, rB x = true) → spl 10 [] (textL l) = l.map lineL ++ [[]]
  | [], _ => rfl
  | x :: l, h => by
    rw [textL, spl_hit 10 _ _ _ (lineL_no10 (h x List.mem_cons_self)), spl_text l (fun y hy => h y (List.mem_cons_of_mem _ hy)), List.nil_append, List.map_cons, List.cons_append]
theorem rparse_j2_lock (s : ByteArray) (acc : List S26) (ls : List ByteArray) (i : Nat) (hacc : acc.length ≤ 8) (a0 a1 : List UInt8) (n : Int) (h0 : 0 ≤ n) (h1 : n < 10) (a : ByteArray) (b c d : Int) (r : List S26 × Int)
    (h : Ev (fun k => clusterlocksref05_Parse.l0 k s (acc ++ [(⟨mk a1, b, c, n⟩ : S26)]) ls (wrap64 ((i : Int) + 1))) r) :
    Ev (fun k => clusterlocksref05_Parse.j2 k s acc ls (i : Int) [mk a0, mk a1, mk [97, 116], mk (dig n)] a b c d) r := by
  refine Ev.step (f := fun k => (clusterlocksref02_Number.f k (mk (dig n))).bind fun bt218 => (if bt218.2 = true then (clusterlocksref05_Parse.l0 k s (acc ++ [(⟨mk a1, b, c, bt218.1⟩ : S26)]) ls (wrap64 ((i : Int) + 1))) else (some (([] : List (S26)), 6)))) (fun k => ?_) (Ev.bind (num_dig h0 h1) (Ev.congr (fun k => if_pos rfl) h))
  have e1 : rdOf ByteArray.empty [mk a0, mk a1, mk [97, 116], mk (dig n)] 1 = mk a1 := rfl
  have e2 : rdOf ByteArray.empty [mk a0, mk a1, mk [97, 116], mk (dig n)] 2 = mk [97, 116] := rfl
  have e3 : rdOf ByteArray.empty [mk a0, mk a1, mk [97, 116], mk (dig n)] 3 = mk (dig n) := rfl
  rw [clusterlocksref05_Parse.j2, if_pos (by simp), e3]
  congr 1
  funext bt
  by_cases hb : bt.2 = true
  · rw [if_pos hb, if_pos hb, if_pos (by simp), e2, mk_toList, if_pos rfl, if_pos (by simp), if_pos (by omega), e1]
  · rw [if_neg hb, if_neg hb]
theorem eta_lock (x : S26) (h : x.f1 = 1) (h' : x.f2 = 1) : (⟨x.f0, 1, 1, x.f3⟩ : S26) = x := by
  cases x; simp only at h h'; subst h; subst h'; rfl
theorem eta_pool (x : S26) (h : x.f1 = 2) : (⟨x.f0, 2, x.f2, x.f3⟩ : S26) = x := by
  cases x; simp only at h; subst h; rfl
theorem rparse_step (s : ByteArray) (acc : List S26) (ls : List ByteArray) (i : Nat) (x : S26) (h : rB x = true) (hx : rdOf ByteArray.empty ls (i : Int) = mk (lineL x)) (hi : i + 1 < ls.length) (hl : ls.length < 10000) (hacc : acc.length ≤ 8) (r : List S26 × Int)
    (hr : Ev (fun k => clusterlocksref05_Parse.l0 k s (acc ++ [x]) ls ((i + 1 : Nat) : Int)) r) : Ev (fun k => clusterlocksref05_Parse.l0 k s acc ls (i : Int)) r := by
  have hw : wrap64 ((i : Int) + 1) = ((i + 1 : Nat) : Int) := by unfold wrap64; omega
  obtain ⟨h1, h2, h3, h4, _⟩ := res_parts h
  have hlen := lineL_length h
  have n1 : (32 : UInt8) ∉ nm x := name_no x.f0 h1 32 (by decide)
  have n2 := dig_no h3 (by omega) 32 (by decide)
  have ex : x.f0 = mk (nm x) := rfl
  have hsp := rsplit (mk (lineL x)) 32 (by rw [mk_size]; omega)
  rw [mk_data] at hsp
  rw [← hw] at hr
  let F : Nat → List ByteArray → Option (List S26 × Int) := fun k t201 => (if (t201.length : Int) = 5 then (if 0 < (t201.length : Int) then (clusterlocksref05_Parse.j1 k s acc ls (i : Int) t201 ((rdOf ByteArray.empty t201 0).toList == ([112, 111, 111, 108] : List UInt8)) (⟨#[]⟩ : ByteArray) 1 1 0) else (none)) else (clusterlocksref05_Parse.j1 k s acc ls (i : Int) t201 false (⟨#[]⟩ : ByteArray) 1 1 0))
  have step : ∀ k, clusterlocksref05_Parse.l0 (k + 1) s acc ls (i : Int) = (clusterlocksref02_Split.f k (mk (lineL x)) 32).bind (F k) := fun k => by
    rw [clusterlocksref05_Parse.l0, hw, if_pos (by omega), if_pos (by omega), if_pos (by omega), hx]
  rcases h2 with ⟨h2, h5⟩ | ⟨h2, h6, h7⟩
  · have hwd : (spl 32 [] (lineL x)).map mk = [mk [108, 111, 99, 107], mk (nm x), mk [97, 116], mk (dig x.f3)] := by
      unfold lineL
      rw [if_pos h2, spl_hit 32 _ _ _ (by decide), spl_hit 32 _ _ _ n1, spl_hit 32 _ _ _ (by decide), spl_miss 32 _ _ n2]
      rfl
    rw [hwd] at hsp
    refine Ev.step step (Ev.bind hsp (Ev.congr (fun k => if_neg (by simp)) ?_))
    refine Ev.step (f := fun k => clusterlocksref05_Parse.j2 k s acc ls (i : Int) [mk [108, 111, 99, 107], mk (nm x), mk [97, 116], mk (dig x.f3)] (⟨#[]⟩ : ByteArray) 1 1 0) (fun k => ?_) (rparse_j2_lock s acc ls i hacc _ _ x.f3 h3 (by omega) _ 1 1 0 r ?_)
    · have e0 : rdOf ByteArray.empty [mk [108, 111, 99, 107], mk (nm x), mk [97, 116], mk (dig x.f3)] 0 = mk [108, 111, 99, 107] := rfl
      rw [clusterlocksref05_Parse.j1, if_neg (by decide), if_pos (by rfl), if_pos (by simp), e0, mk_toList, if_pos rfl]
    · have e : (⟨mk (nm x), 1, 1, x.f3⟩ : S26) = x := by
        rw [← ex]; exact eta_lock x h2 h5
      rw [e]
      exact hr
  · have n3 := dig_no (show 0 ≤ x.f2 by omega) (by omega) 32 (by decide)
    have hwd : (spl 32 [] (lineL x)).map mk = [mk [112, 111, 111, 108], mk (nm x), mk (dig x.f2), mk [97, 116], mk (dig x.f3)] := by
      unfold lineL
      rw [if_neg (by omega), spl_hit 32 _ _ _ (by decide), spl_hit 32 _ _ _ n1, spl_hit 32 _ _ _ n3, spl_hit 32 _ _ _ (by decide), spl_miss 32 _ _ n2]
      rfl
    rw [hwd] at hsp
    have e0 : rdOf ByteArray.empty [mk [112, 111, 111, 108], mk (nm x), mk (dig x.f2), mk [97, 116], mk (dig x.f3)] 0 = mk [112, 111, 111, 108] := rfl
    have e1 : rdOf ByteArray.empty [mk [112, 111, 111, 108], mk (nm x), mk (dig x.f2), mk [97, 116], mk (dig x.f3)] 1 = mk (nm x) := rfl
    have e2 : rdOf ByteArray.empty [mk [112, 111, 111, 108], mk (nm x), mk (dig x.f2), mk [97, 116], mk (dig x.f3)] 2 = mk (dig x.f2) := rfl
    have e3 : rdOf ByteArray.empty [mk [112, 111, 111, 108], mk (nm x), mk (dig x.f2), mk [97, 116], mk (dig x.f3)] 3 = mk [97, 116] := rfl
    have e4 : rdOf ByteArray.empty [mk [112, 111, 111, 108], mk (nm x), mk (dig x.f2), mk [97, 116], mk (dig x.f3)] 4 = mk (dig x.f3) := rfl
    refine Ev.step step (Ev.bind hsp (Ev.congr (fun k => if_pos (by rfl)) (Ev.congr (fun k => if_pos (by simp)) ?_)))
    refine Ev.step (f := fun k => (clusterlocksref02_Number.f k (mk (dig x.f2))).bind fun bt207 => (if bt207.2 = true then (clusterlocksref05_Parse.j2 k s acc ls (i : Int) (([mk [112, 111, 111, 108], mk (nm x), mk [97, 116], mk (dig x.f3)] : List ByteArray)) (⟨#[]⟩ : ByteArray) 2 bt207.1 0) else (some (([] : List (S26)), 6)))) (fun k => ?_)
      (Ev.bind (num_dig (by omega) (by omega)) (Ev.congr (fun k => if_pos rfl) (rparse_j2_lock s acc ls i hacc _ _ x.f3 h3 (by omega) _ 2 x.f2 0 r ?_)))
    · rw [clusterlocksref05_Parse.j1, e0, mk_toList, if_pos (by rfl), if_pos (by simp), e2]
      congr 1
    · have e : (⟨mk (nm x), 2, x.f2, x.f3⟩ : S26) = x := by
        rw [← ex]; exact eta_pool x h2
      rw [e]
      exact hr
theorem rparse_go (l : List S26) (hg : Good l) : ∀ (d i : Nat), i + d = l.length → Ev (fun k => clusterlocksref05_Parse.l0 k (mk (textL l)) (l.take i) ((l.map lineL ++ [[]]).map mk) (i : Int)) (l, 0) := by
  have hl8 := hg.len
  have hlen : ((l.map lineL ++ [[]]).map mk).length = l.length + 1 := by simp
  intro d
  induction d with
  | zero =>
    intro i hi
    have hw : wrap64 ((i : Int) + 1) = ((i + 1 : Nat) : Int) := by unfold wrap64; omega
    have hv := rv_eq l
    rw [(good_iff l).2 hg] at hv
    have hf := rformat_eq l
    unfold fmtS at hf
    rw [if_pos ((good_iff l).2 hg)] at hf
    refine Ev.step (f := fun k => (clusterlocksref05_Valid.f k l).bind fun t225 => (if t225 = true then ((clusterlocksref05_Format.f k l).bind fun t226 => (if t226.toList = (mk (textL l)).toList then (some (l, 0)) else (some (([] : List (S26)), 6)))) else (some (([] : List (S26)), 6)))) (fun k => ?_) (Ev.bind hv (Ev.congr (fun k => if_pos rfl) (Ev.bind hf (Ev.congr (fun k => if_pos rfl) (Ev.now _)))))
    rw [clusterlocksref05_Parse.l0, hw, if_neg (by omega), List.take_of_length_le (by omega)]
  | succ d ih =>
    intro i hi
    have h : i < l.length := by omega
    have ih' := ih (i + 1) (by omega)
    rw [List.take_succ_eq_append_getElem h] at ih'
    refine rparse_step _ _ _ i l[i] (hg.res _ (List.getElem_mem h)) ?_ (by omega) (by omega) (by rw [List.length_take]; omega) _ ih'
    refine rd_mk _ i _ ?_
    rw [List.getElem?_map, List.getElem?_append_left (by rw [List.length_map]; omega), List.getElem?_map, List.getElem?_eq_getElem h]
    rfl
theorem rparse_text (l : List S26) (hg : Good l) : Ev (fun k => clusterlocksref05_Parse.f k (mk (textL l))) (l, 0) := by
  have h1 := textL_length l hg.res
  have h2 := hg.len
  have hsp := rsplit (mk (textL l)) 10 (by rw [mk_size]; omega)
  rw [mk_data, spl_text l hg.res] at hsp
  unfold clusterlocksref05_Parse.f
  exact Ev.congr (fun k => if_neg (by rw [mk_size]; omega)) (Ev.bind hsp (rparse_go l hg l.length 0 (by omega)))
end Go.Proofs.YtbiapfjhdggkpaaDoor.PA


/- CatalogParses: the law in plain Lean. Conditions: none of our own. -/
namespace Go.Proofs.YtbiapfjhdggkpaaDoor.PA
open Go.RowKit Go.Proofs.YtbiapfjhdggkpaaDoorW.PrintWords Go.Proofs.YtbiapfjhdggkpaaDoorW.PrintLast Go.Proofs.YtbiapfjhdggkpaaDoorW.PrintMore
set_option linter.unusedVariables false
/-- The law as a statement on plain data. -/
def CatalogParses_Pure : Prop := ∀ (x0 : ByteArray), x0.size ≤ 140737488351232 → ∃ k, clusterlockslaw05_CatalogParses.f k x0 = some true
theorem parses_of (s : ByteArray) (l : List S26) (e : Int) (hl : l.length < 4000000000000) (h1 : Ev (fun k => catalog_Parse.f k s) (l, e)) (h2 : Ev (fun k => clusterlocksref05_Parse.f k s) (l, e)) (h3 : e = 0 → Good l ∧ s = mk (textL l)) :
    Ev (fun k => clusterlockslaw05_CatalogParses.f k s) true := by
  unfold clusterlockslaw05_CatalogParses.f
  refine Ev.bind h1 (Ev.bind h2 (Ev.bind awake_ev (Ev.congr (fun k => if_pos rfl) (Ev.congr (fun k => if_pos rfl) (Ev.bind (same_eq l hl) (Ev.congr (fun k => if_pos rfl) ?_))))))
  by_cases he : e = 0
  · obtain ⟨hg, hs⟩ := h3 he
    refine Ev.congr (fun k => if_pos he) (Ev.bind (format_eq l) ?_)
    have hf : fmtS l = s := by unfold fmtS; rw [if_pos ((good_iff l).2 hg), hs]
    rw [hf, beq_self_eq_true]
    exact Ev.now _
  · exact Ev.congr (fun k => if_neg he) (Ev.now _)
theorem CatalogParses_pure : CatalogParses_Pure := by
  intro s hs
  refine ev_some ?_
  by_cases hbig : (s.size : Int) > 1024
  · refine parses_of s [] 3 (by decide) ?_ ?_ (fun h => absurd h (by decide))
    · unfold catalog_Parse.f
      exact Ev.congr (fun k => if_pos hbig) (Ev.now _)
    · unfold clusterlocksref05_Parse.f
      exact Ev.congr (fun k => if_pos hbig) (Ev.now _)
  by_cases ht : ∃ l, Good l ∧ s = mk (textL l)
  · obtain ⟨l, hg, rfl⟩ := ht
    have := hg.len
    exact parses_of _ l 0 (by omega) (parse_text l hg) (rparse_text l hg) (fun _ => ⟨hg, rfl⟩)
  · obtain ⟨r, hr, ho⟩ := parse_any s (by omega)
    obtain ⟨q, hq, hp⟩ := rparse_any s (by omega)
    rcases ho with rfl | ⟨l, _, hg, hs⟩
    · rcases hp with rfl | ⟨l, _, hg, hs⟩
      · exact parses_of s [] 6 (by decide) hr hq (fun h => absurd h (by decide))
      · exact absurd ⟨l, hg, hs⟩ ht
    · exact absurd ⟨l, hg, hs⟩ ht
end Go.Proofs.YtbiapfjhdggkpaaDoor.PA

