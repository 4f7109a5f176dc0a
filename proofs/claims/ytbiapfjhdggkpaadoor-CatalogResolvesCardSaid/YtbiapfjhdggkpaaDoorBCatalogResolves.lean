/- The law CatalogResolves in plain data, with the facts that it needs. Conditions: those of its statement. -/
import Derived.Test.YtbiapfjhdggkpaaDoorT7
import Derived.Test.YtbiapfjhdggkpaaDoorT15
import Derived.Test.YtbiapfjhdggkpaaDoorT17
import Derived.Test.YtbiapfjhdggkpaaDoorPAOk
import Derived.Test.YtbiapfjhdggkpaaDoorPLCatalogResolves
import Derived.Test.YtbiapfjhdggkpaaDoorPAx10
import Derived.Test.YtbiapfjhdggkpaaDoorPAx2
import Derived.Test.YtbiapfjhdggkpaaDoorPAx3
import Derived.Test.YtbiapfjhdggkpaaDoorPAx4
import Derived.Test.YtbiapfjhdggkpaaDoorPAx5
import Derived.Test.YtbiapfjhdggkpaaDoorPAx6
import Derived.Test.YtbiapfjhdggkpaaDoorPAx7
import Derived.Test.YtbiapfjhdggkpaaDoorPAx9
namespace Go.Proofs.YtbiapfjhdggkpaaDoor.PA
open Go.RowKit Go.Proofs.YtbiapfjhdggkpaaDoorW.PrintWords Go.Proofs.YtbiapfjhdggkpaaDoorW.PrintLast Go.Proofs.YtbiapfjhdggkpaaDoorW.PrintMore
set_option linter.unusedVariables false
set_option linter.unusedSimpArgs false
theorem rd26 (l : List S26) (i : Nat) (h : i < l.length) : rd_T26 l (i : Int) = l[i] := by
  unfold rd_T26
  rw [Int.toNat_natCast, List.getD_eq_getElem?_getD, List.getElem?_eq_getElem h]
  rfl
def letterB (c : Int) : Bool := decide (97 ≤ c) && decide (c ≤ 122)
def part (c : Int) : Bool := letterB c || (decide (48 ≤ c) && decide (c ≤ 57)) || c == 95 || c == 45
def ap (s : ByteArray) : Nat → Nat → Bool
  | 0, _ => true
  | d + 1, i => part (bt s (i : Int)) && ap s d (i + 1)
def resv (l : List UInt8) : Bool := l == [97, 108, 108] || (l == [97, 110, 121] || (l == [111, 102] || (l == [112, 114, 105, 111] || l == [108, 105, 109, 105, 116])))
def nameB (s : ByteArray) : Bool := decide (1 ≤ s.size) && (decide (s.size ≤ 12) && (letterB (bt s 0) && (!resv s.toList && ap s s.size 0)))
theorem res_eq (s : ByteArray) : catalog_Reserved.f s = some (resv s.toList) := by
  unfold catalog_Reserved.f resv
  generalize s.toList = x
  by_cases h1 : x = [97, 108, 108]
  · rw [if_pos h1, h1]; rfl
  · rw [if_neg h1, beq_eq_false_iff_ne.mpr h1]
    by_cases h2 : x = [97, 110, 121]
    · rw [if_pos h2, h2]; rfl
    · rw [if_neg h2, beq_eq_false_iff_ne.mpr h2]
      by_cases h3 : x = [111, 102]
      · rw [if_pos h3, h3]; rfl
      · rw [if_neg h3, beq_eq_false_iff_ne.mpr h3]
        by_cases h4 : x = [112, 114, 105, 111]
        · rw [if_pos h4, h4]; rfl
        · rw [if_neg h4, beq_eq_false_iff_ne.mpr h4]
          by_cases h5 : x = [108, 105, 109, 105, 116]
          · rw [if_pos h5, h5]; rfl
          · rw [if_neg h5, beq_eq_false_iff_ne.mpr h5]; rfl
theorem rres_eq (s : ByteArray) : clusterlocksref05_Reserved.f s = some (resv s.toList) := by
  unfold clusterlocksref05_Reserved.f resv
  generalize s.toList = x
  by_cases h1 : x = [97, 108, 108]
  · rw [if_pos h1, h1]; rfl
  · rw [if_neg h1, beq_eq_false_iff_ne.mpr h1]
    by_cases h2 : x = [97, 110, 121]
    · rw [if_pos h2, h2]; rfl
    · rw [if_neg h2, beq_eq_false_iff_ne.mpr h2]
      by_cases h3 : x = [111, 102]
      · rw [if_pos h3, h3]; rfl
      · rw [if_neg h3, beq_eq_false_iff_ne.mpr h3]
        by_cases h4 : x = [112, 114, 105, 111]
        · rw [if_pos h4, h4]; rfl
        · rw [if_neg h4, beq_eq_false_iff_ne.mpr h4]; rfl
theorem letter_eq (c : Int) : clusterlocksref05_Letter.f c = some (letterB c) := by
  unfold clusterlocksref05_Letter.f letterB
  by_cases h : 97 ≤ c
  · rw [if_pos h, decide_eq_true h, Bool.true_and]
  · rw [if_neg h, decide_eq_false h, Bool.false_and]
theorem part_eq (c : Int) : clusterlocksref05_Part.f c = some (part c) := by
  unfold clusterlocksref05_Part.f part
  rw [letter_eq, Option.bind_some]
  cases h : letterB c
  · rw [if_neg (by decide), Bool.false_or]
    by_cases h1 : 48 ≤ c
    · rw [if_pos h1, decide_eq_true h1, Bool.true_and]
      by_cases h2 : c ≤ 57
      · rw [if_pos h2, decide_eq_true h2]; rfl
      · rw [if_neg h2, decide_eq_false h2, Bool.false_or]
        by_cases h3 : c = 95
        · rw [if_pos h3, beq_iff_eq.mpr h3]; rfl
        · rw [if_neg h3, beq_eq_false_iff_ne.mpr h3]; rfl
    · rw [if_neg h1, decide_eq_false h1, Bool.false_and, Bool.false_or]
      by_cases h3 : c = 95
      · rw [if_pos h3, beq_iff_eq.mpr h3]; rfl
      · rw [if_neg h3, beq_eq_false_iff_ne.mpr h3]; rfl
  · rw [if_pos rfl]; rfl
theorem part_iff (c : Int) : part c = true ↔ ((97 ≤ c ∧ c ≤ 122) ∨ (48 ≤ c ∧ c ≤ 57)) ∨ c = 95 ∨ c = 45 := by
  simp only [part, letterB, Bool.or_eq_true, Bool.and_eq_true, decide_eq_true_eq, beq_iff_eq, or_assoc]
theorem vn_l0 (s : ByteArray) (hs : s.size ≤ 12) : ∀ (d i : Nat), i + d = s.size → Ev (fun k => catalog_ValidName.l0 k s (s.size : Int) (i : Int)) (ap s d i) := by
  intro d
  induction d with
  | zero =>
    intro i hi
    refine Ev.step (f := fun _ => some true) (fun k => ?_) (Ev.now _)
    rw [catalog_ValidName.l0, if_neg (by omega)]
  | succ d ih =>
    intro i hi
    have hw : wrap64 ((i : Int) + 1) = ((i + 1 : Nat) : Int) := by unfold wrap64; omega
    have ih' := ih (i + 1) (by omega)
    rw [ap]
    generalize hc : bt s (i : Int) = c
    cases h : part c
    · have h2 : ¬ (part c = true) := by rw [h]; decide
      rw [part_iff] at h2
      refine Ev.step (f := fun _ => some false) (fun k => ?_) (Ev.now _)
      rw [catalog_ValidName.l0, if_pos (by omega), if_pos (by omega), if_pos (by omega), hc]
      generalize catalog_ValidName.l0 k s (s.size : Int) (wrap64 ((i : Int) + 1)) = z
      repeat' split
      all_goals first | rfl | (exfalso; omega)
    · rw [part_iff] at h
      rw [Bool.true_and]
      refine Ev.step (fun k => ?_) ih'
      rw [catalog_ValidName.l0, if_pos (by omega), if_pos (by omega), if_pos (by omega), hc, hw]
      generalize catalog_ValidName.l0 k s (s.size : Int) ((i + 1 : Nat) : Int) = z
      repeat' split
      all_goals first | rfl | (exfalso; omega)
theorem rvn_l0 (s : ByteArray) (hs : s.size ≤ 12) : ∀ (d i : Nat), i + d = s.size → Ev (fun k => clusterlocksref05_ValidName.l0 k s (i : Int)) (ap s d i) := by
  intro d
  induction d with
  | zero =>
    intro i hi
    refine Ev.step (f := fun _ => some true) (fun k => ?_) (Ev.now _)
    rw [clusterlocksref05_ValidName.l0, if_neg (by omega)]
  | succ d ih =>
    intro i hi
    have hw : wrap64 ((i : Int) + 1) = ((i + 1 : Nat) : Int) := by unfold wrap64; omega
    have ih' := ih (i + 1) (by omega)
    rw [ap]
    cases h : part (bt s (i : Int))
    · refine Ev.step (f := fun _ => some false) (fun k => ?_) (Ev.now _)
      rw [clusterlocksref05_ValidName.l0, if_pos (by omega), if_pos (by omega), part_eq, Option.bind_some, h, if_neg (by decide)]
    · rw [Bool.true_and]
      refine Ev.step (fun k => ?_) ih'
      rw [clusterlocksref05_ValidName.l0, if_pos (by omega), if_pos (by omega), part_eq, Option.bind_some, h, if_pos rfl, hw]
theorem vn_j0 (s : ByteArray) (b : Bool) (hs : b = true ∨ s.size ≤ 12) : Ev (fun k => catalog_ValidName.j0 k s b) (!b && ap s s.size 0) := by
  cases b
  · refine Ev.step (fun k => ?_) (vn_l0 s (by rcases hs with h | h; exact absurd h (by decide); exact h) s.size 0 (by omega))
    rw [catalog_ValidName.j0, if_neg (by decide)]
    rfl
  · refine Ev.step (f := fun _ => some false) (fun k => ?_) (Ev.now _)
    rw [catalog_ValidName.j0, if_pos rfl]
theorem rvn_j0 (s : ByteArray) (b : Bool) (hs : b = true ∨ s.size ≤ 12) : Ev (fun k => clusterlocksref05_ValidName.j0 k s b) (!b && ap s s.size 0) := by
  cases b
  · refine Ev.step (fun k => ?_) (rvn_l0 s (by rcases hs with h | h; exact absurd h (by decide); exact h) s.size 0 (by omega))
    rw [clusterlocksref05_ValidName.j0, if_neg (by decide)]
    rfl
  · refine Ev.step (f := fun _ => some false) (fun k => ?_) (Ev.now _)
    rw [clusterlocksref05_ValidName.j0, if_pos rfl]
theorem vn_eq (s : ByteArray) : Ev (fun k => catalog_ValidName.f k s) (nameB s) := by
  unfold nameB
  by_cases h1 : 1 ≤ s.size
  rotate_left
  · rw [decide_eq_false h1, Bool.false_and]
    refine Ev.congr (fun k => ?_) (vn_j0 s true (.inl rfl))
    unfold catalog_ValidName.f
    rw [if_pos (by omega)]
  rw [decide_eq_true h1, Bool.true_and]
  by_cases h2 : s.size ≤ 12
  rotate_left
  · rw [decide_eq_false h2, Bool.false_and]
    refine Ev.congr (fun k => ?_) (vn_j0 s true (.inl rfl))
    unfold catalog_ValidName.f
    rw [if_neg (by omega), if_pos (by omega)]
  rw [decide_eq_true h2, Bool.true_and]
  unfold letterB
  by_cases h3 : 97 ≤ bt s 0
  rotate_left
  · rw [decide_eq_false h3, Bool.false_and, Bool.false_and]
    refine Ev.congr (fun k => ?_) (vn_j0 s true (.inl rfl))
    unfold catalog_ValidName.f
    rw [if_neg (by omega), if_neg (by omega), if_pos (by omega), if_pos (by omega)]
  rw [decide_eq_true h3, Bool.true_and]
  by_cases h4 : bt s 0 ≤ 122
  rotate_left
  · rw [decide_eq_false h4, Bool.false_and]
    refine Ev.congr (fun k => ?_) (vn_j0 s true (.inl rfl))
    unfold catalog_ValidName.f
    rw [if_neg (by omega), if_neg (by omega), if_pos (by omega), if_neg (by omega), if_pos (by omega)]
  rw [decide_eq_true h4, Bool.true_and]
  refine Ev.congr (fun k => ?_) (vn_j0 s (resv s.toList) (.inr h2))
  unfold catalog_ValidName.f
  rw [if_neg (by omega), if_neg (by omega), if_pos (by omega), if_neg (by omega), if_neg (by omega), res_eq, Option.bind_some]
theorem rvn_eq (s : ByteArray) : Ev (fun k => clusterlocksref05_ValidName.f k s) (nameB s) := by
  unfold nameB
  by_cases h1 : 1 ≤ s.size
  rotate_left
  · rw [decide_eq_false h1, Bool.false_and]
    refine Ev.congr (fun k => ?_) (rvn_j0 s true (.inl rfl))
    unfold clusterlocksref05_ValidName.f
    rw [if_pos (by omega)]
  rw [decide_eq_true h1, Bool.true_and]
  by_cases h2 : s.size ≤ 12
  rotate_left
  · rw [decide_eq_false h2, Bool.false_and]
    refine Ev.congr (fun k => ?_) (rvn_j0 s true (.inl rfl))
    unfold clusterlocksref05_ValidName.f
    rw [if_neg (by omega), if_pos (by omega)]
  rw [decide_eq_true h2, Bool.true_and]
  cases h3 : letterB (bt s 0)
  · rw [Bool.false_and]
    refine Ev.congr (fun k => ?_) (rvn_j0 s true (.inl rfl))
    unfold clusterlocksref05_ValidName.f
    rw [if_neg (by omega), if_neg (by omega), if_pos (by omega), letter_eq, Option.bind_some, h3, if_neg (by decide)]
  rw [Bool.true_and]
  refine Ev.congr (fun k => ?_) (rvn_j0 s (resv s.toList) (.inr h2))
  unfold clusterlocksref05_ValidName.f
  rw [if_neg (by omega), if_neg (by omega), if_pos (by omega), letter_eq, Option.bind_some, h3, if_pos rfl, rres_eq, Option.bind_some]
/-! ### resources -/
def shp (k n : Int) : Bool := (k == 1 && n == 1) || (k == 2 && (decide (1 ≤ n) && decide (n ≤ 8)))
theorem shaped_eq (s : ByteArray) (k n h : Int) : amount_Shaped.f s k n h = some (shp k n) := by
  unfold amount_Shaped.f shp
  by_cases h1 : k = 1
  · subst h1
    rw [if_pos rfl]
    cases (n == 1) <;> rfl
  · rw [if_neg h1, beq_eq_false_iff_ne.mpr h1, Bool.false_and, Bool.false_or]
    by_cases h2 : k = 2
    · rw [if_pos h2, beq_iff_eq.mpr h2, Bool.true_and]
      by_cases h3 : 1 ≤ n
      · rw [if_pos h3, decide_eq_true h3, Bool.true_and]
      · rw [if_neg h3, decide_eq_false h3, Bool.false_and]
    · rw [if_neg h2, beq_eq_false_iff_ne.mpr h2, Bool.false_and]
theorem rshaped_eq (s : ByteArray) (k n h : Int) : clusterlocksref04_Shaped.f s k n h = some (shp k n) := by
  unfold clusterlocksref04_Shaped.f shp
  by_cases h1 : k = 1
  · subst h1
    rw [if_pos rfl]
    by_cases hn : n = 1
    · rw [if_pos hn, hn]; rfl
    · rw [if_neg hn, if_neg (by decide), beq_eq_false_iff_ne.mpr hn]; rfl
  · rw [if_neg h1, beq_eq_false_iff_ne.mpr h1, Bool.false_and, Bool.false_or]
    by_cases h2 : k = 2
    · rw [if_pos h2, beq_iff_eq.mpr h2, Bool.true_and]
      by_cases h3 : 1 ≤ n
      · rw [if_pos h3, decide_eq_true h3, Bool.true_and]
      · rw [if_neg h3, decide_eq_false h3, Bool.false_and]
    · rw [if_neg h2, beq_eq_false_iff_ne.mpr h2, Bool.false_and]
def resB (s : ByteArray) (k n h : Int) : Bool := nameB s && (shp k n && (decide (0 ≤ h) && decide (h < 4)))
theorem vr_tail (b : Bool) (h : Int) : (if b = true then (if h ≥ 0 then some (decide (h < 4)) else some false) else some false) = some (b && (decide (0 ≤ h) && decide (h < 4))) := by
  cases b
  · rfl
  · rw [if_pos rfl, Bool.true_and]
    by_cases h0 : 0 ≤ h
    · rw [if_pos h0, decide_eq_true h0, Bool.true_and]
    · rw [if_neg h0, decide_eq_false h0, Bool.false_and]
theorem vr_eq (s : ByteArray) (k n h : Int) : Ev (fun q => catalog_ValidResource.f q s k n h) (resB s k n h) := by
  unfold catalog_ValidResource.f resB
  simp only [shaped_eq, Option.bind_some, vr_tail]
  refine Ev.bind (vn_eq s) ?_
  cases nameB s
  · exact Ev.now _
  · exact Ev.now _
theorem rvr_eq (s : ByteArray) (k n h : Int) : Ev (fun q => clusterlocksref05_ValidResource.f q s k n h) (resB s k n h) := by
  unfold clusterlocksref05_ValidResource.f resB
  simp only [rshaped_eq, Option.bind_some, vr_tail]
  refine Ev.bind (rvn_eq s) ?_
  cases nameB s
  · exact Ev.now _
  · exact Ev.now _
/-! ### catalogs -/
def rB (x : S26) : Bool := resB x.f0 x.f1 x.f2 x.f3
def lt (x y : S26) : Bool := Op.bytesLess x.f0.toList y.f0.toList
def vok (l : List S26) (i : Nat) : Bool := rB (rd_T26 l (i : Int)) && (i == 0 || lt (rd_T26 l ((i : Int) - 1)) (rd_T26 l (i : Int)))
def vall (l : List S26) : Nat → Nat → Bool
  | 0, _ => true
  | d + 1, i => vok l i && vall l d (i + 1)
def validB (l : List S26) : Bool := decide (l.length ≤ 8) && vall l l.length 0
theorem v_l0 (l : List S26) (hl : l.length ≤ 8) : ∀ (d i : Nat), i + d = l.length → Ev (fun k => catalog_Valid.l0 k l l (l.length : Int) (i : Int)) (vall l d i) := by
  intro d
  induction d with
  | zero =>
    intro i hi
    refine Ev.step (f := fun _ => some true) (fun k => ?_) (Ev.now _)
    rw [catalog_Valid.l0, if_neg (by omega)]
  | succ d ih =>
    intro i hi
    have hw : wrap64 ((i : Int) + 1) = ((i + 1 : Nat) : Int) := by unfold wrap64; omega
    have hw2 : wrap64 ((i : Int) - 1) = (i : Int) - 1 := by unfold wrap64; omega
    have ih' := ih (i + 1) (by omega)
    rw [vall]
    refine Ev.step (f := fun k => (catalog_ValidResource.f k (rd_T26 l (i : Int)).f0 (rd_T26 l (i : Int)).f1 (rd_T26 l (i : Int)).f2 (rd_T26 l (i : Int)).f3).bind fun t => if t = true then (if (i : Int) > 0 then (if 0 ≤ (i : Int) - 1 then (if (i : Int) - 1 < (l.length : Int) then (if Op.bytesLess (rd_T26 l ((i : Int) - 1)).f0.toList (rd_T26 l (i : Int)).f0.toList = true then catalog_Valid.l0 k l l (l.length : Int) ((i + 1 : Nat) : Int) else some false) else none) else none) else catalog_Valid.l0 k l l (l.length : Int) ((i + 1 : Nat) : Int)) else some false) (fun k => ?_) ?_
    · rw [catalog_Valid.l0, if_pos (by omega), if_pos (by omega), if_pos (by omega), hw, hw2]
    · refine Ev.bind (vr_eq _ _ _ _) ?_
      unfold vok rB lt
      cases resB (rd_T26 l (i : Int)).f0 (rd_T26 l (i : Int)).f1 (rd_T26 l (i : Int)).f2 (rd_T26 l (i : Int)).f3
      · exact Ev.now _
      · rw [Bool.true_and]
        refine Ev.congr (fun k => if_pos rfl) ?_
        by_cases h0 : i = 0
        · rw [beq_iff_eq.mpr h0, Bool.true_or, Bool.true_and]
          exact Ev.congr (fun k => if_neg (by omega)) ih'
        · rw [beq_eq_false_iff_ne.mpr h0, Bool.false_or]
          refine Ev.congr (fun k => by rw [if_pos (by omega), if_pos (by omega), if_pos (by omega)]) ?_
          cases Op.bytesLess (rd_T26 l ((i : Int) - 1)).f0.toList (rd_T26 l (i : Int)).f0.toList
          · exact Ev.now _
          · exact Ev.congr (fun k => if_pos rfl) ih'
theorem v_eq (l : List S26) : Ev (fun k => catalog_Valid.f k l) (validB l) := by
  unfold catalog_Valid.f validB
  by_cases hl : l.length ≤ 8
  · rw [decide_eq_true hl, Bool.true_and]
    exact Ev.congr (fun k => if_neg (by omega)) (v_l0 l hl l.length 0 (by omega))
  · rw [decide_eq_false hl, Bool.false_and]
    exact Ev.congr (fun k => if_pos (by omega)) (Ev.now _)
theorem rv_l0 (l : List S26) (hl : l.length ≤ 8) : ∀ (d i : Nat), i + d = l.length → Ev (fun k => clusterlocksref05_Valid.l0 k l (i : Int)) (vall l d i) := by
  intro d
  induction d with
  | zero =>
    intro i hi
    refine Ev.step (f := fun _ => some true) (fun k => ?_) (Ev.now _)
    rw [clusterlocksref05_Valid.l0, if_neg (by omega)]
  | succ d ih =>
    intro i hi
    have hw : wrap64 ((i : Int) + 1) = ((i + 1 : Nat) : Int) := by unfold wrap64; omega
    have hw2 : wrap64 ((i : Int) - 1) = (i : Int) - 1 := by unfold wrap64; omega
    have ih' := ih (i + 1) (by omega)
    rw [vall]
    refine Ev.step (f := fun k => (clusterlocksref05_ValidResource.f k (rd_T26 l (i : Int)).f0 (rd_T26 l (i : Int)).f1 (rd_T26 l (i : Int)).f2 (rd_T26 l (i : Int)).f3).bind fun t => if t = true then (if (i : Int) > 0 then (if 0 ≤ (i : Int) - 1 then (if (i : Int) - 1 < (l.length : Int) then (if Op.bytesLess (rd_T26 l ((i : Int) - 1)).f0.toList (rd_T26 l (i : Int)).f0.toList = true then clusterlocksref05_Valid.l0 k l ((i + 1 : Nat) : Int) else some false) else none) else none) else clusterlocksref05_Valid.l0 k l ((i + 1 : Nat) : Int)) else some false) (fun k => ?_) ?_
    · rw [clusterlocksref05_Valid.l0, if_pos (by omega), if_pos (by omega), hw, hw2]
    · refine Ev.bind (rvr_eq _ _ _ _) ?_
      unfold vok rB lt
      cases resB (rd_T26 l (i : Int)).f0 (rd_T26 l (i : Int)).f1 (rd_T26 l (i : Int)).f2 (rd_T26 l (i : Int)).f3
      · exact Ev.now _
      · rw [Bool.true_and]
        refine Ev.congr (fun k => if_pos rfl) ?_
        by_cases h0 : i = 0
        · rw [beq_iff_eq.mpr h0, Bool.true_or, Bool.true_and]
          exact Ev.congr (fun k => if_neg (by omega)) ih'
        · rw [beq_eq_false_iff_ne.mpr h0, Bool.false_or]
          refine Ev.congr (fun k => by rw [if_pos (by omega), if_pos (by omega), if_pos (by omega)]) ?_
          cases Op.bytesLess (rd_T26 l ((i : Int) - 1)).f0.toList (rd_T26 l (i : Int)).f0.toList
          · exact Ev.now _
          · exact Ev.congr (fun k => if_pos rfl) ih'
theorem rv_eq (l : List S26) : Ev (fun k => clusterlocksref05_Valid.f k l) (validB l) := by
  unfold clusterlocksref05_Valid.f validB
  by_cases hl : l.length ≤ 8
  · rw [decide_eq_true hl, Bool.true_and]
    exact Ev.congr (fun k => if_neg (by omega)) (rv_l0 l hl l.length 0 (by omega))
  · rw [decide_eq_false hl, Bool.false_and]
    exact Ev.congr (fun k => if_pos (by omega)) (Ev.now _)
theorem ev_some {α : Type} {f : Nat → Option α} {r : α} (h : Ev f r) : ∃ k, f k = some r := by
  obtain ⟨K, hK⟩ := h
  exact ⟨K, hK K (Nat.le_refl _)⟩
theorem awake_ev : Ev (fun k => clusterlockslaw05_awake.f k) true := Ev.of (fun k => clusterlockslaw05_awake.mono k) clusterlockslaw05_awake.at
end Go.Proofs.YtbiapfjhdggkpaaDoor.PA


/- Catalogs in plain Lean: the order of names, the place of a name, Find and Insert. Conditions: none. -/
namespace Go.Proofs.YtbiapfjhdggkpaaDoor.PA
open Go.RowKit Go.Proofs.YtbiapfjhdggkpaaDoorW.PrintWords Go.Proofs.YtbiapfjhdggkpaaDoorW.PrintLast Go.Proofs.YtbiapfjhdggkpaaDoorW.PrintMore
set_option linter.unusedVariables false
set_option linter.unusedSimpArgs false
/-! ### the order of names -/
/-! ### what validB says -/
/-! ### Find -/
def same (p : List UInt8) (x : S26) : Bool := x.f0.toList == p
def found (o : Option S26) : ByteArray × Int × Int × Int × Bool := match o with
  | some x => (x.f0, x.f1, x.f2, x.f3, true)
  | none => (⟨#[]⟩, 0, 0, 0, false)
theorem rfind_l0 (l : List S26) (p : ByteArray) (hl : l.length < 4000000000000) : ∀ (d i : Nat), i + d = l.length → Ev (fun k => clusterlocksref05_Find.l0 k l p (i : Int)) (found ((l.drop i).find? (same p.toList))) := by
  intro d
  induction d with
  | zero =>
    intro i hi
    refine Ev.step (f := fun _ => some (found none)) (fun k => ?_) ?_
    · rw [clusterlocksref05_Find.l0, if_neg (by omega)]; rfl
    · rw [List.drop_of_length_le (by omega)]; exact Ev.now _
  | succ d ih =>
    intro i hi
    have hw : wrap64 ((i : Int) + 1) = ((i + 1 : Nat) : Int) := by unfold wrap64; omega
    have ih' := ih (i + 1) (by omega)
    rw [List.drop_eq_getElem_cons (by omega), List.find?_cons]
    by_cases h : (l[i]'(by omega)).f0.toList = p.toList
    · refine Ev.step (f := fun _ => some (found (some (l[i]'(by omega))))) (fun k => ?_) ?_
      · rw [clusterlocksref05_Find.l0, if_pos (by omega), if_pos (by omega), rd26 l i (by omega), if_pos h]; rfl
      · rw [same, beq_iff_eq.mpr h]; exact Ev.now _
    · rw [same, beq_eq_false_iff_ne.mpr h]
      refine Ev.step (fun k => ?_) ih'
      rw [clusterlocksref05_Find.l0, if_pos (by omega), if_pos (by omega), rd26 l i (by omega), if_neg h, hw]
theorem rfind_eq (l : List S26) (p : ByteArray) (hl : l.length < 4000000000000) : Ev (fun k => clusterlocksref05_Find.f k l p) (found (l.find? (same p.toList))) := rfind_l0 l p hl l.length 0 (by omega)
/-! ### the place of a name -/
/-! ### Insert -/
/-! ### Same -/
theorem same_l0 (l : List S26) (hl : l.length < 4000000000000) : ∀ (d i : Nat), i + d = l.length → Ev (fun k => clusterlocksref05_Same.l0 k l l (i : Int)) true := by
  intro d
  induction d with
  | zero =>
    intro i hi
    refine Ev.step (f := fun _ => some true) (fun k => ?_) (Ev.now _)
    rw [clusterlocksref05_Same.l0, if_neg (by omega)]
  | succ d ih =>
    intro i hi
    have hw : wrap64 ((i : Int) + 1) = ((i + 1 : Nat) : Int) := by unfold wrap64; omega
    refine Ev.step (fun k => ?_) (ih (i + 1) (by omega))
    rw [clusterlocksref05_Same.l0, if_pos (by omega), if_pos (by omega), if_pos (by omega), beq_self_eq_true, beq_self_eq_true, beq_self_eq_true, beq_self_eq_true, if_neg (by decide), hw]
theorem same_eq (l : List S26) (hl : l.length < 4000000000000) : Ev (fun k => clusterlocksref05_Same.f k l l) true := by
  unfold clusterlocksref05_Same.f
  exact Ev.congr (fun k => if_pos rfl) (same_l0 l hl l.length 0 (by omega))
end Go.Proofs.YtbiapfjhdggkpaaDoor.PA


/- Catalogs in plain Lean: Find, Remove. Conditions: none. -/
namespace Go.Proofs.YtbiapfjhdggkpaaDoor.PA
open Go.RowKit Go.Proofs.YtbiapfjhdggkpaaDoorW.PrintWords Go.Proofs.YtbiapfjhdggkpaaDoorW.PrintLast Go.Proofs.YtbiapfjhdggkpaaDoorW.PrintMore
set_option linter.unusedVariables false
set_option linter.unusedSimpArgs false
theorem find_l0 (l : List S26) (p : ByteArray) (hl : l.length < 4000000000000) : ∀ (d i : Nat), i + d = l.length → Ev (fun k => catalog_Find.l0 k p l (l.length : Int) (i : Int)) (found ((l.drop i).find? (same p.toList))) := by
  intro d
  induction d with
  | zero =>
    intro i hi
    refine Ev.step (f := fun _ => some (found none)) (fun k => ?_) ?_
    · rw [catalog_Find.l0, if_neg (by omega)]; rfl
    · rw [List.drop_of_length_le (by omega)]; exact Ev.now _
  | succ d ih =>
    intro i hi
    have hw : wrap64 ((i : Int) + 1) = ((i + 1 : Nat) : Int) := by unfold wrap64; omega
    have ih' := ih (i + 1) (by omega)
    rw [List.drop_eq_getElem_cons (by omega), List.find?_cons]
    by_cases h : (l[i]'(by omega)).f0.toList = p.toList
    · refine Ev.step (f := fun _ => some (found (some (l[i]'(by omega))))) (fun k => ?_) ?_
      · rw [catalog_Find.l0, if_pos (by omega), if_pos (by omega), if_pos (by omega), rd26 l i (by omega), if_pos h]; rfl
      · rw [same, beq_iff_eq.mpr h]; exact Ev.now _
    · rw [same, beq_eq_false_iff_ne.mpr h]
      refine Ev.step (fun k => ?_) ih'
      rw [catalog_Find.l0, if_pos (by omega), if_pos (by omega), if_pos (by omega), rd26 l i (by omega), if_neg h, hw]
theorem find_eq (l : List S26) (p : ByteArray) (hl : l.length < 4000000000000) : Ev (fun k => catalog_Find.f k l p) (found (l.find? (same p.toList))) := find_l0 l p hl l.length 0 (by omega)
/-! ### Remove -/
/-! ### what Insert makes -/
end Go.Proofs.YtbiapfjhdggkpaaDoor.PA


/- Catalogs in plain Lean: At. Conditions: none. -/
namespace Go.Proofs.YtbiapfjhdggkpaaDoor.PA
open Go.RowKit Go.Proofs.YtbiapfjhdggkpaaDoorW.PrintWords Go.Proofs.YtbiapfjhdggkpaaDoorW.PrintLast Go.Proofs.YtbiapfjhdggkpaaDoorW.PrintMore
set_option linter.unusedVariables false
set_option linter.unusedSimpArgs false
def atL (l : List S26) (s : Int) : List S26 := l.filter (fun x => x.f3 == s)
theorem at_l0 (l : List S26) (s : Int) (hl : l.length < 3518437208883) : ∀ (d i : Nat), i + d = l.length → ∀ acc : List S26, acc.length ≤ i → Ev (fun k => catalog_At.l0 k s acc l (l.length : Int) (i : Int)) (acc ++ atL (l.drop i) s) := by
  intro d
  induction d with
  | zero =>
    intro i hi acc ha
    refine Ev.step (f := fun _ => some acc) (fun k => ?_) ?_
    · rw [catalog_At.l0, if_neg (by omega)]
    · rw [List.drop_of_length_le (by omega)]
      unfold atL
      rw [List.filter_nil, List.append_nil]; exact Ev.now _
  | succ d ih =>
    intro i hi acc ha
    have hw : wrap64 ((i : Int) + 1) = ((i + 1 : Nat) : Int) := by unfold wrap64; omega
    rw [List.drop_eq_getElem_cons (by omega)]
    unfold atL
    rw [List.filter_cons]
    by_cases h : (l[i]'(by omega)).f3 = s
    · rw [beq_iff_eq.mpr h, if_pos rfl]
      have ih' := ih (i + 1) (by omega) (acc ++ [l[i]'(by omega)]) (by rw [List.length_append, List.length_singleton]; omega)
      rw [List.append_assoc, List.singleton_append] at ih'
      refine Ev.step (fun k => ?_) ih'
      rw [catalog_At.l0, if_pos (by omega), if_pos (by omega), if_pos (by omega), rd26 l i (by omega), if_pos h, if_pos (by omega), hw]
    · rw [beq_eq_false_iff_ne.mpr h, if_neg (by decide)]
      refine Ev.step (fun k => ?_) (ih (i + 1) (by omega) acc (by omega))
      rw [catalog_At.l0, if_pos (by omega), if_pos (by omega), if_pos (by omega), rd26 l i (by omega), if_neg h, hw]
theorem at_eq (l : List S26) (s : Int) (hl : l.length < 3518437208883) : Ev (fun k => catalog_At.f k l s) (atL l s) := at_l0 l s hl l.length 0 (by omega) [] (Nat.le_refl _)
theorem atL_length (l : List S26) (s : Int) : (atL l s).length ≤ l.length := List.length_filter_le _ _
end Go.Proofs.YtbiapfjhdggkpaaDoor.PA


/- Catalogs in plain Lean: Resolve and At. Conditions: none. -/
namespace Go.Proofs.YtbiapfjhdggkpaaDoor.PA
open Go.RowKit Go.Proofs.YtbiapfjhdggkpaaDoorW.PrintWords Go.Proofs.YtbiapfjhdggkpaaDoorW.PrintLast Go.Proofs.YtbiapfjhdggkpaaDoorW.PrintMore
set_option linter.unusedVariables false
set_option linter.unusedSimpArgs false
theorem fits_same (s : ByteArray) (k n h m u : Int) : ∃ b, amount_Fits.f s k n h m u = some b ∧ clusterlocksref04_Fits.f s k n h m u = some b := by
  unfold amount_Fits.f clusterlocksref04_Fits.f mode_Valid.f clusterlocksref03_Valid.f
  simp only [shaped_eq, rshaped_eq, Option.bind_some]
  cases shp k n
  · exact ⟨_, rfl, rfl⟩
  · simp only [if_true]
    by_cases h1 : k = 1
    · simp only [if_pos h1]
      by_cases h2 : m ≥ 1
      · simp only [if_pos h2, Option.bind_some]
        cases decide (m ≤ 5)
        · exact ⟨_, rfl, rfl⟩
        · exact ⟨_, rfl, rfl⟩
      · simp only [if_neg h2, Option.bind_some]
        exact ⟨_, rfl, rfl⟩
    · simp only [if_neg h1]
      by_cases h2 : m = 0
      · simp only [if_pos h2]
        by_cases h3 : u ≥ 1
        · simp only [if_pos h3]; exact ⟨_, rfl, rfl⟩
        · simp only [if_neg h3]; exact ⟨_, rfl, rfl⟩
      · simp only [if_neg h2]; exact ⟨_, rfl, rfl⟩
theorem resolve_same (l : List S26) (p : ByteArray) (m u : Int) (hl : l.length < 4000000000000) : ∃ r, Ev (fun k => catalog_Resolve.f k l p m u) r ∧ Ev (fun k => clusterlocksref05_Resolve.f k l p m u) r := by
  unfold catalog_Resolve.f clusterlocksref05_Resolve.f
  cases hv : validB l
  · refine ⟨2, ?_, ?_⟩
    · have e := v_eq l
      rw [hv] at e
      exact Ev.bind e (Ev.now _)
    · have e := rv_eq l
      rw [hv] at e
      exact Ev.bind e (Ev.now _)
  have e1 := v_eq l
  have e2 := rv_eq l
  rw [hv] at e1 e2
  cases hf : l.find? (same p.toList) with
  | none =>
    have f1 := find_eq l p hl
    have f2 := rfind_eq l p hl
    rw [hf] at f1 f2
    refine ⟨10, ?_, ?_⟩
    · exact Ev.bind e1 (Ev.congr (fun k => if_pos rfl) (Ev.bind f1 (Ev.congr (fun k => if_neg (by simp [found])) (Ev.now _))))
    · exact Ev.bind e2 (Ev.congr (fun k => if_pos rfl) (Ev.bind f2 (Ev.congr (fun k => if_neg (by simp [found])) (Ev.now _))))
  | some x =>
    have f1 := find_eq l p hl
    have f2 := rfind_eq l p hl
    rw [hf] at f1 f2
    obtain ⟨b, h1, h2⟩ := fits_same x.f0 x.f1 x.f2 x.f3 m u
    refine ⟨if b = true then 0 else 12, ?_, ?_⟩
    · refine Ev.bind e1 (Ev.congr (fun k => if_pos rfl) (Ev.bind f1 (Ev.congr (fun k => if_pos rfl) ?_)))
      simp only [found]
      rw [h1, Option.bind_some]
      cases b
      · exact Ev.now _
      · exact Ev.now _
    · refine Ev.bind e2 (Ev.congr (fun k => if_pos rfl) (Ev.bind f2 (Ev.congr (fun k => if_pos rfl) ?_)))
      simp only [found]
      rw [h2, Option.bind_some]
      cases b
      · exact Ev.now _
      · exact Ev.now _
theorem rat_l0 (l : List S26) (s : Int) (hl : l.length < 3518437208883) : ∀ (d i : Nat), i + d = l.length → ∀ acc : List S26, acc.length ≤ i → Ev (fun k => clusterlocksref05_At.l0 k l s acc (i : Int)) (acc ++ atL (l.drop i) s) := by
  intro d
  induction d with
  | zero =>
    intro i hi acc ha
    refine Ev.step (f := fun _ => some acc) (fun k => ?_) ?_
    · rw [clusterlocksref05_At.l0, if_neg (by omega)]
    · rw [List.drop_of_length_le (by omega)]
      unfold atL
      rw [List.filter_nil, List.append_nil]; exact Ev.now _
  | succ d ih =>
    intro i hi acc ha
    have hw : wrap64 ((i : Int) + 1) = ((i + 1 : Nat) : Int) := by unfold wrap64; omega
    rw [List.drop_eq_getElem_cons (by omega)]
    unfold atL
    rw [List.filter_cons]
    by_cases h : (l[i]'(by omega)).f3 = s
    · rw [beq_iff_eq.mpr h, if_pos rfl]
      have ih' := ih (i + 1) (by omega) (acc ++ [l[i]'(by omega)]) (by rw [List.length_append, List.length_singleton]; omega)
      rw [List.append_assoc, List.singleton_append] at ih'
      refine Ev.step (fun k => ?_) ih'
      rw [clusterlocksref05_At.l0, if_pos (by omega), if_pos (by omega), rd26 l i (by omega), if_pos h, if_pos (by omega), hw]
    · rw [beq_eq_false_iff_ne.mpr h, if_neg (by decide)]
      refine Ev.step (fun k => ?_) (ih (i + 1) (by omega) acc (by omega))
      rw [clusterlocksref05_At.l0, if_pos (by omega), if_pos (by omega), rd26 l i (by omega), if_neg h, hw]
theorem rat_eq (l : List S26) (s : Int) (hl : l.length < 3518437208883) : Ev (fun k => clusterlocksref05_At.f k l s) (atL l s) := rat_l0 l s hl l.length 0 (by omega) [] (Nat.le_refl _)
end Go.Proofs.YtbiapfjhdggkpaaDoor.PA


/- CatalogResolves: the law in plain Lean. Conditions: none of our own. -/
namespace Go.Proofs.YtbiapfjhdggkpaaDoor.PA
open Go.RowKit Go.Proofs.YtbiapfjhdggkpaaDoorW.PrintWords Go.Proofs.YtbiapfjhdggkpaaDoorW.PrintLast Go.Proofs.YtbiapfjhdggkpaaDoorW.PrintMore
set_option linter.unusedVariables false
/-- The law as a statement on plain data. -/
def CatalogResolves_Pure : Prop := ∀ (x0 : List S26) (x1 : S44) (x2 : Int), (x0.length * 40 ≤ 140737488351232 ∧ x0.length ≤ maxLen ∧ ∀ x ∈ x0, ok26 x) → ok44 x1 → (Lit.int .i64 x2).wf = true → ∃ k, clusterlockslaw05_CatalogResolves.f k x0 x1.f0 x1.f1.f0 x1.f1.f1 x2 = some true
theorem CatalogResolves_pure : CatalogResolves_Pure := by
  intro l x s hl _ _
  have h40 := hl.1
  refine ev_some ?_
  unfold clusterlockslaw05_CatalogResolves.f
  obtain ⟨r, h1, h2⟩ := resolve_same l x.f0 x.f1.f0 x.f1.f1 (by omega)
  have hal := atL_length l s
  by_cases hb : l.length < 3518437208883
  · refine Ev.bind awake_ev (Ev.congr (fun k => if_pos rfl) (Ev.bind h1 (Ev.bind h2 (Ev.congr (fun k => if_pos rfl) (Ev.bind (at_eq l s hb) (Ev.bind (rat_eq l s hb) (Ev.bind (same_eq _ (by omega)) (Ev.now true))))))))
  · exfalso
    omega
end Go.Proofs.YtbiapfjhdggkpaaDoor.PA

