/- The law CatalogUndoes in plain data, with the facts that it needs. Conditions: those of its statement. -/
import Derived.Test.YtbiapfjhdggkpaaDoorT7
import Derived.Test.YtbiapfjhdggkpaaDoorT15
import Derived.Test.YtbiapfjhdggkpaaDoorT17
import Derived.Test.YtbiapfjhdggkpaaDoorPAOk
import Derived.Test.YtbiapfjhdggkpaaDoorPLCatalogUndoes
import Derived.Test.YtbiapfjhdggkpaaDoorPAx2
import Derived.Test.YtbiapfjhdggkpaaDoorPAx3
import Derived.Test.YtbiapfjhdggkpaaDoorPAx4
import Derived.Test.YtbiapfjhdggkpaaDoorPAx5
import Derived.Test.YtbiapfjhdggkpaaDoorPAx7
import Derived.Test.YtbiapfjhdggkpaaDoorPAx9
namespace Go.Proofs.YtbiapfjhdggkpaaDoor.PA
open Go.RowKit Go.Proofs.YtbiapfjhdggkpaaDoorW.PrintWords Go.Proofs.YtbiapfjhdggkpaaDoorW.PrintLast Go.Proofs.YtbiapfjhdggkpaaDoorW.PrintMore
set_option linter.unusedVariables false
set_option linter.unusedSimpArgs false
theorem rd26 (l : List S26) (i : Nat) (h : i < l.length) : rd_T26 l (i : Int) = l[i] := by
  unfold rd_T26
  rw [Int.toNat_natCast, List.getD_eq_getElem?_getD, List.getElem?_eq_getElem h]
  rfl
def letterB (c : Int) : Bool := decide (97 ≤ c) && decide (c ≤ 122)
def part (c : Int) : Bool := letterB c || (decide (48 ≤ c) && decide (c ≤ 57)) || c == 95 || c == 45
def ap (s : ByteArray) : Nat → Nat → Bool
  | 0, _ => true
  | d + 1, i => part (bt s (i : Int)) && ap s d (i + 1)
def resv (l : List UInt8) : Bool := l == [97, 108, 108] || (l == [97, 110, 121] || (l == [111, 102] || (l == [112, 114, 105, 111] || l == [108, 105, 109, 105, 116])))
def nameB (s : ByteArray) : Bool := decide (1 ≤ s.size) && (decide (s.size ≤ 12) && (letterB (bt s 0) && (!resv s.toList && ap s s.size 0)))
theorem res_eq (s : ByteArray) : catalog_Reserved.f s = some (resv s.toList) := by
  unfold catalog_Reserved.f resv
  generalize s.toList = x
  by_cases h1 : x = [97, 108, 108]
  · rw [if_pos h1, h1]; rfl
  · rw [if_neg h1, beq_eq_false_iff_ne.mpr h1]
    by_cases h2 : x = [97, 110, 121]
    · rw [if_pos h2, h2]; rfl
    · rw [if_neg h2, beq_eq_false_iff_ne.mpr h2]
      by_cases h3 : x = [111, 102]
      · rw [if_pos h3, h3]; rfl
      · rw [if_neg h3, beq_eq_false_iff_ne.mpr h3]
        by_cases h4 : x = [112, 114, 105, 111]
        · rw [if_pos h4, h4]; rfl
        · rw [if_neg h4, beq_eq_false_iff_ne.mpr h4]
          by_cases h5 : x = [108, 105, 109, 105, 116]
          · rw [if_pos h5, h5]; rfl
          · rw [if_neg h5, beq_eq_false_iff_ne.mpr h5]; rfl
theorem rres_eq (s : ByteArray) : clusterlocksref05_Reserved.f s = some (resv s.toList) := by
  unfold clusterlocksref05_Reserved.f resv
  generalize s.toList = x
  by_cases h1 : x = [97, 108, 108]
  · rw [if_pos h1, h1]; rfl
  · rw [if_neg h1, beq_eq_false_iff_ne.mpr h1]
    by_cases h2 : x = [97, 110, 121]
    · rw [if_pos h2, h2]; rfl
    · rw [if_neg h2, beq_eq_false_iff_ne.mpr h2]
      by_cases h3 : x = [111, 102]
      · rw [if_pos h3, h3]; rfl
      · rw [if_neg h3, beq_eq_false_iff_ne.mpr h3]
        by_cases h4 : x = [112, 114, 105, 111]
        · rw [if_pos h4, h4]; rfl
        · rw [if_neg h4, beq_eq_false_iff_ne.mpr h4]; rfl
theorem letter_eq (c : Int) : clusterlocksref05_Letter.f c = some (letterB c) := by
  unfold clusterlocksref05_Letter.f letterB
  by_cases h : 97 ≤ c
  · rw [if_pos h, decide_eq_true h, Bool.true_and]
  · rw [if_neg h, decide_eq_false h, Bool.false_and]
theorem part_eq (c : Int) : clusterlocksref05_Part.f c = some (part c) := by
  unfold clusterlocksref05_Part.f part
  rw [letter_eq, Option.bind_some]
  cases h : letterB c
  · rw [if_neg (by decide), Bool.false_or]
    by_cases h1 : 48 ≤ c
    · rw [if_pos h1, decide_eq_true h1, Bool.true_and]
      by_cases h2 : c ≤ 57
      · rw [if_pos h2, decide_eq_true h2]; rfl
      · rw [if_neg h2, decide_eq_false h2, Bool.false_or]
        by_cases h3 : c = 95
        · rw [if_pos h3, beq_iff_eq.mpr h3]; rfl
        · rw [if_neg h3, beq_eq_false_iff_ne.mpr h3]; rfl
    · rw [if_neg h1, decide_eq_false h1, Bool.false_and, Bool.false_or]
      by_cases h3 : c = 95
      · rw [if_pos h3, beq_iff_eq.mpr h3]; rfl
      · rw [if_neg h3, beq_eq_false_iff_ne.mpr h3]; rfl
  · rw [if_pos rfl]; rfl
theorem part_iff (c : Int) : part c = true ↔ ((97 ≤ c ∧ c ≤ 122) ∨ (48 ≤ c ∧ c ≤ 57)) ∨ c = 95 ∨ c = 45 := by
  simp only [part, letterB, Bool.or_eq_true, Bool.and_eq_true, decide_eq_true_eq, beq_iff_eq, or_assoc]
theorem vn_l0 (s : ByteArray) (hs : s.size ≤ 12) : ∀ (d i : Nat), i + d = s.size → Ev (fun k => catalog_ValidName.l0 k s (s.size : Int) (i : Int)) (ap s d i) := by
  intro d
  induction d with
  | zero =>
    intro i hi
    refine Ev.step (f := fun _ => some true) (fun k => ?_) (Ev.now _)
    rw [catalog_ValidName.l0, if_neg (by omega)]
  | succ d ih =>
    intro i hi
    have hw : wrap64 ((i : Int) + 1) = ((i + 1 : Nat) : Int) := by unfold wrap64; omega
    have ih' := ih (i + 1) (by omega)
    rw [ap]
    generalize hc : bt s (i : Int) = c
    cases h : part c
    · have h2 : ¬ (part c = true) := by rw [h]; decide
      rw [part_iff] at h2
      refine Ev.step (f := fun _ => some false) (fun k => ?_) (Ev.now _)
      rw [catalog_ValidName.l0, if_pos (by omega), if_pos (by omega), if_pos (by omega), hc]
      generalize catalog_ValidName.l0 k s (s.size : Int) (wrap64 ((i : Int) + 1)) = z
      repeat' split
      all_goals first | rfl | (exfalso; omega)
    · rw [part_iff] at h
      rw [Bool.true_and]
      refine Ev.step (fun k => ?_) ih'
      rw [catalog_ValidName.l0, if_pos (by omega), if_pos (by omega), if_pos (by omega), hc, hw]
      generalize catalog_ValidName.l0 k s (s.size : Int) ((i + 1 : Nat) : Int) = z
      repeat' split
      all_goals first | rfl | (exfalso; omega)
theorem rvn_l0 (s : ByteArray) (hs : s.size ≤ 12) : ∀ (d i : Nat), i + d = s.size → Ev (fun k => clusterlocksref05_ValidName.l0 k s (i : Int)) (ap s d i) := by
  intro d
  induction d with
  | zero =>
    intro i hi
    refine Ev.step (f := fun _ => some true) (fun k => ?_) (Ev.now _)
    rw [clusterlocksref05_ValidName.l0, if_neg (by omega)]
  | succ d ih =>
    intro i hi
    have hw : wrap64 ((i : Int) + 1) = ((i + 1 : Nat) : Int) := by unfold wrap64; omega
    have ih' := ih (i + 1) (by omega)
    rw [ap]
    cases h : part (bt s (i : Int))
    · refine Ev.step (f := fun _ => some false) (fun k => ?_) (Ev.now _)
      rw [clusterlocksref05_ValidName.l0, if_pos (by omega), if_pos (by omega), part_eq, Option.bind_some, h, if_neg (by decide)]
    · rw [Bool.true_and]
      refine Ev.step (fun k => ?_) ih'
      rw [clusterlocksref05_ValidName.l0, if_pos (by omega), if_pos (by omega), part_eq, Option.bind_some, h, if_pos rfl, hw]
theorem vn_j0 (s : ByteArray) (b : Bool) (hs : b = true ∨ s.size ≤ 12) : Ev (fun k => catalog_ValidName.j0 k s b) (!b && ap s s.size 0) := by
  cases b
  · refine Ev.step (fun k => ?_) (vn_l0 s (by rcases hs with h | h; exact absurd h (by decide); exact h) s.size 0 (by omega))
    rw [catalog_ValidName.j0, if_neg (by decide)]
    rfl
  · refine Ev.step (f := fun _ => some false) (fun k => ?_) (Ev.now _)
    rw [catalog_ValidName.j0, if_pos rfl]
theorem rvn_j0 (s : ByteArray) (b : Bool) (hs : b = true ∨ s.size ≤ 12) : Ev (fun k => clusterlocksref05_ValidName.j0 k s b) (!b && ap s s.size 0) := by
  cases b
  · refine Ev.step (fun k => ?_) (rvn_l0 s (by rcases hs with h | h; exact absurd h (by decide); exact h) s.size 0 (by omega))
    rw [clusterlocksref05_ValidName.j0, if_neg (by decide)]
    rfl
  · refine Ev.step (f := fun _ => some false) (fun k => ?_) (Ev.now _)
    rw [clusterlocksref05_ValidName.j0, if_pos rfl]
theorem vn_eq (s : ByteArray) : Ev (fun k => catalog_ValidName.f k s) (nameB s) := by
  unfold nameB
  by_cases h1 : 1 ≤ s.size
  rotate_left
  · rw [decide_eq_false h1, Bool.false_and]
    refine Ev.congr (fun k => ?_) (vn_j0 s true (.inl rfl))
    unfold catalog_ValidName.f
    rw [if_pos (by omega)]
  rw [decide_eq_true h1, Bool.true_and]
  by_cases h2 : s.size ≤ 12
  rotate_left
  · rw [decide_eq_false h2, Bool.false_and]
    refine Ev.congr (fun k => ?_) (vn_j0 s true (.inl rfl))
    unfold catalog_ValidName.f
    rw [if_neg (by omega), if_pos (by omega)]
  rw [decide_eq_true h2, Bool.true_and]
  unfold letterB
  by_cases h3 : 97 ≤ bt s 0
  rotate_left
  · rw [decide_eq_false h3, Bool.false_and, Bool.false_and]
    refine Ev.congr (fun k => ?_) (vn_j0 s true (.inl rfl))
    unfold catalog_ValidName.f
    rw [if_neg (by omega), if_neg (by omega), if_pos (by omega), if_pos (by omega)]
  rw [decide_eq_true h3, Bool.true_and]
  by_cases h4 : bt s 0 ≤ 122
  rotate_left
  · rw [decide_eq_false h4, Bool.false_and]
    refine Ev.congr (fun k => ?_) (vn_j0 s true (.inl rfl))
    unfold catalog_ValidName.f
    rw [if_neg (by omega), if_neg (by omega), if_pos (by omega), if_neg (by omega), if_pos (by omega)]
  rw [decide_eq_true h4, Bool.true_and]
  refine Ev.congr (fun k => ?_) (vn_j0 s (resv s.toList) (.inr h2))
  unfold catalog_ValidName.f
  rw [if_neg (by omega), if_neg (by omega), if_pos (by omega), if_neg (by omega), if_neg (by omega), res_eq, Option.bind_some]
theorem rvn_eq (s : ByteArray) : Ev (fun k => clusterlocksref05_ValidName.f k s) (nameB s) := by
  unfold nameB
  by_cases h1 : 1 ≤ s.size
  rotate_left
  · rw [decide_eq_false h1, Bool.false_and]
    refine Ev.congr (fun k => ?_) (rvn_j0 s true (.inl rfl))
    unfold clusterlocksref05_ValidName.f
    rw [if_pos (by omega)]
  rw [decide_eq_true h1, Bool.true_and]
  by_cases h2 : s.size ≤ 12
  rotate_left
  · rw [decide_eq_false h2, Bool.false_and]
    refine Ev.congr (fun k => ?_) (rvn_j0 s true (.inl rfl))
    unfold clusterlocksref05_ValidName.f
    rw [if_neg (by omega), if_pos (by omega)]
  rw [decide_eq_true h2, Bool.true_and]
  cases h3 : letterB (bt s 0)
  · rw [Bool.false_and]
    refine Ev.congr (fun k => ?_) (rvn_j0 s true (.inl rfl))
    unfold clusterlocksref05_ValidName.f
    rw [if_neg (by omega), if_neg (by omega), if_pos (by omega), letter_eq, Option.bind_some, h3, if_neg (by decide)]
  rw [Bool.true_and]
  refine Ev.congr (fun k => ?_) (rvn_j0 s (resv s.toList) (.inr h2))
  unfold clusterlocksref05_ValidName.f
  rw [if_neg (by omega), if_neg (by omega), if_pos (by omega), letter_eq, Option.bind_some, h3, if_pos rfl, rres_eq, Option.bind_some]
/-! ### resources -/
def shp (k n : Int) : Bool := (k == 1 && n == 1) || (k == 2 && (decide (1 ≤ n) && decide (n ≤ 8)))
theorem shaped_eq (s : ByteArray) (k n h : Int) : amount_Shaped.f s k n h = some (shp k n) := by
  unfold amount_Shaped.f shp
  by_cases h1 : k = 1
  · subst h1
    rw [if_pos rfl]
    cases (n == 1) <;> rfl
  · rw [if_neg h1, beq_eq_false_iff_ne.mpr h1, Bool.false_and, Bool.false_or]
    by_cases h2 : k = 2
    · rw [if_pos h2, beq_iff_eq.mpr h2, Bool.true_and]
      by_cases h3 : 1 ≤ n
      · rw [if_pos h3, decide_eq_true h3, Bool.true_and]
      · rw [if_neg h3, decide_eq_false h3, Bool.false_and]
    · rw [if_neg h2, beq_eq_false_iff_ne.mpr h2, Bool.false_and]
theorem rshaped_eq (s : ByteArray) (k n h : Int) : clusterlocksref04_Shaped.f s k n h = some (shp k n) := by
  unfold clusterlocksref04_Shaped.f shp
  by_cases h1 : k = 1
  · subst h1
    rw [if_pos rfl]
    by_cases hn : n = 1
    · rw [if_pos hn, hn]; rfl
    · rw [if_neg hn, if_neg (by decide), beq_eq_false_iff_ne.mpr hn]; rfl
  · rw [if_neg h1, beq_eq_false_iff_ne.mpr h1, Bool.false_and, Bool.false_or]
    by_cases h2 : k = 2
    · rw [if_pos h2, beq_iff_eq.mpr h2, Bool.true_and]
      by_cases h3 : 1 ≤ n
      · rw [if_pos h3, decide_eq_true h3, Bool.true_and]
      · rw [if_neg h3, decide_eq_false h3, Bool.false_and]
    · rw [if_neg h2, beq_eq_false_iff_ne.mpr h2, Bool.false_and]
def resB (s : ByteArray) (k n h : Int) : Bool := nameB s && (shp k n && (decide (0 ≤ h) && decide (h < 4)))
theorem vr_tail (b : Bool) (h : Int) : (if b = true then (if h ≥ 0 then some (decide (h < 4)) else some false) else some false) = some (b && (decide (0 ≤ h) && decide (h < 4))) := by
  cases b
  · rfl
  · rw [if_pos rfl, Bool.true_and]
    by_cases h0 : 0 ≤ h
    · rw [if_pos h0, decide_eq_true h0, Bool.true_and]
    · rw [if_neg h0, decide_eq_false h0, Bool.false_and]
theorem vr_eq (s : ByteArray) (k n h : Int) : Ev (fun q => catalog_ValidResource.f q s k n h) (resB s k n h) := by
  unfold catalog_ValidResource.f resB
  simp only [shaped_eq, Option.bind_some, vr_tail]
  refine Ev.bind (vn_eq s) ?_
  cases nameB s
  · exact Ev.now _
  · exact Ev.now _
theorem rvr_eq (s : ByteArray) (k n h : Int) : Ev (fun q => clusterlocksref05_ValidResource.f q s k n h) (resB s k n h) := by
  unfold clusterlocksref05_ValidResource.f resB
  simp only [rshaped_eq, Option.bind_some, vr_tail]
  refine Ev.bind (rvn_eq s) ?_
  cases nameB s
  · exact Ev.now _
  · exact Ev.now _
/-! ### catalogs -/
def rB (x : S26) : Bool := resB x.f0 x.f1 x.f2 x.f3
def lt (x y : S26) : Bool := Op.bytesLess x.f0.toList y.f0.toList
def vok (l : List S26) (i : Nat) : Bool := rB (rd_T26 l (i : Int)) && (i == 0 || lt (rd_T26 l ((i : Int) - 1)) (rd_T26 l (i : Int)))
def vall (l : List S26) : Nat → Nat → Bool
  | 0, _ => true
  | d + 1, i => vok l i && vall l d (i + 1)
def validB (l : List S26) : Bool := decide (l.length ≤ 8) && vall l l.length 0
theorem v_l0 (l : List S26) (hl : l.length ≤ 8) : ∀ (d i : Nat), i + d = l.length → Ev (fun k => catalog_Valid.l0 k l l (l.length : Int) (i : Int)) (vall l d i) := by
  intro d
  induction d with
  | zero =>
    intro i hi
    refine Ev.step (f := fun _ => some true) (fun k => ?_) (Ev.now _)
    rw [catalog_Valid.l0, if_neg (by omega)]
  | succ d ih =>
    intro i hi
    have hw : wrap64 ((i : Int) + 1) = ((i + 1 : Nat) : Int) := by unfold wrap64; omega
    have hw2 : wrap64 ((i : Int) - 1) = (i : Int) - 1 := by unfold wrap64; omega
    have ih' := ih (i + 1) (by omega)
    rw [vall]
    refine Ev.step (f := fun k => (catalog_ValidResource.f k (rd_T26 l (i : Int)).f0 (rd_T26 l (i : Int)).f1 (rd_T26 l (i : Int)).f2 (rd_T26 l (i : Int)).f3).bind fun t => if t = true then (if (i : Int) > 0 then (if 0 ≤ (i : Int) - 1 then (if (i : Int) - 1 < (l.length : Int) then (if Op.bytesLess (rd_T26 l ((i : Int) - 1)).f0.toList (rd_T26 l (i : Int)).f0.toList = true then catalog_Valid.l0 k l l (l.length : Int) ((i + 1 : Nat) : Int) else some false) else none) else none) else catalog_Valid.l0 k l l (l.length : Int) ((i + 1 : Nat) : Int)) else some false) (fun k => ?_) ?_
    · rw [catalog_Valid.l0, if_pos (by omega), if_pos (by omega), if_pos (by omega), hw, hw2]
    · refine Ev.bind (vr_eq _ _ _ _) ?_
      unfold vok rB lt
      cases resB (rd_T26 l (i : Int)).f0 (rd_T26 l (i : Int)).f1 (rd_T26 l (i : Int)).f2 (rd_T26 l (i : Int)).f3
      · exact Ev.now _
      · rw [Bool.true_and]
        refine Ev.congr (fun k => if_pos rfl) ?_
        by_cases h0 : i = 0
        · rw [beq_iff_eq.mpr h0, Bool.true_or, Bool.true_and]
          exact Ev.congr (fun k => if_neg (by omega)) ih'
        · rw [beq_eq_false_iff_ne.mpr h0, Bool.false_or]
          refine Ev.congr (fun k => by rw [if_pos (by omega), if_pos (by omega), if_pos (by omega)]) ?_
          cases Op.bytesLess (rd_T26 l ((i : Int) - 1)).f0.toList (rd_T26 l (i : Int)).f0.toList
          · exact Ev.now _
          · exact Ev.congr (fun k => if_pos rfl) ih'
theorem v_eq (l : List S26) : Ev (fun k => catalog_Valid.f k l) (validB l) := by
  unfold catalog_Valid.f validB
  by_cases hl : l.length ≤ 8
  · rw [decide_eq_true hl, Bool.true_and]
    exact Ev.congr (fun k => if_neg (by omega)) (v_l0 l hl l.length 0 (by omega))
  · rw [decide_eq_false hl, Bool.false_and]
    exact Ev.congr (fun k => if_pos (by omega)) (Ev.now _)
theorem rv_l0 (l : List S26) (hl : l.length ≤ 8) : ∀ (d i : Nat), i + d = l.length → Ev (fun k => clusterlocksref05_Valid.l0 k l (i : Int)) (vall l d i) := by
  intro d
  induction d with
  | zero =>
    intro i hi
    refine Ev.step (f := fun _ => some true) (fun k => ?_) (Ev.now _)
    rw [clusterlocksref05_Valid.l0, if_neg (by omega)]
  | succ d ih =>
    intro i hi
    have hw : wrap64 ((i : Int) + 1) = ((i + 1 : Nat) : Int) := by unfold wrap64; omega
    have hw2 : wrap64 ((i : Int) - 1) = (i : Int) - 1 := by unfold wrap64; omega
    have ih' := ih (i + 1) (by omega)
    rw [vall]
    refine Ev.step (f := fun k => (clusterlocksref05_ValidResource.f k (rd_T26 l (i : Int)).f0 (rd_T26 l (i : Int)).f1 (rd_T26 l (i : Int)).f2 (rd_T26 l (i : Int)).f3).bind fun t => if t = true then (if (i : Int) > 0 then (if 0 ≤ (i : Int) - 1 then (if (i : Int) - 1 < (l.length : Int) then (if Op.bytesLess (rd_T26 l ((i : Int) - 1)).f0.toList (rd_T26 l (i : Int)).f0.toList = true then clusterlocksref05_Valid.l0 k l ((i + 1 : Nat) : Int) else some false) else none) else none) else clusterlocksref05_Valid.l0 k l ((i + 1 : Nat) : Int)) else some false) (fun k => ?_) ?_
    · rw [clusterlocksref05_Valid.l0, if_pos (by omega), if_pos (by omega), hw, hw2]
    · refine Ev.bind (rvr_eq _ _ _ _) ?_
      unfold vok rB lt
      cases resB (rd_T26 l (i : Int)).f0 (rd_T26 l (i : Int)).f1 (rd_T26 l (i : Int)).f2 (rd_T26 l (i : Int)).f3
      · exact Ev.now _
      · rw [Bool.true_and]
        refine Ev.congr (fun k => if_pos rfl) ?_
        by_cases h0 : i = 0
        · rw [beq_iff_eq.mpr h0, Bool.true_or, Bool.true_and]
          exact Ev.congr (fun k => if_neg (by omega)) ih'
        · rw [beq_eq_false_iff_ne.mpr h0, Bool.false_or]
          refine Ev.congr (fun k => by rw [if_pos (by omega), if_pos (by omega), if_pos (by omega)]) ?_
          cases Op.bytesLess (rd_T26 l ((i : Int) - 1)).f0.toList (rd_T26 l (i : Int)).f0.toList
          · exact Ev.now _
          · exact Ev.congr (fun k => if_pos rfl) ih'
theorem rv_eq (l : List S26) : Ev (fun k => clusterlocksref05_Valid.f k l) (validB l) := by
  unfold clusterlocksref05_Valid.f validB
  by_cases hl : l.length ≤ 8
  · rw [decide_eq_true hl, Bool.true_and]
    exact Ev.congr (fun k => if_neg (by omega)) (rv_l0 l hl l.length 0 (by omega))
  · rw [decide_eq_false hl, Bool.false_and]
    exact Ev.congr (fun k => if_pos (by omega)) (Ev.now _)
theorem ev_some {α : Type} {f : Nat → Option α} {r : α} (h : Ev f r) : ∃ k, f k = some r := by
  obtain ⟨K, hK⟩ := h
  exact ⟨K, hK K (Nat.le_refl _)⟩
theorem awake_ev : Ev (fun k => clusterlockslaw05_awake.f k) true := Ev.of (fun k => clusterlockslaw05_awake.mono k) clusterlockslaw05_awake.at
end Go.Proofs.YtbiapfjhdggkpaaDoor.PA


/- Catalogs in plain Lean: the order of names, the place of a name, Find and Insert. Conditions: none. -/
namespace Go.Proofs.YtbiapfjhdggkpaaDoor.PA
open Go.RowKit Go.Proofs.YtbiapfjhdggkpaaDoorW.PrintWords Go.Proofs.YtbiapfjhdggkpaaDoorW.PrintLast Go.Proofs.YtbiapfjhdggkpaaDoorW.PrintMore
set_option linter.unusedVariables false
set_option linter.unusedSimpArgs false
/-! ### the order of names -/
theorem bl_cons (a b : UInt8) (x y : List UInt8) : Op.bytesLess (a :: x) (b :: y) = true ↔ a.toNat < b.toNat ∨ (a = b ∧ Op.bytesLess x y = true) := by
  rw [Op.bytesLess, Bool.or_eq_true, Bool.and_eq_true, decide_eq_true_eq, UInt8.lt_iff_toNat_lt, beq_iff_eq]
theorem bl_irrefl : ∀ x : List UInt8, Op.bytesLess x x = false
  | [] => rfl
  | a :: x => by
    rw [Bool.eq_false_iff]
    intro h
    rw [bl_cons] at h
    rcases h with h | ⟨_, h⟩
    · omega
    · rw [bl_irrefl x] at h; exact absurd h (by decide)
theorem bl_trans : ∀ x y z : List UInt8, Op.bytesLess x y = true → Op.bytesLess y z = true → Op.bytesLess x z = true
  | _, [], _, h, _ => by cases ‹List UInt8› <;> simp [Op.bytesLess] at h
  | _, _ :: _, [], _, h => by simp [Op.bytesLess] at h
  | [], _ :: _, _ :: _, _, _ => rfl
  | a :: x, b :: y, c :: z, h1, h2 => by
    rw [bl_cons] at h1 h2 ⊢
    rcases h1 with h1 | ⟨rfl, h1⟩
    · rcases h2 with h2 | ⟨rfl, h2⟩
      · left; omega
      · left; exact h1
    · rcases h2 with h2 | ⟨rfl, h2⟩
      · left; exact h2
      · right; exact ⟨rfl, bl_trans x y z h1 h2⟩
theorem bl_total : ∀ x y : List UInt8, Op.bytesLess x y = false → Op.bytesLess y x = false → x = y
  | [], [], _, _ => rfl
  | [], _ :: _, h, _ => by simp [Op.bytesLess] at h
  | _ :: _, [], _, h => by simp [Op.bytesLess] at h
  | a :: x, b :: y, h1, h2 => by
    rw [Bool.eq_false_iff, Ne, bl_cons] at h1 h2
    have e : a = b := by
      apply UInt8.toNat_inj.1
      omega
    subst e
    rw [bl_total x y (by rw [Bool.eq_false_iff]; exact fun h => h1 (.inr ⟨rfl, h⟩)) (by rw [Bool.eq_false_iff]; exact fun h => h2 (.inr ⟨rfl, h⟩))]
/-! ### what validB says -/
theorem vall_iff (l : List S26) : ∀ (d i : Nat), i + d = l.length → (vall l d i = true ↔ ∀ j (h : j < l.length), i ≤ j → rB l[j] = true ∧ ∀ h0 : 0 < j, lt l[j - 1] l[j] = true) := by
  intro d
  induction d with
  | zero =>
    intro i hi
    refine ⟨fun _ j h hj => absurd h (by omega), fun _ => rfl⟩
  | succ d ih =>
    intro i hi
    rw [vall, Bool.and_eq_true, ih (i + 1) (by omega), vok, rd26 l i (by omega), Bool.and_eq_true, Bool.or_eq_true, beq_iff_eq]
    constructor
    · rintro ⟨⟨h1, h2⟩, h3⟩ j h hj
      by_cases e : j = i
      · subst e
        refine ⟨h1, fun h0 => ?_⟩
        rcases h2 with h2 | h2
        · omega
        · have e : ((j : Int) - 1) = ((j - 1 : Nat) : Int) := by omega
          rw [e, rd26 l (j - 1) (by omega)] at h2
          exact h2
      · exact h3 j h (by omega)
    · intro h
      have h0 := h i (by omega) (Nat.le_refl _)
      refine ⟨⟨h0.1, ?_⟩, fun j hj hij => h j hj (by omega)⟩
      by_cases e : i = 0
      · exact .inl e
      · right
        have e2 : ((i : Int) - 1) = ((i - 1 : Nat) : Int) := by omega
        rw [e2, rd26 l (i - 1) (by omega)]
        exact h0.2 (by omega)
def Sorted (l : List S26) : Prop := l.Pairwise fun x y => lt x y = true
structure Good (l : List S26) : Prop where
  len : l.length ≤ 8
  res : ∀ x ∈ l, rB x = true
  srt : Sorted l
theorem good_iff (l : List S26) : validB l = true ↔ Good l := by
  rw [validB, Bool.and_eq_true, decide_eq_true_eq, vall_iff l l.length 0 (by omega)]
  constructor
  · rintro ⟨h1, h2⟩
    refine ⟨h1, fun x hx => ?_, ?_⟩
    · obtain ⟨j, hj, rfl⟩ := List.mem_iff_getElem.1 hx
      exact (h2 j hj (Nat.zero_le _)).1
    · rw [Sorted, List.pairwise_iff_getElem]
      intro i j hi hj hij
      obtain ⟨d, rfl⟩ : ∃ d, j = i + 1 + d := ⟨j - (i + 1), by omega⟩
      clear hij
      induction d with
      | zero => exact (h2 (i + 1) hj (Nat.zero_le _)).2 (by omega)
      | succ d ih =>
        have a1 := ih (by omega)
        have a2 := (h2 (i + 1 + (d + 1)) hj (Nat.zero_le _)).2 (by omega)
        exact bl_trans _ _ _ a1 a2
  · rintro ⟨h1, h2, h3⟩
    refine ⟨h1, fun j hj _ => ⟨h2 _ (List.getElem_mem hj), fun h0 => ?_⟩⟩
    rw [Sorted, List.pairwise_iff_getElem] at h3
    exact h3 (j - 1) j (by omega) hj (by omega)
/-! ### Find -/
def same (p : List UInt8) (x : S26) : Bool := x.f0.toList == p
def found (o : Option S26) : ByteArray × Int × Int × Int × Bool := match o with
  | some x => (x.f0, x.f1, x.f2, x.f3, true)
  | none => (⟨#[]⟩, 0, 0, 0, false)
/-! ### the place of a name -/
def less (p : List UInt8) (x : S26) : Bool := Op.bytesLess x.f0.toList p
/-- How many names are less. -/
def cnt (l : List S26) (p : List UInt8) : Nat := (l.takeWhile (less p)).length
theorem cnt_le (l : List S26) (p : List UInt8) : cnt l p ≤ l.length := (List.takeWhile_sublist _).length_le
theorem cnt_cons (x : S26) (l : List S26) (p : List UInt8) : cnt (x :: l) p = if less p x = true then cnt l p + 1 else 0 := by
  unfold cnt
  rw [List.takeWhile_cons]
  split <;> simp [*]
theorem less_iff : ∀ (l : List S26) (hs : Sorted l) (p : List UInt8) (m : Nat) (h : m < l.length), less p l[m] = true ↔ m < cnt l p
  | [], _, _, m, h => absurd h (by simp)
  | x :: l, hs, p, m, h => by
    rw [Sorted, List.pairwise_cons] at hs
    rw [cnt_cons]
    cases m with
    | zero =>
      rw [List.getElem_cons_zero]
      split <;> simp [*]
    | succ m =>
      rw [List.getElem_cons_succ]
      have hm : m < l.length := by simpa using h
      by_cases hx : less p x = true
      · rw [if_pos hx, less_iff l hs.2 p m hm]; omega
      · rw [if_neg hx]
        refine ⟨fun h2 => absurd (bl_trans _ _ _ (hs.1 _ (List.getElem_mem hm)) h2) hx, fun h2 => absurd h2 (by omega)⟩
theorem search_eq (l : List S26) (hs : Sorted l) (p : ByteArray) : ∀ (k i j : Nat), i ≤ cnt l p.toList → cnt l p.toList ≤ j → j ≤ l.length → j - i < k → search_l l p k (i : Int) (j : Int) = some ((cnt l p.toList : Nat) : Int) := by
  intro k
  induction k with
  | zero => intro i j _ _ _ h; exact absurd h (by omega)
  | succ k ih =>
    intro i j h1 h2 h3 h4
    rw [search_l]
    by_cases hij : i < j
    · have e : (((i : Int) + (j : Int)) / 2) = (((i + j) / 2 : Nat) : Int) := by omega
      rw [if_pos (by omega), e]
      have hm : (i + j) / 2 < l.length := by omega
      have ha : above l p (((i + j) / 2 : Nat) : Int) = !(less p.toList (l[(i + j) / 2]'hm)) := by unfold above less; rw [rd26 l _ hm]
      have hi := less_iff l hs p.toList _ hm
      rw [ha]
      by_cases hl : less p.toList (l[(i + j) / 2]'hm) = true
      · rw [hl, if_neg (by decide)]
        have e2 : ((((i + j) / 2 : Nat) : Int) + 1) = (((i + j) / 2 + 1 : Nat) : Int) := by omega
        rw [e2]
        have := hi.1 hl
        exact ih _ _ (by omega) h2 h3 (by omega)
      · have hl2 := Bool.eq_false_iff.mpr hl
        rw [hl2, if_pos (by decide)]
        have : ¬ ((i + j) / 2 < cnt l p.toList) := fun h => hl (hi.2 h)
        exact ih _ _ h1 (by omega) (by omega) (by omega)
    · rw [if_neg (by omega)]
      congr 1
      omega
theorem place_eq (l : List S26) (hs : Sorted l) (hl : l.length ≤ 8) (p : ByteArray) : catalog_place.f l p = some ((cnt l p.toList : Nat) : Int) := by
  unfold catalog_place.f
  rw [if_pos (by omega)]
  exact search_eq l hs p _ 0 l.length (Nat.zero_le _) (cnt_le _ _) (Nat.le_refl _) (by omega)
/-- Where a name is, if it is there. -/
theorem at_cnt (l : List S26) (hs : Sorted l) (p : List UInt8) (m : Nat) (h : m < l.length) (he : l[m].f0.toList = p) : m = cnt l p := by
  have h1 : ¬ (m < cnt l p) := fun h2 => by
    have := (less_iff l hs p m h).2 h2
    rw [less, he, bl_irrefl] at this
    exact absurd this (by decide)
  rcases Nat.lt_or_ge (cnt l p) m with h2 | h2
  · exfalso
    have h3 := mt (less_iff l hs p (cnt l p) (by omega)).1 (by omega)
    rw [Sorted, List.pairwise_iff_getElem] at hs
    have h4 := hs (cnt l p) m (by omega) h h2
    rw [lt, he] at h4
    exact h3 h4
  · omega
theorem find_place (l : List S26) (hs : Sorted l) (p : List UInt8) : l.find? (same p) = if h : cnt l p < l.length then (if (l[cnt l p]).f0.toList = p then some l[cnt l p] else none) else none := by
  by_cases hx : ∃ x ∈ l, same p x = true
  · obtain ⟨x, hx, hsx⟩ := hx
    obtain ⟨m, hm, rfl⟩ := List.mem_iff_getElem.1 hx
    have e := at_cnt l hs p m hm (beq_iff_eq.mp hsx)
    subst e
    rw [dif_pos hm, if_pos (beq_iff_eq.mp hsx)]
    cases hf : l.find? (same p) with
    | none => exact absurd hsx (List.find?_eq_none.1 hf _ (List.getElem_mem hm))
    | some y =>
      have hy := List.mem_of_find?_eq_some hf
      have hy2 := List.find?_some hf
      obtain ⟨q, hq, rfl⟩ := List.mem_iff_getElem.1 hy
      have e2 := at_cnt l hs p q hq (beq_iff_eq.mp hy2)
      congr 1
      simp only [← e2]
  · rw [List.find?_eq_none.2 (fun x h => fun h2 => hx ⟨x, h, h2⟩)]
    split
    · rename_i h
      rw [if_neg (fun h2 => hx ⟨_, List.getElem_mem h, beq_iff_eq.mpr h2⟩)]
    · rfl
/-! ### Insert -/
def insL (l : List S26) (x : S26) : List S26 := l.take (cnt l x.f0.toList) ++ [x] ++ l.drop (cnt l x.f0.toList)
def insS (l : List S26) (x : S26) : List S26 × Int := if validB l = true then (if nameB x.f0 = true then (if rB x = true then (if (l.find? (same x.f0.toList)).isSome = true then ([], 11) else (if l.length = 8 then ([], 4) else (insL l x, 0))) else ([], 1)) else ([], 9)) else ([], 2)
theorem ins_j0 (l : List S26) (x : S26) (b : Bool) (hl : l.length ≤ 8) : Ev (fun k => catalog_Insert.j0 k l ((cnt l x.f0.toList : Nat) : Int) b x.f0 x.f1 x.f2 x.f3) (if b = true then ([], 11) else (if l.length = 8 then ([], 4) else (insL l x, 0))) := by
  have hc := cnt_le l x.f0.toList
  refine Ev.step (f := fun _ => some (if b = true then ([], 11) else (if l.length = 8 then ([], 4) else (insL l x, 0)))) (fun k => ?_) (Ev.now _)
  rw [catalog_Insert.j0]
  cases b
  · simp only [Bool.false_eq_true, if_false]
    by_cases h8 : l.length = 8
    · rw [if_pos (by omega), if_pos h8]
    · rw [if_neg (by omega), if_neg h8]
      unfold api_Resource_43.f
      rw [if_pos (by omega), Option.bind_some]
      unfold api_Resource_42.f
      rw [if_pos (by omega), Option.bind_some, Int.toNat_natCast]
      rfl
  · rw [if_pos rfl, if_pos rfl]
theorem find_some (l : List S26) (hs : Sorted l) (p : ByteArray) : (l.find? (same p.toList)).isSome = (decide (cnt l p.toList < l.length) && ((rd_T26 l ((cnt l p.toList : Nat) : Int)).f0.toList == p.toList)) := by
  rw [find_place l hs]
  by_cases h : cnt l p.toList < l.length
  · rw [dif_pos h, rd26 l _ h, decide_eq_true h, Bool.true_and]
    by_cases h2 : (l[cnt l p.toList]).f0.toList = p.toList
    · rw [if_pos h2, beq_iff_eq.mpr h2]; rfl
    · rw [if_neg h2, beq_eq_false_iff_ne.mpr h2]; rfl
  · rw [dif_neg h, decide_eq_false h, Bool.false_and]; rfl
theorem insert_eq (l : List S26) (x : S26) : Ev (fun k => catalog_Insert.f k l x.f0 x.f1 x.f2 x.f3) (insS l x) := by
  unfold catalog_Insert.f insS
  refine Ev.bind (v_eq l) ?_
  cases hv : validB l
  · exact Ev.now _
  have hg := (good_iff l).1 hv
  refine Ev.congr (fun k => if_pos rfl) ?_
  refine Ev.bind (vn_eq x.f0) ?_
  cases nameB x.f0
  · exact Ev.now _
  refine Ev.congr (fun k => if_pos rfl) ?_
  refine Ev.bind (vr_eq x.f0 x.f1 x.f2 x.f3) ?_
  unfold rB
  cases resB x.f0 x.f1 x.f2 x.f3
  · exact Ev.now _
  refine Ev.congr (fun k => if_pos rfl) ?_
  rw [if_pos rfl, if_pos rfl, if_pos rfl]
  simp only [place_eq l hg.srt hg.len, Option.bind_some]
  rw [find_some l hg.srt]
  by_cases h : cnt l x.f0.toList < l.length
  · refine Ev.congr (fun k => by rw [if_pos (by omega), if_pos (by omega)]) ?_
    rw [decide_eq_true h, Bool.true_and]
    exact ins_j0 l x _ hg.len
  · refine Ev.congr (fun k => if_neg (by omega)) ?_
    rw [decide_eq_false h, Bool.false_and]
    exact ins_j0 l x false hg.len
/-! ### Same -/
theorem same_l0 (l : List S26) (hl : l.length < 4000000000000) : ∀ (d i : Nat), i + d = l.length → Ev (fun k => clusterlocksref05_Same.l0 k l l (i : Int)) true := by
  intro d
  induction d with
  | zero =>
    intro i hi
    refine Ev.step (f := fun _ => some true) (fun k => ?_) (Ev.now _)
    rw [clusterlocksref05_Same.l0, if_neg (by omega)]
  | succ d ih =>
    intro i hi
    have hw : wrap64 ((i : Int) + 1) = ((i + 1 : Nat) : Int) := by unfold wrap64; omega
    refine Ev.step (fun k => ?_) (ih (i + 1) (by omega))
    rw [clusterlocksref05_Same.l0, if_pos (by omega), if_pos (by omega), if_pos (by omega), beq_self_eq_true, beq_self_eq_true, beq_self_eq_true, beq_self_eq_true, if_neg (by decide), hw]
theorem same_eq (l : List S26) (hl : l.length < 4000000000000) : Ev (fun k => clusterlocksref05_Same.f k l l) true := by
  unfold clusterlocksref05_Same.f
  exact Ev.congr (fun k => if_pos rfl) (same_l0 l hl l.length 0 (by omega))
theorem insL_length (l : List S26) (x : S26) : (insL l x).length = l.length + 1 := by
  have := cnt_le l x.f0.toList
  unfold insL
  rw [List.length_append, List.length_append, List.length_take, List.length_drop, List.length_singleton]
  omega
end Go.Proofs.YtbiapfjhdggkpaaDoor.PA


/- Catalogs in plain Lean: Find, Remove. Conditions: none. -/
namespace Go.Proofs.YtbiapfjhdggkpaaDoor.PA
open Go.RowKit Go.Proofs.YtbiapfjhdggkpaaDoorW.PrintWords Go.Proofs.YtbiapfjhdggkpaaDoorW.PrintLast Go.Proofs.YtbiapfjhdggkpaaDoorW.PrintMore
set_option linter.unusedVariables false
set_option linter.unusedSimpArgs false
theorem find_l0 (l : List S26) (p : ByteArray) (hl : l.length < 4000000000000) : ∀ (d i : Nat), i + d = l.length → Ev (fun k => catalog_Find.l0 k p l (l.length : Int) (i : Int)) (found ((l.drop i).find? (same p.toList))) := by
  intro d
  induction d with
  | zero =>
    intro i hi
    refine Ev.step (f := fun _ => some (found none)) (fun k => ?_) ?_
    · rw [catalog_Find.l0, if_neg (by omega)]; rfl
    · rw [List.drop_of_length_le (by omega)]; exact Ev.now _
  | succ d ih =>
    intro i hi
    have hw : wrap64 ((i : Int) + 1) = ((i + 1 : Nat) : Int) := by unfold wrap64; omega
    have ih' := ih (i + 1) (by omega)
    rw [List.drop_eq_getElem_cons (by omega), List.find?_cons]
    by_cases h : (l[i]'(by omega)).f0.toList = p.toList
    · refine Ev.step (f := fun _ => some (found (some (l[i]'(by omega))))) (fun k => ?_) ?_
      · rw [catalog_Find.l0, if_pos (by omega), if_pos (by omega), if_pos (by omega), rd26 l i (by omega), if_pos h]; rfl
      · rw [same, beq_iff_eq.mpr h]; exact Ev.now _
    · rw [same, beq_eq_false_iff_ne.mpr h]
      refine Ev.step (fun k => ?_) ih'
      rw [catalog_Find.l0, if_pos (by omega), if_pos (by omega), if_pos (by omega), rd26 l i (by omega), if_neg h, hw]
theorem find_eq (l : List S26) (p : ByteArray) (hl : l.length < 4000000000000) : Ev (fun k => catalog_Find.f k l p) (found (l.find? (same p.toList))) := find_l0 l p hl l.length 0 (by omega)
/-! ### Remove -/
def remL (l : List S26) (p : List UInt8) : List S26 := l.filter (fun x => !same p x)
def remS (l : List S26) (p : List UInt8) : List S26 × Int := if validB l = true then (if (l.find? (same p)).isSome = true then (remL l p, 0) else ([], 10)) else ([], 2)
theorem rem_at (l : List S26) (hs : Sorted l) (p : List UInt8) (h : cnt l p < l.length) (he : (l[cnt l p]).f0.toList = p) : l.take (cnt l p) ++ l.drop (cnt l p + 1) = remL l p := by
  have hm : ∀ (m : Nat) (hm : m < l.length), m ≠ cnt l p → (!same p l[m]) = true := fun m hm hne => by
    cases hq : same p l[m]
    · rfl
    · exact absurd (at_cnt l hs p m hm (beq_iff_eq.mp hq)) hne
  have e : l = l.take (cnt l p) ++ l[cnt l p] :: l.drop (cnt l p + 1) := by rw [← List.drop_eq_getElem_cons h, List.take_append_drop]
  have e2 : remL l p = (l.take (cnt l p)).filter (fun x => !same p x) ++ (l[cnt l p] :: l.drop (cnt l p + 1)).filter (fun x => !same p x) := by rw [← List.filter_append, ← e]; rfl
  rw [e2, List.filter_cons, show (!same p l[cnt l p]) = false by rw [same, beq_iff_eq.mpr he]; rfl, if_neg (by decide)]
  congr 1
  · symm
    rw [List.filter_eq_self]
    intro x hx
    obtain ⟨m, hm2, rfl⟩ := List.mem_iff_getElem.1 hx
    rw [List.length_take] at hm2
    rw [List.getElem_take]
    exact hm m (by omega) (by omega)
  · symm
    rw [List.filter_eq_self]
    intro x hx
    obtain ⟨m, hm2, rfl⟩ := List.mem_iff_getElem.1 hx
    rw [List.length_drop] at hm2
    rw [List.getElem_drop]
    exact hm _ (by omega) (by omega)
theorem remove_eq (l : List S26) (p : ByteArray) : Ev (fun k => catalog_Remove.f k l p) (remS l p.toList) := by
  unfold catalog_Remove.f remS
  refine Ev.bind (v_eq l) ?_
  cases hv : validB l
  · exact Ev.now _
  have hg := (good_iff l).1 hv
  have hl := hg.len
  have hc := cnt_le l p.toList
  refine Ev.congr (fun k => if_pos rfl) ?_
  rw [if_pos rfl]
  simp only [place_eq l hg.srt hg.len, Option.bind_some]
  rw [find_some l hg.srt]
  by_cases h : cnt l p.toList < l.length
  · refine Ev.congr (fun k => by rw [if_neg (by omega), if_pos (by omega), if_pos (by omega)]) ?_
    rw [decide_eq_true h, Bool.true_and, rd26 l _ h]
    by_cases he : (l[cnt l p.toList]).f0.toList = p.toList
    · rw [beq_iff_eq.mpr he, if_pos rfl, bne_eq_false_iff_eq.mpr he]
      refine Ev.step (f := fun _ => some (remL l p.toList, 0)) (fun k => ?_) (Ev.now _)
      have hw : wrap64 (((cnt l p.toList : Nat) : Int) + 1) = ((cnt l p.toList : Nat) : Int) + 1 := by unfold wrap64; omega
      rw [catalog_Remove.j0, if_neg (by decide), hw]
      unfold api_Resource_43.f
      rw [if_pos (by omega), Option.bind_some]
      unfold api_Resource_44.f
      rw [if_pos (by omega), Option.bind_some, Int.toNat_natCast, show (((cnt l p.toList : Nat) : Int) + 1).toNat = cnt l p.toList + 1 by omega, rem_at l hg.srt _ h he]
    · rw [beq_eq_false_iff_ne.mpr he, if_neg (by decide), bne_iff_ne.mpr he]
      refine Ev.step (f := fun _ => some ([], 10)) (fun k => ?_) (Ev.now _)
      rw [catalog_Remove.j0, if_pos rfl]
  · refine Ev.congr (fun k => if_pos (by omega)) ?_
    rw [decide_eq_false h, Bool.false_and, if_neg (by decide)]
    refine Ev.step (f := fun _ => some ([], 10)) (fun k => ?_) (Ev.now _)
    rw [catalog_Remove.j0, if_pos rfl]
/-! ### what Insert makes -/
theorem insL_sorted (l : List S26) (x : S26) (hs : Sorted l) (hn : l.find? (same x.f0.toList) = none) : Sorted (insL l x) := by
  have h1 : ∀ y ∈ l.take (cnt l x.f0.toList), lt y x = true := fun y hy => by
    obtain ⟨m, hm, rfl⟩ := List.mem_iff_getElem.1 hy
    rw [List.length_take] at hm
    rw [List.getElem_take]
    exact (less_iff l hs x.f0.toList m (by omega)).2 (by omega)
  have h2 : ∀ y ∈ l.drop (cnt l x.f0.toList), lt x y = true := fun y hy => by
    have hy0 := List.mem_of_mem_drop hy
    obtain ⟨m, hm, rfl⟩ := List.mem_iff_getElem.1 hy
    rw [List.length_drop] at hm
    rw [List.getElem_drop] at hy0 ⊢
    cases h3 : lt x (l[cnt l x.f0.toList + m]'(by omega))
    · exfalso
      have h4 := mt (less_iff l hs x.f0.toList (cnt l x.f0.toList + m) (by omega)).1 (by omega)
      have e := bl_total _ _ (Bool.eq_false_iff.mpr h4) h3
      exact List.find?_eq_none.1 hn _ hy0 (beq_iff_eq.mpr e)
    · rfl
  have hs2 := hs
  rw [Sorted, ← List.take_append_drop (cnt l x.f0.toList) l, List.pairwise_append] at hs2
  unfold insL
  rw [Sorted, List.append_assoc, List.pairwise_append, List.singleton_append, List.pairwise_cons]
  refine ⟨hs2.1, ⟨h2, hs2.2.1⟩, fun a ha b hb => ?_⟩
  rcases List.mem_cons.1 hb with rfl | hb
  · exact h1 a ha
  · exact hs2.2.2 a ha b hb
theorem insL_good (l : List S26) (x : S26) (h : Good l) (h8 : l.length ≠ 8) (hx : rB x = true) (hn : l.find? (same x.f0.toList) = none) : Good (insL l x) := by
  have hlen := h.len
  refine ⟨by rw [insL_length]; omega, fun y hy => ?_, ?_⟩
  · unfold insL at hy
    rcases List.mem_append.1 hy with hy | hy
    · rcases List.mem_append.1 hy with hy | hy
      · exact h.res y (List.mem_of_mem_take hy)
      · rw [List.mem_singleton.1 hy]; exact hx
    · exact h.res y (List.mem_of_mem_drop hy)
  · exact insL_sorted l x h.srt hn
theorem insL_rem (l : List S26) (x : S26) (hn : l.find? (same x.f0.toList) = none) : remL (insL l x) x.f0.toList = l := by
  have hall : ∀ y ∈ l, (!same x.f0.toList y) = true := fun y hy => by simpa using List.find?_eq_none.1 hn y hy
  unfold remL insL
  rw [List.filter_append, List.filter_append, List.filter_eq_self.2 (fun y hy => hall y (List.mem_of_mem_take hy)), List.filter_eq_self.2 (fun y hy => hall y (List.mem_of_mem_drop hy)), List.filter_cons, show (!same x.f0.toList x) = false by rw [same, beq_self_eq_true]; rfl, if_neg (by decide), List.filter_nil, List.append_nil, List.take_append_drop]
theorem insL_find (l : List S26) (x : S26) (hn : l.find? (same x.f0.toList) = none) : (insL l x).find? (same x.f0.toList) = some x := by
  unfold insL
  rw [List.append_assoc, List.find?_append, List.find?_eq_none.2 (fun y hy => List.find?_eq_none.1 hn y (List.mem_of_mem_take hy)), Option.none_or, List.singleton_append, List.find?_cons, show same x.f0.toList x = true by rw [same, beq_self_eq_true]]
/-- What Insert returns with OK. -/
theorem insS_ok (l : List S26) (x : S26) (h : (insS l x).2 = 0) : insS l x = (insL l x, 0) ∧ Good l ∧ Good (insL l x) ∧ l.find? (same x.f0.toList) = none := by
  unfold insS at h ⊢
  by_cases hv : validB l = true
  · rw [if_pos hv] at h ⊢
    by_cases h1 : nameB x.f0 = true
    · rw [if_pos h1] at h ⊢
      by_cases h2 : rB x = true
      · rw [if_pos h2] at h ⊢
        by_cases h3 : (l.find? (same x.f0.toList)).isSome = true
        · rw [if_pos h3] at h; exact absurd h (by decide)
        · rw [if_neg h3] at h ⊢
          by_cases h4 : l.length = 8
          · rw [if_pos h4] at h; exact absurd h (by decide)
          · rw [if_neg h4]
            have hn : l.find? (same x.f0.toList) = none := by simpa using h3
            have hg := (good_iff l).1 hv
            exact ⟨rfl, hg, insL_good l x hg h4 h2 hn, hn⟩
      · rw [if_neg h2] at h; exact absurd h (by decide)
    · rw [if_neg h1] at h; exact absurd h (by decide)
  · rw [if_neg hv] at h; exact absurd h (by decide)
theorem insS_no (l : List S26) (x : S26) (h : (insS l x).2 ≠ 0) : (insS l x).1 = [] := by
  unfold insS at h ⊢
  by_cases hv : validB l = true
  · rw [if_pos hv] at h ⊢
    by_cases h1 : nameB x.f0 = true
    · rw [if_pos h1] at h ⊢
      by_cases h2 : rB x = true
      · rw [if_pos h2] at h ⊢
        by_cases h3 : (l.find? (same x.f0.toList)).isSome = true
        · rw [if_pos h3]
        · rw [if_neg h3] at h ⊢
          by_cases h4 : l.length = 8
          · rw [if_pos h4]
          · rw [if_neg h4] at h; exact absurd rfl h
      · rw [if_neg h2]
    · rw [if_neg h1]
  · rw [if_neg hv]
end Go.Proofs.YtbiapfjhdggkpaaDoor.PA


/- CatalogUndoes: the law in plain Lean. Conditions: none of our own. -/
namespace Go.Proofs.YtbiapfjhdggkpaaDoor.PA
open Go.RowKit Go.Proofs.YtbiapfjhdggkpaaDoorW.PrintWords Go.Proofs.YtbiapfjhdggkpaaDoorW.PrintLast Go.Proofs.YtbiapfjhdggkpaaDoorW.PrintMore
set_option linter.unusedVariables false
/-- The law as a statement on plain data. -/
def CatalogUndoes_Pure : Prop := ∀ (x0 : List S26) (x1 : S26), (x0.length * 40 ≤ 140737488351232 ∧ x0.length ≤ maxLen ∧ ∀ x ∈ x0, ok26 x) → ok26 x1 → ∃ k, clusterlockslaw05_CatalogUndoes.f k x0 x1.f0 x1.f1 x1.f2 x1.f3 = some true
theorem CatalogUndoes_pure : CatalogUndoes_Pure := by
  intro l x hl _
  have h40 := hl.1
  refine ev_some ?_
  unfold clusterlockslaw05_CatalogUndoes.f
  refine Ev.bind (insert_eq l x) ?_
  by_cases h : (insS l x).2 = 0
  · obtain ⟨e, hg, hgi, hn⟩ := insS_ok l x h
    rw [e]
    refine Ev.congr (fun k => if_pos rfl) ?_
    have hr : remS (insL l x) x.f0.toList = (l, 0) := by
      unfold remS
      rw [if_pos ((good_iff _).2 hgi), insL_find l x hn, insL_rem l x hn]
      rfl
    have hlen := insL_length l x
    have hl8 := hg.len
    have e1 := remove_eq (insL l x) x.f0
    rw [hr] at e1
    have e2 := find_eq (insL l x) x.f0 (by omega)
    rw [insL_find l x hn] at e2
    have e3 := rv_eq (insL l x)
    rw [(good_iff _).2 hgi] at e3
    refine Ev.bind e1 (Ev.bind e2 (Ev.bind awake_ev (Ev.congr (fun k => if_pos rfl) (Ev.bind e3 (Ev.congr (fun k => if_pos rfl) (Ev.congr (fun k => if_pos ?_) (Ev.congr (fun k => if_pos rfl) (Ev.congr (fun k => if_pos ?_) (Ev.congr (fun k => if_pos rfl) (Ev.bind (same_eq l (by omega)) (Ev.now true)))))))))))
    · show (((insL l x).length : Nat) : Int) = wrap64 ((l.length : Int) + 1)
      rw [hlen]
      unfold wrap64
      omega
    · unfold found
      rw [beq_self_eq_true, beq_self_eq_true, beq_self_eq_true, beq_self_eq_true]
      rfl
  · refine Ev.congr (fun k => if_neg h) ?_
    refine Ev.bind awake_ev (Ev.congr (fun k => if_pos rfl) ?_)
    rw [insS_no l x h]
    exact Ev.now true
end Go.Proofs.YtbiapfjhdggkpaaDoor.PA

