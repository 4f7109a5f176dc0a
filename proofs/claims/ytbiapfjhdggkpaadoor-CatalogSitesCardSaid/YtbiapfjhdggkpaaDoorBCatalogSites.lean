/- The law CatalogSites in plain data, with the facts that it needs. Conditions: those of its statement. -/
import Derived.Test.YtbiapfjhdggkpaaDoorT7
import Derived.Test.YtbiapfjhdggkpaaDoorT15
import Derived.Test.YtbiapfjhdggkpaaDoorT17
import Derived.Test.YtbiapfjhdggkpaaDoorPAOk
import Derived.Test.YtbiapfjhdggkpaaDoorPLCatalogSites
import Derived.Test.YtbiapfjhdggkpaaDoorPAx2
import Derived.Test.YtbiapfjhdggkpaaDoorPAx3
import Derived.Test.YtbiapfjhdggkpaaDoorPAx4
import Derived.Test.YtbiapfjhdggkpaaDoorPAx5
import Derived.Test.YtbiapfjhdggkpaaDoorPAx7
namespace Go.Proofs.YtbiapfjhdggkpaaDoor.PA
open Go.RowKit Go.Proofs.YtbiapfjhdggkpaaDoorW.PrintWords Go.Proofs.YtbiapfjhdggkpaaDoorW.PrintLast Go.Proofs.YtbiapfjhdggkpaaDoorW.PrintMore
set_option linter.unusedVariables false
set_option linter.unusedSimpArgs false
theorem rd26 (l : List S26) (i : Nat) (h : i < l.length) : rd_T26 l (i : Int) = l[i] := by
  unfold rd_T26
  rw [Int.toNat_natCast, List.getD_eq_getElem?_getD, List.getElem?_eq_getElem h]
  rfl
def letterB (c : Int) : Bool := decide (97 ≤ c) && decide (c ≤ 122)
def part (c : Int) : Bool := letterB c || (decide (48 ≤ c) && decide (c ≤ 57)) || c == 95 || c == 45
def ap (s : ByteArray) : Nat → Nat → Bool
  | 0, _ => true
  | d + 1, i => part (bt s (i : Int)) && ap s d (i + 1)
def resv (l : List UInt8) : Bool := l == [97, 108, 108] || (l == [97, 110, 121] || (l == [111, 102] || (l == [112, 114, 105, 111] || l == [108, 105, 109, 105, 116])))
def nameB (s : ByteArray) : Bool := decide (1 ≤ s.size) && (decide (s.size ≤ 12) && (letterB (bt s 0) && (!resv s.toList && ap s s.size 0)))
theorem res_eq (s : ByteArray) : catalog_Reserved.f s = some (resv s.toList) := by
  unfold catalog_Reserved.f resv
  generalize s.toList = x
  by_cases h1 : x = [97, 108, 108]
  · rw [if_pos h1, h1]; rfl
  · rw [if_neg h1, beq_eq_false_iff_ne.mpr h1]
    by_cases h2 : x = [97, 110, 121]
    · rw [if_pos h2, h2]; rfl
    · rw [if_neg h2, beq_eq_false_iff_ne.mpr h2]
      by_cases h3 : x = [111, 102]
      · rw [if_pos h3, h3]; rfl
      · rw [if_neg h3, beq_eq_false_iff_ne.mpr h3]
        by_cases h4 : x = [112, 114, 105, 111]
        · rw [if_pos h4, h4]; rfl
        · rw [if_neg h4, beq_eq_false_iff_ne.mpr h4]
          by_cases h5 : x = [108, 105, 109, 105, 116]
          · rw [if_pos h5, h5]; rfl
          · rw [if_neg h5, beq_eq_false_iff_ne.mpr h5]; rfl
theorem rres_eq (s : ByteArray) : clusterlocksref05_Reserved.f s = some (resv s.toList) := by
  unfold clusterlocksref05_Reserved.f resv
  generalize s.toList = x
  by_cases h1 : x = [97, 108, 108]
  · rw [if_pos h1, h1]; rfl
  · rw [if_neg h1, beq_eq_false_iff_ne.mpr h1]
    by_cases h2 : x = [97, 110, 121]
    · rw [if_pos h2, h2]; rfl
    · rw [if_neg h2, beq_eq_false_iff_ne.mpr h2]
      by_cases h3 : x = [111, 102]
      · rw [if_pos h3, h3]; rfl
      · rw [if_neg h3, beq_eq_false_iff_ne.mpr h3]
        by_cases h4 : x = [112, 114, 105, 111]
        · rw [if_pos h4, h4]; rfl
        · rw [if_neg h4, beq_eq_false_iff_ne.mpr h4]; rfl
theorem letter_eq (c : Int) : clusterlocksref05_Letter.f c = some (letterB c) := by
  unfold clusterlocksref05_Letter.f letterB
  by_cases h : 97 ≤ c
  · rw [if_pos h, decide_eq_true h, Bool.true_and]
  · rw [if_neg h, decide_eq_false h, Bool.false_and]
theorem part_eq (c : Int) : clusterlocksref05_Part.f c = some (part c) := by
  unfold clusterlocksref05_Part.f part
  rw [letter_eq, Option.bind_some]
  cases h : letterB c
  · rw [if_neg (by decide), Bool.false_or]
    by_cases h1 : 48 ≤ c
    · rw [if_pos h1, decide_eq_true h1, Bool.true_and]
      by_cases h2 : c ≤ 57
      · rw [if_pos h2, decide_eq_true h2]; rfl
      · rw [if_neg h2, decide_eq_false h2, Bool.false_or]
        by_cases h3 : c = 95
        · rw [if_pos h3, beq_iff_eq.mpr h3]; rfl
        · rw [if_neg h3, beq_eq_false_iff_ne.mpr h3]; rfl
    · rw [if_neg h1, decide_eq_false h1, Bool.false_and, Bool.false_or]
      by_cases h3 : c = 95
      · rw [if_pos h3, beq_iff_eq.mpr h3]; rfl
      · rw [if_neg h3, beq_eq_false_iff_ne.mpr h3]; rfl
  · rw [if_pos rfl]; rfl
theorem part_iff (c : Int) : part c = true ↔ ((97 ≤ c ∧ c ≤ 122) ∨ (48 ≤ c ∧ c ≤ 57)) ∨ c = 95 ∨ c = 45 := by
  simp only [part, letterB, Bool.or_eq_true, Bool.and_eq_true, decide_eq_true_eq, beq_iff_eq, or_assoc]
theorem vn_l0 (s : ByteArray) (hs : s.size ≤ 12) : ∀ (d i : Nat), i + d = s.size → Ev (fun k => catalog_ValidName.l0 k s (s.size : Int) (i : Int)) (ap s d i) := by
  intro d
  induction d with
  | zero =>
    intro i hi
    refine Ev.step (f := fun _ => some true) (fun k => ?_) (Ev.now _)
    rw [catalog_ValidName.l0, if_neg (by omega)]
  | succ d ih =>
    intro i hi
    have hw : wrap64 ((i : Int) + 1) = ((i + 1 : Nat) : Int) := by unfold wrap64; omega
    have ih' := ih (i + 1) (by omega)
    rw [ap]
    generalize hc : bt s (i : Int) = c
    cases h : part c
    · have h2 : ¬ (part c = true) := by rw [h]; decide
      rw [part_iff] at h2
      refine Ev.step (f := fun _ => some false) (fun k => ?_) (Ev.now _)
      rw [catalog_ValidName.l0, if_pos (by omega), if_pos (by omega), if_pos (by omega), hc]
      generalize catalog_ValidName.l0 k s (s.size : Int) (wrap64 ((i : Int) + 1)) = z
      repeat' split
      all_goals first | rfl | (exfalso; omega)
    · rw [part_iff] at h
      rw [Bool.true_and]
      refine Ev.step (fun k => ?_) ih'
      rw [catalog_ValidName.l0, if_pos (by omega), if_pos (by omega), if_pos (by omega), hc, hw]
      generalize catalog_ValidName.l0 k s (s.size : Int) ((i + 1 : Nat) : Int) = z
      repeat' split
      all_goals first | rfl | (exfalso; omega)
theorem rvn_l0 (s : ByteArray) (hs : s.size ≤ 12) : ∀ (d i : Nat), i + d = s.size → Ev (fun k => clusterlocksref05_ValidName.l0 k s (i : Int)) (ap s d i) := by
  intro d
  induction d with
  | zero =>
    intro i hi
    refine Ev.step (f := fun _ => some true) (fun k => ?_) (Ev.now _)
    rw [clusterlocksref05_ValidName.l0, if_neg (by omega)]
  | succ d ih =>
    intro i hi
    have hw : wrap64 ((i : Int) + 1) = ((i + 1 : Nat) : Int) := by unfold wrap64; omega
    have ih' := ih (i + 1) (by omega)
    rw [ap]
    cases h : part (bt s (i : Int))
    · refine Ev.step (f := fun _ => some false) (fun k => ?_) (Ev.now _)
      rw [clusterlocksref05_ValidName.l0, if_pos (by omega), if_pos (by omega), part_eq, Option.bind_some, h, if_neg (by decide)]
    · rw [Bool.true_and]
      refine Ev.step (fun k => ?_) ih'
      rw [clusterlocksref05_ValidName.l0, if_pos (by omega), if_pos (by omega), part_eq, Option.bind_some, h, if_pos rfl, hw]
theorem vn_j0 (s : ByteArray) (b : Bool) (hs : b = true ∨ s.size ≤ 12) : Ev (fun k => catalog_ValidName.j0 k s b) (!b && ap s s.size 0) := by
  cases b
  · refine Ev.step (fun k => ?_) (vn_l0 s (by rcases hs with h | h; exact absurd h (by decide); exact h) s.size 0 (by omega))
    rw [catalog_ValidName.j0, if_neg (by decide)]
    rfl
  · refine Ev.step (f := fun _ => some false) (fun k => ?_) (Ev.now _)
    rw [catalog_ValidName.j0, if_pos rfl]
theorem rvn_j0 (s : ByteArray) (b : Bool) (hs : b = true ∨ s.size ≤ 12) : Ev (fun k => clusterlocksref05_ValidName.j0 k s b) (!b && ap s s.size 0) := by
  cases b
  · refine Ev.step (fun k => ?_) (rvn_l0 s (by rcases hs with h | h; exact absurd h (by decide); exact h) s.size 0 (by omega))
    rw [clusterlocksref05_ValidName.j0, if_neg (by decide)]
    rfl
  · refine Ev.step (f := fun _ => some false) (fun k => ?_) (Ev.now _)
    rw [clusterlocksref05_ValidName.j0, if_pos rfl]
theorem vn_eq (s : ByteArray) : Ev (fun k => catalog_ValidName.f k s) (nameB s) := by
  unfold nameB
  by_cases h1 : 1 ≤ s.size
  rotate_left
  · rw [decide_eq_false h1, Bool.false_and]
    refine Ev.congr (fun k => ?_) (vn_j0 s true (.inl rfl))
    unfold catalog_ValidName.f
    rw [if_pos (by omega)]
  rw [decide_eq_true h1, Bool.true_and]
  by_cases h2 : s.size ≤ 12
  rotate_left
  · rw [decide_eq_false h2, Bool.false_and]
    refine Ev.congr (fun k => ?_) (vn_j0 s true (.inl rfl))
    unfold catalog_ValidName.f
    rw [if_neg (by omega), if_pos (by omega)]
  rw [decide_eq_true h2, Bool.true_and]
  unfold letterB
  by_cases h3 : 97 ≤ bt s 0
  rotate_left
  · rw [decide_eq_false h3, Bool.false_and, Bool.false_and]
    refine Ev.congr (fun k => ?_) (vn_j0 s true (.inl rfl))
    unfold catalog_ValidName.f
    rw [if_neg (by omega), if_neg (by omega), if_pos (by omega), if_pos (by omega)]
  rw [decide_eq_true h3, Bool.true_and]
  by_cases h4 : bt s 0 ≤ 122
  rotate_left
  · rw [decide_eq_false h4, Bool.false_and]
    refine Ev.congr (fun k => ?_) (vn_j0 s true (.inl rfl))
    unfold catalog_ValidName.f
    rw [if_neg (by omega), if_neg (by omega), if_pos (by omega), if_neg (by omega), if_pos (by omega)]
  rw [decide_eq_true h4, Bool.true_and]
  refine Ev.congr (fun k => ?_) (vn_j0 s (resv s.toList) (.inr h2))
  unfold catalog_ValidName.f
  rw [if_neg (by omega), if_neg (by omega), if_pos (by omega), if_neg (by omega), if_neg (by omega), res_eq, Option.bind_some]
theorem rvn_eq (s : ByteArray) : Ev (fun k => clusterlocksref05_ValidName.f k s) (nameB s) := by
  unfold nameB
  by_cases h1 : 1 ≤ s.size
  rotate_left
  · rw [decide_eq_false h1, Bool.false_and]
    refine Ev.congr (fun k => ?_) (rvn_j0 s true (.inl rfl))
    unfold clusterlocksref05_ValidName.f
    rw [if_pos (by omega)]
  rw [decide_eq_true h1, Bool.true_and]
  by_cases h2 : s.size ≤ 12
  rotate_left
  · rw [decide_eq_false h2, Bool.false_and]
    refine Ev.congr (fun k => ?_) (rvn_j0 s true (.inl rfl))
    unfold clusterlocksref05_ValidName.f
    rw [if_neg (by omega), if_pos (by omega)]
  rw [decide_eq_true h2, Bool.true_and]
  cases h3 : letterB (bt s 0)
  · rw [Bool.false_and]
    refine Ev.congr (fun k => ?_) (rvn_j0 s true (.inl rfl))
    unfold clusterlocksref05_ValidName.f
    rw [if_neg (by omega), if_neg (by omega), if_pos (by omega), letter_eq, Option.bind_some, h3, if_neg (by decide)]
  rw [Bool.true_and]
  refine Ev.congr (fun k => ?_) (rvn_j0 s (resv s.toList) (.inr h2))
  unfold clusterlocksref05_ValidName.f
  rw [if_neg (by omega), if_neg (by omega), if_pos (by omega), letter_eq, Option.bind_some, h3, if_pos rfl, rres_eq, Option.bind_some]
/-! ### resources -/
def shp (k n : Int) : Bool := (k == 1 && n == 1) || (k == 2 && (decide (1 ≤ n) && decide (n ≤ 8)))
theorem shaped_eq (s : ByteArray) (k n h : Int) : amount_Shaped.f s k n h = some (shp k n) := by
  unfold amount_Shaped.f shp
  by_cases h1 : k = 1
  · subst h1
    rw [if_pos rfl]
    cases (n == 1) <;> rfl
  · rw [if_neg h1, beq_eq_false_iff_ne.mpr h1, Bool.false_and, Bool.false_or]
    by_cases h2 : k = 2
    · rw [if_pos h2, beq_iff_eq.mpr h2, Bool.true_and]
      by_cases h3 : 1 ≤ n
      · rw [if_pos h3, decide_eq_true h3, Bool.true_and]
      · rw [if_neg h3, decide_eq_false h3, Bool.false_and]
    · rw [if_neg h2, beq_eq_false_iff_ne.mpr h2, Bool.false_and]
theorem rshaped_eq (s : ByteArray) (k n h : Int) : clusterlocksref04_Shaped.f s k n h = some (shp k n) := by
  unfold clusterlocksref04_Shaped.f shp
  by_cases h1 : k = 1
  · subst h1
    rw [if_pos rfl]
    by_cases hn : n = 1
    · rw [if_pos hn, hn]; rfl
    · rw [if_neg hn, if_neg (by decide), beq_eq_false_iff_ne.mpr hn]; rfl
  · rw [if_neg h1, beq_eq_false_iff_ne.mpr h1, Bool.false_and, Bool.false_or]
    by_cases h2 : k = 2
    · rw [if_pos h2, beq_iff_eq.mpr h2, Bool.true_and]
      by_cases h3 : 1 ≤ n
      · rw [if_pos h3, decide_eq_true h3, Bool.true_and]
      · rw [if_neg h3, decide_eq_false h3, Bool.false_and]
    · rw [if_neg h2, beq_eq_false_iff_ne.mpr h2, Bool.false_and]
def resB (s : ByteArray) (k n h : Int) : Bool := nameB s && (shp k n && (decide (0 ≤ h) && decide (h < 4)))
theorem vr_tail (b : Bool) (h : Int) : (if b = true then (if h ≥ 0 then some (decide (h < 4)) else some false) else some false) = some (b && (decide (0 ≤ h) && decide (h < 4))) := by
  cases b
  · rfl
  · rw [if_pos rfl, Bool.true_and]
    by_cases h0 : 0 ≤ h
    · rw [if_pos h0, decide_eq_true h0, Bool.true_and]
    · rw [if_neg h0, decide_eq_false h0, Bool.false_and]
theorem vr_eq (s : ByteArray) (k n h : Int) : Ev (fun q => catalog_ValidResource.f q s k n h) (resB s k n h) := by
  unfold catalog_ValidResource.f resB
  simp only [shaped_eq, Option.bind_some, vr_tail]
  refine Ev.bind (vn_eq s) ?_
  cases nameB s
  · exact Ev.now _
  · exact Ev.now _
theorem rvr_eq (s : ByteArray) (k n h : Int) : Ev (fun q => clusterlocksref05_ValidResource.f q s k n h) (resB s k n h) := by
  unfold clusterlocksref05_ValidResource.f resB
  simp only [rshaped_eq, Option.bind_some, vr_tail]
  refine Ev.bind (rvn_eq s) ?_
  cases nameB s
  · exact Ev.now _
  · exact Ev.now _
/-! ### catalogs -/
def rB (x : S26) : Bool := resB x.f0 x.f1 x.f2 x.f3
def lt (x y : S26) : Bool := Op.bytesLess x.f0.toList y.f0.toList
def vok (l : List S26) (i : Nat) : Bool := rB (rd_T26 l (i : Int)) && (i == 0 || lt (rd_T26 l ((i : Int) - 1)) (rd_T26 l (i : Int)))
def vall (l : List S26) : Nat → Nat → Bool
  | 0, _ => true
  | d + 1, i => vok l i && vall l d (i + 1)
def validB (l : List S26) : Bool := decide (l.length ≤ 8) && vall l l.length 0
theorem v_l0 (l : List S26) (hl : l.length ≤ 8) : ∀ (d i : Nat), i + d = l.length → Ev (fun k => catalog_Valid.l0 k l l (l.length : Int) (i : Int)) (vall l d i) := by
  intro d
  induction d with
  | zero =>
    intro i hi
    refine Ev.step (f := fun _ => some true) (fun k => ?_) (Ev.now _)
    rw [catalog_Valid.l0, if_neg (by omega)]
  | succ d ih =>
    intro i hi
    have hw : wrap64 ((i : Int) + 1) = ((i + 1 : Nat) : Int) := by unfold wrap64; omega
    have hw2 : wrap64 ((i : Int) - 1) = (i : Int) - 1 := by unfold wrap64; omega
    have ih' := ih (i + 1) (by omega)
    rw [vall]
    refine Ev.step (f := fun k => (catalog_ValidResource.f k (rd_T26 l (i : Int)).f0 (rd_T26 l (i : Int)).f1 (rd_T26 l (i : Int)).f2 (rd_T26 l (i : Int)).f3).bind fun t => if t = true then (if (i : Int) > 0 then (if 0 ≤ (i : Int) - 1 then (if (i : Int) - 1 < (l.length : Int) then (if Op.bytesLess (rd_T26 l ((i : Int) - 1)).f0.toList (rd_T26 l (i : Int)).f0.toList = true then catalog_Valid.l0 k l l (l.length : Int) ((i + 1 : Nat) : Int) else some false) else none) else none) else catalog_Valid.l0 k l l (l.length : Int) ((i + 1 : Nat) : Int)) else some false) (fun k => ?_) ?_
    · rw [catalog_Valid.l0, if_pos (by omega), if_pos (by omega), if_pos (by omega), hw, hw2]
    · refine Ev.bind (vr_eq _ _ _ _) ?_
      unfold vok rB lt
      cases resB (rd_T26 l (i : Int)).f0 (rd_T26 l (i : Int)).f1 (rd_T26 l (i : Int)).f2 (rd_T26 l (i : Int)).f3
      · exact Ev.now _
      · rw [Bool.true_and]
        refine Ev.congr (fun k => if_pos rfl) ?_
        by_cases h0 : i = 0
        · rw [beq_iff_eq.mpr h0, Bool.true_or, Bool.true_and]
          exact Ev.congr (fun k => if_neg (by omega)) ih'
        · rw [beq_eq_false_iff_ne.mpr h0, Bool.false_or]
          refine Ev.congr (fun k => by rw [if_pos (by omega), if_pos (by omega), if_pos (by omega)]) ?_
          cases Op.bytesLess (rd_T26 l ((i : Int) - 1)).f0.toList (rd_T26 l (i : Int)).f0.toList
          · exact Ev.now _
          · exact Ev.congr (fun k => if_pos rfl) ih'
theorem v_eq (l : List S26) : Ev (fun k => catalog_Valid.f k l) (validB l) := by
  unfold catalog_Valid.f validB
  by_cases hl : l.length ≤ 8
  · rw [decide_eq_true hl, Bool.true_and]
    exact Ev.congr (fun k => if_neg (by omega)) (v_l0 l hl l.length 0 (by omega))
  · rw [decide_eq_false hl, Bool.false_and]
    exact Ev.congr (fun k => if_pos (by omega)) (Ev.now _)
theorem rv_l0 (l : List S26) (hl : l.length ≤ 8) : ∀ (d i : Nat), i + d = l.length → Ev (fun k => clusterlocksref05_Valid.l0 k l (i : Int)) (vall l d i) := by
  intro d
  induction d with
  | zero =>
    intro i hi
    refine Ev.step (f := fun _ => some true) (fun k => ?_) (Ev.now _)
    rw [clusterlocksref05_Valid.l0, if_neg (by omega)]
  | succ d ih =>
    intro i hi
    have hw : wrap64 ((i : Int) + 1) = ((i + 1 : Nat) : Int) := by unfold wrap64; omega
    have hw2 : wrap64 ((i : Int) - 1) = (i : Int) - 1 := by unfold wrap64; omega
    have ih' := ih (i + 1) (by omega)
    rw [vall]
    refine Ev.step (f := fun k => (clusterlocksref05_ValidResource.f k (rd_T26 l (i : Int)).f0 (rd_T26 l (i : Int)).f1 (rd_T26 l (i : Int)).f2 (rd_T26 l (i : Int)).f3).bind fun t => if t = true then (if (i : Int) > 0 then (if 0 ≤ (i : Int) - 1 then (if (i : Int) - 1 < (l.length : Int) then (if Op.bytesLess (rd_T26 l ((i : Int) - 1)).f0.toList (rd_T26 l (i : Int)).f0.toList = true then clusterlocksref05_Valid.l0 k l ((i + 1 : Nat) : Int) else some false) else none) else none) else clusterlocksref05_Valid.l0 k l ((i + 1 : Nat) : Int)) else some false) (fun k => ?_) ?_
    · rw [clusterlocksref05_Valid.l0, if_pos (by omega), if_pos (by omega), hw, hw2]
    · refine Ev.bind (rvr_eq _ _ _ _) ?_
      unfold vok rB lt
      cases resB (rd_T26 l (i : Int)).f0 (rd_T26 l (i : Int)).f1 (rd_T26 l (i : Int)).f2 (rd_T26 l (i : Int)).f3
      · exact Ev.now _
      · rw [Bool.true_and]
        refine Ev.congr (fun k => if_pos rfl) ?_
        by_cases h0 : i = 0
        · rw [beq_iff_eq.mpr h0, Bool.true_or, Bool.true_and]
          exact Ev.congr (fun k => if_neg (by omega)) ih'
        · rw [beq_eq_false_iff_ne.mpr h0, Bool.false_or]
          refine Ev.congr (fun k => by rw [if_pos (by omega), if_pos (by omega), if_pos (by omega)]) ?_
          cases Op.bytesLess (rd_T26 l ((i : Int) - 1)).f0.toList (rd_T26 l (i : Int)).f0.toList
          · exact Ev.now _
          · exact Ev.congr (fun k => if_pos rfl) ih'
theorem rv_eq (l : List S26) : Ev (fun k => clusterlocksref05_Valid.f k l) (validB l) := by
  unfold clusterlocksref05_Valid.f validB
  by_cases hl : l.length ≤ 8
  · rw [decide_eq_true hl, Bool.true_and]
    exact Ev.congr (fun k => if_neg (by omega)) (rv_l0 l hl l.length 0 (by omega))
  · rw [decide_eq_false hl, Bool.false_and]
    exact Ev.congr (fun k => if_pos (by omega)) (Ev.now _)
theorem ev_some {α : Type} {f : Nat → Option α} {r : α} (h : Ev f r) : ∃ k, f k = some r := by
  obtain ⟨K, hK⟩ := h
  exact ⟨K, hK K (Nat.le_refl _)⟩
theorem awake_ev : Ev (fun k => clusterlockslaw05_awake.f k) true := Ev.of (fun k => clusterlockslaw05_awake.mono k) clusterlockslaw05_awake.at
end Go.Proofs.YtbiapfjhdggkpaaDoor.PA


/- Catalogs in plain Lean: the order of names, the place of a name, Find and Insert. Conditions: none. -/
namespace Go.Proofs.YtbiapfjhdggkpaaDoor.PA
open Go.RowKit Go.Proofs.YtbiapfjhdggkpaaDoorW.PrintWords Go.Proofs.YtbiapfjhdggkpaaDoorW.PrintLast Go.Proofs.YtbiapfjhdggkpaaDoorW.PrintMore
set_option linter.unusedVariables false
set_option linter.unusedSimpArgs false
/-! ### the order of names -/
theorem bl_cons (a b : UInt8) (x y : List UInt8) : Op.bytesLess (a :: x) (b :: y) = true ↔ a.toNat < b.toNat ∨ (a = b ∧ Op.bytesLess x y = true) := by
  rw [Op.bytesLess, Bool.or_eq_true, Bool.and_eq_true, decide_eq_true_eq, UInt8.lt_iff_toNat_lt, beq_iff_eq]
theorem bl_irrefl : ∀ x : List UInt8, Op.bytesLess x x = false
  | [] => rfl
  | a :: x => by
    rw [Bool.eq_false_iff]
    intro h
    rw [bl_cons] at h
    rcases h with h | ⟨_, h⟩
    · omega
    · rw [bl_irrefl x] at h; exact absurd h (by decide)
theorem bl_trans : ∀ x y z : List UInt8, Op.bytesLess x y = true → Op.bytesLess y z = true → Op.bytesLess x z = true
  | _, [], _, h, _ => by cases ‹List UInt8› <;> simp [Op.bytesLess] at h
  | _, _ :: _, [], _, h => by simp [Op.bytesLess] at h
  | [], _ :: _, _ :: _, _, _ => rfl
  | a :: x, b :: y, c :: z, h1, h2 => by
    rw [bl_cons] at h1 h2 ⊢
    rcases h1 with h1 | ⟨rfl, h1⟩
    · rcases h2 with h2 | ⟨rfl, h2⟩
      · left; omega
      · left; exact h1
    · rcases h2 with h2 | ⟨rfl, h2⟩
      · left; exact h2
      · right; exact ⟨rfl, bl_trans x y z h1 h2⟩
theorem bl_total : ∀ x y : List UInt8, Op.bytesLess x y = false → Op.bytesLess y x = false → x = y
  | [], [], _, _ => rfl
  | [], _ :: _, h, _ => by simp [Op.bytesLess] at h
  | _ :: _, [], _, h => by simp [Op.bytesLess] at h
  | a :: x, b :: y, h1, h2 => by
    rw [Bool.eq_false_iff, Ne, bl_cons] at h1 h2
    have e : a = b := by
      apply UInt8.toNat_inj.1
      omega
    subst e
    rw [bl_total x y (by rw [Bool.eq_false_iff]; exact fun h => h1 (.inr ⟨rfl, h⟩)) (by rw [Bool.eq_false_iff]; exact fun h => h2 (.inr ⟨rfl, h⟩))]
theorem lt_asymm {x y : List UInt8} (h : Op.bytesLess x y = true) : Op.bytesLess y x = false := by
  rw [Bool.eq_false_iff]
  intro h2
  have := bl_trans _ _ _ h h2
  rw [bl_irrefl] at this
  exact absurd this (by decide)
/-! ### what validB says -/
theorem vall_iff (l : List S26) : ∀ (d i : Nat), i + d = l.length → (vall l d i = true ↔ ∀ j (h : j < l.length), i ≤ j → rB l[j] = true ∧ ∀ h0 : 0 < j, lt l[j - 1] l[j] = true) := by
  intro d
  induction d with
  | zero =>
    intro i hi
    refine ⟨fun _ j h hj => absurd h (by omega), fun _ => rfl⟩
  | succ d ih =>
    intro i hi
    rw [vall, Bool.and_eq_true, ih (i + 1) (by omega), vok, rd26 l i (by omega), Bool.and_eq_true, Bool.or_eq_true, beq_iff_eq]
    constructor
    · rintro ⟨⟨h1, h2⟩, h3⟩ j h hj
      by_cases e : j = i
      · subst e
        refine ⟨h1, fun h0 => ?_⟩
        rcases h2 with h2 | h2
        · omega
        · have e : ((j : Int) - 1) = ((j - 1 : Nat) : Int) := by omega
          rw [e, rd26 l (j - 1) (by omega)] at h2
          exact h2
      · exact h3 j h (by omega)
    · intro h
      have h0 := h i (by omega) (Nat.le_refl _)
      refine ⟨⟨h0.1, ?_⟩, fun j hj hij => h j hj (by omega)⟩
      by_cases e : i = 0
      · exact .inl e
      · right
        have e2 : ((i : Int) - 1) = ((i - 1 : Nat) : Int) := by omega
        rw [e2, rd26 l (i - 1) (by omega)]
        exact h0.2 (by omega)
def Sorted (l : List S26) : Prop := l.Pairwise fun x y => lt x y = true
structure Good (l : List S26) : Prop where
  len : l.length ≤ 8
  res : ∀ x ∈ l, rB x = true
  srt : Sorted l
theorem good_iff (l : List S26) : validB l = true ↔ Good l := by
  rw [validB, Bool.and_eq_true, decide_eq_true_eq, vall_iff l l.length 0 (by omega)]
  constructor
  · rintro ⟨h1, h2⟩
    refine ⟨h1, fun x hx => ?_, ?_⟩
    · obtain ⟨j, hj, rfl⟩ := List.mem_iff_getElem.1 hx
      exact (h2 j hj (Nat.zero_le _)).1
    · rw [Sorted, List.pairwise_iff_getElem]
      intro i j hi hj hij
      obtain ⟨d, rfl⟩ : ∃ d, j = i + 1 + d := ⟨j - (i + 1), by omega⟩
      clear hij
      induction d with
      | zero => exact (h2 (i + 1) hj (Nat.zero_le _)).2 (by omega)
      | succ d ih =>
        have a1 := ih (by omega)
        have a2 := (h2 (i + 1 + (d + 1)) hj (Nat.zero_le _)).2 (by omega)
        exact bl_trans _ _ _ a1 a2
  · rintro ⟨h1, h2, h3⟩
    refine ⟨h1, fun j hj _ => ⟨h2 _ (List.getElem_mem hj), fun h0 => ?_⟩⟩
    rw [Sorted, List.pairwise_iff_getElem] at h3
    exact h3 (j - 1) j (by omega) hj (by omega)
/-! ### Find -/
def same (p : List UInt8) (x : S26) : Bool := x.f0.toList == p
/-! ### the place of a name -/
def less (p : List UInt8) (x : S26) : Bool := Op.bytesLess x.f0.toList p
/-- How many names are less. -/
def cnt (l : List S26) (p : List UInt8) : Nat := (l.takeWhile (less p)).length
theorem cnt_le (l : List S26) (p : List UInt8) : cnt l p ≤ l.length := (List.takeWhile_sublist _).length_le
theorem cnt_cons (x : S26) (l : List S26) (p : List UInt8) : cnt (x :: l) p = if less p x = true then cnt l p + 1 else 0 := by
  unfold cnt
  rw [List.takeWhile_cons]
  split <;> simp [*]
theorem less_iff : ∀ (l : List S26) (hs : Sorted l) (p : List UInt8) (m : Nat) (h : m < l.length), less p l[m] = true ↔ m < cnt l p
  | [], _, _, m, h => absurd h (by simp)
  | x :: l, hs, p, m, h => by
    rw [Sorted, List.pairwise_cons] at hs
    rw [cnt_cons]
    cases m with
    | zero =>
      rw [List.getElem_cons_zero]
      split <;> simp [*]
    | succ m =>
      rw [List.getElem_cons_succ]
      have hm : m < l.length := by simpa using h
      by_cases hx : less p x = true
      · rw [if_pos hx, less_iff l hs.2 p m hm]; omega
      · rw [if_neg hx]
        refine ⟨fun h2 => absurd (bl_trans _ _ _ (hs.1 _ (List.getElem_mem hm)) h2) hx, fun h2 => absurd h2 (by omega)⟩
theorem search_eq (l : List S26) (hs : Sorted l) (p : ByteArray) : ∀ (k i j : Nat), i ≤ cnt l p.toList → cnt l p.toList ≤ j → j ≤ l.length → j - i < k → search_l l p k (i : Int) (j : Int) = some ((cnt l p.toList : Nat) : Int) := by
  intro k
  induction k with
  | zero => intro i j _ _ _ h; exact absurd h (by omega)
  | succ k ih =>
    intro i j h1 h2 h3 h4
    rw [search_l]
    by_cases hij : i < j
    · have e : (((i : Int) + (j : Int)) / 2) = (((i + j) / 2 : Nat) : Int) := by omega
      rw [if_pos (by omega), e]
      have hm : (i + j) / 2 < l.length := by omega
      have ha : above l p (((i + j) / 2 : Nat) : Int) = !(less p.toList (l[(i + j) / 2]'hm)) := by unfold above less; rw [rd26 l _ hm]
      have hi := less_iff l hs p.toList _ hm
      rw [ha]
      by_cases hl : less p.toList (l[(i + j) / 2]'hm) = true
      · rw [hl, if_neg (by decide)]
        have e2 : ((((i + j) / 2 : Nat) : Int) + 1) = (((i + j) / 2 + 1 : Nat) : Int) := by omega
        rw [e2]
        have := hi.1 hl
        exact ih _ _ (by omega) h2 h3 (by omega)
      · have hl2 := Bool.eq_false_iff.mpr hl
        rw [hl2, if_pos (by decide)]
        have : ¬ ((i + j) / 2 < cnt l p.toList) := fun h => hl (hi.2 h)
        exact ih _ _ h1 (by omega) (by omega) (by omega)
    · rw [if_neg (by omega)]
      congr 1
      omega
theorem place_eq (l : List S26) (hs : Sorted l) (hl : l.length ≤ 8) (p : ByteArray) : catalog_place.f l p = some ((cnt l p.toList : Nat) : Int) := by
  unfold catalog_place.f
  rw [if_pos (by omega)]
  exact search_eq l hs p _ 0 l.length (Nat.zero_le _) (cnt_le _ _) (Nat.le_refl _) (by omega)
/-- Where a name is, if it is there. -/
theorem at_cnt (l : List S26) (hs : Sorted l) (p : List UInt8) (m : Nat) (h : m < l.length) (he : l[m].f0.toList = p) : m = cnt l p := by
  have h1 : ¬ (m < cnt l p) := fun h2 => by
    have := (less_iff l hs p m h).2 h2
    rw [less, he, bl_irrefl] at this
    exact absurd this (by decide)
  rcases Nat.lt_or_ge (cnt l p) m with h2 | h2
  · exfalso
    have h3 := mt (less_iff l hs p (cnt l p) (by omega)).1 (by omega)
    rw [Sorted, List.pairwise_iff_getElem] at hs
    have h4 := hs (cnt l p) m (by omega) h h2
    rw [lt, he] at h4
    exact h3 h4
  · omega
theorem find_place (l : List S26) (hs : Sorted l) (p : List UInt8) : l.find? (same p) = if h : cnt l p < l.length then (if (l[cnt l p]).f0.toList = p then some l[cnt l p] else none) else none := by
  by_cases hx : ∃ x ∈ l, same p x = true
  · obtain ⟨x, hx, hsx⟩ := hx
    obtain ⟨m, hm, rfl⟩ := List.mem_iff_getElem.1 hx
    have e := at_cnt l hs p m hm (beq_iff_eq.mp hsx)
    subst e
    rw [dif_pos hm, if_pos (beq_iff_eq.mp hsx)]
    cases hf : l.find? (same p) with
    | none => exact absurd hsx (List.find?_eq_none.1 hf _ (List.getElem_mem hm))
    | some y =>
      have hy := List.mem_of_find?_eq_some hf
      have hy2 := List.find?_some hf
      obtain ⟨q, hq, rfl⟩ := List.mem_iff_getElem.1 hy
      have e2 := at_cnt l hs p q hq (beq_iff_eq.mp hy2)
      congr 1
      simp only [← e2]
  · rw [List.find?_eq_none.2 (fun x h => fun h2 => hx ⟨x, h, h2⟩)]
    split
    · rename_i h
      rw [if_neg (fun h2 => hx ⟨_, List.getElem_mem h, beq_iff_eq.mpr h2⟩)]
    · rfl
/-! ### Insert -/
def insL (l : List S26) (x : S26) : List S26 := l.take (cnt l x.f0.toList) ++ [x] ++ l.drop (cnt l x.f0.toList)
def insS (l : List S26) (x : S26) : List S26 × Int := if validB l = true then (if nameB x.f0 = true then (if rB x = true then (if (l.find? (same x.f0.toList)).isSome = true then ([], 11) else (if l.length = 8 then ([], 4) else (insL l x, 0))) else ([], 1)) else ([], 9)) else ([], 2)
theorem ins_j0 (l : List S26) (x : S26) (b : Bool) (hl : l.length ≤ 8) : Ev (fun k => catalog_Insert.j0 k l ((cnt l x.f0.toList : Nat) : Int) b x.f0 x.f1 x.f2 x.f3) (if b = true then ([], 11) else (if l.length = 8 then ([], 4) else (insL l x, 0))) := by
  have hc := cnt_le l x.f0.toList
  refine Ev.step (f := fun _ => some (if b = true then ([], 11) else (if l.length = 8 then ([], 4) else (insL l x, 0)))) (fun k => ?_) (Ev.now _)
  rw [catalog_Insert.j0]
  cases b
  · simp only [Bool.false_eq_true, if_false]
    by_cases h8 : l.length = 8
    · rw [if_pos (by omega), if_pos h8]
    · rw [if_neg (by omega), if_neg h8]
      unfold api_Resource_43.f
      rw [if_pos (by omega), Option.bind_some]
      unfold api_Resource_42.f
      rw [if_pos (by omega), Option.bind_some, Int.toNat_natCast]
      rfl
  · rw [if_pos rfl, if_pos rfl]
theorem find_some (l : List S26) (hs : Sorted l) (p : ByteArray) : (l.find? (same p.toList)).isSome = (decide (cnt l p.toList < l.length) && ((rd_T26 l ((cnt l p.toList : Nat) : Int)).f0.toList == p.toList)) := by
  rw [find_place l hs]
  by_cases h : cnt l p.toList < l.length
  · rw [dif_pos h, rd26 l _ h, decide_eq_true h, Bool.true_and]
    by_cases h2 : (l[cnt l p.toList]).f0.toList = p.toList
    · rw [if_pos h2, beq_iff_eq.mpr h2]; rfl
    · rw [if_neg h2, beq_eq_false_iff_ne.mpr h2]; rfl
  · rw [dif_neg h, decide_eq_false h, Bool.false_and]; rfl
theorem insert_eq (l : List S26) (x : S26) : Ev (fun k => catalog_Insert.f k l x.f0 x.f1 x.f2 x.f3) (insS l x) := by
  unfold catalog_Insert.f insS
  refine Ev.bind (v_eq l) ?_
  cases hv : validB l
  · exact Ev.now _
  have hg := (good_iff l).1 hv
  refine Ev.congr (fun k => if_pos rfl) ?_
  refine Ev.bind (vn_eq x.f0) ?_
  cases nameB x.f0
  · exact Ev.now _
  refine Ev.congr (fun k => if_pos rfl) ?_
  refine Ev.bind (vr_eq x.f0 x.f1 x.f2 x.f3) ?_
  unfold rB
  cases resB x.f0 x.f1 x.f2 x.f3
  · exact Ev.now _
  refine Ev.congr (fun k => if_pos rfl) ?_
  rw [if_pos rfl, if_pos rfl, if_pos rfl]
  simp only [place_eq l hg.srt hg.len, Option.bind_some]
  rw [find_some l hg.srt]
  by_cases h : cnt l x.f0.toList < l.length
  · refine Ev.congr (fun k => by rw [if_pos (by omega), if_pos (by omega)]) ?_
    rw [decide_eq_true h, Bool.true_and]
    exact ins_j0 l x _ hg.len
  · refine Ev.congr (fun k => if_neg (by omega)) ?_
    rw [decide_eq_false h, Bool.false_and]
    exact ins_j0 l x false hg.len
/-! ### Same -/
theorem same_l0 (l : List S26) (hl : l.length < 4000000000000) : ∀ (d i : Nat), i + d = l.length → Ev (fun k => clusterlocksref05_Same.l0 k l l (i : Int)) true := by
  intro d
  induction d with
  | zero =>
    intro i hi
    refine Ev.step (f := fun _ => some true) (fun k => ?_) (Ev.now _)
    rw [clusterlocksref05_Same.l0, if_neg (by omega)]
  | succ d ih =>
    intro i hi
    have hw : wrap64 ((i : Int) + 1) = ((i + 1 : Nat) : Int) := by unfold wrap64; omega
    refine Ev.step (fun k => ?_) (ih (i + 1) (by omega))
    rw [clusterlocksref05_Same.l0, if_pos (by omega), if_pos (by omega), if_pos (by omega), beq_self_eq_true, beq_self_eq_true, beq_self_eq_true, beq_self_eq_true, if_neg (by decide), hw]
theorem same_eq (l : List S26) (hl : l.length < 4000000000000) : Ev (fun k => clusterlocksref05_Same.f k l l) true := by
  unfold clusterlocksref05_Same.f
  exact Ev.congr (fun k => if_pos rfl) (same_l0 l hl l.length 0 (by omega))
theorem insL_length (l : List S26) (x : S26) : (insL l x).length = l.length + 1 := by
  have := cnt_le l x.f0.toList
  unfold insL
  rw [List.length_append, List.length_append, List.length_take, List.length_drop, List.length_singleton]
  omega
end Go.Proofs.YtbiapfjhdggkpaaDoor.PA


/- Catalogs in plain Lean: Find, Remove. Conditions: none. -/
namespace Go.Proofs.YtbiapfjhdggkpaaDoor.PA
open Go.RowKit Go.Proofs.YtbiapfjhdggkpaaDoorW.PrintWords Go.Proofs.YtbiapfjhdggkpaaDoorW.PrintLast Go.Proofs.YtbiapfjhdggkpaaDoorW.PrintMore
set_option linter.unusedVariables false
set_option linter.unusedSimpArgs false
/-! ### Remove -/
/-! ### what Insert makes -/
theorem insL_sorted (l : List S26) (x : S26) (hs : Sorted l) (hn : l.find? (same x.f0.toList) = none) : Sorted (insL l x) := by
  have h1 : ∀ y ∈ l.take (cnt l x.f0.toList), lt y x = true := fun y hy => by
    obtain ⟨m, hm, rfl⟩ := List.mem_iff_getElem.1 hy
    rw [List.length_take] at hm
    rw [List.getElem_take]
    exact (less_iff l hs x.f0.toList m (by omega)).2 (by omega)
  have h2 : ∀ y ∈ l.drop (cnt l x.f0.toList), lt x y = true := fun y hy => by
    have hy0 := List.mem_of_mem_drop hy
    obtain ⟨m, hm, rfl⟩ := List.mem_iff_getElem.1 hy
    rw [List.length_drop] at hm
    rw [List.getElem_drop] at hy0 ⊢
    cases h3 : lt x (l[cnt l x.f0.toList + m]'(by omega))
    · exfalso
      have h4 := mt (less_iff l hs x.f0.toList (cnt l x.f0.toList + m) (by omega)).1 (by omega)
      have e := bl_total _ _ (Bool.eq_false_iff.mpr h4) h3
      exact List.find?_eq_none.1 hn _ hy0 (beq_iff_eq.mpr e)
    · rfl
  have hs2 := hs
  rw [Sorted, ← List.take_append_drop (cnt l x.f0.toList) l, List.pairwise_append] at hs2
  unfold insL
  rw [Sorted, List.append_assoc, List.pairwise_append, List.singleton_append, List.pairwise_cons]
  refine ⟨hs2.1, ⟨h2, hs2.2.1⟩, fun a ha b hb => ?_⟩
  rcases List.mem_cons.1 hb with rfl | hb
  · exact h1 a ha
  · exact hs2.2.2 a ha b hb
end Go.Proofs.YtbiapfjhdggkpaaDoor.PA


/- Catalogs in plain Lean: sorted lists by their members; the scripts of inserting and removing. Conditions: none. -/
namespace Go.Proofs.YtbiapfjhdggkpaaDoor.PA
open Go.RowKit Go.Proofs.YtbiapfjhdggkpaaDoorW.PrintWords Go.Proofs.YtbiapfjhdggkpaaDoorW.PrintLast Go.Proofs.YtbiapfjhdggkpaaDoorW.PrintMore
set_option linter.unusedVariables false
set_option linter.unusedSimpArgs false
/-! ### sorted lists by their members -/
theorem lt_irr (x : S26) : lt x x = false := bl_irrefl _
theorem sub_of_mem : ∀ (b a : List S26), Sorted a → Sorted b → (∀ x ∈ a, x ∈ b) → a.Sublist b
  | [], a, _, _, h => by
    cases a with
    | nil => exact List.Sublist.slnil
    | cons x a => exact absurd (h x List.mem_cons_self) (by simp)
  | y :: b, a, ha, hb, h => by
    cases a with
    | nil => exact List.nil_sublist _
    | cons x a =>
      rw [Sorted, List.pairwise_cons] at ha hb
      rcases List.mem_cons.1 (h x List.mem_cons_self) with rfl | hx
      · refine List.Sublist.cons_cons _ (sub_of_mem b a ha.2 hb.2 (fun z hz => ?_))
        rcases List.mem_cons.1 (h z (List.mem_cons_of_mem _ hz)) with rfl | hz2
        · have := ha.1 _ hz
          rw [lt_irr] at this
          exact absurd this (by decide)
        · exact hz2
      · have hyx := hb.1 x hx
        refine List.Sublist.cons _ (sub_of_mem b (x :: a) (List.pairwise_cons.2 ha) hb.2 (fun z hz => ?_))
        rcases List.mem_cons.1 (h z hz) with rfl | hz2
        · exfalso
          rcases List.mem_cons.1 hz with rfl | hz3
          · rw [lt_irr] at hyx
            exact absurd hyx (by decide)
          · have h1 := ha.1 _ hz3
            have h2 := lt_asymm h1
            exact absurd hyx (by rw [lt, h2]; decide)
        · exact hz2
theorem eq_of_mem (a b : List S26) (ha : Sorted a) (hb : Sorted b) (h : ∀ x, x ∈ a ↔ x ∈ b) : a = b := by
  have h1 := sub_of_mem b a ha hb (fun x hx => (h x).1 hx)
  have h2 := sub_of_mem a b hb ha (fun x hx => (h x).2 hx)
  exact h1.eq_of_length_le h2.length_le
theorem name_uniq (l : List S26) (hs : Sorted l) (x y : S26) (hx : x ∈ l) (hy : y ∈ l) (h : x.f0.toList = y.f0.toList) : x = y := by
  obtain ⟨i, hi, rfl⟩ := List.mem_iff_getElem.1 hx
  obtain ⟨j, hj, rfl⟩ := List.mem_iff_getElem.1 hy
  have e1 := at_cnt l hs _ i hi rfl
  have e2 := at_cnt l hs _ j hj h.symm
  have e : i = j := by omega
  subst e
  rfl
theorem insL_mem (l : List S26) (x y : S26) : y ∈ insL l x ↔ y ∈ l ∨ y = x := by
  unfold insL
  rw [List.mem_append, List.mem_append, List.mem_singleton]
  constructor
  · rintro ((h | h) | h)
    · exact .inl (List.mem_of_mem_take h)
    · exact .inr h
    · exact .inl (List.mem_of_mem_drop h)
  · rintro (h | h)
    · rw [← List.take_append_drop (cnt l x.f0.toList) l, List.mem_append] at h
      rcases h with h | h
      · exact .inl (.inl h)
      · exact .inr h
    · exact .inl (.inr h)
end Go.Proofs.YtbiapfjhdggkpaaDoor.PA


/- Catalogs in plain Lean: At. Conditions: none. -/
namespace Go.Proofs.YtbiapfjhdggkpaaDoor.PA
open Go.RowKit Go.Proofs.YtbiapfjhdggkpaaDoorW.PrintWords Go.Proofs.YtbiapfjhdggkpaaDoorW.PrintLast Go.Proofs.YtbiapfjhdggkpaaDoorW.PrintMore
set_option linter.unusedVariables false
set_option linter.unusedSimpArgs false
def atL (l : List S26) (s : Int) : List S26 := l.filter (fun x => x.f3 == s)
theorem at_l0 (l : List S26) (s : Int) (hl : l.length < 3518437208883) : ∀ (d i : Nat), i + d = l.length → ∀ acc : List S26, acc.length ≤ i → Ev (fun k => catalog_At.l0 k s acc l (l.length : Int) (i : Int)) (acc ++ atL (l.drop i) s) := by
  intro d
  induction d with
  | zero =>
    intro i hi acc ha
    refine Ev.step (f := fun _ => some acc) (fun k => ?_) ?_
    · rw [catalog_At.l0, if_neg (by omega)]
    · rw [List.drop_of_length_le (by omega)]
      unfold atL
      rw [List.filter_nil, List.append_nil]; exact Ev.now _
  | succ d ih =>
    intro i hi acc ha
    have hw : wrap64 ((i : Int) + 1) = ((i + 1 : Nat) : Int) := by unfold wrap64; omega
    rw [List.drop_eq_getElem_cons (by omega)]
    unfold atL
    rw [List.filter_cons]
    by_cases h : (l[i]'(by omega)).f3 = s
    · rw [beq_iff_eq.mpr h, if_pos rfl]
      have ih' := ih (i + 1) (by omega) (acc ++ [l[i]'(by omega)]) (by rw [List.length_append, List.length_singleton]; omega)
      rw [List.append_assoc, List.singleton_append] at ih'
      refine Ev.step (fun k => ?_) ih'
      rw [catalog_At.l0, if_pos (by omega), if_pos (by omega), if_pos (by omega), rd26 l i (by omega), if_pos h, if_pos (by omega), hw]
    · rw [beq_eq_false_iff_ne.mpr h, if_neg (by decide)]
      refine Ev.step (fun k => ?_) (ih (i + 1) (by omega) acc (by omega))
      rw [catalog_At.l0, if_pos (by omega), if_pos (by omega), if_pos (by omega), rd26 l i (by omega), if_neg h, hw]
theorem at_eq (l : List S26) (s : Int) (hl : l.length < 3518437208883) : Ev (fun k => catalog_At.f k l s) (atL l s) := at_l0 l s hl l.length 0 (by omega) [] (Nat.le_refl _)
theorem atL_length (l : List S26) (s : Int) : (atL l s).length ≤ l.length := List.length_filter_le _ _
end Go.Proofs.YtbiapfjhdggkpaaDoor.PA


/- Catalogs in plain Lean: the resources of all sites. Conditions: none. -/
namespace Go.Proofs.YtbiapfjhdggkpaaDoor.PA
open Go.RowKit Go.Proofs.YtbiapfjhdggkpaaDoorW.PrintWords Go.Proofs.YtbiapfjhdggkpaaDoorW.PrintLast Go.Proofs.YtbiapfjhdggkpaaDoorW.PrintMore
set_option linter.unusedVariables false
set_option linter.unusedSimpArgs false
theorem filter_or {α : Type} (p q : α → Bool) : ∀ l : List α, (∀ x ∈ l, ¬ (p x = true ∧ q x = true)) → (l.filter p).length + (l.filter q).length = (l.filter (fun x => p x || q x)).length
  | [], _ => rfl
  | x :: l, h => by
    have ih := filter_or p q l (fun y hy => h y (List.mem_cons_of_mem _ hy))
    have hx := h x List.mem_cons_self
    rw [List.filter_cons, List.filter_cons, List.filter_cons]
    cases hp : p x <;> cases hq : q x
    · simpa using ih
    · simp only [Bool.false_or, if_true, Bool.false_eq_true, if_false, List.length_cons]; omega
    · simp only [Bool.true_or, if_true, Bool.false_eq_true, if_false, List.length_cons]; omega
    · exact absurd ⟨hp, hq⟩ hx
def cum (l : List S26) (s : Int) : Nat := (l.filter (fun x => decide (0 ≤ x.f3) && decide (x.f3 < s))).length
theorem cum_step (l : List S26) (s : Int) (h0 : 0 ≤ s) : cum l s + (atL l s).length = cum l (s + 1) := by
  unfold cum atL
  rw [filter_or]
  · congr 2
    funext x
    rw [Bool.eq_iff_iff]
    simp only [Bool.or_eq_true, Bool.and_eq_true, decide_eq_true_eq, beq_iff_eq]
    omega
  · intro x _
    simp only [Bool.and_eq_true, decide_eq_true_eq, beq_iff_eq]
    omega
theorem rB_home {x : S26} (h : rB x = true) : nameB x.f0 = true ∧ 0 ≤ x.f3 ∧ x.f3 < 4 := by
  unfold rB resB at h
  simp only [Bool.and_eq_true, decide_eq_true_eq] at h
  exact ⟨h.1, h.2.2⟩
theorem cum_all (l : List S26) (hg : Good l) : cum l 4 = l.length := by
  unfold cum
  rw [List.filter_eq_self.2]
  intro x hx
  have := rB_home (hg.res x hx)
  simp only [Bool.and_eq_true, decide_eq_true_eq]
  exact this.2
theorem cum_le (l : List S26) (s : Int) : cum l s ≤ l.length := List.length_filter_le _ _
/-- What has been put together. -/
structure Part (l out : List S26) (Q : S26 → Prop) : Prop where
  srt : Sorted out
  mem : ∀ x, x ∈ out ↔ x ∈ l ∧ Q x
theorem Part.good {l out : List S26} {Q : S26 → Prop} (h : Part l out Q) (hg : Good l) : Good out := by
  have hs := sub_of_mem l out h.srt hg.srt (fun x hx => ((h.mem x).1 hx).1)
  exact ⟨Nat.le_trans hs.length_le hg.len, fun x hx => hg.res x ((h.mem x).1 hx).1, h.srt⟩
theorem Part.ins {l out : List S26} {Q : S26 → Prop} (h : Part l out Q) (hg : Good l) (e : S26) (he : e ∈ l) (hQ : ¬ Q e) : insS out e = (insL out e, 0) ∧ Part l (insL out e) (fun x => Q x ∨ x = e) := by
  have hgo := h.good hg
  have hr := hg.res e he
  have hn : out.find? (same e.f0.toList) = none := by
    rw [List.find?_eq_none]
    intro y hy hsame
    have hy2 := (h.mem y).1 hy
    have e2 := name_uniq l hg.srt y e hy2.1 he (beq_iff_eq.mp hsame)
    rw [e2] at hy2
    exact hQ hy2.2
  have hs := insL_sorted out e h.srt hn
  have hp : Part l (insL out e) (fun x => Q x ∨ x = e) := ⟨hs, fun x => by
    rw [insL_mem, h.mem x]
    constructor
    · rintro (⟨h1, h2⟩ | rfl)
      · exact ⟨h1, .inl h2⟩
      · exact ⟨he, .inr rfl⟩
    · rintro ⟨h1, h2 | rfl⟩
      · exact .inl ⟨h1, h2⟩
      · exact .inr rfl⟩
  have hsub := sub_of_mem l (insL out e) hs hg.srt (fun x hx => ((hp.mem x).1 hx).1)
  have hlen := hsub.length_le
  rw [insL_length] at hlen
  have h8 := hg.len
  refine ⟨?_, hp⟩
  unfold insS
  rw [if_pos ((good_iff out).2 hgo), if_pos (rB_home hr).1, if_pos hr, hn, if_neg (by simp), if_neg (by omega)]
theorem Part.congr {l out : List S26} {Q R : S26 → Prop} (h : Part l out Q) (hq : ∀ x ∈ l, Q x ↔ R x) : Part l out R := ⟨h.srt, fun x => by rw [h.mem x]; exact ⟨fun ⟨a, b⟩ => ⟨a, (hq x a).1 b⟩, fun ⟨a, b⟩ => ⟨a, (hq x a).2 b⟩⟩⟩
theorem sites_l1 (l : List S26) (hg : Good l) (s : Int) (h0 : 0 ≤ s) (h4 : s < 4) (n : Int) (hn : ∀ out, Part l out (fun x => x.f3 < s + 1) → Ev (fun k => clusterlockslaw05_CatalogSites.l0 k l out n (s + 1)) true) :
    ∀ (d j : Nat), j + d = (atL l s).length → ∀ out, Part l out (fun x => x.f3 < s ∨ x ∈ (atL l s).take j) → Ev (fun k => clusterlockslaw05_CatalogSites.l1 k l out n s (atL l s) (j : Int)) true := by
  have hl := hg.len
  have hal := atL_length l s
  intro d
  induction d with
  | zero =>
    intro j hj out hp
    have hw : wrap64 (s + 1) = s + 1 := by unfold wrap64; omega
    refine Ev.step (fun k => ?_) (hn out (hp.congr (fun x hx => ?_)))
    · rw [clusterlockslaw05_CatalogSites.l1, if_neg (by omega), hw]
    · rw [List.take_of_length_le (by omega)]
      unfold atL
      rw [List.mem_filter, beq_iff_eq]
      constructor
      · rintro (h | h)
        · omega
        · have := h.2; omega
      · intro h
        by_cases h2 : x.f3 < s
        · exact .inl h2
        · exact .inr ⟨hx, by omega⟩
  | succ d ih =>
    intro j hj out hp
    have hlt : j < (atL l s).length := by omega
    have hw : wrap64 ((j : Int) + 1) = ((j + 1 : Nat) : Int) := by unfold wrap64; omega
    have hmem : (atL l s)[j] ∈ atL l s := List.getElem_mem hlt
    have hm2 : (atL l s)[j] ∈ l ∧ ((atL l s)[j].f3 == s) = true := List.mem_filter.1 hmem
    have hsrt : Sorted (atL l s) := hg.srt.sublist List.filter_sublist
    have hnot : ¬ ((atL l s)[j].f3 < s ∨ (atL l s)[j] ∈ (atL l s).take j) := by
      rintro (h | h)
      · have := beq_iff_eq.mp hm2.2; omega
      · obtain ⟨m, hm, e⟩ := List.mem_iff_getElem.1 h
        rw [List.length_take] at hm
        rw [List.getElem_take] at e
        have hs2 := hsrt
        rw [Sorted, List.pairwise_iff_getElem] at hs2
        have := hs2 m j (by omega) hlt (by omega)
        rw [e, lt_irr] at this
        exact absurd this (by decide)
    obtain ⟨e1, hp1⟩ := hp.ins hg _ hm2.1 hnot
    have ih' := ih (j + 1) (by omega) _ (hp1.congr (fun x _ => by rw [List.take_succ_eq_append_getElem hlt, List.mem_append, List.mem_singleton, or_assoc]))
    refine Ev.step (f := fun k => (catalog_Insert.f k out ((atL l s)[j]).f0 ((atL l s)[j]).f1 ((atL l s)[j]).f2 ((atL l s)[j]).f3).bind fun a => (if a.2 = 0 then clusterlockslaw05_CatalogSites.l1 k l a.1 n s (atL l s) ((j + 1 : Nat) : Int) else clusterlockslaw05_CatalogSites.l1 k l out n s (atL l s) ((j + 1 : Nat) : Int))) (fun k => ?_) ?_
    · rw [clusterlockslaw05_CatalogSites.l1, if_pos (by omega), if_pos (by omega), rd26 _ j hlt, hw]
    · refine Ev.bind (insert_eq out _) ?_
      rw [e1]
      exact Ev.congr (fun k => if_pos rfl) ih'
theorem sites_l0 (l : List S26) (hg : Good l) : ∀ (d : Nat) (s : Int), 0 ≤ s → s + (d : Int) = 4 → ∀ out, Part l out (fun x => x.f3 < s) → Ev (fun k => clusterlockslaw05_CatalogSites.l0 k l out ((cum l s : Nat) : Int) s) true := by
  have hl := hg.len
  intro d
  induction d with
  | zero =>
    intro s h0 hs out hp
    have e4 : s = 4 := by omega
    subst e4
    have e : out = l := eq_of_mem out l hp.srt hg.srt (fun x => by
      rw [hp.mem x]
      exact ⟨fun h => h.1, fun h => ⟨h, (rB_home (hg.res x h)).2.2⟩⟩)
    subst e
    refine Ev.step (f := fun k => (clusterlockslaw05_awake.f k).bind fun t192 => (if t192 = true then (if ((cum out 4 : Nat) : Int) = (out.length : Int) then ((clusterlocksref05_Same.f k out out).bind fun t193 => (some t193)) else (some false)) else (some false))) (fun k => ?_) ?_
    · rw [clusterlockslaw05_CatalogSites.l0, if_neg (by omega)]
    · refine Ev.bind awake_ev (Ev.congr (fun k => if_pos rfl) (Ev.congr (fun k => if_pos ?_) (Ev.bind (same_eq out (by omega)) (Ev.now true))))
      rw [cum_all out hg]
  | succ d ih =>
    intro s h0 hs out hp
    have hc := cum_le l s
    have hc1 := cum_step l s h0
    have hc2 := cum_le l (s + 1)
    have hw : wrap64 (((cum l s : Nat) : Int) + ((atL l s).length : Int)) = ((cum l (s + 1) : Nat) : Int) := by unfold wrap64; omega
    have h1 := sites_l1 l hg s h0 (by omega) ((cum l (s + 1) : Nat) : Int) (fun out hp => ih (s + 1) (by omega) (by omega) out hp) (atL l s).length 0 (by omega) out (hp.congr (fun x _ => by rw [List.take_zero]; simp))
    refine Ev.step (f := fun k => (catalog_At.f k l s).bind fun t194 => (clusterlockslaw05_CatalogSites.l1 k l out (wrap64 (((cum l s : Nat) : Int) + (t194.length : Int))) s t194 0)) (fun k => ?_) ?_
    · rw [clusterlockslaw05_CatalogSites.l0, if_pos (by omega)]
    · refine Ev.bind (at_eq l s (by omega)) ?_
      rw [hw]
      exact h1
end Go.Proofs.YtbiapfjhdggkpaaDoor.PA


/- CatalogSites: the law in plain Lean. Conditions: none of our own. -/
namespace Go.Proofs.YtbiapfjhdggkpaaDoor.PA
open Go.RowKit Go.Proofs.YtbiapfjhdggkpaaDoorW.PrintWords Go.Proofs.YtbiapfjhdggkpaaDoorW.PrintLast Go.Proofs.YtbiapfjhdggkpaaDoorW.PrintMore
set_option linter.unusedVariables false
/-- The law as a statement on plain data. -/
def CatalogSites_Pure : Prop := ∀ (x0 : List S26), (x0.length * 40 ≤ 140737488351232 ∧ x0.length ≤ maxLen ∧ ∀ x ∈ x0, ok26 x) → ∃ k, clusterlockslaw05_CatalogSites.f k x0 = some true
theorem CatalogSites_pure : CatalogSites_Pure := by
  intro l hl
  refine ev_some ?_
  unfold clusterlockslaw05_CatalogSites.f
  refine Ev.bind (rv_eq l) ?_
  cases hv : validB l
  · exact Ev.congr (fun k => if_neg (by decide)) (Ev.bind awake_ev (Ev.now true))
  · have hg := (good_iff l).1 hv
    refine Ev.congr (fun k => if_pos rfl) ?_
    have h0 : cum l 0 = 0 := by
      unfold cum
      rw [List.length_eq_zero_iff, List.filter_eq_nil_iff]
      intro x _
      simp only [Bool.and_eq_true, decide_eq_true_eq]
      omega
    have h := sites_l0 l hg 4 0 (Int.le_refl _) (by decide) [] ⟨List.Pairwise.nil, fun x => ⟨fun h => absurd h (by simp), fun h => by have := (rB_home (hg.res x h.1)).2.1; have := h.2; omega⟩⟩
    rw [h0] at h
    exact h
end Go.Proofs.YtbiapfjhdggkpaaDoor.PA

