/- The law HoldersYield in plain data, with the facts that it needs. Conditions: those of its statement. -/
import Derived.Test.YtnmemkphfgdplaaDoorGL
import Derived.IntWalk
import Derived.Test.YtnmemkphfgdplaaDoorT1
import Derived.Test.YtnmemkphfgdplaaDoorPAxM
import Derived.Test.YtnmemkphfgdplaaDoorPAxT
import Derived.Test.YtnmemkphfgdplaaDoorPAx10
import Derived.Test.YtnmemkphfgdplaaDoorPAx11
import Derived.Test.YtnmemkphfgdplaaDoorPAx12
import Derived.Test.YtnmemkphfgdplaaDoorPAx14
import Derived.Test.YtnmemkphfgdplaaDoorPAx16
import Derived.Test.YtnmemkphfgdplaaDoorPAx23
import Derived.Test.YtnmemkphfgdplaaDoorPAx24
import Derived.Test.YtnmemkphfgdplaaDoorPAx4
import Derived.Test.YtnmemkphfgdplaaDoorPAx5
import Derived.Test.YtnmemkphfgdplaaDoorPAx6
import Derived.Test.YtnmemkphfgdplaaDoorPAx7
import Derived.Test.YtnmemkphfgdplaaDoorPAx8
import Derived.Test.YtnmemkphfgdplaaDoorPAx9
namespace Go.Proofs.YtnmemkphfgdplaaDoor.Amt
set_option linter.unusedVariables false
def valid (m : Int) : Bool := decide (1 ≤ m) && decide (m ≤ 5)
def shaped (k n : Int) : Bool := (k == 1 && n == 1) || (k == 2 && decide (1 ≤ n) && decide (n ≤ 8))
def zero (m u : Int) : Bool := m == 0 && u == 0
def fits (k n m u : Int) : Bool := shaped k n && (if k = 1 then valid m && u == 0 else m == 0 && decide (1 ≤ u) && decide (u ≤ n))
def permitted (k n m u : Int) : Bool := shaped k n && (zero m u || fits k n m u)
def comp (a b : Int) : Bool := valid a && valid b && a != 5 && b != 5 && (a == 1 || b == 1 || (a == b && a != 4))
/-- Two amounts of a lock that may be held together, or one of which is none. -/
def okp (a b : Int × Int) : Bool := zero a.1 a.2 || zero b.1 b.2 || comp a.1 b.1
/-- The sum of the units. -/
def units (l : List (Int × Int)) : Int := (l.map (·.2)).sum
/-- Each goes with all ahead of it. -/
def pw : List (Int × Int) → Bool
  | [] => true
  | a :: l => l.all (fun b => okp a b) && pw l
def compat (k n : Int) (l : List (Int × Int)) : Bool := shaped k n && l.all (fun a => permitted k n a.1 a.2) && (if k = 2 then decide (units l ≤ n) else pw l)

theorem five {a : Int} (h : 1 ≤ a ∧ a ≤ 5) : a = 1 ∨ a = 2 ∨ a = 3 ∨ a = 4 ∨ a = 5 := by omega
theorem valid_iff {a : Int} : valid a = true ↔ 1 ≤ a ∧ a ≤ 5 := by simp [valid]
theorem tab_comp {a b : Int} (ha : 1 ≤ a ∧ a ≤ 5) (hb : 1 ≤ b ∧ b ≤ 5) : modeTab.getD (a.toNat * 6 + b.toNat) false = comp a b := by
  rcases five ha with rfl | rfl | rfl | rfl | rfl <;> rcases five hb with rfl | rfl | rfl | rfl | rfl <;> rfl
theorem comp_comm (a b : Int) : comp a b = comp b a := by
  rw [Bool.eq_iff_iff]
  simp only [comp, valid, Bool.and_eq_true, Bool.or_eq_true, decide_eq_true_eq, bne_iff_ne, beq_iff_eq]
  omega
theorem okp_comm (a b : Int × Int) : okp a b = okp b a := by
  unfold okp
  rw [comp_comm, Bool.or_comm (zero a.1 a.2)]
theorem permitted_nonneg {k n m u : Int} (h : permitted k n m u = true) : 0 ≤ u ∧ u ≤ 8 := by
  simp only [permitted, fits, shaped, zero, Bool.and_eq_true, Bool.or_eq_true, decide_eq_true_eq, beq_iff_eq] at h
  rcases h with ⟨h1, h2 | ⟨_, h3⟩⟩
  · omega
  · split at h3
    · simp only [Bool.and_eq_true, beq_iff_eq] at h3
      omega
    · simp only [Bool.and_eq_true, beq_iff_eq, decide_eq_true_eq] at h3
      omega
theorem units_cons (a : Int × Int) (l : List (Int × Int)) : units (a :: l) = a.2 + units l := by simp [units]
theorem units_app (l m : List (Int × Int)) : units (l ++ m) = units l + units m := by simp [units, List.sum_append]
theorem units_nonneg {k n : Int} : ∀ {l : List (Int × Int)}, l.all (fun a => permitted k n a.1 a.2) = true → 0 ≤ units l ∧ units l ≤ 8 * l.length
  | [], _ => by simp [units]
  | a :: l, h => by
    simp only [List.all_cons, Bool.and_eq_true] at h
    have h1 := permitted_nonneg h.1
    have h2 := units_nonneg h.2
    rw [units_cons, List.length_cons]
    omega
theorem pw_app : ∀ (l m : List (Int × Int)), pw (l ++ m) = (pw l && pw m && l.all (fun a => m.all (fun b => okp a b)))
  | [], m => by simp [pw]
  | a :: l, m => by
    simp only [List.cons_append, pw, List.all_append, List.all_cons, pw_app l m]
    cases l.all (fun b => okp a b) <;> cases m.all (fun b => okp a b) <;> cases pw l <;> cases pw m <;> simp
end Go.Proofs.YtnmemkphfgdplaaDoor.Amt


/- What the printed functions of the packages mode and amount, and of their references, compute. Conditions: none of our own. -/
namespace Go.Proofs.YtnmemkphfgdplaaDoor
open Go.RowKit Go.Proofs.YtnmemkphfgdplaaDoorW.PrintWords Go.Proofs.YtnmemkphfgdplaaDoorW.PrintLast Go.Proofs.YtnmemkphfgdplaaDoorW.PrintMore Amt
namespace PA
set_option linter.unusedVariables false
set_option linter.unusedSimpArgs false
theorem shaped_eq (s : ByteArray) (k n h : Int) : amount_Shaped.f s k n h = some (shaped k n) := by
  unfold amount_Shaped.f shaped
  by_cases h1 : k = 1
  · subst h1; simp
  · rw [if_neg h1]
    by_cases h2 : k = 2
    · subst h2
      by_cases h3 : n ≥ 1
      · rw [if_pos rfl, if_pos h3]; simp [h3]
      · rw [if_pos rfl, if_neg h3]; simp [h3]
    · rw [if_neg h2]; simp [h1, h2]
theorem rshaped_eq (s : ByteArray) (k n h : Int) : clusterlocksref04_Shaped.f s k n h = some (shaped k n) := by
  unfold clusterlocksref04_Shaped.f shaped
  by_cases h1 : k = 1
  · subst h1
    by_cases h3 : n = 1
    · subst h3; simp
    · rw [if_pos rfl, if_neg h3, if_neg (by omega)]; simp [h3]
  · rw [if_neg h1]
    by_cases h2 : k = 2
    · subst h2
      by_cases h3 : n ≥ 1
      · rw [if_pos rfl, if_pos h3]; simp [h3]
      · rw [if_pos rfl, if_neg h3]; simp [h3]
    · rw [if_neg h2]; simp [h1, h2]
theorem valid_eq (m : Int) : mode_Valid.f m = some (valid m) := by
  unfold mode_Valid.f valid
  by_cases h : m ≥ 1
  · rw [if_pos h]; simp [h]
  · rw [if_neg h]; simp [h]
theorem rvalid_eq (m : Int) : clusterlocksref03_Valid.f m = some (valid m) := by
  unfold clusterlocksref03_Valid.f valid
  by_cases h : m ≥ 1
  · rw [if_pos h]; simp [h]
  · rw [if_neg h]; simp [h]
theorem zero_eq (m u : Int) : amount_Zero.f m u = some (zero m u) := rfl
theorem rzero_eq (m u : Int) : clusterlocksref04_Zero.f m u = some (zero m u) := rfl
theorem fits_eq (s : ByteArray) (k n h m u : Int) : amount_Fits.f s k n h m u = some (fits k n m u) := by
  unfold amount_Fits.f fits
  simp only [shaped_eq, valid_eq, Option.bind_some]
  cases h0 : shaped k n
  · simp
  · by_cases h1 : k = 1
    · subst h1
      cases hv : valid m <;> simp [hv]
    · by_cases h2 : m = 0
      · by_cases h3 : u ≥ 1 <;> simp [h1, h2, h3]
      · simp [h1, h2]
theorem rfits_eq (s : ByteArray) (k n h m u : Int) : clusterlocksref04_Fits.f s k n h m u = some (fits k n m u) := by
  unfold clusterlocksref04_Fits.f fits
  simp only [rshaped_eq, rvalid_eq, Option.bind_some]
  cases h0 : shaped k n
  · simp
  · by_cases h1 : k = 1
    · subst h1
      cases hv : valid m <;> simp [hv]
    · by_cases h2 : m = 0
      · by_cases h3 : u ≥ 1 <;> simp [h1, h2, h3]
      · simp [h1, h2]
theorem fits_shaped {k n m u : Int} (h : fits k n m u = true) : shaped k n = true := by
  unfold fits at h
  cases h0 : shaped k n
  · simp [h0] at h
  · rfl
theorem permitted_eq (s : ByteArray) (k n h m u : Int) : amount_permitted.f s k n h m u = some (permitted k n m u) := by
  unfold amount_permitted.f permitted
  simp only [fits_eq, zero_eq, shaped_eq, Option.bind_some]
  cases hf : fits k n m u
  · cases hz : zero m u <;> simp
  · simp [fits_shaped hf]
theorem rpermitted_eq (s : ByteArray) (k n h m u : Int) : clusterlocksref04_Permitted.f s k n h m u = some (permitted k n m u) := by
  unfold clusterlocksref04_Permitted.f permitted
  simp only [rfits_eq, rzero_eq, rshaped_eq, Option.bind_some]
  cases hs : shaped k n <;> cases hz : zero m u <;> simp
theorem mcomp_eq (a b : Int) : mode_Compatible.f a b = some (comp a b) := by
  unfold mode_Compatible.f
  by_cases ha : 1 ≤ a ∧ a ≤ 5
  · by_cases hb : 1 ≤ b ∧ b ≤ 5
    · rw [if_pos ha, if_pos hb, tab_comp ha hb]
    · rw [if_pos ha, if_neg hb]
      have : valid b = false := by rw [Bool.eq_false_iff]; intro h; exact hb (valid_iff.1 h)
      simp [comp, this]
  · rw [if_neg ha]
    have : valid a = false := by rw [Bool.eq_false_iff]; intro h; exact ha (valid_iff.1 h)
    simp [comp, this]
theorem rcomp_eq (a b : Int) : clusterlocksref03_Compatible.f a b = some (comp a b) := by
  unfold clusterlocksref03_Compatible.f comp
  simp only [rvalid_eq, Option.bind_some]
  cases valid a
  · simp
  · cases valid b
    · simp
    · by_cases h1 : a = 5
      · simp [h1]
      · by_cases h2 : b = 5
        · simp [h1, h2]
        · by_cases h3 : a = 1
          · simp [h3, h2]
          · by_cases h4 : b = 1
            · simp [h1, h3, h4]
            · by_cases h5 : a = b
              · subst h5
                have e1 : (a != 5) = true := bne_iff_ne.2 h1
                have e2 : (a == 1) = false := beq_eq_false_iff_ne.2 h3
                simp [h1, h3, e1, e2]
              · simp [h1, h2, h3, h4, h5]
/-- A printed list of amounts as pairs. -/
def prs (l : List S26) : List (Int × Int) := l.map fun x => (x.f0, x.f1)
theorem prs_length (l : List S26) : (prs l).length = l.length := List.length_map _
theorem rd_get (l : List S26) (i : Nat) (h : i < l.length) : rd_T26 l (i : Int) = l[i] := by
  unfold rd_T26
  rw [Int.toNat_natCast, List.getD_eq_getElem?_getD, List.getElem?_eq_getElem h]
  rfl
theorem wrap_small {x : Int} (h0 : -9223372036854775808 ≤ x) (h : x ≤ 9223372036854775807) : wrap64 x = x := by unfold wrap64; omega
end PA
end Go.Proofs.YtnmemkphfgdplaaDoor


/- What the two functions Compatible compute of a list of amounts, and Room. Conditions: none of our own. -/
namespace Go.Proofs.YtnmemkphfgdplaaDoor
open Go.RowKit Go.Proofs.YtnmemkphfgdplaaDoorW.PrintWords Go.Proofs.YtnmemkphfgdplaaDoorW.PrintLast Go.Proofs.YtnmemkphfgdplaaDoorW.PrintMore Amt
namespace PA
set_option linter.unusedVariables false
set_option linter.unusedSimpArgs false
theorem prs_get (l : List S26) (i : Nat) (h : i < l.length) : (prs l)[i]'(by rw [prs_length]; exact h) = ((l[i]).f0, (l[i]).f1) := by simp [prs]
theorem drop_cons {α : Type} (l : List α) (i : Nat) (h : i < l.length) : l.drop i = l[i] :: l.drop (i + 1) := List.drop_eq_getElem_cons h
/-- The inner loop: the rest of what stands ahead goes with the amount (m, u), or the answer is false. -/
theorem compat_l1 (s : ByteArray) (kd n hm : Int) (x1 x13 : List S26) (sm len i m u : Int) (fine : Bool) (y : List S26) (R : Bool) (hy : y.length < 1000000)
    (hR : Ev (fun k => amount_Compatible.l0 k x1 sm fine x13 len (wrap64 (i + 1)) s kd n hm) R) :
    ∀ (d j : Nat), j + d = y.length → Ev (fun k => amount_Compatible.l1 k x1 sm fine x13 len i y (y.length : Int) (j : Int) s kd n hm m u) (if kd = 1 then (if ((prs y).drop j).all (fun b => okp (m, u) b) then R else false) else R) := by
  intro d
  induction d with
  | zero =>
    intro j hj
    have hd : (prs y).drop j = [] := by rw [List.drop_eq_nil_iff, prs_length]; omega
    rw [hd]
    have e : (if kd = 1 then (if ([] : List (Int × Int)).all (fun b => okp (m, u) b) then R else false) else R) = R := by simp
    rw [e]
    refine Ev.step (fun k => ?_) hR
    simp only [amount_Compatible.l1]
    rw [if_neg (by omega)]
  | succ d ih =>
    intro j hj
    have hlt : j < y.length := by omega
    have ih' := ih (j + 1) (by omega)
    have hw : wrap64 ((j : Int) + 1) = ((j + 1 : Nat) : Int) := by rw [wrap_small (by omega) (by omega)]; omega
    have hdc : (prs y).drop j = ((y[j]).f0, (y[j]).f1) :: (prs y).drop (j + 1) := by
      rw [drop_cons (prs y) j (by rw [prs_length]; exact hlt), prs_get y j hlt]
    by_cases hk : kd = 1
    · rw [if_pos hk] at ih' ⊢
      rw [hdc, List.all_cons]
      cases hz : zero m u
      · cases hz2 : zero (y[j]).f0 (y[j]).f1
        · cases hc : comp m (y[j]).f0
          · have : okp (m, u) ((y[j]).f0, (y[j]).f1) = false := by simp [okp, hz, hz2, hc]
            rw [this]
            simp only [Bool.false_and, Bool.false_eq_true, if_false]
            refine Ev.step (f := fun _ => some false) (fun k => ?_) (Ev.now false)
            simp only [amount_Compatible.l1, zero_eq, mcomp_eq, Option.bind_some, rd_get y j hlt]
            rw [if_pos (by omega), if_pos (by omega), if_pos (by omega), if_pos hk]
            simp [hz, hz2, hc]
          · have : okp (m, u) ((y[j]).f0, (y[j]).f1) = true := by simp [okp, hc]
            rw [this, Bool.true_and]
            refine Ev.step (fun k => ?_) ih'
            simp only [amount_Compatible.l1, zero_eq, mcomp_eq, Option.bind_some, rd_get y j hlt]
            rw [if_pos (by omega), if_pos (by omega), if_pos (by omega), if_pos hk, hw]
            simp [hz, hz2, hc]
        · have : okp (m, u) ((y[j]).f0, (y[j]).f1) = true := by simp [okp, hz2]
          rw [this, Bool.true_and]
          refine Ev.step (fun k => ?_) ih'
          simp only [amount_Compatible.l1, zero_eq, mcomp_eq, Option.bind_some, rd_get y j hlt]
          rw [if_pos (by omega), if_pos (by omega), if_pos (by omega), if_pos hk, hw]
          simp [hz, hz2]
      · have : okp (m, u) ((y[j]).f0, (y[j]).f1) = true := by simp [okp, hz]
        rw [this, Bool.true_and]
        refine Ev.step (fun k => ?_) ih'
        simp only [amount_Compatible.l1, zero_eq, mcomp_eq, Option.bind_some, rd_get y j hlt]
        rw [if_pos (by omega), if_pos (by omega), if_pos (by omega), if_pos hk, hw]
        simp [hz]
    · rw [if_neg hk] at ih' ⊢
      refine Ev.step (fun k => ?_) ih'
      simp only [amount_Compatible.l1, zero_eq, mcomp_eq, Option.bind_some, rd_get y j hlt]
      rw [if_pos (by omega), if_pos (by omega), if_pos (by omega), if_neg hk, hw]
/-- What is still to be asked from place i on: the sum so far, and whether the resource is shaped. -/
def rest (kd n : Int) (fine : Bool) : List (Int × Int) → Int → List (Int × Int) → Bool
  | front, sm, [] => fine && (if kd = 2 then decide (sm ≤ n) else true)
  | front, sm, a :: l => permitted kd n a.1 a.2 && (if kd = 1 then front.all (fun b => okp a b) else true) && rest kd n fine (front ++ [a]) (sm + a.2) l
theorem compat_l0 (s : ByteArray) (kd n hm : Int) (x1 : List S26) (fine : Bool) (hy : x1.length < 1000) :
    ∀ (d i : Nat), i + d = x1.length → ∀ (sm : Int), 0 ≤ sm → sm ≤ 8 * i → Ev (fun k => amount_Compatible.l0 k x1 sm fine x1 (x1.length : Int) (i : Int) s kd n hm) (rest kd n fine ((prs x1).take i) sm ((prs x1).drop i)) := by
  intro d
  induction d with
  | zero =>
    intro i hi sm h0 h1
    have hd : (prs x1).drop i = [] := by rw [List.drop_eq_nil_iff, prs_length]; omega
    rw [hd]
    refine Ev.step (f := fun _ => some (rest kd n fine ((prs x1).take i) sm [])) (fun k => ?_) (Ev.now _)
    simp only [amount_Compatible.l0, rest]
    rw [if_neg (by omega)]
    cases fine <;> by_cases h2 : kd = 2 <;> simp [h2]
  | succ d ih =>
    intro i hi sm h0 h1
    have hlt : i < x1.length := by omega
    have hdc : (prs x1).drop i = ((x1[i]).f0, (x1[i]).f1) :: (prs x1).drop (i + 1) := by
      rw [drop_cons (prs x1) i (by rw [prs_length]; exact hlt), prs_get x1 i hlt]
    rw [hdc, rest]
    cases hp : permitted kd n (x1[i]).f0 (x1[i]).f1
    · simp only [Bool.false_and]
      refine Ev.step (f := fun _ => some false) (fun k => ?_) (Ev.now _)
      simp only [amount_Compatible.l0, permitted_eq, Option.bind_some, rd_get x1 i hlt, hp]
      rw [if_pos (by omega), if_pos (by omega), if_pos (by omega)]
      simp
    · have hu := permitted_nonneg hp
      have ih' := ih (i + 1) (by omega) (sm + (x1[i]).f1) (by omega) (by omega)
      have hw : wrap64 ((i : Int) + 1) = ((i + 1 : Nat) : Int) := by rw [wrap_small (by omega) (by omega)]; omega
      have hs : wrap64 (sm + (x1[i]).f1) = sm + (x1[i]).f1 := wrap_small (by omega) (by omega)
      have htk : (prs x1).take (i + 1) = (prs x1).take i ++ [((x1[i]).f0, (x1[i]).f1)] := by
        rw [List.take_succ_eq_append_getElem (by rw [prs_length]; exact hlt), prs_get x1 i hlt]
      rw [htk] at ih'
      rw [← hw] at ih'
      have hyl : (x1.take i).length < 1000000 := by rw [List.length_take]; omega
      have l1 := compat_l1 s kd n hm x1 x1 (sm + (x1[i]).f1) (x1.length : Int) (i : Int) (x1[i]).f0 (x1[i]).f1 fine (x1.take i) _ hyl ih' (x1.take i).length 0 (by omega)
      refine Ev.step (fun k => ?_) (?_ : Ev (fun k => amount_Compatible.l1 k x1 (sm + (x1[i]).f1) fine x1 (x1.length : Int) (i : Int) (x1.take i) ((x1.take i).length : Int) ((0 : Nat) : Int) s kd n hm (x1[i]).f0 (x1[i]).f1) _)
      · simp only [amount_Compatible.l0, permitted_eq, Option.bind_some, rd_get x1 i hlt, hp, hs, Int.toNat_natCast]
        rw [if_pos (by omega), if_pos (by omega), if_pos (by omega)]
        simp only [if_true]
        rw [if_pos (by omega)]
        rfl
      · have e : prs (x1.take i) = (prs x1).take i := List.map_take
        rw [e, List.drop_zero] at l1
        rw [Bool.true_and]
        by_cases hk : kd = 1
        · rw [if_pos hk] at l1 ⊢
          cases ha : ((prs x1).take i).all (fun b => okp ((x1[i]).f0, (x1[i]).f1) b)
          · rw [ha] at l1
            simpa using l1
          · rw [ha] at l1
            simpa using l1
        · rw [if_neg hk] at l1 ⊢
          rw [Bool.true_and]
          exact l1
theorem rest_eq (kd n : Int) (fine : Bool) : ∀ (l front : List (Int × Int)) (sm : Int), rest kd n fine front sm l = (fine && l.all (fun a => permitted kd n a.1 a.2) && (if kd = 2 then decide (sm + units l ≤ n) else true) && (if kd = 1 then pw l && l.all (fun a => front.all (fun b => okp a b)) else true))
  | [], front, sm => by
    simp only [rest, units, List.map_nil, List.sum_nil, List.all_nil, pw, Int.add_zero]
    cases fine <;> simp
  | a :: l, front, sm => by
    rw [rest, rest_eq kd n fine l, units_cons, Int.add_assoc]
    simp only [List.all_cons, pw]
    by_cases h1 : kd = 1
    · simp only [if_pos h1, if_neg (show ¬ kd = 2 by omega), List.all_append, List.all_cons, List.all_nil, Bool.and_true]
      have e : (l.all fun c => front.all (fun b => okp c b) && okp c a) = ((l.all fun c => front.all (fun b => okp c b)) && l.all (fun b => okp a b)) := by
        rw [Bool.eq_iff_iff]
        simp only [List.all_eq_true, Bool.and_eq_true]
        constructor
        · intro h
          exact ⟨fun c hc => (h c hc).1, fun c hc => by rw [okp_comm]; exact (h c hc).2⟩
        · intro h c hc
          exact ⟨h.1 c hc, by rw [okp_comm]; exact h.2 c hc⟩
      rw [e]
      generalize permitted kd n a.1 a.2 = b1
      generalize front.all (fun b => okp a b) = b2
      generalize l.all (fun a => permitted kd n a.1 a.2) = b3
      generalize pw l = b4
      generalize (l.all fun c => front.all (fun b => okp c b)) = b5
      generalize l.all (fun b => okp a b) = b6
      cases b1 <;> cases b2 <;> cases b3 <;> cases b4 <;> cases b5 <;> cases b6 <;> cases fine <;> rfl
    · simp only [if_neg h1, Bool.and_true]
      generalize permitted kd n a.1 a.2 = b1
      generalize l.all (fun a => permitted kd n a.1 a.2) = b3
      cases b1 <;> cases b3 <;> cases fine <;> rfl
theorem compat_eq (s : ByteArray) (kd n hm : Int) (l : List S26) (hl : l.length < 1000) : Ev (fun k => amount_Compatible.f k s kd n hm l) (compat kd n (prs l)) := by
  have h := compat_l0 s kd n hm l (shaped kd n) hl l.length 0 (by omega) 0 (by omega) (by omega)
  rw [List.take_zero, List.drop_zero, rest_eq] at h
  have e : compat kd n (prs l) = (shaped kd n && (prs l).all (fun a => permitted kd n a.1 a.2) && (if kd = 2 then decide (0 + units (prs l) ≤ n) else true) && (if kd = 1 then pw (prs l) && (prs l).all (fun a => ([] : List (Int × Int)).all (fun b => okp a b)) else true)) := by
    unfold compat
    rw [Int.zero_add]
    have e2 : ((prs l).all fun a => ([] : List (Int × Int)).all (fun b => okp a b)) = true := by simp
    rw [e2, Bool.and_true]
    cases hs : shaped kd n
    · simp
    · have : kd = 1 ∨ kd = 2 := by
        simp only [shaped, Bool.or_eq_true, Bool.and_eq_true, beq_iff_eq] at hs
        omega
      rcases this with rfl | rfl <;> simp
  rw [e]
  refine Ev.congr (fun k => ?_) h
  unfold amount_Compatible.f
  simp only [shaped_eq, Option.bind_some]
  rfl
end PA
end Go.Proofs.YtnmemkphfgdplaaDoor


/- What the reference's function Compatible computes of a list of amounts, and its Room. Conditions: none of our own. -/
namespace Go.Proofs.YtnmemkphfgdplaaDoor
open Go.RowKit Go.Proofs.YtnmemkphfgdplaaDoorW.PrintWords Go.Proofs.YtnmemkphfgdplaaDoorW.PrintLast Go.Proofs.YtnmemkphfgdplaaDoorW.PrintMore Amt
namespace PA
set_option linter.unusedVariables false
set_option linter.unusedSimpArgs false
theorem rcompat_l1 (s : ByteArray) (kd n hm : Int) (x1 : List S26) (sm : Int) (i : Nat) (hi : i < x1.length) (hy : x1.length < 1000000) (R : Bool)
    (hR : Ev (fun k => clusterlocksref04_Compatible.l0 k x1 sm (wrap64 ((i : Int) + 1)) s kd n hm) R) :
    ∀ (d j : Nat), j + d = i → Ev (fun k => clusterlocksref04_Compatible.l1 k x1 sm (i : Int) (j : Int) s kd n hm) (if (((prs x1).take i).drop j).all (fun b => okp ((x1[i]).f0, (x1[i]).f1) b) then R else false) := by
  intro d
  induction d with
  | zero =>
    intro j hj
    have hd : ((prs x1).take i).drop j = [] := by rw [List.drop_eq_nil_iff, List.length_take, prs_length]; omega
    rw [hd]
    simp only [List.all_nil, if_true]
    refine Ev.step (fun k => ?_) hR
    simp only [clusterlocksref04_Compatible.l1]
    rw [if_neg (by omega)]
  | succ d ih =>
    intro j hj
    have hlt : j < i := by omega
    have ih' := ih (j + 1) (by omega)
    have hw : wrap64 ((j : Int) + 1) = ((j + 1 : Nat) : Int) := by rw [wrap_small (by omega) (by omega)]; omega
    have hdc : ((prs x1).take i).drop j = ((x1[j]).f0, (x1[j]).f1) :: ((prs x1).take i).drop (j + 1) := by
      rw [drop_cons ((prs x1).take i) j (by rw [List.length_take, prs_length]; omega), List.getElem_take, prs_get x1 j (by omega)]
    rw [hdc, List.all_cons]
    cases hz : zero (x1[i]).f0 (x1[i]).f1
    · cases hz2 : zero (x1[j]).f0 (x1[j]).f1
      · cases hc : comp (x1[i]).f0 (x1[j]).f0
        · have : okp ((x1[i]).f0, (x1[i]).f1) ((x1[j]).f0, (x1[j]).f1) = false := by simp [okp, hz, hz2, hc]
          rw [this]
          simp only [Bool.false_and, Bool.false_eq_true, if_false]
          refine Ev.step (f := fun _ => some false) (fun k => ?_) (Ev.now false)
          simp only [clusterlocksref04_Compatible.l1, rzero_eq, rcomp_eq, Option.bind_some, rd_get x1 i hi, rd_get x1 j (show j < x1.length by omega), hz, hz2, hc]
          rw [if_pos (by omega), if_pos (by omega), if_pos (by omega), if_neg (by decide), if_pos (by omega), if_pos (by omega), if_neg (by decide), if_neg (by decide)]
        · have : okp ((x1[i]).f0, (x1[i]).f1) ((x1[j]).f0, (x1[j]).f1) = true := by simp [okp, hc]
          rw [this, Bool.true_and]
          refine Ev.step (fun k => ?_) ih'
          simp only [clusterlocksref04_Compatible.l1, rzero_eq, rcomp_eq, Option.bind_some, rd_get x1 i hi, rd_get x1 j (show j < x1.length by omega), hz, hz2, hc]
          rw [if_pos (by omega), if_pos (by omega), if_pos (by omega), if_neg (by decide), if_pos (by omega), if_pos (by omega), if_neg (by decide), if_pos trivial, hw]
      · have : okp ((x1[i]).f0, (x1[i]).f1) ((x1[j]).f0, (x1[j]).f1) = true := by simp [okp, hz2]
        rw [this, Bool.true_and]
        refine Ev.step (fun k => ?_) ih'
        simp only [clusterlocksref04_Compatible.l1, rzero_eq, rcomp_eq, Option.bind_some, rd_get x1 i hi, rd_get x1 j (show j < x1.length by omega), hz, hz2]
        rw [if_pos (by omega), if_pos (by omega), if_pos (by omega), if_neg (by decide), if_pos (by omega), if_pos (by omega), if_pos trivial, hw]
    · have : okp ((x1[i]).f0, (x1[i]).f1) ((x1[j]).f0, (x1[j]).f1) = true := by simp [okp, hz]
      rw [this, Bool.true_and]
      refine Ev.step (fun k => ?_) ih'
      simp only [clusterlocksref04_Compatible.l1, rzero_eq, rcomp_eq, Option.bind_some, rd_get x1 i hi, hz]
      rw [if_pos (by omega), if_pos (by omega), if_pos (by omega), if_pos trivial, hw]
def rrest (kd n : Int) : List (Int × Int) → Int → List (Int × Int) → Bool
  | front, sm, [] => true
  | front, sm, a :: l => permitted kd n a.1 a.2 && (if kd = 2 then decide (sm + a.2 ≤ n) && rrest kd n (front ++ [a]) (sm + a.2) l else front.all (fun b => okp a b) && rrest kd n (front ++ [a]) sm l)
theorem rcompat_l0 (s : ByteArray) (kd n hm : Int) (x1 : List S26) (hy : x1.length < 1000) :
    ∀ (d i : Nat), i + d = x1.length → ∀ (sm : Int), 0 ≤ sm → sm ≤ 8 * i → Ev (fun k => clusterlocksref04_Compatible.l0 k x1 sm (i : Int) s kd n hm) (rrest kd n ((prs x1).take i) sm ((prs x1).drop i)) := by
  intro d
  induction d with
  | zero =>
    intro i hi sm h0 h1
    have hd : (prs x1).drop i = [] := by rw [List.drop_eq_nil_iff, prs_length]; omega
    rw [hd]
    refine Ev.step (f := fun _ => some true) (fun k => ?_) (Ev.now _)
    simp only [clusterlocksref04_Compatible.l0]
    rw [if_neg (by omega)]
  | succ d ih =>
    intro i hi sm h0 h1
    have hlt : i < x1.length := by omega
    have hdc : (prs x1).drop i = ((x1[i]).f0, (x1[i]).f1) :: (prs x1).drop (i + 1) := by
      rw [drop_cons (prs x1) i (by rw [prs_length]; exact hlt), prs_get x1 i hlt]
    rw [hdc, rrest]
    cases hp : permitted kd n (x1[i]).f0 (x1[i]).f1
    · simp only [Bool.false_and]
      refine Ev.step (f := fun _ => some false) (fun k => ?_) (Ev.now _)
      simp only [clusterlocksref04_Compatible.l0, rpermitted_eq, Option.bind_some, rd_get x1 i hlt, hp]
      rw [if_pos (by omega), if_pos (by omega), if_neg (by decide)]
    · have hu := permitted_nonneg hp
      have hw : wrap64 ((i : Int) + 1) = ((i + 1 : Nat) : Int) := by rw [wrap_small (by omega) (by omega)]; omega
      have hs : wrap64 (sm + (x1[i]).f1) = sm + (x1[i]).f1 := wrap_small (by omega) (by omega)
      have htk : (prs x1).take (i + 1) = (prs x1).take i ++ [((x1[i]).f0, (x1[i]).f1)] := by
        rw [List.take_succ_eq_append_getElem (by rw [prs_length]; exact hlt), prs_get x1 i hlt]
      rw [Bool.true_and]
      by_cases hk : kd = 2
      · rw [if_pos hk]
        by_cases hgt : sm + (x1[i]).f1 ≤ n
        · have ih' := ih (i + 1) (by omega) (sm + (x1[i]).f1) (by omega) (by omega)
          rw [htk, ← hw] at ih'
          rw [decide_eq_true hgt, Bool.true_and]
          refine Ev.step (fun k => ?_) ih'
          simp only [clusterlocksref04_Compatible.l0, rpermitted_eq, Option.bind_some, rd_get x1 i hlt, hp, hs]
          rw [if_pos (by omega), if_pos (by omega), if_pos trivial, if_pos hk, if_neg (by omega)]
        · rw [decide_eq_false hgt, Bool.false_and]
          refine Ev.step (f := fun _ => some false) (fun k => ?_) (Ev.now _)
          simp only [clusterlocksref04_Compatible.l0, rpermitted_eq, Option.bind_some, rd_get x1 i hlt, hp, hs]
          rw [if_pos (by omega), if_pos (by omega), if_pos trivial, if_pos hk, if_pos (by omega)]
      · rw [if_neg hk]
        have ih' := ih (i + 1) (by omega) sm (by omega) (by omega)
        rw [htk, ← hw] at ih'
        have l1 := rcompat_l1 s kd n hm x1 sm i hlt (by omega) _ ih' i 0 (by omega)
        rw [List.drop_zero] at l1
        refine Ev.step (fun k => ?_) (?_ : Ev (fun k => clusterlocksref04_Compatible.l1 k x1 sm (i : Int) ((0 : Nat) : Int) s kd n hm) _)
        · simp only [clusterlocksref04_Compatible.l0, rpermitted_eq, Option.bind_some, rd_get x1 i hlt, hp]
          rw [if_pos (by omega), if_pos (by omega), if_pos trivial, if_neg hk]
          rfl
        · cases ha : ((prs x1).take i).all (fun b => okp ((x1[i]).f0, (x1[i]).f1) b)
          · rw [ha] at l1
            simpa using l1
          · rw [ha] at l1
            simpa using l1
theorem rrest_eq2 (n : Int) : ∀ (l front : List (Int × Int)) (sm : Int), sm ≤ n → rrest 2 n front sm l = (l.all (fun a => permitted 2 n a.1 a.2) && decide (sm + units l ≤ n))
  | [], front, sm, h => by simp [rrest, units, h]
  | a :: l, front, sm, h => by
    rw [rrest, if_pos rfl, units_cons, ← Int.add_assoc, List.all_cons]
    by_cases hs : sm + a.2 ≤ n
    · rw [rrest_eq2 n l _ _ hs, decide_eq_true hs, Bool.true_and, Bool.and_assoc]
    · rw [decide_eq_false hs, Bool.false_and, Bool.and_false]
      cases hp : l.all (fun a => permitted 2 n a.1 a.2)
      · simp
      · have := units_nonneg hp
        rw [decide_eq_false (by omega), Bool.and_false]
theorem rrest_eq1 (kd n : Int) (hk : ¬ kd = 2) : ∀ (l front : List (Int × Int)) (sm : Int), rrest kd n front sm l = (l.all (fun a => permitted kd n a.1 a.2) && (pw l && l.all (fun a => front.all (fun b => okp a b))))
  | [], front, sm => by simp [rrest, pw]
  | a :: l, front, sm => by
    rw [rrest, if_neg hk, rrest_eq1 kd n hk l]
    simp only [List.all_cons, pw, List.all_append, List.all_nil, Bool.and_true]
    have e : (l.all fun c => front.all (fun b => okp c b) && okp c a) = ((l.all fun c => front.all (fun b => okp c b)) && l.all (fun b => okp a b)) := by
      rw [Bool.eq_iff_iff]
      simp only [List.all_eq_true, Bool.and_eq_true]
      constructor
      · intro h
        exact ⟨fun c hc => (h c hc).1, fun c hc => by rw [okp_comm]; exact (h c hc).2⟩
      · intro h c hc
        exact ⟨h.1 c hc, by rw [okp_comm]; exact h.2 c hc⟩
    rw [e]
    generalize permitted kd n a.1 a.2 = b1
    generalize front.all (fun b => okp a b) = b2
    generalize l.all (fun a => permitted kd n a.1 a.2) = b3
    generalize pw l = b4
    generalize (l.all fun c => front.all (fun b => okp c b)) = b5
    generalize l.all (fun b => okp a b) = b6
    cases b1 <;> cases b2 <;> cases b3 <;> cases b4 <;> cases b5 <;> cases b6 <;> rfl
theorem rcompat_eq (s : ByteArray) (kd n hm : Int) (l : List S26) (hl : l.length < 1000) : Ev (fun k => clusterlocksref04_Compatible.f k s kd n hm l) (compat kd n (prs l)) := by
  cases hs : shaped kd n
  · have e : compat kd n (prs l) = false := by simp [compat, hs]
    rw [e]
    refine Ev.congr (f := fun _ => some false) (fun k => ?_) (Ev.now _)
    unfold clusterlocksref04_Compatible.f
    simp only [rshaped_eq, Option.bind_some, hs]
    rfl
  · have h := rcompat_l0 s kd n hm l hl l.length 0 (by omega) 0 (by omega) (by omega)
    rw [List.take_zero, List.drop_zero] at h
    have e : compat kd n (prs l) = rrest kd n [] 0 (prs l) := by
      unfold compat
      rw [hs, Bool.true_and]
      by_cases hk : kd = 2
      · subst hk
        have hn : (0 : Int) ≤ n := by
          simp only [shaped, Bool.or_eq_true, Bool.and_eq_true, beq_iff_eq, decide_eq_true_eq] at hs
          omega
        rw [rrest_eq2 n _ _ _ hn, Int.zero_add, if_pos rfl]
      · rw [rrest_eq1 kd n hk, if_neg hk]
        have e2 : ((prs l).all fun a => ([] : List (Int × Int)).all (fun b => okp a b)) = true := by simp
        rw [e2, Bool.and_true]
    rw [e]
    refine Ev.congr (fun k => ?_) h
    unfold clusterlocksref04_Compatible.f
    simp only [rshaped_eq, Option.bind_some, hs]
    rfl
end PA
end Go.Proofs.YtnmemkphfgdplaaDoor


/- Grants in plain Lean: what Set, place and their reference compute. Conditions: none of our own. -/
namespace Go.Proofs.YtnmemkphfgdplaaDoor
open Go.RowKit Go.Proofs.YtnmemkphfgdplaaDoorW.PrintWords Go.Proofs.YtnmemkphfgdplaaDoorW.PrintLast Go.Proofs.YtnmemkphfgdplaaDoorW.PrintMore Amt
namespace PA
set_option linter.unusedVariables false
set_option linter.unusedSimpArgs false
theorem rd_hold (l : List S53) (i : Nat) (h : i < l.length) : rd_T53 l (i : Int) = l[i] := by
  unfold rd_T53
  rw [Int.toNat_natCast, List.getD_eq_getElem?_getD, List.getElem?_eq_getElem h]
  rfl
theorem rd_proc (l : List S24) (i : Nat) (h : i < l.length) : rd_T24 l (i : Int) = l[i] := by
  unfold rd_T24
  rw [Int.toNat_natCast, List.getD_eq_getElem?_getD, List.getElem?_eq_getElem h]
  rfl
theorem cmp3_pos (a0 a1 a2 b0 b1 b2 : Int) : cmp3 a0 a1 a2 b0 b1 b2 > 0 ↔ (b0 < a0 ∨ (b0 = a0 ∧ (b1 < a1 ∨ (b1 = a1 ∧ b2 < a2)))) := by
  unfold cmp3
  repeat' split
  all_goals omega
theorem cmp3_neg (a0 a1 a2 b0 b1 b2 : Int) : cmp3 a0 a1 a2 b0 b1 b2 < 0 ↔ (a0 < b0 ∨ (a0 = b0 ∧ (a1 < b1 ∨ (a1 = b1 ∧ a2 < b2)))) := by
  unfold cmp3
  repeat' split
  all_goals omega
theorem rcmp_eq (a0 a1 a2 b0 b1 b2 : Int) : clusterlocksref02_CompareProc.f a0 a1 a2 b0 b1 b2 = some (cmp3 a0 a1 a2 b0 b1 b2) := by
  unfold clusterlocksref02_CompareProc.f clusterlocksref02_Order.f cmp3
  by_cases h0 : a0 < b0
  · simp [h0]
  · by_cases h1 : a0 > b0
    · simp [h0, h1]
    · by_cases h2 : a1 < b1
      · simp [h0, h1, h2]
      · by_cases h3 : a1 > b1
        · simp [h0, h1, h2, h3]
        · by_cases h4 : a2 < b2
          · simp [h0, h1, h2, h3, h4]
          · by_cases h5 : a2 > b2
            · simp [h0, h1, h2, h3, h4, h5]
            · simp [h0, h1, h2, h3, h4, h5]
def isP (p0 p1 p2 : Int) (h : S53) : Bool := h.f0.f0 == p0 && (h.f0.f1 == p1 && (h.f0.f2 == p2))
def abv (p0 p1 p2 : Int) (h : S53) : Bool := decide (cmp3 h.f0.f0 h.f0.f1 h.f0.f2 p0 p1 p2 > 0)
def others (p0 p1 p2 : Int) (l : List S53) : List S53 := l.filter (fun h => !isP p0 p1 p2 h)
def putS (p0 p1 p2 m u : Int) (l : List S53) : List S53 := if zero m u then l else l.takeWhile (fun h => !abv p0 p1 p2 h) ++ ⟨⟨p0, p1, p2⟩, ⟨m, u⟩⟩ :: l.dropWhile (fun h => !abv p0 p1 p2 h)
def setS (l : List S53) (p0 p1 p2 m u : Int) : List S53 := putS p0 p1 p2 m u (others p0 p1 p2 l)
theorem others_length (p0 p1 p2 : Int) (l : List S53) : (others p0 p1 p2 l).length ≤ l.length := List.length_filter_le _ _
theorem putS_length (p0 p1 p2 m u : Int) (l : List S53) : (putS p0 p1 p2 m u l).length ≤ l.length + 1 := by
  unfold putS
  split
  · omega
  · have h := congrArg List.length (List.takeWhile_append_dropWhile (p := fun h => !abv p0 p1 p2 h) (l := l))
    rw [List.length_append] at h
    rw [List.length_append, List.length_cons]
    omega
/-- The first place at which a test fails. -/
theorem tw_len {α : Type} (q : α → Bool) : ∀ (l : List α) (n : Nat), n ≤ l.length → (∀ j (h : j < l.length), j < n → q l[j] = true) → (∀ h : n < l.length, q l[n] = false) → (l.takeWhile q).length = n
  | [], n, h1, _, _ => by simp at h1; simp [h1]
  | a :: l, 0, _, _, h3 => by
    have := h3 (by simp)
    simp only [List.getElem_cons_zero] at this
    simp [List.takeWhile_cons, this]
  | a :: l, n + 1, h1, h2, h3 => by
    have ha := h2 0 (by simp) (by omega)
    simp only [List.getElem_cons_zero] at ha
    rw [List.takeWhile_cons, ha]
    simp only [if_true, List.length_cons]
    rw [tw_len q l n (by simpa using h1) (fun j h hj => by have := h2 (j + 1) (by simpa using h) (by omega); rwa [List.getElem_cons_succ] at this) (fun h => by have := h3 (by simpa using h); rwa [List.getElem_cons_succ] at this)]
/-- An element put in at place n, as Set does it. -/
theorem shift_set {α : Type} (A B : List α) (z h : α) : (((A ++ B) ++ [z]).take (A.length + 1) ++ (((A ++ B) ++ [z]).drop A.length).take (((A ++ B) ++ [z]).length - (A.length + 1))).set A.length h = A ++ h :: B := by
  have e1 : ((A ++ B) ++ [z]).drop A.length = B ++ [z] := by rw [List.append_assoc, List.drop_left']; rfl
  have e2 : ((A ++ B) ++ [z]).length - (A.length + 1) = B.length := by simp only [List.length_append, List.length_singleton]; omega
  rw [e1, e2, List.take_left' rfl, List.append_assoc]
  obtain ⟨c, t, ht⟩ : ∃ c t, B ++ [z] = c :: t := by
    cases B with
    | nil => exact ⟨z, [], rfl⟩
    | cons b B => exact ⟨b, B ++ [z], rfl⟩
  rw [ht, List.take_append]
  have e3 : A.length + 1 - A.length = 1 := by omega
  rw [e3, List.take_of_length_le (by omega), List.append_assoc, List.set_append_right _ _ (Nat.le_refl _), Nat.sub_self]
  rfl
theorem above_eq (l : List S53) (p0 p1 p2 : Int) (i : Nat) (h : i < l.length) : above l p0 p1 p2 (i : Int) > 0 ↔ abv p0 p1 p2 l[i] = true := by
  unfold above abv
  rw [rd_hold l i h, decide_eq_true_eq]
theorem linear_eq (l : List S53) (p0 p1 p2 : Int) : ∀ (d i k : Nat), i + d = l.length → d < k → (∀ j (h : j < l.length), j < i → abv p0 p1 p2 l[j] = false) → linear_l l p0 p1 p2 k (i : Int) = some (((l.takeWhile (fun h => !abv p0 p1 p2 h)).length : Nat) : Int) := by
  intro d
  induction d with
  | zero =>
    intro i k hi hk hb
    obtain ⟨k, rfl⟩ : ∃ m, k = m + 1 := ⟨k - 1, by omega⟩
    rw [linear_l, if_neg (by omega), tw_len _ l i (by omega) (fun j h hj => by rw [hb j h hj]; rfl) (fun h => absurd h (by omega))]
  | succ d ih =>
    intro i k hi hk hb
    obtain ⟨k, rfl⟩ : ∃ m, k = m + 1 := ⟨k - 1, by omega⟩
    have hlt : i < l.length := by omega
    rw [linear_l, if_pos (by omega)]
    cases ha : abv p0 p1 p2 l[i]
    · rw [if_neg (by rw [above_eq l p0 p1 p2 i hlt, ha]; simp)]
      have := ih (i + 1) k (by omega) (by omega) (fun j h hj => by
        by_cases hj2 : j = i
        · subst hj2; exact ha
        · exact hb j h (by omega))
      rw [← this]
      congr 1
    · rw [if_pos (by rw [above_eq l p0 p1 p2 i hlt, ha]), tw_len _ l i (by omega) (fun j h hj => by rw [hb j h hj]; rfl) (fun h => by rw [ha]; rfl)]
theorem sorted_some (l : List S53) : ∀ (k : Nat) (i : Int), i < k → 0 < k → i < l.length → ∃ b, sorted_l l k i = some b ∧ (b = true → ∀ (j : Nat) (h : j + 1 < l.length), (j : Int) + 1 ≤ i → ¬ cmp3 l[j + 1].f0.f0 l[j + 1].f0.f1 l[j + 1].f0.f2 l[j].f0.f0 l[j].f0.f1 l[j].f0.f2 < 0)
  | 0, i, _, h0, _ => absurd h0 (by omega)
  | k + 1, i, h, _, hl => by
    rw [sorted_l]
    by_cases hi : i > 0
    · rw [if_pos hi]
      obtain ⟨n, rfl⟩ : ∃ n : Nat, i = ((n + 1 : Nat) : Int) := ⟨(i - 1).toNat, by omega⟩
      have e : (((n + 1 : Nat) : Int) - 1) = ((n : Nat) : Int) := by omega
      rw [e, rd_hold l (n + 1) (by omega), rd_hold l n (by omega)]
      by_cases hc : cmp3 l[n + 1].f0.f0 l[n + 1].f0.f1 l[n + 1].f0.f2 l[n].f0.f0 l[n].f0.f1 l[n].f0.f2 < 0
      · exact ⟨false, if_pos hc, fun h => by cases h⟩
      · rw [if_neg hc]
        obtain ⟨b, hb, hs⟩ := sorted_some l k (n : Int) (by omega) (by omega) (by omega)
        refine ⟨b, hb, fun ht j hj hji => ?_⟩
        by_cases hjn : j = n
        · subst hjn; exact hc
        · exact hs ht j hj (by omega)
    · rw [if_neg hi]
      exact ⟨true, rfl, fun _ j hj hji => by omega⟩
theorem search_eq (l : List S53) (p0 p1 p2 : Int) (hm : ∀ (i j : Nat) (hj : j < l.length) (hij : i ≤ j), abv p0 p1 p2 (l[i]'(by omega)) = true → abv p0 p1 p2 l[j] = true) : ∀ (k i j : Nat), j - i < k → i ≤ j → j ≤ l.length → (∀ x (h : x < l.length), x < i → abv p0 p1 p2 l[x] = false) → (∀ x (h : x < l.length), j ≤ x → abv p0 p1 p2 l[x] = true) → search_l l p0 p1 p2 k (i : Int) (j : Int) = some (((l.takeWhile (fun h => !abv p0 p1 p2 h)).length : Nat) : Int)
  | 0, i, j, h, _, _, _, _ => absurd h (by omega)
  | k + 1, i, j, h, hij, hj, hb, ha => by
    rw [search_l]
    by_cases hlt : i < j
    · rw [if_pos (by omega)]
      have em : (((i : Nat) : Int) + (j : Int)) / 2 = (((i + j) / 2 : Nat) : Int) := by omega
      have hx : (i + j) / 2 < l.length := by omega
      rw [em]
      cases hc : abv p0 p1 p2 (l[(i + j) / 2]'hx)
      · rw [if_neg (by rw [above_eq l p0 p1 p2 _ hx, hc]; simp)]
        have e2 : ((((i + j) / 2 : Nat) : Int) + 1) = (((i + j) / 2 + 1 : Nat) : Int) := by omega
        rw [e2]
        exact search_eq l p0 p1 p2 hm k _ j (by omega) (by omega) hj (fun x h hxi => by
          rw [Bool.eq_false_iff]
          intro ht
          have := hm x ((i + j) / 2) hx (by omega) ht
          rw [hc] at this
          cases this) ha
      · rw [if_pos (by rw [above_eq l p0 p1 p2 _ hx, hc])]
        exact search_eq l p0 p1 p2 hm k i _ (by omega) (by omega) (by omega) hb (fun x h hxi => hm _ x h hxi hc)
    · rw [if_neg (by omega), tw_len _ l i (by omega) (fun x h hx => by rw [hb x h hx]; rfl) (fun h => by rw [ha i h (by omega)]; rfl)]
theorem place_eq (l : List S53) (p0 p1 p2 : Int) (hl : l.length < 1000000) : holders_place.f l p0 p1 p2 = some (((l.takeWhile (fun h => !abv p0 p1 p2 h)).length : Nat) : Int) := by
  unfold holders_place.f place_f
  rw [if_pos hl]
  obtain ⟨b, hb, hs⟩ := sorted_some l (l.length + 2) ((l.length : Int) - 1) (by omega) (by omega) (by omega)
  rw [hb, Option.bind_some]
  cases b
  · rw [if_neg (by simp)]
    exact linear_eq l p0 p1 p2 l.length 0 (l.length + 2) (by omega) (by omega) (fun j h hj => by omega)
  · rw [if_pos rfl]
    have hs := hs rfl
    have hm : ∀ (d i : Nat) (hj : i + d < l.length), abv p0 p1 p2 (l[i]'(by omega)) = true → abv p0 p1 p2 l[i + d] = true := by
      intro d i
      induction d with
      | zero => exact fun hj h => h
      | succ d ih =>
        intro hj h
        have h1 := ih (by omega) h
        have h2 := hs (i + d) hj (by omega)
        rw [cmp3_neg] at h2
        simp only [abv, decide_eq_true_eq, cmp3_pos] at h1 ⊢
        have e : l[i + (d + 1)] = l[i + d + 1] := rfl
        rw [e]
        omega
    refine search_eq l p0 p1 p2 (fun i j hj hij h => ?_) (l.length + 2) 0 l.length (by omega) (by omega) (by omega) (fun x h hx => by omega) (fun x h hx => by omega)
    obtain ⟨d, rfl⟩ : ∃ d, j = i + d := ⟨j - i, by omega⟩
    exact hm d i hj h
theorem others_not {p0 p1 p2 : Int} {h : S53} (t : List S53) (hp : isP p0 p1 p2 h = false) : others p0 p1 p2 (h :: t) = h :: others p0 p1 p2 t := by
  simp [others, List.filter_cons, hp]
theorem others_is {p0 p1 p2 : Int} {h : S53} (t : List S53) (hp : isP p0 p1 p2 h = true) : others p0 p1 p2 (h :: t) = others p0 p1 p2 t := by
  simp [others, List.filter_cons, hp]
theorem putS_not {p0 p1 p2 m u : Int} (hz : zero m u = false) {h : S53} (t : List S53) (ha : abv p0 p1 p2 h = false) : putS p0 p1 p2 m u (h :: t) = h :: putS p0 p1 p2 m u t := by
  simp [putS, hz, List.takeWhile_cons, List.dropWhile_cons, ha]
theorem putS_is {p0 p1 p2 m u : Int} (hz : zero m u = false) {h : S53} (t : List S53) (ha : abv p0 p1 p2 h = true) : putS p0 p1 p2 m u (h :: t) = ⟨⟨p0, p1, p2⟩, ⟨m, u⟩⟩ :: h :: t := by
  simp [putS, hz, List.takeWhile_cons, List.dropWhile_cons, ha]
theorem others_nil (p0 p1 p2 : Int) : others p0 p1 p2 [] = [] := rfl
theorem set_l0 (p0 p1 p2 m u : Int) (l : List S53) (hl : l.length < 900000) :
    ∀ (d i : Nat), i + d = l.length → ∀ acc : List S53, acc.length ≤ i → Ev (fun k => holders_Set.l0 k acc l (l.length : Int) (i : Int) p0 p1 p2 m u) (putS p0 p1 p2 m u (acc ++ others p0 p1 p2 (l.drop i))) := by
  intro d
  induction d with
  | zero =>
    intro i hi acc ha
    have hd : l.drop i = [] := by rw [List.drop_eq_nil_iff]; omega
    rw [hd, others_nil, List.append_nil]
    refine Ev.step (f := fun _ => some (putS p0 p1 p2 m u acc)) (fun k => ?_) (Ev.now _)
    simp only [holders_Set.l0]
    rw [if_neg (by omega)]
    simp only [zero_eq, Option.bind_some]
    unfold putS
    cases hz : zero m u
    · rw [if_neg (by simp), place_eq acc p0 p1 p2 (by omega)]
      simp only [Option.bind_some]
      have hs := List.takeWhile_append_dropWhile (p := fun h => !abv p0 p1 p2 h) (l := acc)
      generalize hA : acc.takeWhile (fun h => !abv p0 p1 p2 h) = A at hs ⊢
      generalize hB : acc.dropWhile (fun h => !abv p0 p1 p2 h) = B at hs ⊢
      subst hs
      have hAB := ha
      rw [List.length_append] at hAB
      have hw : wrap64 ((A.length : Int) + 1) = (A.length : Int) + 1 := wrap_small (by omega) (by omega)
      have hy : ((A ++ B ++ [(⟨(⟨0, 0, 0⟩ : S24), (⟨0, 0⟩ : S26)⟩ : S53)]).length : Int) = (A.length : Int) + B.length + 1 := by simp only [List.length_append, List.length_singleton]; omega
      rw [if_pos (by rw [List.length_append]; omega), hw, if_pos (by omega), if_pos (by rw [hy]; omega), if_pos (by omega), if_pos (by rw [hy]; omega), if_pos (by
        simp only [List.length_append, List.length_take, List.length_drop, List.length_singleton]
        omega), Int.toNat_natCast, shift_set]
      rfl
    · rfl
  | succ d ih =>
    intro i hi acc ha
    have hlt : i < l.length := by omega
    have hw : wrap64 ((i : Int) + 1) = ((i + 1 : Nat) : Int) := by rw [wrap_small (by omega) (by omega)]; omega
    rw [drop_cons l i hlt]
    cases hp : isP p0 p1 p2 l[i]
    · have ih' := ih (i + 1) (by omega) (acc ++ [l[i]]) (by rw [List.length_append, List.length_singleton]; omega)
      rw [others_not _ hp, List.append_cons]
      refine Ev.step (fun k => ?_) ih'
      simp only [holders_Set.l0, rd_hold l i hlt]
      have hc : ((!(l[i].f0.f0 == p0)) || ((!(l[i].f0.f1 == p1)) || (!(l[i].f0.f2 == p2)))) = true := by
        have := hp
        unfold isP at this
        revert this
        cases (l[i].f0.f0 == p0) <;> cases (l[i].f0.f1 == p1) <;> cases (l[i].f0.f2 == p2) <;> simp
      rw [if_pos (by omega), if_pos (by omega), if_pos (by omega), if_pos hc, if_pos (by omega), hw]
    · have ih' := ih (i + 1) (by omega) acc (by omega)
      rw [others_is _ hp]
      refine Ev.step (fun k => ?_) ih'
      simp only [holders_Set.l0, rd_hold l i hlt]
      have hc : ¬ ((!(l[i].f0.f0 == p0)) || ((!(l[i].f0.f1 == p1)) || (!(l[i].f0.f2 == p2)))) = true := by
        have := hp
        unfold isP at this
        revert this
        cases (l[i].f0.f0 == p0) <;> cases (l[i].f0.f1 == p1) <;> cases (l[i].f0.f2 == p2) <;> simp
      rw [if_pos (by omega), if_pos (by omega), if_pos (by omega), if_neg hc, hw]
theorem set_eq (p0 p1 p2 m u : Int) (l : List S53) (hl : l.length < 900000) : Ev (fun k => holders_Set.f k l p0 p1 p2 m u) (setS l p0 p1 p2 m u) := by
  refine Ev.congr (fun k => ?_) (set_l0 p0 p1 p2 m u l hl l.length 0 (by omega) [] (by simp))
  have hw : wrap64 ((l.length : Int) + 1) = (l.length : Int) + 1 := wrap_small (by omega) (by omega)
  unfold holders_Set.f
  rw [hw, if_pos (by omega), if_pos (by omega)]
  rfl
theorem rset_l0t (p0 p1 p2 m u : Int) (l : List S53) (hl : l.length < 900000) :
    ∀ (d i : Nat), i + d = l.length → ∀ acc : List S53, acc.length ≤ i + 1 → Ev (fun k => clusterlocksref10_Set.l0 k l acc true (i : Int) p0 p1 p2 m u) (acc ++ others p0 p1 p2 (l.drop i)) := by
  intro d
  induction d with
  | zero =>
    intro i hi acc ha
    have hd : l.drop i = [] := by rw [List.drop_eq_nil_iff]; omega
    rw [hd, others_nil, List.append_nil]
    refine Ev.step (f := fun _ => some acc) (fun k => ?_) (Ev.now _)
    simp only [clusterlocksref10_Set.l0]
    rw [if_neg (by omega)]
    rfl
  | succ d ih =>
    intro i hi acc ha
    have hlt : i < l.length := by omega
    have hw : wrap64 ((i : Int) + 1) = ((i + 1 : Nat) : Int) := by rw [wrap_small (by omega) (by omega)]; omega
    rw [drop_cons l i hlt]
    cases hp : isP p0 p1 p2 l[i]
    · have ih' := ih (i + 1) (by omega) (acc ++ [l[i]]) (by rw [List.length_append, List.length_singleton]; omega)
      rw [others_not _ hp, List.append_cons]
      refine Ev.step (fun k => ?_) ih'
      simp only [clusterlocksref10_Set.l0, rd_hold l i hlt]
      unfold isP at hp
      rw [if_pos (by omega), if_pos (by omega), if_neg (by rw [hp]; simp), if_pos trivial, if_pos (by omega), hw]
    · have ih' := ih (i + 1) (by omega) acc (by omega)
      rw [others_is _ hp]
      refine Ev.step (fun k => ?_) ih'
      simp only [clusterlocksref10_Set.l0, rd_hold l i hlt]
      unfold isP at hp
      rw [if_pos (by omega), if_pos (by omega), if_pos hp, hw]
theorem rset_l0 (p0 p1 p2 m u : Int) (hz : zero m u = false) (l : List S53) (hl : l.length < 900000) :
    ∀ (d i : Nat), i + d = l.length → ∀ acc : List S53, acc.length ≤ i → Ev (fun k => clusterlocksref10_Set.l0 k l acc false (i : Int) p0 p1 p2 m u) (acc ++ putS p0 p1 p2 m u (others p0 p1 p2 (l.drop i))) := by
  intro d
  induction d with
  | zero =>
    intro i hi acc ha
    have hd : l.drop i = [] := by rw [List.drop_eq_nil_iff]; omega
    rw [hd, others_nil]
    refine Ev.step (f := fun _ => some (acc ++ putS p0 p1 p2 m u [])) (fun k => ?_) (Ev.now _)
    simp only [clusterlocksref10_Set.l0]
    rw [if_neg (by omega), if_neg (by simp), if_pos (by omega)]
    simp [putS, hz]
  | succ d ih =>
    intro i hi acc ha
    have hlt : i < l.length := by omega
    have hw : wrap64 ((i : Int) + 1) = ((i + 1 : Nat) : Int) := by rw [wrap_small (by omega) (by omega)]; omega
    rw [drop_cons l i hlt]
    cases hp : isP p0 p1 p2 l[i]
    · rw [others_not _ hp]
      have hp2 := hp
      unfold isP at hp2
      cases ha2 : abv p0 p1 p2 l[i]
      · have ih' := ih (i + 1) (by omega) (acc ++ [l[i]]) (by rw [List.length_append, List.length_singleton]; omega)
        rw [putS_not hz _ ha2, List.append_cons]
        refine Ev.step (fun k => ?_) ih'
        simp only [clusterlocksref10_Set.l0, rd_hold l i hlt, rcmp_eq, Option.bind_some]
        have hc : ¬ cmp3 l[i].f0.f0 l[i].f0.f1 l[i].f0.f2 p0 p1 p2 > 0 := by
          unfold abv at ha2
          simpa using ha2
        rw [if_pos (by omega), if_pos (by omega), if_neg (by rw [hp2]; simp), if_neg (by simp), if_neg hc, if_pos (by omega), hw]
      · have ih' := rset_l0t p0 p1 p2 m u l hl d (i + 1) (by omega) (acc ++ [⟨⟨p0, p1, p2⟩, ⟨m, u⟩⟩] ++ [l[i]]) (by simp only [List.length_append, List.length_singleton]; omega)
        rw [putS_is hz _ ha2, List.append_cons, List.append_cons]
        refine Ev.step (fun k => ?_) ih'
        simp only [clusterlocksref10_Set.l0, rd_hold l i hlt, rcmp_eq, Option.bind_some]
        have hc : cmp3 l[i].f0.f0 l[i].f0.f1 l[i].f0.f2 p0 p1 p2 > 0 := by
          unfold abv at ha2
          simpa using ha2
        rw [if_pos (by omega), if_pos (by omega), if_neg (by rw [hp2]; simp), if_neg (by simp), if_pos hc, if_pos (by omega), if_pos (by rw [List.length_append, List.length_singleton]; omega), hw]
    · have ih' := ih (i + 1) (by omega) acc (by omega)
      rw [others_is _ hp]
      refine Ev.step (fun k => ?_) ih'
      simp only [clusterlocksref10_Set.l0, rd_hold l i hlt]
      unfold isP at hp
      rw [if_pos (by omega), if_pos (by omega), if_pos hp, hw]
theorem rset_eq (p0 p1 p2 m u : Int) (l : List S53) (hl : l.length < 900000) : Ev (fun k => clusterlocksref10_Set.f k l p0 p1 p2 m u) (setS l p0 p1 p2 m u) := by
  unfold clusterlocksref10_Set.f setS
  simp only [rzero_eq, Option.bind_some]
  cases hz : zero m u
  · have h := rset_l0 p0 p1 p2 m u hz l hl l.length 0 (by omega) [] (by simp)
    rw [List.drop_zero, List.nil_append] at h
    exact h
  · have h := rset_l0t p0 p1 p2 m u l hl l.length 0 (by omega) [] (by simp)
    rw [List.drop_zero, List.nil_append] at h
    unfold putS
    rw [hz, if_pos rfl]
    exact h
end PA
end Go.Proofs.YtnmemkphfgdplaaDoor


/- Grants in plain Lean: what Valid, Room, Against, Get, Procs and their references compute. Conditions: none of our own. -/
namespace Go.Proofs.YtnmemkphfgdplaaDoor
open Go.RowKit Go.Proofs.YtnmemkphfgdplaaDoorW.PrintWords Go.Proofs.YtnmemkphfgdplaaDoorW.PrintLast Go.Proofs.YtnmemkphfgdplaaDoorW.PrintMore Amt
namespace PA
set_option linter.unusedVariables false
set_option linter.unusedSimpArgs false
def vp (p0 p1 p2 : Int) : Bool := decide (p0 ≥ 0) && decide (p0 < 4) && decide (p1 ≥ 1) && decide (p1 ≤ 99) && decide (p2 ≥ 1) && decide (p2 ≤ 999)
theorem vp_eq (p0 p1 p2 : Int) : ident_ValidProc.f p0 p1 p2 = some (vp p0 p1 p2) := by
  unfold ident_ValidProc.f vp
  repeat' split
  all_goals simp [*]
theorem rvp_eq (p0 p1 p2 : Int) : clusterlocksref02_ValidProc.f p0 p1 p2 = some (vp p0 p1 p2) := by
  unfold clusterlocksref02_ValidProc.f vp
  repeat' split
  all_goals simp [*]
def amts (l : List S53) : List S26 := l.map (fun h => h.f1)
def vok (kd n : Int) (l : List S53) (i : Nat) : Bool := vp (rd_T53 l i).f0.f0 (rd_T53 l i).f0.f1 (rd_T53 l i).f0.f2 && fits kd n (rd_T53 l i).f1.f0 (rd_T53 l i).f1.f1 && (decide (i = 0) || decide (cmp3 (rd_T53 l ((i : Int) - 1)).f0.f0 (rd_T53 l ((i : Int) - 1)).f0.f1 (rd_T53 l ((i : Int) - 1)).f0.f2 (rd_T53 l i).f0.f0 (rd_T53 l i).f0.f1 (rd_T53 l i).f0.f2 < 0))
def vall (kd n : Int) (l : List S53) : Nat → Nat → Bool
  | 0, _ => true
  | d + 1, i => vok kd n l i && vall kd n l d (i + 1)
def validS (kd n : Int) (l : List S53) : Bool := shaped kd n && (decide (l.length ≤ 8) && (vall kd n l l.length 0 && compat kd n (prs (amts l))))
theorem amounts_l0 (l : List S53) (hl : l.length < 900000) : ∀ (d i : Nat), i + d = l.length → ∀ acc : List S26, acc.length ≤ i → Ev (fun k => holders_amounts.l0 k acc l (l.length : Int) (i : Int)) (acc ++ amts (l.drop i)) := by
  intro d
  induction d with
  | zero =>
    intro i hi acc ha
    have hd : l.drop i = [] := by rw [List.drop_eq_nil_iff]; omega
    have e : acc ++ amts (l.drop i) = acc := by rw [hd]; exact List.append_nil _
    rw [e]
    refine Ev.step (f := fun _ => some acc) (fun k => ?_) (Ev.now _)
    simp only [holders_amounts.l0]
    rw [if_neg (by omega)]
  | succ d ih =>
    intro i hi acc ha
    have hlt : i < l.length := by omega
    have hw : wrap64 ((i : Int) + 1) = ((i + 1 : Nat) : Int) := by rw [wrap_small (by omega) (by omega)]; omega
    have e : acc ++ amts (l.drop i) = acc ++ [l[i].f1] ++ amts (l.drop (i + 1)) := by
      rw [drop_cons l i hlt]
      exact List.append_cons _ _ _
    rw [e]
    refine Ev.step (fun k => ?_) (ih (i + 1) (by omega) (acc ++ [l[i].f1]) (by rw [List.length_append, List.length_singleton]; omega))
    simp only [holders_amounts.l0, rd_hold l i hlt]
    rw [if_pos (by omega), if_pos (by omega), if_pos (by omega), if_pos (by omega), hw]
theorem amounts_eq (l : List S53) (hl : l.length < 900000) : Ev (fun k => holders_amounts.f k l) (amts l) := amounts_l0 l hl l.length 0 (by omega) [] (by simp)
theorem ramounts_l0 (l : List S53) (hl : l.length < 900000) : ∀ (d i : Nat), i + d = l.length → ∀ acc : List S26, acc.length ≤ i → Ev (fun k => clusterlocksref10_Amounts.l0 k l acc (i : Int)) (acc ++ amts (l.drop i)) := by
  intro d
  induction d with
  | zero =>
    intro i hi acc ha
    have hd : l.drop i = [] := by rw [List.drop_eq_nil_iff]; omega
    have e : acc ++ amts (l.drop i) = acc := by rw [hd]; exact List.append_nil _
    rw [e]
    refine Ev.step (f := fun _ => some acc) (fun k => ?_) (Ev.now _)
    simp only [clusterlocksref10_Amounts.l0]
    rw [if_neg (by omega)]
  | succ d ih =>
    intro i hi acc ha
    have hlt : i < l.length := by omega
    have hw : wrap64 ((i : Int) + 1) = ((i + 1 : Nat) : Int) := by rw [wrap_small (by omega) (by omega)]; omega
    have e : acc ++ amts (l.drop i) = acc ++ [l[i].f1] ++ amts (l.drop (i + 1)) := by
      rw [drop_cons l i hlt]
      exact List.append_cons _ _ _
    rw [e]
    refine Ev.step (fun k => ?_) (ih (i + 1) (by omega) (acc ++ [l[i].f1]) (by rw [List.length_append, List.length_singleton]; omega))
    simp only [clusterlocksref10_Amounts.l0, rd_hold l i hlt]
    rw [if_pos (by omega), if_pos (by omega), if_pos (by omega), hw]
theorem ramounts_eq (l : List S53) (hl : l.length < 900000) : Ev (fun k => clusterlocksref10_Amounts.f k l) (amts l) := ramounts_l0 l hl l.length 0 (by omega) [] (by simp)
theorem amts_length (l : List S53) : (amts l).length = l.length := List.length_map _
theorem valid_l0 (s : ByteArray) (kd n hm : Int) (l : List S53) (hl : l.length ≤ 8) : ∀ (d i : Nat), i + d = l.length → Ev (fun k => holders_Valid.l0 k l l (l.length : Int) (i : Int) s kd n hm) (vall kd n l d i && compat kd n (prs (amts l))) := by
  intro d
  induction d with
  | zero =>
    intro i hi
    refine Ev.step (f := fun k => (holders_amounts.f k l).bind fun t161 => ((amount_Compatible.f k s kd n hm t161).bind fun t164 => (some t164))) (fun k => ?_) (Ev.bind (amounts_eq l (by omega)) (Ev.bind (compat_eq s kd n hm (amts l) (by rw [amts_length]; omega)) (Ev.now _)))
    simp only [holders_Valid.l0]
    rw [if_neg (by omega)]
  | succ d ih =>
    intro i hi
    have hlt : i < l.length := by omega
    have hw : wrap64 ((i : Int) + 1) = ((i + 1 : Nat) : Int) := by rw [wrap_small (by omega) (by omega)]; omega
    have hw2 : wrap64 ((i : Int) - 1) = (i : Int) - 1 := wrap_small (by omega) (by omega)
    have ih' := ih (i + 1) (by omega)
    rw [vall]
    cases h1 : vok kd n l i
    · refine Ev.step (f := fun _ => some false) (fun k => ?_) (Ev.now _)
      simp only [holders_Valid.l0, vp_eq, fits_eq, Option.bind_some, hw2, ident_CompareProc.f]
      rw [if_pos (by omega), if_pos (by omega), if_pos (by omega)]
      unfold vok at h1
      by_cases a1 : vp (rd_T53 l i).f0.f0 (rd_T53 l i).f0.f1 (rd_T53 l i).f0.f2 = true
      · rw [if_pos a1]
        by_cases a2 : fits kd n (rd_T53 l i).f1.f0 (rd_T53 l i).f1.f1 = true
        · rw [if_pos a2]
          rw [a1, a2, Bool.true_and, Bool.true_and, Bool.or_eq_false_iff, decide_eq_false_iff_not, decide_eq_false_iff_not] at h1
          rw [if_pos (by omega), if_pos (by omega), if_pos (by omega), if_pos (by omega)]
        · rw [if_neg a2]
      · rw [if_neg a1]
    · rw [Bool.true_and]
      refine Ev.step (fun k => ?_) ih'
      simp only [holders_Valid.l0, vp_eq, fits_eq, Option.bind_some, hw2, ident_CompareProc.f, hw]
      rw [if_pos (by omega), if_pos (by omega), if_pos (by omega)]
      unfold vok at h1
      rw [Bool.and_eq_true, Bool.and_eq_true, Bool.or_eq_true, decide_eq_true_eq, decide_eq_true_eq] at h1
      rw [if_pos h1.1.1, if_pos h1.1.2]
      by_cases h0 : i = 0
      · rw [if_neg (by omega)]
      · rw [if_pos (by omega), if_pos (by omega), if_pos (by omega), if_neg (by have := h1.2; omega)]
theorem hvalid_eq (s : ByteArray) (kd n hm : Int) (l : List S53) : Ev (fun k => holders_Valid.f k s kd n hm l) (validS kd n l) := by
  unfold holders_Valid.f validS
  simp only [shaped_eq, Option.bind_some]
  cases hs : shaped kd n
  · refine Ev.step (f := fun _ => some false) (fun k => ?_) (Ev.now _)
    rw [if_neg (by simp), holders_Valid.j0, if_pos rfl]
  · by_cases hl : l.length ≤ 8
    · rw [decide_eq_true hl, Bool.true_and, Bool.true_and]
      refine Ev.step (fun k => ?_) (valid_l0 s kd n hm l hl l.length 0 (by omega))
      rw [if_pos rfl, holders_Valid.j0, if_neg (by simp; omega)]
      rfl
    · rw [decide_eq_false hl]
      refine Ev.step (f := fun _ => some false) (fun k => ?_) (Ev.now _)
      rw [if_pos rfl, holders_Valid.j0, if_pos (by simp; omega)]
theorem rvalid_l0 (s : ByteArray) (kd n hm : Int) (l : List S53) (hl : l.length ≤ 8) : ∀ (d i : Nat), i + d = l.length → Ev (fun k => clusterlocksref10_Valid.l0 k l (i : Int) s kd n hm) (vall kd n l d i && compat kd n (prs (amts l))) := by
  intro d
  induction d with
  | zero =>
    intro i hi
    refine Ev.step (f := fun k => (clusterlocksref10_Amounts.f k l).bind fun t161 => ((clusterlocksref04_Compatible.f k s kd n hm t161).bind fun t164 => (some t164))) (fun k => ?_) (Ev.bind (ramounts_eq l (by omega)) (Ev.bind (rcompat_eq s kd n hm (amts l) (by rw [amts_length]; omega)) (Ev.now _)))
    simp only [clusterlocksref10_Valid.l0]
    rw [if_neg (by omega)]
  | succ d ih =>
    intro i hi
    have hlt : i < l.length := by omega
    have hw : wrap64 ((i : Int) + 1) = ((i + 1 : Nat) : Int) := by rw [wrap_small (by omega) (by omega)]; omega
    have hw2 : wrap64 ((i : Int) - 1) = (i : Int) - 1 := wrap_small (by omega) (by omega)
    have ih' := ih (i + 1) (by omega)
    rw [vall]
    cases h1 : vok kd n l i
    · refine Ev.step (f := fun _ => some false) (fun k => ?_) (Ev.now _)
      simp only [clusterlocksref10_Valid.l0, rvp_eq, rfits_eq, Option.bind_some, hw2, rcmp_eq]
      rw [if_pos (by omega), if_pos (by omega)]
      unfold vok at h1
      by_cases a1 : vp (rd_T53 l i).f0.f0 (rd_T53 l i).f0.f1 (rd_T53 l i).f0.f2 = true
      · rw [if_pos a1]
        by_cases a2 : fits kd n (rd_T53 l i).f1.f0 (rd_T53 l i).f1.f1 = true
        · rw [if_pos a2]
          rw [a1, a2, Bool.true_and, Bool.true_and, Bool.or_eq_false_iff, decide_eq_false_iff_not, decide_eq_false_iff_not] at h1
          rw [if_pos (by omega), if_pos (by omega), if_pos (by omega), if_pos (by omega)]
        · rw [if_neg a2]
      · rw [if_neg a1]
    · rw [Bool.true_and]
      refine Ev.step (fun k => ?_) ih'
      simp only [clusterlocksref10_Valid.l0, rvp_eq, rfits_eq, Option.bind_some, hw2, rcmp_eq, hw]
      rw [if_pos (by omega), if_pos (by omega)]
      unfold vok at h1
      rw [Bool.and_eq_true, Bool.and_eq_true, Bool.or_eq_true, decide_eq_true_eq, decide_eq_true_eq] at h1
      rw [if_pos h1.1.1, if_pos h1.1.2]
      by_cases h0 : i = 0
      · rw [if_neg (by omega)]
      · rw [if_pos (by omega), if_pos (by omega), if_pos (by omega), if_neg (by have := h1.2; omega)]
theorem rhvalid_eq (s : ByteArray) (kd n hm : Int) (l : List S53) : Ev (fun k => clusterlocksref10_Valid.f k s kd n hm l) (validS kd n l) := by
  unfold clusterlocksref10_Valid.f validS
  simp only [rshaped_eq, Option.bind_some]
  cases hs : shaped kd n
  · refine Ev.step (f := fun _ => some false) (fun k => ?_) (Ev.now _)
    rw [if_neg (by simp), clusterlocksref10_Valid.j0, if_pos rfl]
  · by_cases hl : l.length ≤ 8
    · rw [decide_eq_true hl, Bool.true_and, Bool.true_and]
      refine Ev.step (fun k => ?_) (rvalid_l0 s kd n hm l hl l.length 0 (by omega))
      rw [if_pos rfl, clusterlocksref10_Valid.j0, if_neg (by simp; omega)]
      rfl
    · rw [decide_eq_false hl]
      refine Ev.step (f := fun _ => some false) (fun k => ?_) (Ev.now _)
      rw [if_pos rfl, clusterlocksref10_Valid.j0, if_pos (by simp; omega)]
def fitS (kd n : Int) (l : List S53) (p0 p1 p2 m u : Int) : Bool := validS kd n l && (vp p0 p1 p2 && fits kd n m u)
def roomS (kd n : Int) (l : List S53) (p0 p1 p2 m u : Int) : Bool := fitS kd n l p0 p1 p2 m u && validS kd n (setS l p0 p1 p2 m u)
theorem fit_eq (s : ByteArray) (kd n hm : Int) (l : List S53) (p0 p1 p2 m u : Int) : Ev (fun k => holders_fit.f k s kd n hm l p0 p1 p2 m u) (fitS kd n l p0 p1 p2 m u) := by
  unfold holders_fit.f fitS
  refine Ev.bind (hvalid_eq s kd n hm l) (Ev.congr (fun k => ?_) (Ev.now _))
  simp only [vp_eq, fits_eq, Option.bind_some]
  cases validS kd n l <;> cases vp p0 p1 p2 <;> simp
theorem room_eqh (s : ByteArray) (kd n hm : Int) (l : List S53) (p0 p1 p2 m u : Int) (hl : l.length < 900000) : Ev (fun k => holders_Room.f k s kd n hm l p0 p1 p2 m u) (roomS kd n l p0 p1 p2 m u) := by
  unfold holders_Room.f roomS
  refine Ev.bind (fit_eq s kd n hm l p0 p1 p2 m u) ?_
  cases fitS kd n l p0 p1 p2 m u
  · exact Ev.congr (fun k => if_neg (by simp)) (Ev.now _)
  · refine Ev.congr (fun k => if_pos rfl) (Ev.bind (set_eq p0 p1 p2 m u l hl) (Ev.bind (hvalid_eq s kd n hm _) ?_))
    rw [Bool.true_and]
    exact Ev.now _
theorem rroom_eq (s : ByteArray) (kd n hm : Int) (l : List S53) (p0 p1 p2 m u : Int) (hl : l.length < 900000) : Ev (fun k => clusterlocksref10_Room.f k s kd n hm l p0 p1 p2 m u) (roomS kd n l p0 p1 p2 m u) := by
  unfold clusterlocksref10_Room.f roomS fitS
  refine Ev.bind (rhvalid_eq s kd n hm l) ?_
  simp only [rvp_eq, rfits_eq, Option.bind_some]
  cases validS kd n l
  · exact Ev.congr (fun k => if_neg (by simp)) (Ev.now _)
  · cases vp p0 p1 p2
    · exact Ev.congr (fun k => by simp) (Ev.now _)
    · cases fits kd n m u
      · exact Ev.congr (fun k => by simp) (Ev.now _)
      · refine Ev.congr (fun k => by rw [if_pos rfl, if_pos rfl, if_pos rfl]) (Ev.bind (rset_eq p0 p1 p2 m u l hl) (Ev.bind (rhvalid_eq s kd n hm _) (by simpa using Ev.now (validS kd n (setS l p0 p1 p2 m u)))))
def isAg (kd n p0 p1 p2 m u : Int) (h : S53) : Bool := !isP p0 p1 p2 h && (decide (kd = 2) || !compat kd n [(h.f1.f0, h.f1.f1), (m, u)])
def agS (kd n : Int) (l : List S53) (p0 p1 p2 m u : Int) : List S24 := (l.filter (isAg kd n p0 p1 p2 m u)).map (fun h => h.f0)
def againstS (kd n : Int) (l : List S53) (p0 p1 p2 m u : Int) : List S24 := if (fitS kd n l p0 p1 p2 m u && !roomS kd n l p0 p1 p2 m u) = true then agS kd n l p0 p1 p2 m u else []
theorem agS_not {kd n p0 p1 p2 m u : Int} {h : S53} (t : List S53) (ha : isAg kd n p0 p1 p2 m u h = false) : agS kd n (h :: t) p0 p1 p2 m u = agS kd n t p0 p1 p2 m u := by simp [agS, List.filter_cons, ha]
theorem agS_is {kd n p0 p1 p2 m u : Int} {h : S53} (t : List S53) (ha : isAg kd n p0 p1 p2 m u h = true) : agS kd n (h :: t) p0 p1 p2 m u = h.f0 :: agS kd n t p0 p1 p2 m u := by simp [agS, List.filter_cons, ha]
theorem nisP (p0 p1 p2 : Int) (h : S53) : ((!(h.f0.f0 == p0)) || ((!(h.f0.f1 == p1)) || (!(h.f0.f2 == p2)))) = !isP p0 p1 p2 h := by
  unfold isP
  cases (h.f0.f0 == p0) <;> cases (h.f0.f1 == p1) <;> cases (h.f0.f2 == p2) <;> rfl
theorem against_l0 (s : ByteArray) (kd n hm p0 p1 p2 m u : Int) (l : List S53) (hl : l.length < 900000) : ∀ (d i : Nat), i + d = l.length → ∀ acc : List S24, acc.length ≤ i → Ev (fun k => holders_Against.l0 k acc l (l.length : Int) (i : Int) s kd n hm p0 p1 p2 m u) (acc ++ agS kd n (l.drop i) p0 p1 p2 m u) := by
  intro d
  induction d with
  | zero =>
    intro i hi acc ha
    have hd : l.drop i = [] := by rw [List.drop_eq_nil_iff]; omega
    have e : acc ++ agS kd n (l.drop i) p0 p1 p2 m u = acc := by rw [hd]; exact List.append_nil _
    rw [e]
    refine Ev.step (f := fun _ => some acc) (fun k => ?_) (Ev.now _)
    simp only [holders_Against.l0]
    rw [if_neg (by omega)]
  | succ d ih =>
    intro i hi acc ha
    have hlt : i < l.length := by omega
    have hw : wrap64 ((i : Int) + 1) = ((i + 1 : Nat) : Int) := by rw [wrap_small (by omega) (by omega)]; omega
    rw [drop_cons l i hlt]
    have h0 := ih (i + 1) (by omega) acc (by omega)
    have h1 := ih (i + 1) (by omega) (acc ++ [l[i].f0]) (by rw [List.length_append, List.length_singleton]; omega)
    cases hp : isP p0 p1 p2 l[i]
    · by_cases hk : kd = 2
      · rw [agS_is _ (by simp [isAg, hp, hk]), List.append_cons]
        refine Ev.step (fun k => ?_) h1
        simp only [holders_Against.l0, rd_hold l i hlt]
        rw [if_pos (by omega), if_pos (by omega), if_pos (by omega), if_pos (by rw [nisP, hp]; rfl), if_pos hk, if_pos (by omega), hw]
      · have hc := compat_eq s kd n hm [⟨l[i].f1.f0, l[i].f1.f1⟩, ⟨m, u⟩] (by simp)
        have e : compat kd n (prs [⟨l[i].f1.f0, l[i].f1.f1⟩, ⟨m, u⟩]) = compat kd n [(l[i].f1.f0, l[i].f1.f1), (m, u)] := rfl
        rw [e] at hc
        refine Ev.step (f := fun k => (amount_Compatible.f k s kd n hm [⟨l[i].f1.f0, l[i].f1.f1⟩, ⟨m, u⟩]).bind fun t => if t = true then holders_Against.l0 k acc l (l.length : Int) ((i + 1 : Nat) : Int) s kd n hm p0 p1 p2 m u else holders_Against.l0 k (acc ++ [l[i].f0]) l (l.length : Int) ((i + 1 : Nat) : Int) s kd n hm p0 p1 p2 m u) (fun k => ?_) (Ev.bind hc ?_)
        · simp only [holders_Against.l0, rd_hold l i hlt]
          rw [if_pos (by omega), if_pos (by omega), if_pos (by omega), if_pos (by rw [nisP, hp]; rfl), if_neg hk, hw]
          congr 1
          funext t
          cases t with
          | false =>
            simp only [Bool.false_eq_true, if_false]
            rw [if_pos (by omega)]
          | true => rw [if_pos rfl, if_pos rfl]
        · cases hcv : compat kd n [(l[i].f1.f0, l[i].f1.f1), (m, u)]
          · rw [agS_is _ (by simp [isAg, hp, hk, hcv]), List.append_cons acc l[i].f0 (agS kd n (l.drop (i + 1)) p0 p1 p2 m u)]
            exact Ev.congr (fun k => if_neg (by simp)) h1
          · rw [agS_not _ (by simp [isAg, hp, hk, hcv])]
            exact Ev.congr (fun k => if_pos rfl) h0
    · rw [agS_not _ (by simp [isAg, hp])]
      refine Ev.step (fun k => ?_) h0
      simp only [holders_Against.l0, rd_hold l i hlt]
      rw [if_pos (by omega), if_pos (by omega), if_pos (by omega), if_neg (by rw [nisP, hp]; simp), hw]
theorem against_eq (s : ByteArray) (kd n hm : Int) (l : List S53) (p0 p1 p2 m u : Int) (hl : l.length < 900000) : Ev (fun k => holders_Against.f k s kd n hm l p0 p1 p2 m u) (againstS kd n l p0 p1 p2 m u) := by
  unfold holders_Against.f againstS
  refine Ev.bind (fit_eq s kd n hm l p0 p1 p2 m u) ?_
  cases hf : fitS kd n l p0 p1 p2 m u
  · refine Ev.step (f := fun _ => some []) (fun k => ?_) (Ev.congr (fun k => by simp) (Ev.now _))
    rw [if_neg (by simp), holders_Against.j0, if_pos rfl]
  · refine Ev.congr (fun k => if_pos rfl) (Ev.bind (room_eqh s kd n hm l p0 p1 p2 m u hl) ?_)
    cases hr : roomS kd n l p0 p1 p2 m u
    · refine Ev.step (fun k => ?_) (against_l0 s kd n hm p0 p1 p2 m u l hl l.length 0 (by omega) [] (by simp))
      rw [holders_Against.j0, if_neg (by simp)]
      rfl
    · refine Ev.step (f := fun _ => some []) (fun k => ?_) (Ev.congr (fun k => by simp) (Ev.now _))
      rw [holders_Against.j0, if_pos rfl]
theorem agS_length (kd n : Int) (l : List S53) (p0 p1 p2 m u : Int) : (agS kd n l p0 p1 p2 m u).length ≤ l.length := by
  unfold agS
  rw [List.length_map]
  exact List.length_filter_le _ _
theorem againstS_length (kd n : Int) (l : List S53) (p0 p1 p2 m u : Int) : (againstS kd n l p0 p1 p2 m u).length ≤ l.length := by
  unfold againstS
  split
  · exact agS_length _ _ _ _ _ _ _ _
  · simp
end PA
end Go.Proofs.YtnmemkphfgdplaaDoor


/- Valid lists of grants in plain Lean: fewer grants stay valid, what Get returns behind Set, who is against an amount. Conditions: none of our own. -/
namespace Go.Proofs.YtnmemkphfgdplaaDoor
open Go.RowKit Go.Proofs.YtnmemkphfgdplaaDoorW.PrintWords Go.Proofs.YtnmemkphfgdplaaDoorW.PrintLast Go.Proofs.YtnmemkphfgdplaaDoorW.PrintMore Amt
namespace PA
set_option linter.unusedVariables false
set_option linter.unusedSimpArgs false
/-- The process of the first is below that of the second. -/
def blw (h g : S53) : Prop := cmp3 h.f0.f0 h.f0.f1 h.f0.f2 g.f0.f0 g.f0.f1 g.f0.f2 < 0
theorem blw_trans {a b c : S53} (h : blw a b) (k : blw b c) : blw a c := by
  unfold blw at h k ⊢
  rw [cmp3_neg] at h k ⊢
  omega
def one (kd n : Int) (h : S53) : Bool := vp h.f0.f0 h.f0.f1 h.f0.f2 && fits kd n h.f1.f0 h.f1.f1
theorem vok_iff (kd n : Int) (l : List S53) (i : Nat) (hi : i < l.length) : vok kd n l i = true ↔ one kd n l[i] = true ∧ (∀ h : 0 < i, blw (l[i - 1]'(by omega)) l[i]) := by
  unfold vok one
  rw [rd_hold l i hi, Bool.and_eq_true, Bool.or_eq_true, decide_eq_true_eq, decide_eq_true_eq]
  constructor
  · rintro ⟨h1, h2⟩
    refine ⟨h1, fun h => ?_⟩
    have e : ((i : Int) - 1) = ((i - 1 : Nat) : Int) := by omega
    rw [e, rd_hold l (i - 1) (by omega)] at h2
    exact h2.resolve_left (by omega)
  · rintro ⟨h1, h2⟩
    refine ⟨h1, ?_⟩
    by_cases h : i = 0
    · exact .inl h
    · right
      have e : ((i : Int) - 1) = ((i - 1 : Nat) : Int) := by omega
      rw [e, rd_hold l (i - 1) (by omega)]
      exact h2 (by omega)
theorem vall_iff (kd n : Int) (l : List S53) : ∀ (d i : Nat), vall kd n l d i = true ↔ ∀ j, i ≤ j → j < i + d → vok kd n l j = true
  | 0, i => by simp only [vall, true_iff]; intro j h1 h2; omega
  | d + 1, i => by
    rw [vall, Bool.and_eq_true, vall_iff kd n l d (i + 1)]
    constructor
    · rintro ⟨h1, h2⟩ j h3 h4
      by_cases h : j = i
      · subst h; exact h1
      · exact h2 j (by omega) (by omega)
    · intro h
      exact ⟨h i (by omega) (by omega), fun j h1 h2 => h j (by omega) (by omega)⟩
theorem validS_iff (kd n : Int) (l : List S53) : validS kd n l = true ↔ shaped kd n = true ∧ l.length ≤ 8 ∧ (∀ h ∈ l, one kd n h = true) ∧ l.Pairwise blw ∧ compat kd n (prs (amts l)) = true := by
  unfold validS
  rw [Bool.and_eq_true, Bool.and_eq_true, Bool.and_eq_true, decide_eq_true_eq, vall_iff]
  constructor
  · rintro ⟨h1, h2, h3, h4⟩
    refine ⟨h1, h2, fun h hh => ?_, ?_, h4⟩
    · obtain ⟨j, hj, rfl⟩ := List.getElem_of_mem hh
      exact ((vok_iff kd n l j hj).1 (h3 j (by omega) (by omega))).1
    · rw [List.pairwise_iff_getElem]
      intro i j hi hj hij
      obtain ⟨d, rfl⟩ : ∃ d, j = i + (d + 1) := ⟨j - i - 1, by omega⟩
      clear hij
      induction d with
      | zero =>
        have := ((vok_iff kd n l (i + (0 + 1)) hj).1 (h3 _ (by omega) (by omega))).2 (by omega)
        exact this
      | succ d ih =>
        have h5 := ih (by omega)
        have h6 := ((vok_iff kd n l (i + (d + 1 + 1)) hj).1 (h3 _ (by omega) (by omega))).2 (by omega)
        exact blw_trans h5 h6
  · rintro ⟨h1, h2, h3, h4, h5⟩
    refine ⟨h1, h2, fun j _ hj => ?_, h5⟩
    rw [Nat.zero_add] at hj
    refine (vok_iff kd n l j hj).2 ⟨h3 _ (List.getElem_mem hj), fun h => ?_⟩
    rw [List.pairwise_iff_getElem] at h4
    exact h4 (j - 1) j (by omega) hj (by omega)
theorem units_sub {kd n : Int} {l l' : List (Int × Int)} (h : l'.Sublist l) (hp : l.all (fun a => permitted kd n a.1 a.2) = true) : units l' ≤ units l := by
  induction h with
  | slnil => exact Int.le_refl _
  | cons a h ih =>
    rw [List.all_cons, Bool.and_eq_true] at hp
    have := ih hp.2
    have h2 := permitted_nonneg hp.1
    rw [units_cons]
    omega
  | cons_cons a h ih =>
    rw [List.all_cons, Bool.and_eq_true] at hp
    have := ih hp.2
    rw [units_cons, units_cons]
    omega
theorem all_sub {α : Type} {q : α → Bool} {l l' : List α} (h : l'.Sublist l) (hp : l.all q = true) : l'.all q = true := by
  rw [List.all_eq_true] at hp ⊢
  exact fun x hx => hp x (h.subset hx)
theorem pw_sub {l l' : List (Int × Int)} (h : l'.Sublist l) (hp : pw l = true) : pw l' = true := by
  induction h with
  | slnil => rfl
  | cons a h ih =>
    rw [pw, Bool.and_eq_true] at hp
    exact ih hp.2
  | cons_cons a h ih =>
    rw [pw, Bool.and_eq_true] at hp ⊢
    exact ⟨all_sub h hp.1, ih hp.2⟩
theorem compat_sub {kd n : Int} {l l' : List (Int × Int)} (h : l'.Sublist l) (hc : compat kd n l = true) : compat kd n l' = true := by
  unfold compat at hc ⊢
  rw [Bool.and_eq_true, Bool.and_eq_true] at hc ⊢
  refine ⟨⟨hc.1.1, all_sub h hc.1.2⟩, ?_⟩
  by_cases hk : kd = 2
  · have h1 := hc.2
    rw [if_pos hk, decide_eq_true_eq] at h1 ⊢
    have := units_sub h hc.1.2
    omega
  · have h1 := hc.2
    rw [if_neg hk] at h1 ⊢
    exact pw_sub h h1
theorem validS_sub {kd n : Int} {l l' : List S53} (h : l'.Sublist l) (hv : validS kd n l = true) : validS kd n l' = true := by
  rw [validS_iff] at hv ⊢
  obtain ⟨h1, h2, h3, h4, h5⟩ := hv
  exact ⟨h1, Nat.le_trans h.length_le h2, fun x hx => h3 x (h.subset hx), h4.sublist h, compat_sub ((h.map _).map _) h5⟩
theorem others_sub (p0 p1 p2 : Int) (l : List S53) : (others p0 p1 p2 l).Sublist l := List.filter_sublist
theorem isP_of {p0 p1 p2 : Int} {h : S53} (hp : h.f0.f0 = p0 ∧ h.f0.f1 = p1 ∧ h.f0.f2 = p2) : isP p0 p1 p2 h = true := by
  unfold isP
  simpa using hp
theorem tw_dw (p0 p1 p2 : Int) (l : List S53) : l.takeWhile (fun h => !abv p0 p1 p2 h) ++ l.dropWhile (fun h => !abv p0 p1 p2 h) = l := List.takeWhile_append_dropWhile
theorem abv_up {p0 p1 p2 : Int} {h x : S53} (ha : abv p0 p1 p2 h = true) (hb : blw h x) : abv p0 p1 p2 x = true := by
  unfold abv at ha ⊢
  unfold blw at hb
  rw [decide_eq_true_eq, cmp3_pos] at ha ⊢
  rw [cmp3_neg] at hb
  omega
end PA
end Go.Proofs.YtnmemkphfgdplaaDoor


/- The mill in plain Lean: what Mod, Proc, Mode, Amount, Resource and made compute. Conditions: none of our own. -/
namespace Go.Proofs.YtnmemkphfgdplaaDoor
open Go.RowKit Go.Proofs.YtnmemkphfgdplaaDoorW.PrintWords Go.Proofs.YtnmemkphfgdplaaDoorW.PrintLast Go.Proofs.YtnmemkphfgdplaaDoorW.PrintMore Amt
namespace PA
set_option linter.unusedVariables false
set_option linter.unusedSimpArgs false
def md (a m : Int) : Int := if Int.tmod a m < 0 then Int.tmod a m + m else Int.tmod a m
theorem tmod_gt (a m : Int) (h : 0 < m) : -m < Int.tmod a m := by
  by_cases ha : 0 ≤ a
  · have := Int.tmod_nonneg m ha
    omega
  · have h4 := Int.tmod_lt_of_pos (-a) h
    rw [Int.neg_tmod] at h4
    omega
theorem md_range (a m : Int) (h : 0 < m) : 0 ≤ md a m ∧ md a m < m := by
  unfold md
  have h1 := Int.tmod_lt_of_pos a h
  have h2 : -m < Int.tmod a m := tmod_gt a m h
  split <;> omega
theorem mod_eq (a m : Int) (h : 0 < m) (hm : m < 1000000) : clusterlocksmill_Mod.f a m = some (md a m) := by
  have h1 := Int.tmod_lt_of_pos a h
  have h2 : -m < Int.tmod a m := tmod_gt a m h
  unfold clusterlocksmill_Mod.f md
  rw [if_neg (by omega), if_neg (by omega)]
  split
  · rw [wrap_small (by omega) (by omega)]
  · rfl
/-- A process of the mill. -/
def sm (p : S24) : Prop := 0 ≤ p.f0 ∧ p.f0 < 4 ∧ p.f1 = 1 ∧ 1 ≤ p.f2 ∧ p.f2 ≤ 2
def procS (a : Int) : S24 := ⟨Int.tmod (md a 8) 4, 1, 1 + Int.tdiv (md a 8) 4⟩
theorem proc_eq (a : Int) : clusterlocksmill_Proc.f a = some ((procS a).f0, (procS a).f1, (procS a).f2) := by
  have h := md_range a 8 (by omega)
  have h1 : Int.tdiv (md a 8) 4 = md a 8 / 4 := Int.tdiv_eq_ediv_of_nonneg h.1
  unfold clusterlocksmill_Proc.f procS
  have w1 : wrap64 (md a 8 / 4) = md a 8 / 4 := wrap_small (by omega) (by omega)
  have w2 : wrap64 (1 + md a 8 / 4) = 1 + md a 8 / 4 := wrap_small (by omega) (by omega)
  rw [mod_eq a 8 (by omega) (by omega), Option.bind_some, h1, w1, w2]
theorem procS_sm (a : Int) : sm (procS a) := by
  have h := md_range a 8 (by omega)
  have h1 : Int.tdiv (md a 8) 4 = md a 8 / 4 := Int.tdiv_eq_ediv_of_nonneg h.1
  have h2 : Int.tmod (md a 8) 4 = md a 8 % 4 := Int.tmod_eq_emod_of_nonneg h.1
  show 0 ≤ Int.tmod (md a 8) 4 ∧ Int.tmod (md a 8) 4 < 4 ∧ (1 : Int) = 1 ∧ 1 ≤ 1 + Int.tdiv (md a 8) 4 ∧ 1 + Int.tdiv (md a 8) 4 ≤ 2
  rw [h1, h2]
  omega
theorem sm_vp {p : S24} (h : sm p) : vp p.f0 p.f1 p.f2 = true := by
  unfold sm at h
  unfold vp
  simp only [Bool.and_eq_true, decide_eq_true_eq]
  omega
def modeS (a : Int) : Int := rd ([5, 5, 3, 4, 2, 1, 3, 5] : List Int) (md a 8)
theorem mode_eq (a : Int) : clusterlocksmill_Mode.f a = some (modeS a) := by
  have h := md_range a 8 (by omega)
  unfold clusterlocksmill_Mode.f modeS
  simp only [Option.bind_some]
  have e : ((([5, 5, 3, 4, 2, 1, 3, 5] : List Int).length : Nat) : Int) = 8 := rfl
  rw [e, mod_eq a 8 (by omega) (by omega), Option.bind_some, if_pos h.1, if_pos h.2]
theorem modeS_valid (a : Int) : valid (modeS a) = true := by
  have h := md_range a 8 (by omega)
  unfold modeS
  generalize md a 8 = x at h ⊢
  have : x = 0 ∨ x = 1 ∨ x = 2 ∨ x = 3 ∨ x = 4 ∨ x = 5 ∨ x = 6 ∨ x = 7 := by omega
  rcases this with rfl | rfl | rfl | rfl | rfl | rfl | rfl | rfl <;> decide
def amtS (kd n a : Int) : Int × Int := if kd = 1 then (modeS a, 0) else (0, 1 + md a n)
theorem amt_eq (s : ByteArray) (kd n hm a : Int) (hs : shaped kd n = true) : clusterlocksmill_Amount.f s kd n hm a = some (amtS kd n a) := by
  unfold clusterlocksmill_Amount.f amtS
  by_cases hk : kd = 1
  · rw [if_pos hk, if_pos hk, mode_eq]
    rfl
  · rw [if_neg hk, if_neg hk]
    have hn : 1 ≤ n ∧ n ≤ 8 := by
      simp only [shaped, Bool.or_eq_true, Bool.and_eq_true, beq_iff_eq, decide_eq_true_eq] at hs
      omega
    have h := md_range a n (by omega)
    rw [mod_eq a n (by omega) (by omega), Option.bind_some, wrap_small (by omega) (by omega)]
theorem amtS_fits (kd n a : Int) (hs : shaped kd n = true) : fits kd n (amtS kd n a).1 (amtS kd n a).2 = true := by
  unfold fits amtS
  rw [hs]
  by_cases hk : kd = 1
  · simp [hk, modeS_valid]
  · have hn : 1 ≤ n ∧ n ≤ 8 := by
      simp only [shaped, Bool.or_eq_true, Bool.and_eq_true, beq_iff_eq, decide_eq_true_eq] at hs
      omega
    have h := md_range a n (by omega)
    simp [hk]
    omega
theorem amtS_zero (kd n a : Int) (hs : shaped kd n = true) : zero (amtS kd n a).1 (amtS kd n a).2 = false := by
  have h := amtS_fits kd n a hs
  rw [Bool.eq_false_iff]
  intro hz
  simp only [zero, Bool.and_eq_true, beq_iff_eq] at hz
  rw [hz.1, hz.2] at h
  unfold fits at h
  rw [hs] at h
  by_cases hk : kd = 1
  · simp [hk, valid] at h
  · simp [hk] at h
theorem light_eq (l : List Int) : clusterlocksmill_Light.f l = some (decide ((l.length : Int) ≤ 300)) := rfl
theorem next_eq (L : List Int) (i : Nat) (m : Int) (h : i < L.length) (hl : L.length < 1000000) (hm : 0 < m) (hm2 : m < 1000000) : clusterlocksmill_Tape_Next.f L (i : Int) m = some (md L[i] m, ((i + 1 : Nat) : Int)) := by
  unfold clusterlocksmill_Tape_Next.f
  have h1 : wrap64 ((i : Int) + 1) = (i : Int) + 1 := wrap_small (by omega) (by omega)
  have h2 : wrap64 ((i : Int) + 1 - 1) = (i : Int) := by rw [wrap_small (by omega) (by omega)]; omega
  have h3 : rd L (i : Int) = L[i] := by
    unfold rd
    rw [Int.toNat_natCast, List.getD_eq_getElem?_getD, List.getElem?_eq_getElem h]
    rfl
  rw [if_neg (by omega), h1, h2, if_pos (by omega), if_pos (by omega), h3, mod_eq _ _ hm hm2, Option.bind_some]
  rfl
/-- What a resource of the mill is. -/
theorem shaped_pool (n : Int) (h : 1 ≤ n ∧ n ≤ 8) : shaped 2 n = true := by
  unfold shaped
  simp [h.1, h.2]
theorem catalog_eq (L : List Int) (hlen : L.length = 8) : ∃ c : List S32 × Int, clusterlocksmill_Catalog.f 6 L 0 = some c ∧ c.1.length = 6 ∧ ∀ r ∈ c.1, shaped r.f1 r.f2 = true := by
  have r4 := md_range L[4] 8 (by omega)
  have r6 := md_range L[6] 3 (by omega)
  have n0 := next_eq L 0 4 (by omega) (by omega) (by omega) (by omega)
  have n1 := next_eq L 1 4 (by omega) (by omega) (by omega) (by omega)
  have n2 := next_eq L 2 4 (by omega) (by omega) (by omega) (by omega)
  have n3 := next_eq L 3 4 (by omega) (by omega) (by omega) (by omega)
  have n4 := next_eq L 4 8 (by omega) (by omega) (by omega) (by omega)
  have n5 := next_eq L 5 4 (by omega) (by omega) (by omega) (by omega)
  have n6 := next_eq L 6 3 (by omega) (by omega) (by omega) (by omega)
  have n7 := next_eq L 7 4 (by omega) (by omega) (by omega) (by omega)
  have w5 : wrap64 ((1 : Int) + md L[4] 8) = (1 : Int) + md L[4] 8 := wrap_small (by omega) (by omega)
  have w6 : wrap64 ((1 : Int) + md L[6] 3) = (1 : Int) + md L[6] 3 := wrap_small (by omega) (by omega)
  refine ⟨([⟨⟨#[97]⟩, 1, 1, md L[0] 4⟩, ⟨⟨#[98]⟩, 1, 1, md L[1] 4⟩, ⟨⟨#[99]⟩, 1, 1, md L[2] 4⟩, ⟨⟨#[100]⟩, 1, 1, md L[3] 4⟩, ⟨⟨#[112]⟩, 2, (1 : Int) + md L[4] 8, md L[5] 4⟩, ⟨⟨#[113]⟩, 2, (1 : Int) + md L[6] 3, md L[7] 4⟩], 8), ?_, rfl, ?_⟩
  · generalize md L[0] 4 = a0 at n0 ⊢
    generalize md L[1] 4 = a1 at n1 ⊢
    generalize md L[2] 4 = a2 at n2 ⊢
    generalize md L[3] 4 = a3 at n3 ⊢
    generalize md L[4] 8 = a4 at n4 w5 ⊢
    generalize md L[5] 4 = a5 at n5 ⊢
    generalize md L[6] 3 = a6 at n6 w6 ⊢
    generalize md L[7] 4 = a7 at n7 ⊢
    have n0 : clusterlocksmill_Tape_Next.f L 0 4 = some (a0, 1) := n0
    have n1 : clusterlocksmill_Tape_Next.f L 1 4 = some (a1, 2) := n1
    have n2 : clusterlocksmill_Tape_Next.f L 2 4 = some (a2, 3) := n2
    have n3 : clusterlocksmill_Tape_Next.f L 3 4 = some (a3, 4) := n3
    have n4 : clusterlocksmill_Tape_Next.f L 4 8 = some (a4, 5) := n4
    have n5 : clusterlocksmill_Tape_Next.f L 5 4 = some (a5, 6) := n5
    have n6 : clusterlocksmill_Tape_Next.f L 6 3 = some (a6, 7) := n6
    have n7 : clusterlocksmill_Tape_Next.f L 7 4 = some (a7, 8) := n7
    have w1 : wrap64 ((0 : Int) + 1) = 1 := wrap_small (x := 0 + 1) (by omega) (by omega)
    have w2 : wrap64 ((1 : Int) + 1) = 2 := wrap_small (x := 1 + 1) (by omega) (by omega)
    have w3 : wrap64 ((2 : Int) + 1) = 3 := wrap_small (x := 2 + 1) (by omega) (by omega)
    have w4 : wrap64 ((3 : Int) + 1) = 4 := wrap_small (x := 3 + 1) (by omega) (by omega)
    unfold clusterlocksmill_Catalog.f
    rw [clusterlocksmill_Catalog.l0, if_pos (by decide), if_pos (by decide), n0, Option.bind_some, if_pos (by decide), w1]
    rw [clusterlocksmill_Catalog.l0, if_pos (by decide), if_pos (by decide), n1, Option.bind_some, if_pos (by simp), w2]
    rw [clusterlocksmill_Catalog.l0, if_pos (by decide), if_pos (by decide), n2, Option.bind_some, if_pos (by simp), w3]
    rw [clusterlocksmill_Catalog.l0, if_pos (by decide), if_pos (by decide), n3, Option.bind_some, if_pos (by simp), w4]
    rw [clusterlocksmill_Catalog.l0, if_neg (by decide), n4, Option.bind_some, n5, Option.bind_some, if_pos (by simp), Option.bind_some, n6, Option.bind_some, n7, Option.bind_some, if_pos (by simp)]
    simp only [w5, w6]
    rfl
  · intro r hr
    simp only [List.mem_cons, List.not_mem_nil, or_false] at hr
    rcases hr with rfl | rfl | rfl | rfl | rfl | rfl
    · rfl
    · rfl
    · rfl
    · rfl
    · exact shaped_pool _ (by show 1 ≤ (1 : Int) + md L[4] 8 ∧ (1 : Int) + md L[4] 8 ≤ 8; omega)
    · exact shaped_pool _ (by show 1 ≤ (1 : Int) + md L[6] 3 ∧ (1 : Int) + md L[6] 3 ≤ 8; omega)
theorem rd_res (l : List S32) (i : Nat) (h : i < l.length) : rd_T32 l (i : Int) = l[i] := by
  unfold rd_T32
  rw [Int.toNat_natCast, List.getD_eq_getElem?_getD, List.getElem?_eq_getElem h]
  rfl
theorem resource_eq (n : Int) : ∃ (s : ByteArray) (kd u hm : Int), Ev (fun k => clusterlocksmill_Resource.f k n) (s, kd, u, hm) ∧ shaped kd u = true := by
  obtain ⟨c, h1, h2, h3⟩ := catalog_eq [n, n / 4, n / 16, n / 64, n / 256, n / 1024, n / 4096, n / 16384] rfl
  have h4 := md_range n 6 (by omega)
  have hi : (md n 6).toNat < c.1.length := by omega
  have e : ((md n 6).toNat : Int) = md n 6 := by omega
  have hr := rd_res c.1 (md n 6).toNat hi
  rw [e] at hr
  refine ⟨c.1[(md n 6).toNat].f0, c.1[(md n 6).toNat].f1, c.1[(md n 6).toNat].f2, c.1[(md n 6).toNat].f3, ?_, h3 _ (List.getElem_mem hi)⟩
  refine Ev.of (fun k => clusterlocksmill_Resource.mono k n) (k := 6) ?_
  have e6 : ((c.1.length : Nat) : Int) = 6 := by rw [h2]; rfl
  unfold clusterlocksmill_Resource.f
  rw [h1, Option.bind_some, e6, mod_eq n 6 (by omega) (by omega), Option.bind_some, if_pos h4.1, if_pos h4.2, hr]
def stepS (kd n : Int) (x : List S53) (a : Int) : List S53 := if roomS kd n x (procS a).f0 (procS a).f1 (procS a).f2 (amtS kd n (a / 8)).1 (amtS kd n (a / 8)).2 = true then setS x (procS a).f0 (procS a).f1 (procS a).f2 (amtS kd n (a / 8)).1 (amtS kd n (a / 8)).2 else x
def madeS (kd n : Int) (l : List Int) : List S53 := l.foldl (stepS kd n) []
theorem step_valid {kd n : Int} {x : List S53} (hv : validS kd n x = true) (a : Int) : validS kd n (stepS kd n x a) = true := by
  unfold stepS
  split
  · rename_i h
    unfold roomS at h
    rw [Bool.and_eq_true] at h
    exact h.2
  · exact hv
theorem validS_nil {kd n : Int} (hs : shaped kd n = true) : validS kd n [] = true := by
  rw [validS_iff]
  refine ⟨hs, by simp, fun h hh => by simp at hh, List.Pairwise.nil, ?_⟩
  unfold compat
  rw [hs]
  by_cases hk : kd = 2
  · have : 1 ≤ n := by
      simp only [shaped, Bool.or_eq_true, Bool.and_eq_true, beq_iff_eq, decide_eq_true_eq] at hs
      omega
    simp [hk, amts, prs, units]
    omega
  · simp [hk, amts, prs, pw]
theorem valid_len {kd n : Int} {x : List S53} (hv : validS kd n x = true) : x.length ≤ 8 := ((validS_iff kd n x).1 hv).2.1
theorem fold_valid {kd n : Int} : ∀ (l : List Int) (x : List S53), validS kd n x = true → validS kd n (l.foldl (stepS kd n) x) = true
  | [], x, h => h
  | a :: l, x, h => fold_valid l _ (step_valid h a)
theorem madeS_valid {kd n : Int} (hs : shaped kd n = true) (l : List Int) : validS kd n (madeS kd n l) = true := fold_valid l [] (validS_nil hs)
theorem mem_setS {l : List S53} {p0 p1 p2 m u : Int} {h : S53} (hh : h ∈ setS l p0 p1 p2 m u) : h ∈ others p0 p1 p2 l ∨ h = ⟨⟨p0, p1, p2⟩, ⟨m, u⟩⟩ := by
  unfold setS putS at hh
  split at hh
  · exact .inl hh
  · rw [List.mem_append, List.mem_cons] at hh
    have e := tw_dw p0 p1 p2 (others p0 p1 p2 l)
    rcases hh with hh | hh | hh
    · left; rw [← e]; exact List.mem_append_left _ hh
    · exact .inr hh
    · left; rw [← e]; exact List.mem_append_right _ hh
theorem fold_sm {kd n : Int} : ∀ (l : List Int) (x : List S53), (∀ h ∈ x, sm h.f0) → ∀ h ∈ l.foldl (stepS kd n) x, sm h.f0
  | [], x, hx => hx
  | a :: l, x, hx => by
    refine fold_sm l _ (fun h hh => ?_)
    unfold stepS at hh
    split at hh
    · rcases mem_setS hh with hm | rfl
      · exact hx h ((others_sub _ _ _ x).subset hm)
      · exact procS_sm a
    · exact hx h hh
theorem madeS_sm {kd n : Int} (l : List Int) : ∀ h ∈ madeS kd n l, sm h.f0 := fold_sm l [] (fun h hh => by simp at hh)
theorem rd_int (l : List Int) (i : Nat) (h : i < l.length) : rd l (i : Int) = l[i] := by
  unfold rd
  rw [Int.toNat_natCast, List.getD_eq_getElem?_getD, List.getElem?_eq_getElem h]
  rfl
theorem drop_int (l : List Int) (i : Nat) (h : i < l.length) : l.drop i = l[i] :: l.drop (i + 1) := List.drop_eq_getElem_cons h
theorem made_l0 (s : ByteArray) (kd n hm : Int) (hs : shaped kd n = true) (l : List Int) (hl : l.length < 1000000) : ∀ (d i : Nat), i + d = l.length → ∀ acc : List S53, validS kd n acc = true → Ev (fun k => clusterlockslaw10_made.l0 k l acc (i : Int) s kd n hm) ((l.drop i).foldl (stepS kd n) acc) := by
  intro d
  induction d with
  | zero =>
    intro i hi acc ha
    have hd : l.drop i = [] := by rw [List.drop_eq_nil_iff]; omega
    rw [hd]
    refine Ev.step (f := fun _ => some acc) (fun k => ?_) (Ev.now _)
    simp only [clusterlockslaw10_made.l0]
    rw [if_neg (by omega)]
  | succ d ih =>
    intro i hi acc ha
    have hlt : i < l.length := by omega
    have hw : wrap64 ((i : Int) + 1) = ((i + 1 : Nat) : Int) := by rw [wrap_small (by omega) (by omega)]; omega
    have hal := valid_len ha
    rw [drop_int l i hlt, List.foldl_cons]
    have ih' := ih (i + 1) (by omega) (stepS kd n acc l[i]) (step_valid ha _)
    refine Ev.step (f := fun k => (clusterlocksref10_Room.f k s kd n hm acc (procS l[i]).f0 (procS l[i]).f1 (procS l[i]).f2 (amtS kd n (l[i] / 8)).1 (amtS kd n (l[i] / 8)).2).bind fun t435 => (if t435 = true then ((clusterlocksref10_Set.f k acc (procS l[i]).f0 (procS l[i]).f1 (procS l[i]).f2 (amtS kd n (l[i] / 8)).1 (amtS kd n (l[i] / 8)).2).bind fun t436 => (clusterlockslaw10_made.l0 k l t436 ((i + 1 : Nat) : Int) s kd n hm)) else (clusterlockslaw10_made.l0 k l acc ((i + 1 : Nat) : Int) s kd n hm))) (fun k => ?_) (Ev.bind (rroom_eq _ _ _ _ acc _ _ _ _ _ (by omega)) ?_)
    · simp only [clusterlockslaw10_made.l0, rd_int l i hlt, proc_eq, amt_eq s kd n hm _ hs, Option.bind_some, hw]
      rw [if_pos (by omega), if_pos (by omega)]
    · by_cases hr : roomS kd n acc (procS l[i]).f0 (procS l[i]).f1 (procS l[i]).f2 (amtS kd n (l[i] / 8)).1 (amtS kd n (l[i] / 8)).2 = true
      · have e : stepS kd n acc l[i] = setS acc (procS l[i]).f0 (procS l[i]).f1 (procS l[i]).f2 (amtS kd n (l[i] / 8)).1 (amtS kd n (l[i] / 8)).2 := if_pos hr
        rw [e] at ih' ⊢
        exact Ev.congr (fun k => if_pos hr) (Ev.bind (rset_eq _ _ _ _ _ acc (by omega)) ih')
      · have e : stepS kd n acc l[i] = acc := if_neg hr
        rw [e] at ih' ⊢
        exact Ev.congr (fun k => if_neg hr) ih'
theorem made_eq (s : ByteArray) (kd n hm : Int) (hs : shaped kd n = true) (l : List Int) (hl : l.length < 1000000) : Ev (fun k => clusterlockslaw10_made.f k s kd n hm l) (madeS kd n l) := made_l0 s kd n hm hs l hl l.length 0 (by omega) [] (validS_nil hs)
end PA
end Go.Proofs.YtnmemkphfgdplaaDoor


/- When there is room among the grants of the mill, and what those who are against it have to do with it. Conditions: none of our own. -/
namespace Go.Proofs.YtnmemkphfgdplaaDoor
open Go.RowKit Go.Proofs.YtnmemkphfgdplaaDoorW.PrintWords Go.Proofs.YtnmemkphfgdplaaDoorW.PrintLast Go.Proofs.YtnmemkphfgdplaaDoorW.PrintMore Amt
namespace PA
set_option linter.unusedVariables false
set_option linter.unusedSimpArgs false
def key (p : S24) : Int := p.f0 * 2 + (p.f2 - 1)
theorem key_lt {a b : S53} (ha : sm a.f0) (hb : sm b.f0) (h : blw a b) : key a.f0 < key b.f0 := by
  unfold blw at h
  rw [cmp3_neg] at h
  unfold sm at ha hb
  unfold key
  omega
theorem incr_len : ∀ (l : List Int) (lo hi : Int), lo ≤ hi → l.Pairwise (fun a b => a < b) → (∀ x ∈ l, lo ≤ x ∧ x < hi) → (l.length : Int) ≤ hi - lo
  | [], lo, hi, h, _, _ => by simp only [List.length_nil]; omega
  | a :: l, lo, hi, h, hp, hm => by
    have h1 := List.pairwise_cons.1 hp
    have ha := hm a (by simp)
    have := incr_len l (a + 1) hi (by omega) h1.2 (fun x hx => ⟨by have := h1.1 x hx; omega, (hm x (by simp [hx])).2⟩)
    simp only [List.length_cons]
    omega
theorem few (x : List S53) (p : S24) (hx : ∀ h ∈ x, sm h.f0) (hp : sm p) (hpw : x.Pairwise blw) (hne : ∀ h ∈ x, isP p.f0 p.f1 p.f2 h = false) : x.length ≤ 7 := by
  have hk : ∀ h ∈ x, key h.f0 ≠ key p := fun h hh he => by
    have h1 := hx h hh
    have h2 := hne h hh
    rw [Bool.eq_false_iff] at h2
    apply h2
    refine isP_of ?_
    unfold sm at h1 hp
    unfold key at he
    omega
  have hl := incr_len (x.map (fun h => if key h.f0 > key p then key h.f0 - 1 else key h.f0)) 0 7 (by omega) (by
    rw [List.pairwise_map, List.pairwise_iff_getElem]
    rw [List.pairwise_iff_getElem] at hpw
    intro i j hi hj hij
    have h1 := key_lt (hx _ (List.getElem_mem hi)) (hx _ (List.getElem_mem hj)) (hpw i j hi hj hij)
    have h2 := hk _ (List.getElem_mem hi)
    have h3 := hk _ (List.getElem_mem hj)
    split <;> split <;> omega) (by
    intro y hy
    obtain ⟨h, hh, rfl⟩ := List.mem_map.1 hy
    have h1 := hx h hh
    have h2 := hk h hh
    unfold sm at h1 hp
    unfold key at h2 ⊢
    split <;> omega)
  rw [List.length_map] at hl
  omega
theorem compat_mid (kd n : Int) (a : Int × Int) (A B : List (Int × Int)) : compat kd n (A ++ a :: B) = compat kd n (a :: (A ++ B)) := by
  have e1 : (A ++ a :: B).all (fun a => permitted kd n a.1 a.2) = (a :: (A ++ B)).all (fun a => permitted kd n a.1 a.2) := by
    rw [Bool.eq_iff_iff]
    simp only [List.all_eq_true, List.mem_append, List.mem_cons]
    constructor
    · intro h x hx
      exact h x (by rcases hx with h1 | h1 | h1 <;> simp [h1])
    · intro h x hx
      exact h x (by rcases hx with h1 | h1 | h1 <;> simp [h1])
  have e2 : units (A ++ a :: B) = units (a :: (A ++ B)) := by
    rw [units_app, units_cons, units_cons, units_app]
    omega
  have e3 : pw (A ++ a :: B) = pw (a :: (A ++ B)) := by
    rw [pw_app, pw, pw, pw_app, List.all_append]
    rw [Bool.eq_iff_iff]
    simp only [Bool.and_eq_true, List.all_eq_true, List.all_cons]
    constructor
    · rintro ⟨⟨h1, h2, h3⟩, h4⟩
      exact ⟨⟨fun x hx => by rw [okp_comm]; exact (h4 x hx).1, h2⟩, ⟨h1, h3⟩, fun x hx => (h4 x hx).2⟩
    · rintro ⟨⟨h1, h2⟩, ⟨h3, h4⟩, h5⟩
      exact ⟨⟨h3, h2, h4⟩, fun x hx => ⟨by rw [okp_comm]; exact h1 x hx, h5 x hx⟩⟩
  unfold compat
  rw [e1, e2, e3]
theorem dw_above (p0 p1 p2 : Int) : ∀ l : List S53, l.Pairwise blw → ∀ h ∈ l.dropWhile (fun h => !abv p0 p1 p2 h), abv p0 p1 p2 h = true
  | [], _, h, hh => by simp at hh
  | a :: t, hp, h, hh => by
    have h1 := List.pairwise_cons.1 hp
    cases ha : abv p0 p1 p2 a
    · rw [List.dropWhile_cons_of_pos (by rw [ha]; rfl)] at hh
      exact dw_above p0 p1 p2 t h1.2 h hh
    · rw [List.dropWhile_cons_of_neg (by rw [ha]; simp)] at hh
      rcases List.mem_cons.1 hh with rfl | hm
      · exact ha
      · exact abv_up ha (h1.1 h hm)
theorem prs_amts_app (A B : List S53) : prs (amts (A ++ B)) = prs (amts A) ++ prs (amts B) := by
  unfold prs amts
  rw [List.map_append, List.map_append]
/-- Whether the list with one more grant is valid: whether the amounts go together. -/
theorem valid_set {kd n : Int} {x : List S53} (hv : validS kd n x = true) (hx : ∀ h ∈ x, sm h.f0) (p : S24) (hp : sm p) (m u : Int) (hf : fits kd n m u = true) (hz : zero m u = false) :
    validS kd n (setS x p.f0 p.f1 p.f2 m u) = compat kd n ((m, u) :: prs (amts (others p.f0 p.f1 p.f2 x))) := by
  have hv' := (validS_iff kd n x).1 hv
  obtain ⟨h1, h2, h3, h4, h5⟩ := hv'
  have hs := others_sub p.f0 p.f1 p.f2 x
  have hop := h4.sublist hs
  have hon : ∀ h ∈ others p.f0 p.f1 p.f2 x, isP p.f0 p.f1 p.f2 h = false := fun h hh => by
    have := (List.mem_filter.1 hh).2
    simpa using this
  have hlen := few (others p.f0 p.f1 p.f2 x) p (fun h hh => hx h (hs.subset hh)) hp hop hon
  have e := tw_dw p.f0 p.f1 p.f2 (others p.f0 p.f1 p.f2 x)
  have hc : compat kd n (prs (amts (setS x p.f0 p.f1 p.f2 m u))) = compat kd n ((m, u) :: prs (amts (others p.f0 p.f1 p.f2 x))) := by
    unfold setS putS
    rw [hz, if_neg (by simp), prs_amts_app]
    have e2 : prs (amts (⟨p, ⟨m, u⟩⟩ :: (others p.f0 p.f1 p.f2 x).dropWhile (fun h => !abv p.f0 p.f1 p.f2 h))) = (m, u) :: prs (amts ((others p.f0 p.f1 p.f2 x).dropWhile (fun h => !abv p.f0 p.f1 p.f2 h))) := rfl
    have e3 : (⟨⟨p.f0, p.f1, p.f2⟩, ⟨m, u⟩⟩ : S53) = ⟨p, ⟨m, u⟩⟩ := rfl
    rw [e3, e2, compat_mid, ← prs_amts_app, e]
  rw [Bool.eq_iff_iff, validS_iff, hc]
  constructor
  · rintro ⟨_, _, _, _, h⟩
    exact h
  · intro h
    refine ⟨h1, ?_, ?_, ?_, h⟩
    · have := putS_length p.f0 p.f1 p.f2 m u (others p.f0 p.f1 p.f2 x)
      unfold setS
      omega
    · intro y hy
      rcases mem_setS hy with hm | rfl
      · exact h3 y (hs.subset hm)
      · unfold one
        rw [sm_vp hp, hf]
        rfl
    · unfold setS putS
      rw [hz, if_neg (by simp)]
      rw [← e, List.pairwise_append] at hop
      rw [List.pairwise_append, List.pairwise_cons]
      have hd : ∀ y ∈ (others p.f0 p.f1 p.f2 x).dropWhile (fun h => !abv p.f0 p.f1 p.f2 h), blw ⟨⟨p.f0, p.f1, p.f2⟩, ⟨m, u⟩⟩ y := fun y hy => by
        have ha := dw_above p.f0 p.f1 p.f2 _ (h4.sublist hs) y hy
        unfold abv at ha
        show cmp3 p.f0 p.f1 p.f2 y.f0.f0 y.f0.f1 y.f0.f2 < 0
        rw [decide_eq_true_eq, cmp3_pos] at ha
        rw [cmp3_neg]
        omega
      have ht : ∀ y ∈ (others p.f0 p.f1 p.f2 x).takeWhile (fun h => !abv p.f0 p.f1 p.f2 h), blw y ⟨⟨p.f0, p.f1, p.f2⟩, ⟨m, u⟩⟩ := fun y hy => by
        have hm : y ∈ others p.f0 p.f1 p.f2 x := by rw [← e]; exact List.mem_append_left _ hy
        have hn := hon y hm
        have ha := List.all_takeWhile (p := fun h => !abv p.f0 p.f1 p.f2 h) (l := others p.f0 p.f1 p.f2 x)
        rw [List.all_eq_true] at ha
        have ha := ha y hy
        rw [Bool.not_eq_true', abv, decide_eq_false_iff_not, cmp3_pos] at ha
        show cmp3 y.f0.f0 y.f0.f1 y.f0.f2 p.f0 p.f1 p.f2 < 0
        rw [cmp3_neg]
        rw [Bool.eq_false_iff] at hn
        have hn2 : ¬ (y.f0.f0 = p.f0 ∧ y.f0.f1 = p.f1 ∧ y.f0.f2 = p.f2) := fun hh => hn (isP_of hh)
        omega
      refine ⟨hop.1, ⟨hd, hop.2.1⟩, fun a ha b hb => ?_⟩
      rcases List.mem_cons.1 hb with rfl | hb
      · exact ht a ha
      · exact hop.2.2 a ha b hb
theorem fits_permitted {kd n m u : Int} (h : fits kd n m u = true) : permitted kd n m u = true := by
  unfold permitted
  rw [fits_shaped h, h]
  simp
theorem one_fits {kd n : Int} {h : S53} (ho : one kd n h = true) : fits kd n h.f1.f0 h.f1.f1 = true := by
  unfold one at ho
  rw [Bool.and_eq_true] at ho
  exact ho.2
/-- What stays when those who are against it hold nothing. -/
def restS : List S24 → List S53 → List S53
  | [], x => x
  | q :: l, x => restS l (others q.f0 q.f1 q.f2 x)
theorem restS_sub : ∀ (l : List S24) (x : List S53), (restS l x).Sublist x
  | [], x => List.Sublist.refl x
  | q :: l, x => (restS_sub l _).trans (others_sub _ _ _ x)
theorem restS_mem : ∀ (l : List S24) (x : List S53) (h : S53), h ∈ restS l x → h.f0 ∉ l
  | [], x, h, _ => by simp
  | q :: l, x, h, hh => by
    intro hm
    rcases List.mem_cons.1 hm with he | hm
    · have h1 := (restS_sub l _).subset hh
      have h2 := (List.mem_filter.1 h1).2
      have h3 : isP q.f0 q.f1 q.f2 h = true := isP_of ⟨by rw [he], by rw [he], by rw [he]⟩
      rw [h3] at h2
      simp at h2
    · exact restS_mem l _ h hh hm
theorem compat_two {n m u b v : Int} (ha : permitted 1 n m u = true) (hb : permitted 1 n b v = true) (hs : shaped 1 n = true) : compat 1 n [(b, v), (m, u)] = okp (b, v) (m, u) := by
  unfold compat
  rw [hs]
  simp [ha, hb, pw]
theorem yield {kd n : Int} {x : List S53} (hv : validS kd n x = true) (hx : ∀ h ∈ x, sm h.f0) (p : S24) (hp : sm p) (m u : Int) (hf : fits kd n m u = true) (hz : zero m u = false) :
    (roomS kd n x p.f0 p.f1 p.f2 m u == (((againstS kd n x p.f0 p.f1 p.f2 m u).length : Int) == 0)) = true ∧ roomS kd n (restS (againstS kd n x p.f0 p.f1 p.f2 m u) x) p.f0 p.f1 p.f2 m u = true := by
  have hfit : ∀ y : List S53, validS kd n y = true → fitS kd n y p.f0 p.f1 p.f2 m u = true := fun y hy => by
    unfold fitS
    rw [hy, sm_vp hp, hf]
    rfl
  have hroom : ∀ y : List S53, validS kd n y = true → (∀ h ∈ y, sm h.f0) → roomS kd n y p.f0 p.f1 p.f2 m u = compat kd n ((m, u) :: prs (amts (others p.f0 p.f1 p.f2 y))) := fun y hy hys => by
    unfold roomS
    rw [hfit y hy, Bool.true_and, valid_set hy hys p hp m u hf hz]
  have hx5 := (validS_iff kd n x).1 hv
  have hs := hx5.1
  have hkd : kd = 1 ∨ kd = 2 := by
    simp only [shaped, Bool.or_eq_true, Bool.and_eq_true, beq_iff_eq] at hs
    omega
  have hpa := fits_permitted hf
  cases hr : roomS kd n x p.f0 p.f1 p.f2 m u
  · -- no room
    have hag : againstS kd n x p.f0 p.f1 p.f2 m u = agS kd n x p.f0 p.f1 p.f2 m u := by
      unfold againstS
      rw [hfit x hv, hr]
      rfl
    have hy : validS kd n (restS (agS kd n x p.f0 p.f1 p.f2 m u) x) = true := validS_sub (restS_sub _ x) hv
    have hys : ∀ h ∈ restS (agS kd n x p.f0 p.f1 p.f2 m u) x, sm h.f0 := fun h hh => hx h ((restS_sub _ x).subset hh)
    have hmem : ∀ h ∈ others p.f0 p.f1 p.f2 (restS (agS kd n x p.f0 p.f1 p.f2 m u) x), isAg kd n p.f0 p.f1 p.f2 m u h = false := fun h hh => by
      rw [Bool.eq_false_iff]
      intro ha
      have h1 := (others_sub p.f0 p.f1 p.f2 _).subset hh
      refine restS_mem _ x h h1 ?_
      unfold agS
      exact List.mem_map.2 ⟨h, List.mem_filter.2 ⟨(restS_sub _ x).subset h1, ha⟩, rfl⟩
    have hoth : ∀ h ∈ others p.f0 p.f1 p.f2 (restS (agS kd n x p.f0 p.f1 p.f2 m u) x), isP p.f0 p.f1 p.f2 h = false := fun h hh => by
      have := (List.mem_filter.1 hh).2
      simpa using this
    rw [hag]
    rw [hroom x hv hx] at hr
    constructor
    · -- somebody is against it
      have hne : agS kd n x p.f0 p.f1 p.f2 m u ≠ [] := by
        intro he
        unfold agS at he
        rw [List.map_eq_nil_iff, List.filter_eq_nil_iff] at he
        have hno : ∀ h ∈ others p.f0 p.f1 p.f2 x, kd ≠ 2 ∧ compat kd n [(h.f1.f0, h.f1.f1), (m, u)] = true := fun h hh => by
          have h1 := he h ((others_sub p.f0 p.f1 p.f2 x).subset hh)
          have h2 : isP p.f0 p.f1 p.f2 h = false := by
            have := (List.mem_filter.1 hh).2
            simpa using this
          unfold isAg at h1
          rw [h2] at h1
          simpa using h1
        have hcx := compat_sub (((others_sub p.f0 p.f1 p.f2 x).map (fun h => h.f1)).map (fun a => (a.f0, a.f1))) hx5.2.2.2.2
        have hcx : compat kd n (prs (amts (others p.f0 p.f1 p.f2 x))) = true := hcx
        rw [Bool.eq_false_iff] at hr
        apply hr
        unfold compat at hcx ⊢
        rw [Bool.and_eq_true, Bool.and_eq_true] at hcx
        rw [List.all_cons, hpa, hs, hcx.1.2]
        rcases hkd with rfl | rfl
        · have hp2 := hcx.2
          rw [if_neg (by decide)] at hp2 ⊢
          rw [pw, hp2]
          simp only [Bool.and_true, Bool.true_and, List.all_eq_true]
          intro b hb
          unfold prs amts at hb
          rw [List.map_map] at hb
          obtain ⟨h, hh, rfl⟩ := List.mem_map.1 hb
          have h3 := (hno h hh).2
          rw [compat_two hpa (fits_permitted (one_fits (hx5.2.2.1 h ((others_sub _ _ _ x).subset hh)))) hs] at h3
          rw [okp_comm]
          exact h3
        · have hnil : others p.f0 p.f1 p.f2 x = [] := by
            rw [List.eq_nil_iff_forall_not_mem]
            intro h hh
            exact (hno h hh).1 rfl
          rw [hnil, if_pos rfl]
          have : u ≤ n := by
            unfold fits at hf
            simp only [Bool.and_eq_true] at hf
            have h6 := hf.2
            rw [if_neg (by decide)] at h6
            simp only [Bool.and_eq_true, decide_eq_true_eq] at h6
            exact h6.2
          simp [amts, prs, units, this]
      have hl : ((agS kd n x p.f0 p.f1 p.f2 m u).length : Int) ≠ 0 := by
        have := List.length_pos_iff.2 hne
        omega
      rw [beq_eq_false_iff_ne.mpr hl]
      rfl
    · rw [hroom _ hy hys]
      have hcy := ((validS_iff kd n _).1 (validS_sub (others_sub p.f0 p.f1 p.f2 _) hy)).2.2.2.2
      unfold compat at hcy ⊢
      rw [Bool.and_eq_true, Bool.and_eq_true] at hcy
      rw [List.all_cons, hpa, hs, hcy.1.2]
      rcases hkd with rfl | rfl
      · have hp2 := hcy.2
        rw [if_neg (by decide)] at hp2 ⊢
        rw [pw, hp2]
        simp only [Bool.and_true, Bool.true_and, List.all_eq_true]
        intro b hb
        unfold prs amts at hb
        rw [List.map_map] at hb
        obtain ⟨h, hh, rfl⟩ := List.mem_map.1 hb
        have h3 := hmem h hh
        unfold isAg at h3
        rw [hoth h hh] at h3
        have h4 : compat 1 n [(h.f1.f0, h.f1.f1), (m, u)] = true := by simpa using h3
        rw [compat_two hpa (fits_permitted (one_fits (hx5.2.2.1 h ((restS_sub _ x).subset ((others_sub _ _ _ _).subset hh))))) hs] at h4
        rw [okp_comm]
        exact h4
      · have hnil : others p.f0 p.f1 p.f2 (restS (agS 2 n x p.f0 p.f1 p.f2 m u) x) = [] := by
          rw [List.eq_nil_iff_forall_not_mem]
          intro h hh
          have h3 := hmem h hh
          unfold isAg at h3
          rw [hoth h hh] at h3
          simp at h3
        rw [hnil, if_pos rfl]
        have : u ≤ n := by
          unfold fits at hf
          simp only [Bool.and_eq_true] at hf
          have h6 := hf.2
          rw [if_neg (by decide)] at h6
          simp only [Bool.and_eq_true, decide_eq_true_eq] at h6
          exact h6.2
        simp [amts, prs, units, this]
  · have hag : againstS kd n x p.f0 p.f1 p.f2 m u = [] := by
      unfold againstS
      rw [hfit x hv, hr]
      rfl
    rw [hag]
    exact ⟨rfl, hr⟩
end PA
end Go.Proofs.YtnmemkphfgdplaaDoor


/- HoldersYield: the law in plain Lean. Conditions: none of our own. -/
namespace Go.Proofs.YtnmemkphfgdplaaDoor.PA
open Amt Go.RowKit Go.Proofs.YtnmemkphfgdplaaDoorW.PrintWords Go.Proofs.YtnmemkphfgdplaaDoorW.PrintLast Go.Proofs.YtnmemkphfgdplaaDoorW.PrintMore
set_option linter.unusedVariables false
set_option linter.unusedSimpArgs false
/-- The law as a statement on plain data. -/
def HoldersYield_Pure : Prop := ∀ (x0 : Int) (x1 : List Int) (x2 : Int) (x3 : Int), (Lit.int .i64 x0).wf = true → (x1.length * 8 ≤ 140737488351232 ∧ x1.length ≤ maxLen ∧ ∀ x ∈ x1, (Lit.int .i64 x).wf = true) → (Lit.int .i64 x2).wf = true → (Lit.int .i64 x3).wf = true → ∃ k, clusterlockslaw10_HoldersYield.f k x0 x1 x2 x3 = some true
theorem awake_ev : Ev (fun k => clusterlockslaw10_awake.f k) true := Ev.of (fun k => clusterlockslaw10_awake.mono k) clusterlockslaw10_awake.at
theorem HoldersYield_pure : HoldersYield_Pure := by
  intro x0 x1 x2 x3 _ _ _ _
  by_cases hl : (x1.length : Int) ≤ 300
  · have hl' : x1.length < 1000000 := by omega
    have key : Ev (fun k => clusterlockslaw10_HoldersYield.f k x0 x1 x2 x3) true := by
      unfold clusterlockslaw10_HoldersYield.f
      simp only [light_eq, Option.bind_some, decide_eq_true hl, if_true]
      obtain ⟨s, kd, u, hm, hr, hs⟩ := resource_eq x0
      refine Ev.bind hr ?_
      dsimp only
      have hv := madeS_valid hs x1
      have hsm := madeS_sm (kd := kd) (n := u) x1
      have hlen := valid_len hv
      simp only [proc_eq, amt_eq s kd u hm _ hs, Option.bind_some]
      have hz := amtS_zero kd u x3 hs
      have hf := amtS_fits kd u x3 hs
      refine Ev.bind (made_eq s kd u hm hs x1 hl') ?_
      generalize madeS kd u x1 = x at hv hsm hlen ⊢
      have hp := procS_sm x2
      generalize procS x2 = p at hp ⊢
      generalize amtS kd u x3 = a at hz hf ⊢
      obtain ⟨y1, y2⟩ := yield hv hsm p hp a.1 a.2 hf hz
      have hal := againstS_length kd u x p.f0 p.f1 p.f2 a.1 a.2
      refine Ev.bind (against_eq s kd u hm x p.f0 p.f1 p.f2 a.1 a.2 (by omega)) ?_
      generalize againstS kd u x p.f0 p.f1 p.f2 a.1 a.2 = ag at y1 y2 hal ⊢
      have loop : ∀ (d i : Nat), i + d = ag.length → ∀ y : List S53, y.length ≤ 8 → restS (ag.drop i) y = restS ag x → Ev (fun k => clusterlockslaw10_HoldersYield.l0 k x ag y (i : Int) s kd u hm p.f0 p.f1 p.f2 a.1 a.2) true := by
        intro d
        induction d with
        | zero =>
          intro i hi y hyl hy
          have hd : ag.drop i = [] := by rw [List.drop_eq_nil_iff]; omega
          rw [hd, restS] at hy
          have gx := room_eqh s kd u hm x p.f0 p.f1 p.f2 a.1 a.2 (by omega)
          have gy := room_eqh s kd u hm y p.f0 p.f1 p.f2 a.1 a.2 (by omega)
          rw [hy, y2] at gy
          rw [← hy] at gy
          refine Ev.step (f := fun k => (clusterlockslaw10_awake.f k).bind fun t463 => (if t463 = true then ((holders_Room.f k s kd u hm x p.f0 p.f1 p.f2 a.1 a.2).bind fun t464 => (if (t464 == ((ag.length : Int) == 0)) = true then ((holders_Room.f k s kd u hm y p.f0 p.f1 p.f2 a.1 a.2).bind fun t465 => (some t465)) else (some false))) else (some false))) (fun k => ?_) ?_
          · simp only [clusterlockslaw10_HoldersYield.l0]
            rw [if_neg (by omega)]
          · refine Ev.bind awake_ev ?_
            refine Ev.congr (fun k => if_pos rfl) ?_
            refine Ev.bind gx ?_
            refine Ev.congr (fun k => if_pos y1) ?_
            refine Ev.bind gy ?_
            exact Ev.now true
        | succ d ih =>
          intro i hi y hyl hy
          have hlt : i < ag.length := by omega
          have hw : wrap64 ((i : Int) + 1) = ((i + 1 : Nat) : Int) := by rw [wrap_small (by omega) (by omega)]; omega
          have hdc : ag.drop i = ag[i] :: ag.drop (i + 1) := List.drop_eq_getElem_cons hlt
          rw [hdc, restS] at hy
          have hol := others_length ag[i].f0 ag[i].f1 ag[i].f2 y
          have ih' := ih (i + 1) (by omega) (others ag[i].f0 ag[i].f1 ag[i].f2 y) (by omega) hy
          refine Ev.step (f := fun k => (clusterlocksref10_Set.f k y ag[i].f0 ag[i].f1 ag[i].f2 0 0).bind fun t460 => (clusterlockslaw10_HoldersYield.l0 k x ag t460 ((i + 1 : Nat) : Int) s kd u hm p.f0 p.f1 p.f2 a.1 a.2)) (fun k => ?_) ?_
          · simp only [clusterlockslaw10_HoldersYield.l0, rd_proc ag i hlt]
            rw [if_pos (by omega), if_pos (by omega), hw]
          · refine Ev.bind (rset_eq ag[i].f0 ag[i].f1 ag[i].f2 0 0 y (by omega)) ?_
            exact ih'
      exact loop ag.length 0 (by omega) x (by omega) rfl
    obtain ⟨K, hK⟩ := key
    exact ⟨K, hK K (Nat.le_refl _)⟩
  · obtain ⟨K, hK⟩ := awake_ev
    have h := hK K (Nat.le_refl _)
    refine ⟨K, ?_⟩
    unfold clusterlockslaw10_HoldersYield.f
    simp only [light_eq, Option.bind_some, decide_eq_false hl, Bool.false_eq_true, if_false]
    simp only at h
    rw [h]
    rfl
end Go.Proofs.YtnmemkphfgdplaaDoor.PA

