/- The law AmountCompatible in plain data, with the facts that it needs. Conditions: those of its statement. -/
import Derived.Test.YtlkhdhjdcgiciaaDoorGL
import Derived.IntWalk
import Derived.Test.YtlkhdhjdcgiciaaDoorPAOk
import Derived.Test.YtlkhdhjdcgiciaaDoorPAx10
import Derived.Test.YtlkhdhjdcgiciaaDoorPAx11
import Derived.Test.YtlkhdhjdcgiciaaDoorPAx12
import Derived.Test.YtlkhdhjdcgiciaaDoorPAx13
import Derived.Test.YtlkhdhjdcgiciaaDoorPAx2
import Derived.Test.YtlkhdhjdcgiciaaDoorPAx4
import Derived.Test.YtlkhdhjdcgiciaaDoorPAx7
import Derived.Test.YtlkhdhjdcgiciaaDoorPAx8
namespace Go.Proofs.YtlkhdhjdcgiciaaDoor.Amt
set_option linter.unusedVariables false
def valid (m : Int) : Bool := decide (1 ≤ m) && decide (m ≤ 5)
def shaped (k n : Int) : Bool := (k == 1 && n == 1) || (k == 2 && decide (1 ≤ n) && decide (n ≤ 8))
def zero (m u : Int) : Bool := m == 0 && u == 0
def fits (k n m u : Int) : Bool := shaped k n && (if k = 1 then valid m && u == 0 else m == 0 && decide (1 ≤ u) && decide (u ≤ n))
def permitted (k n m u : Int) : Bool := shaped k n && (zero m u || fits k n m u)
def comp (a b : Int) : Bool := valid a && valid b && a != 5 && b != 5 && (a == 1 || b == 1 || (a == b && a != 4))
/-- Two amounts of a lock that may be held together, or one of which is none. -/
def okp (a b : Int × Int) : Bool := zero a.1 a.2 || zero b.1 b.2 || comp a.1 b.1
/-- The sum of the units. -/
def units (l : List (Int × Int)) : Int := (l.map (·.2)).sum
/-- Each goes with all ahead of it. -/
def pw : List (Int × Int) → Bool
  | [] => true
  | a :: l => l.all (fun b => okp a b) && pw l
def compat (k n : Int) (l : List (Int × Int)) : Bool := shaped k n && l.all (fun a => permitted k n a.1 a.2) && (if k = 2 then decide (units l ≤ n) else pw l)

theorem five {a : Int} (h : 1 ≤ a ∧ a ≤ 5) : a = 1 ∨ a = 2 ∨ a = 3 ∨ a = 4 ∨ a = 5 := by omega
theorem valid_iff {a : Int} : valid a = true ↔ 1 ≤ a ∧ a ≤ 5 := by simp [valid]
theorem tab_comp {a b : Int} (ha : 1 ≤ a ∧ a ≤ 5) (hb : 1 ≤ b ∧ b ≤ 5) : modeTab.getD (a.toNat * 6 + b.toNat) false = comp a b := by
  rcases five ha with rfl | rfl | rfl | rfl | rfl <;> rcases five hb with rfl | rfl | rfl | rfl | rfl <;> rfl
theorem comp_comm (a b : Int) : comp a b = comp b a := by
  rw [Bool.eq_iff_iff]
  simp only [comp, valid, Bool.and_eq_true, Bool.or_eq_true, decide_eq_true_eq, bne_iff_ne, beq_iff_eq]
  omega
theorem okp_comm (a b : Int × Int) : okp a b = okp b a := by
  unfold okp
  rw [comp_comm, Bool.or_comm (zero a.1 a.2)]
theorem permitted_nonneg {k n m u : Int} (h : permitted k n m u = true) : 0 ≤ u ∧ u ≤ 8 := by
  simp only [permitted, fits, shaped, zero, Bool.and_eq_true, Bool.or_eq_true, decide_eq_true_eq, beq_iff_eq] at h
  rcases h with ⟨h1, h2 | ⟨_, h3⟩⟩
  · omega
  · split at h3
    · simp only [Bool.and_eq_true, beq_iff_eq] at h3
      omega
    · simp only [Bool.and_eq_true, beq_iff_eq, decide_eq_true_eq] at h3
      omega
theorem units_cons (a : Int × Int) (l : List (Int × Int)) : units (a :: l) = a.2 + units l := by simp [units]
theorem units_nonneg {k n : Int} : ∀ {l : List (Int × Int)}, l.all (fun a => permitted k n a.1 a.2) = true → 0 ≤ units l ∧ units l ≤ 8 * l.length
  | [], _ => by simp [units]
  | a :: l, h => by
    simp only [List.all_cons, Bool.and_eq_true] at h
    have h1 := permitted_nonneg h.1
    have h2 := units_nonneg h.2
    rw [units_cons, List.length_cons]
    omega
end Go.Proofs.YtlkhdhjdcgiciaaDoor.Amt


/- What the printed functions of the packages mode and amount, and of their references, compute. Conditions: none of our own. -/
namespace Go.Proofs.YtlkhdhjdcgiciaaDoor
open Go.RowKit Go.Proofs.YtlkhdhjdcgiciaaDoorW.PrintWords Go.Proofs.YtlkhdhjdcgiciaaDoorW.PrintLast Go.Proofs.YtlkhdhjdcgiciaaDoorW.PrintMore Amt
namespace PA
set_option linter.unusedVariables false
set_option linter.unusedSimpArgs false
theorem shaped_eq (s : ByteArray) (k n h : Int) : amount_Shaped.f s k n h = some (shaped k n) := by
  unfold amount_Shaped.f shaped
  by_cases h1 : k = 1
  · subst h1; simp
  · rw [if_neg h1]
    by_cases h2 : k = 2
    · subst h2
      by_cases h3 : n ≥ 1
      · rw [if_pos rfl, if_pos h3]; simp [h3]
      · rw [if_pos rfl, if_neg h3]; simp [h3]
    · rw [if_neg h2]; simp [h1, h2]
theorem rshaped_eq (s : ByteArray) (k n h : Int) : clusterlocksref04_Shaped.f s k n h = some (shaped k n) := by
  unfold clusterlocksref04_Shaped.f shaped
  by_cases h1 : k = 1
  · subst h1
    by_cases h3 : n = 1
    · subst h3; simp
    · rw [if_pos rfl, if_neg h3, if_neg (by omega)]; simp [h3]
  · rw [if_neg h1]
    by_cases h2 : k = 2
    · subst h2
      by_cases h3 : n ≥ 1
      · rw [if_pos rfl, if_pos h3]; simp [h3]
      · rw [if_pos rfl, if_neg h3]; simp [h3]
    · rw [if_neg h2]; simp [h1, h2]
theorem valid_eq (m : Int) : mode_Valid.f m = some (valid m) := by
  unfold mode_Valid.f valid
  by_cases h : m ≥ 1
  · rw [if_pos h]; simp [h]
  · rw [if_neg h]; simp [h]
theorem rvalid_eq (m : Int) : clusterlocksref03_Valid.f m = some (valid m) := by
  unfold clusterlocksref03_Valid.f valid
  by_cases h : m ≥ 1
  · rw [if_pos h]; simp [h]
  · rw [if_neg h]; simp [h]
theorem zero_eq (m u : Int) : amount_Zero.f m u = some (zero m u) := rfl
theorem rzero_eq (m u : Int) : clusterlocksref04_Zero.f m u = some (zero m u) := rfl
theorem fits_eq (s : ByteArray) (k n h m u : Int) : amount_Fits.f s k n h m u = some (fits k n m u) := by
  unfold amount_Fits.f fits
  simp only [shaped_eq, valid_eq, Option.bind_some]
  cases h0 : shaped k n
  · simp
  · by_cases h1 : k = 1
    · subst h1
      cases hv : valid m <;> simp [hv]
    · by_cases h2 : m = 0
      · by_cases h3 : u ≥ 1 <;> simp [h1, h2, h3]
      · simp [h1, h2]
theorem rfits_eq (s : ByteArray) (k n h m u : Int) : clusterlocksref04_Fits.f s k n h m u = some (fits k n m u) := by
  unfold clusterlocksref04_Fits.f fits
  simp only [rshaped_eq, rvalid_eq, Option.bind_some]
  cases h0 : shaped k n
  · simp
  · by_cases h1 : k = 1
    · subst h1
      cases hv : valid m <;> simp [hv]
    · by_cases h2 : m = 0
      · by_cases h3 : u ≥ 1 <;> simp [h1, h2, h3]
      · simp [h1, h2]
theorem fits_shaped {k n m u : Int} (h : fits k n m u = true) : shaped k n = true := by
  unfold fits at h
  cases h0 : shaped k n
  · simp [h0] at h
  · rfl
theorem permitted_eq (s : ByteArray) (k n h m u : Int) : amount_permitted.f s k n h m u = some (permitted k n m u) := by
  unfold amount_permitted.f permitted
  simp only [fits_eq, zero_eq, shaped_eq, Option.bind_some]
  cases hf : fits k n m u
  · cases hz : zero m u <;> simp
  · simp [fits_shaped hf]
theorem rpermitted_eq (s : ByteArray) (k n h m u : Int) : clusterlocksref04_Permitted.f s k n h m u = some (permitted k n m u) := by
  unfold clusterlocksref04_Permitted.f permitted
  simp only [rfits_eq, rzero_eq, rshaped_eq, Option.bind_some]
  cases hs : shaped k n <;> cases hz : zero m u <;> simp
theorem mcomp_eq (a b : Int) : mode_Compatible.f a b = some (comp a b) := by
  unfold mode_Compatible.f
  by_cases ha : 1 ≤ a ∧ a ≤ 5
  · by_cases hb : 1 ≤ b ∧ b ≤ 5
    · rw [if_pos ha, if_pos hb, tab_comp ha hb]
    · rw [if_pos ha, if_neg hb]
      have : valid b = false := by rw [Bool.eq_false_iff]; intro h; exact hb (valid_iff.1 h)
      simp [comp, this]
  · rw [if_neg ha]
    have : valid a = false := by rw [Bool.eq_false_iff]; intro h; exact ha (valid_iff.1 h)
    simp [comp, this]
theorem rcomp_eq (a b : Int) : clusterlocksref03_Compatible.f a b = some (comp a b) := by
  unfold clusterlocksref03_Compatible.f comp
  simp only [rvalid_eq, Option.bind_some]
  cases valid a
  · simp
  · cases valid b
    · simp
    · by_cases h1 : a = 5
      · simp [h1]
      · by_cases h2 : b = 5
        · simp [h1, h2]
        · by_cases h3 : a = 1
          · simp [h3, h2]
          · by_cases h4 : b = 1
            · simp [h1, h3, h4]
            · by_cases h5 : a = b
              · subst h5
                have e1 : (a != 5) = true := bne_iff_ne.2 h1
                have e2 : (a == 1) = false := beq_eq_false_iff_ne.2 h3
                simp [h1, h3, e1, e2]
              · simp [h1, h2, h3, h4, h5]
/-- A printed list of amounts as pairs. -/
def prs (l : List S25) : List (Int × Int) := l.map fun x => (x.f0, x.f1)
theorem prs_length (l : List S25) : (prs l).length = l.length := List.length_map _
theorem prs_app (l m : List S25) : prs (l ++ m) = prs l ++ prs m := List.map_append
theorem rd_get (l : List S25) (i : Nat) (h : i < l.length) : rd_T25 l (i : Int) = l[i] := by
  unfold rd_T25
  rw [Int.toNat_natCast, List.getD_eq_getElem?_getD, List.getElem?_eq_getElem h]
  rfl
theorem wrap_small {x : Int} (h0 : -9223372036854775808 ≤ x) (h : x ≤ 9223372036854775807) : wrap64 x = x := by unfold wrap64; omega
end PA
end Go.Proofs.YtlkhdhjdcgiciaaDoor


/- What Covers and Join compute, in the program and in the reference, and that the two agree. Conditions: none of our own. -/
namespace Go.Proofs.YtlkhdhjdcgiciaaDoor
open Go.RowKit Go.Proofs.YtlkhdhjdcgiciaaDoorW.PrintWords Go.Proofs.YtlkhdhjdcgiciaaDoorW.PrintLast Go.Proofs.YtlkhdhjdcgiciaaDoorW.PrintMore Amt
namespace PA
set_option linter.unusedVariables false
set_option linter.unusedSimpArgs false
end PA
end Go.Proofs.YtlkhdhjdcgiciaaDoor


/- What the two functions Compatible compute of a list of amounts, and Room. Conditions: none of our own. -/
namespace Go.Proofs.YtlkhdhjdcgiciaaDoor
open Go.RowKit Go.Proofs.YtlkhdhjdcgiciaaDoorW.PrintWords Go.Proofs.YtlkhdhjdcgiciaaDoorW.PrintLast Go.Proofs.YtlkhdhjdcgiciaaDoorW.PrintMore Amt
namespace PA
set_option linter.unusedVariables false
set_option linter.unusedSimpArgs false
theorem prs_get (l : List S25) (i : Nat) (h : i < l.length) : (prs l)[i]'(by rw [prs_length]; exact h) = ((l[i]).f0, (l[i]).f1) := by simp [prs]
theorem drop_cons {α : Type} (l : List α) (i : Nat) (h : i < l.length) : l.drop i = l[i] :: l.drop (i + 1) := List.drop_eq_getElem_cons h
/-- The inner loop: the rest of what stands ahead goes with the amount (m, u), or the answer is false. -/
theorem compat_l1 (s : ByteArray) (kd n hm : Int) (x1 x13 : List S25) (sm len i m u : Int) (fine : Bool) (y : List S25) (R : Bool) (hy : y.length < 1000000)
    (hR : Ev (fun k => amount_Compatible.l0 k x1 sm fine x13 len (wrap64 (i + 1)) s kd n hm) R) :
    ∀ (d j : Nat), j + d = y.length → Ev (fun k => amount_Compatible.l1 k x1 sm fine x13 len i y (y.length : Int) (j : Int) s kd n hm m u) (if kd = 1 then (if ((prs y).drop j).all (fun b => okp (m, u) b) then R else false) else R) := by
  intro d
  induction d with
  | zero =>
    intro j hj
    have hd : (prs y).drop j = [] := by rw [List.drop_eq_nil_iff, prs_length]; omega
    rw [hd]
    have e : (if kd = 1 then (if ([] : List (Int × Int)).all (fun b => okp (m, u) b) then R else false) else R) = R := by simp
    rw [e]
    refine Ev.step (fun k => ?_) hR
    simp only [amount_Compatible.l1]
    rw [if_neg (by omega)]
  | succ d ih =>
    intro j hj
    have hlt : j < y.length := by omega
    have ih' := ih (j + 1) (by omega)
    have hw : wrap64 ((j : Int) + 1) = ((j + 1 : Nat) : Int) := by rw [wrap_small (by omega) (by omega)]; omega
    have hdc : (prs y).drop j = ((y[j]).f0, (y[j]).f1) :: (prs y).drop (j + 1) := by
      rw [drop_cons (prs y) j (by rw [prs_length]; exact hlt), prs_get y j hlt]
    by_cases hk : kd = 1
    · rw [if_pos hk] at ih' ⊢
      rw [hdc, List.all_cons]
      cases hz : zero m u
      · cases hz2 : zero (y[j]).f0 (y[j]).f1
        · cases hc : comp m (y[j]).f0
          · have : okp (m, u) ((y[j]).f0, (y[j]).f1) = false := by simp [okp, hz, hz2, hc]
            rw [this]
            simp only [Bool.false_and, Bool.false_eq_true, if_false]
            refine Ev.step (f := fun _ => some false) (fun k => ?_) (Ev.now false)
            simp only [amount_Compatible.l1, zero_eq, mcomp_eq, Option.bind_some, rd_get y j hlt]
            rw [if_pos (by omega), if_pos (by omega), if_pos (by omega), if_pos hk]
            simp [hz, hz2, hc]
          · have : okp (m, u) ((y[j]).f0, (y[j]).f1) = true := by simp [okp, hc]
            rw [this, Bool.true_and]
            refine Ev.step (fun k => ?_) ih'
            simp only [amount_Compatible.l1, zero_eq, mcomp_eq, Option.bind_some, rd_get y j hlt]
            rw [if_pos (by omega), if_pos (by omega), if_pos (by omega), if_pos hk, hw]
            simp [hz, hz2, hc]
        · have : okp (m, u) ((y[j]).f0, (y[j]).f1) = true := by simp [okp, hz2]
          rw [this, Bool.true_and]
          refine Ev.step (fun k => ?_) ih'
          simp only [amount_Compatible.l1, zero_eq, mcomp_eq, Option.bind_some, rd_get y j hlt]
          rw [if_pos (by omega), if_pos (by omega), if_pos (by omega), if_pos hk, hw]
          simp [hz, hz2]
      · have : okp (m, u) ((y[j]).f0, (y[j]).f1) = true := by simp [okp, hz]
        rw [this, Bool.true_and]
        refine Ev.step (fun k => ?_) ih'
        simp only [amount_Compatible.l1, zero_eq, mcomp_eq, Option.bind_some, rd_get y j hlt]
        rw [if_pos (by omega), if_pos (by omega), if_pos (by omega), if_pos hk, hw]
        simp [hz]
    · rw [if_neg hk] at ih' ⊢
      refine Ev.step (fun k => ?_) ih'
      simp only [amount_Compatible.l1, zero_eq, mcomp_eq, Option.bind_some, rd_get y j hlt]
      rw [if_pos (by omega), if_pos (by omega), if_pos (by omega), if_neg hk, hw]
/-- What is still to be asked from place i on: the sum so far, and whether the resource is shaped. -/
def rest (kd n : Int) (fine : Bool) : List (Int × Int) → Int → List (Int × Int) → Bool
  | front, sm, [] => fine && (if kd = 2 then decide (sm ≤ n) else true)
  | front, sm, a :: l => permitted kd n a.1 a.2 && (if kd = 1 then front.all (fun b => okp a b) else true) && rest kd n fine (front ++ [a]) (sm + a.2) l
theorem compat_l0 (s : ByteArray) (kd n hm : Int) (x1 : List S25) (fine : Bool) (hy : x1.length < 1000) :
    ∀ (d i : Nat), i + d = x1.length → ∀ (sm : Int), 0 ≤ sm → sm ≤ 8 * i → Ev (fun k => amount_Compatible.l0 k x1 sm fine x1 (x1.length : Int) (i : Int) s kd n hm) (rest kd n fine ((prs x1).take i) sm ((prs x1).drop i)) := by
  intro d
  induction d with
  | zero =>
    intro i hi sm h0 h1
    have hd : (prs x1).drop i = [] := by rw [List.drop_eq_nil_iff, prs_length]; omega
    rw [hd]
    refine Ev.step (f := fun _ => some (rest kd n fine ((prs x1).take i) sm [])) (fun k => ?_) (Ev.now _)
    simp only [amount_Compatible.l0, rest]
    rw [if_neg (by omega)]
    cases fine <;> by_cases h2 : kd = 2 <;> simp [h2]
  | succ d ih =>
    intro i hi sm h0 h1
    have hlt : i < x1.length := by omega
    have hdc : (prs x1).drop i = ((x1[i]).f0, (x1[i]).f1) :: (prs x1).drop (i + 1) := by
      rw [drop_cons (prs x1) i (by rw [prs_length]; exact hlt), prs_get x1 i hlt]
    rw [hdc, rest]
    cases hp : permitted kd n (x1[i]).f0 (x1[i]).f1
    · simp only [Bool.false_and]
      refine Ev.step (f := fun _ => some false) (fun k => ?_) (Ev.now _)
      simp only [amount_Compatible.l0, permitted_eq, Option.bind_some, rd_get x1 i hlt, hp]
      rw [if_pos (by omega), if_pos (by omega), if_pos (by omega)]
      simp
    · have hu := permitted_nonneg hp
      have ih' := ih (i + 1) (by omega) (sm + (x1[i]).f1) (by omega) (by omega)
      have hw : wrap64 ((i : Int) + 1) = ((i + 1 : Nat) : Int) := by rw [wrap_small (by omega) (by omega)]; omega
      have hs : wrap64 (sm + (x1[i]).f1) = sm + (x1[i]).f1 := wrap_small (by omega) (by omega)
      have htk : (prs x1).take (i + 1) = (prs x1).take i ++ [((x1[i]).f0, (x1[i]).f1)] := by
        rw [List.take_succ_eq_append_getElem (by rw [prs_length]; exact hlt), prs_get x1 i hlt]
      rw [htk] at ih'
      rw [← hw] at ih'
      have hyl : (x1.take i).length < 1000000 := by rw [List.length_take]; omega
      have l1 := compat_l1 s kd n hm x1 x1 (sm + (x1[i]).f1) (x1.length : Int) (i : Int) (x1[i]).f0 (x1[i]).f1 fine (x1.take i) _ hyl ih' (x1.take i).length 0 (by omega)
      refine Ev.step (fun k => ?_) (?_ : Ev (fun k => amount_Compatible.l1 k x1 (sm + (x1[i]).f1) fine x1 (x1.length : Int) (i : Int) (x1.take i) ((x1.take i).length : Int) ((0 : Nat) : Int) s kd n hm (x1[i]).f0 (x1[i]).f1) _)
      · simp only [amount_Compatible.l0, permitted_eq, Option.bind_some, rd_get x1 i hlt, hp, hs, Int.toNat_natCast]
        rw [if_pos (by omega), if_pos (by omega), if_pos (by omega)]
        simp only [if_true]
        rw [if_pos (by omega)]
        rfl
      · have e : prs (x1.take i) = (prs x1).take i := List.map_take
        rw [e, List.drop_zero] at l1
        rw [Bool.true_and]
        by_cases hk : kd = 1
        · rw [if_pos hk] at l1 ⊢
          cases ha : ((prs x1).take i).all (fun b => okp ((x1[i]).f0, (x1[i]).f1) b)
          · rw [ha] at l1
            simpa using l1
          · rw [ha] at l1
            simpa using l1
        · rw [if_neg hk] at l1 ⊢
          rw [Bool.true_and]
          exact l1
theorem rest_eq (kd n : Int) (fine : Bool) : ∀ (l front : List (Int × Int)) (sm : Int), rest kd n fine front sm l = (fine && l.all (fun a => permitted kd n a.1 a.2) && (if kd = 2 then decide (sm + units l ≤ n) else true) && (if kd = 1 then pw l && l.all (fun a => front.all (fun b => okp a b)) else true))
  | [], front, sm => by
    simp only [rest, units, List.map_nil, List.sum_nil, List.all_nil, pw, Int.add_zero]
    cases fine <;> simp
  | a :: l, front, sm => by
    rw [rest, rest_eq kd n fine l, units_cons, Int.add_assoc]
    simp only [List.all_cons, pw]
    by_cases h1 : kd = 1
    · simp only [if_pos h1, if_neg (show ¬ kd = 2 by omega), List.all_append, List.all_cons, List.all_nil, Bool.and_true]
      have e : (l.all fun c => front.all (fun b => okp c b) && okp c a) = ((l.all fun c => front.all (fun b => okp c b)) && l.all (fun b => okp a b)) := by
        rw [Bool.eq_iff_iff]
        simp only [List.all_eq_true, Bool.and_eq_true]
        constructor
        · intro h
          exact ⟨fun c hc => (h c hc).1, fun c hc => by rw [okp_comm]; exact (h c hc).2⟩
        · intro h c hc
          exact ⟨h.1 c hc, by rw [okp_comm]; exact h.2 c hc⟩
      rw [e]
      generalize permitted kd n a.1 a.2 = b1
      generalize front.all (fun b => okp a b) = b2
      generalize l.all (fun a => permitted kd n a.1 a.2) = b3
      generalize pw l = b4
      generalize (l.all fun c => front.all (fun b => okp c b)) = b5
      generalize l.all (fun b => okp a b) = b6
      cases b1 <;> cases b2 <;> cases b3 <;> cases b4 <;> cases b5 <;> cases b6 <;> cases fine <;> rfl
    · simp only [if_neg h1, Bool.and_true]
      generalize permitted kd n a.1 a.2 = b1
      generalize l.all (fun a => permitted kd n a.1 a.2) = b3
      cases b1 <;> cases b3 <;> cases fine <;> rfl
theorem compat_eq (s : ByteArray) (kd n hm : Int) (l : List S25) (hl : l.length < 1000) : Ev (fun k => amount_Compatible.f k s kd n hm l) (compat kd n (prs l)) := by
  have h := compat_l0 s kd n hm l (shaped kd n) hl l.length 0 (by omega) 0 (by omega) (by omega)
  rw [List.take_zero, List.drop_zero, rest_eq] at h
  have e : compat kd n (prs l) = (shaped kd n && (prs l).all (fun a => permitted kd n a.1 a.2) && (if kd = 2 then decide (0 + units (prs l) ≤ n) else true) && (if kd = 1 then pw (prs l) && (prs l).all (fun a => ([] : List (Int × Int)).all (fun b => okp a b)) else true)) := by
    unfold compat
    rw [Int.zero_add]
    have e2 : ((prs l).all fun a => ([] : List (Int × Int)).all (fun b => okp a b)) = true := by simp
    rw [e2, Bool.and_true]
    cases hs : shaped kd n
    · simp
    · have : kd = 1 ∨ kd = 2 := by
        simp only [shaped, Bool.or_eq_true, Bool.and_eq_true, beq_iff_eq] at hs
        omega
      rcases this with rfl | rfl <;> simp
  rw [e]
  refine Ev.congr (fun k => ?_) h
  unfold amount_Compatible.f
  simp only [shaped_eq, Option.bind_some]
  rfl
theorem room_eq (s : ByteArray) (kd n hm m u : Int) (l : List S25) (hl : l.length < 900) : Ev (fun k => amount_Room.f k s kd n hm l m u) (compat kd n (prs l ++ [(m, u)])) := by
  have h := compat_eq s kd n hm (l ++ [⟨m, u⟩]) (by rw [List.length_append, List.length_singleton]; omega)
  rw [prs_app] at h
  refine Ev.congr (fun k => ?_) h
  unfold amount_Room.f
  rw [if_pos (by omega)]
end PA
end Go.Proofs.YtlkhdhjdcgiciaaDoor


/- What the reference's function Compatible computes of a list of amounts, and its Room. Conditions: none of our own. -/
namespace Go.Proofs.YtlkhdhjdcgiciaaDoor
open Go.RowKit Go.Proofs.YtlkhdhjdcgiciaaDoorW.PrintWords Go.Proofs.YtlkhdhjdcgiciaaDoorW.PrintLast Go.Proofs.YtlkhdhjdcgiciaaDoorW.PrintMore Amt
namespace PA
set_option linter.unusedVariables false
set_option linter.unusedSimpArgs false
theorem rcompat_l1 (s : ByteArray) (kd n hm : Int) (x1 : List S25) (sm : Int) (i : Nat) (hi : i < x1.length) (hy : x1.length < 1000000) (R : Bool)
    (hR : Ev (fun k => clusterlocksref04_Compatible.l0 k x1 sm (wrap64 ((i : Int) + 1)) s kd n hm) R) :
    ∀ (d j : Nat), j + d = i → Ev (fun k => clusterlocksref04_Compatible.l1 k x1 sm (i : Int) (j : Int) s kd n hm) (if (((prs x1).take i).drop j).all (fun b => okp ((x1[i]).f0, (x1[i]).f1) b) then R else false) := by
  intro d
  induction d with
  | zero =>
    intro j hj
    have hd : ((prs x1).take i).drop j = [] := by rw [List.drop_eq_nil_iff, List.length_take, prs_length]; omega
    rw [hd]
    simp only [List.all_nil, if_true]
    refine Ev.step (fun k => ?_) hR
    simp only [clusterlocksref04_Compatible.l1]
    rw [if_neg (by omega)]
  | succ d ih =>
    intro j hj
    have hlt : j < i := by omega
    have ih' := ih (j + 1) (by omega)
    have hw : wrap64 ((j : Int) + 1) = ((j + 1 : Nat) : Int) := by rw [wrap_small (by omega) (by omega)]; omega
    have hdc : ((prs x1).take i).drop j = ((x1[j]).f0, (x1[j]).f1) :: ((prs x1).take i).drop (j + 1) := by
      rw [drop_cons ((prs x1).take i) j (by rw [List.length_take, prs_length]; omega), List.getElem_take, prs_get x1 j (by omega)]
    rw [hdc, List.all_cons]
    cases hz : zero (x1[i]).f0 (x1[i]).f1
    · cases hz2 : zero (x1[j]).f0 (x1[j]).f1
      · cases hc : comp (x1[i]).f0 (x1[j]).f0
        · have : okp ((x1[i]).f0, (x1[i]).f1) ((x1[j]).f0, (x1[j]).f1) = false := by simp [okp, hz, hz2, hc]
          rw [this]
          simp only [Bool.false_and, Bool.false_eq_true, if_false]
          refine Ev.step (f := fun _ => some false) (fun k => ?_) (Ev.now false)
          simp only [clusterlocksref04_Compatible.l1, rzero_eq, rcomp_eq, Option.bind_some, rd_get x1 i hi, rd_get x1 j (show j < x1.length by omega), hz, hz2, hc]
          rw [if_pos (by omega), if_pos (by omega), if_pos (by omega), if_neg (by decide), if_pos (by omega), if_pos (by omega), if_neg (by decide), if_neg (by decide)]
        · have : okp ((x1[i]).f0, (x1[i]).f1) ((x1[j]).f0, (x1[j]).f1) = true := by simp [okp, hc]
          rw [this, Bool.true_and]
          refine Ev.step (fun k => ?_) ih'
          simp only [clusterlocksref04_Compatible.l1, rzero_eq, rcomp_eq, Option.bind_some, rd_get x1 i hi, rd_get x1 j (show j < x1.length by omega), hz, hz2, hc]
          rw [if_pos (by omega), if_pos (by omega), if_pos (by omega), if_neg (by decide), if_pos (by omega), if_pos (by omega), if_neg (by decide), if_pos trivial, hw]
      · have : okp ((x1[i]).f0, (x1[i]).f1) ((x1[j]).f0, (x1[j]).f1) = true := by simp [okp, hz2]
        rw [this, Bool.true_and]
        refine Ev.step (fun k => ?_) ih'
        simp only [clusterlocksref04_Compatible.l1, rzero_eq, rcomp_eq, Option.bind_some, rd_get x1 i hi, rd_get x1 j (show j < x1.length by omega), hz, hz2]
        rw [if_pos (by omega), if_pos (by omega), if_pos (by omega), if_neg (by decide), if_pos (by omega), if_pos (by omega), if_pos trivial, hw]
    · have : okp ((x1[i]).f0, (x1[i]).f1) ((x1[j]).f0, (x1[j]).f1) = true := by simp [okp, hz]
      rw [this, Bool.true_and]
      refine Ev.step (fun k => ?_) ih'
      simp only [clusterlocksref04_Compatible.l1, rzero_eq, rcomp_eq, Option.bind_some, rd_get x1 i hi, hz]
      rw [if_pos (by omega), if_pos (by omega), if_pos (by omega), if_pos trivial, hw]
def rrest (kd n : Int) : List (Int × Int) → Int → List (Int × Int) → Bool
  | front, sm, [] => true
  | front, sm, a :: l => permitted kd n a.1 a.2 && (if kd = 2 then decide (sm + a.2 ≤ n) && rrest kd n (front ++ [a]) (sm + a.2) l else front.all (fun b => okp a b) && rrest kd n (front ++ [a]) sm l)
theorem rcompat_l0 (s : ByteArray) (kd n hm : Int) (x1 : List S25) (hy : x1.length < 1000) :
    ∀ (d i : Nat), i + d = x1.length → ∀ (sm : Int), 0 ≤ sm → sm ≤ 8 * i → Ev (fun k => clusterlocksref04_Compatible.l0 k x1 sm (i : Int) s kd n hm) (rrest kd n ((prs x1).take i) sm ((prs x1).drop i)) := by
  intro d
  induction d with
  | zero =>
    intro i hi sm h0 h1
    have hd : (prs x1).drop i = [] := by rw [List.drop_eq_nil_iff, prs_length]; omega
    rw [hd]
    refine Ev.step (f := fun _ => some true) (fun k => ?_) (Ev.now _)
    simp only [clusterlocksref04_Compatible.l0]
    rw [if_neg (by omega)]
  | succ d ih =>
    intro i hi sm h0 h1
    have hlt : i < x1.length := by omega
    have hdc : (prs x1).drop i = ((x1[i]).f0, (x1[i]).f1) :: (prs x1).drop (i + 1) := by
      rw [drop_cons (prs x1) i (by rw [prs_length]; exact hlt), prs_get x1 i hlt]
    rw [hdc, rrest]
    cases hp : permitted kd n (x1[i]).f0 (x1[i]).f1
    · simp only [Bool.false_and]
      refine Ev.step (f := fun _ => some false) (fun k => ?_) (Ev.now _)
      simp only [clusterlocksref04_Compatible.l0, rpermitted_eq, Option.bind_some, rd_get x1 i hlt, hp]
      rw [if_pos (by omega), if_pos (by omega), if_neg (by decide)]
    · have hu := permitted_nonneg hp
      have hw : wrap64 ((i : Int) + 1) = ((i + 1 : Nat) : Int) := by rw [wrap_small (by omega) (by omega)]; omega
      have hs : wrap64 (sm + (x1[i]).f1) = sm + (x1[i]).f1 := wrap_small (by omega) (by omega)
      have htk : (prs x1).take (i + 1) = (prs x1).take i ++ [((x1[i]).f0, (x1[i]).f1)] := by
        rw [List.take_succ_eq_append_getElem (by rw [prs_length]; exact hlt), prs_get x1 i hlt]
      rw [Bool.true_and]
      by_cases hk : kd = 2
      · rw [if_pos hk]
        by_cases hgt : sm + (x1[i]).f1 ≤ n
        · have ih' := ih (i + 1) (by omega) (sm + (x1[i]).f1) (by omega) (by omega)
          rw [htk, ← hw] at ih'
          rw [decide_eq_true hgt, Bool.true_and]
          refine Ev.step (fun k => ?_) ih'
          simp only [clusterlocksref04_Compatible.l0, rpermitted_eq, Option.bind_some, rd_get x1 i hlt, hp, hs]
          rw [if_pos (by omega), if_pos (by omega), if_pos trivial, if_pos hk, if_neg (by omega)]
        · rw [decide_eq_false hgt, Bool.false_and]
          refine Ev.step (f := fun _ => some false) (fun k => ?_) (Ev.now _)
          simp only [clusterlocksref04_Compatible.l0, rpermitted_eq, Option.bind_some, rd_get x1 i hlt, hp, hs]
          rw [if_pos (by omega), if_pos (by omega), if_pos trivial, if_pos hk, if_pos (by omega)]
      · rw [if_neg hk]
        have ih' := ih (i + 1) (by omega) sm (by omega) (by omega)
        rw [htk, ← hw] at ih'
        have l1 := rcompat_l1 s kd n hm x1 sm i hlt (by omega) _ ih' i 0 (by omega)
        rw [List.drop_zero] at l1
        refine Ev.step (fun k => ?_) (?_ : Ev (fun k => clusterlocksref04_Compatible.l1 k x1 sm (i : Int) ((0 : Nat) : Int) s kd n hm) _)
        · simp only [clusterlocksref04_Compatible.l0, rpermitted_eq, Option.bind_some, rd_get x1 i hlt, hp]
          rw [if_pos (by omega), if_pos (by omega), if_pos trivial, if_neg hk]
          rfl
        · cases ha : ((prs x1).take i).all (fun b => okp ((x1[i]).f0, (x1[i]).f1) b)
          · rw [ha] at l1
            simpa using l1
          · rw [ha] at l1
            simpa using l1
theorem rrest_eq2 (n : Int) : ∀ (l front : List (Int × Int)) (sm : Int), sm ≤ n → rrest 2 n front sm l = (l.all (fun a => permitted 2 n a.1 a.2) && decide (sm + units l ≤ n))
  | [], front, sm, h => by simp [rrest, units, h]
  | a :: l, front, sm, h => by
    rw [rrest, if_pos rfl, units_cons, ← Int.add_assoc, List.all_cons]
    by_cases hs : sm + a.2 ≤ n
    · rw [rrest_eq2 n l _ _ hs, decide_eq_true hs, Bool.true_and, Bool.and_assoc]
    · rw [decide_eq_false hs, Bool.false_and, Bool.and_false]
      cases hp : l.all (fun a => permitted 2 n a.1 a.2)
      · simp
      · have := units_nonneg hp
        rw [decide_eq_false (by omega), Bool.and_false]
theorem rrest_eq1 (kd n : Int) (hk : ¬ kd = 2) : ∀ (l front : List (Int × Int)) (sm : Int), rrest kd n front sm l = (l.all (fun a => permitted kd n a.1 a.2) && (pw l && l.all (fun a => front.all (fun b => okp a b))))
  | [], front, sm => by simp [rrest, pw]
  | a :: l, front, sm => by
    rw [rrest, if_neg hk, rrest_eq1 kd n hk l]
    simp only [List.all_cons, pw, List.all_append, List.all_nil, Bool.and_true]
    have e : (l.all fun c => front.all (fun b => okp c b) && okp c a) = ((l.all fun c => front.all (fun b => okp c b)) && l.all (fun b => okp a b)) := by
      rw [Bool.eq_iff_iff]
      simp only [List.all_eq_true, Bool.and_eq_true]
      constructor
      · intro h
        exact ⟨fun c hc => (h c hc).1, fun c hc => by rw [okp_comm]; exact (h c hc).2⟩
      · intro h c hc
        exact ⟨h.1 c hc, by rw [okp_comm]; exact h.2 c hc⟩
    rw [e]
    generalize permitted kd n a.1 a.2 = b1
    generalize front.all (fun b => okp a b) = b2
    generalize l.all (fun a => permitted kd n a.1 a.2) = b3
    generalize pw l = b4
    generalize (l.all fun c => front.all (fun b => okp c b)) = b5
    generalize l.all (fun b => okp a b) = b6
    cases b1 <;> cases b2 <;> cases b3 <;> cases b4 <;> cases b5 <;> cases b6 <;> rfl
theorem rcompat_eq (s : ByteArray) (kd n hm : Int) (l : List S25) (hl : l.length < 1000) : Ev (fun k => clusterlocksref04_Compatible.f k s kd n hm l) (compat kd n (prs l)) := by
  cases hs : shaped kd n
  · have e : compat kd n (prs l) = false := by simp [compat, hs]
    rw [e]
    refine Ev.congr (f := fun _ => some false) (fun k => ?_) (Ev.now _)
    unfold clusterlocksref04_Compatible.f
    simp only [rshaped_eq, Option.bind_some, hs]
    rfl
  · have h := rcompat_l0 s kd n hm l hl l.length 0 (by omega) 0 (by omega) (by omega)
    rw [List.take_zero, List.drop_zero] at h
    have e : compat kd n (prs l) = rrest kd n [] 0 (prs l) := by
      unfold compat
      rw [hs, Bool.true_and]
      by_cases hk : kd = 2
      · subst hk
        have hn : (0 : Int) ≤ n := by
          simp only [shaped, Bool.or_eq_true, Bool.and_eq_true, beq_iff_eq, decide_eq_true_eq] at hs
          omega
        rw [rrest_eq2 n _ _ _ hn, Int.zero_add, if_pos rfl]
      · rw [rrest_eq1 kd n hk, if_neg hk]
        have e2 : ((prs l).all fun a => ([] : List (Int × Int)).all (fun b => okp a b)) = true := by simp
        rw [e2, Bool.and_true]
    rw [e]
    refine Ev.congr (fun k => ?_) h
    unfold clusterlocksref04_Compatible.f
    simp only [rshaped_eq, Option.bind_some, hs]
    rfl
end PA
end Go.Proofs.YtlkhdhjdcgiciaaDoor


/- The sanity check of the amounts' laws, and how amounts are written. Conditions: none of our own. -/
namespace Go.Proofs.YtlkhdhjdcgiciaaDoor
open Go.RowKit Go.Proofs.YtlkhdhjdcgiciaaDoorW.PrintWords Go.Proofs.YtlkhdhjdcgiciaaDoorW.PrintLast Go.Proofs.YtlkhdhjdcgiciaaDoorW.PrintMore Amt
namespace PA
set_option linter.unusedVariables false
set_option linter.unusedSimpArgs false
theorem awake_at : clusterlockslaw04_awake.f 30 = some true := by decide +kernel
theorem awake_ev : Ev (fun k => clusterlockslaw04_awake.f k) true := Ev.of (fun k => clusterlockslaw04_awake.mono k) awake_at
end PA
end Go.Proofs.YtlkhdhjdcgiciaaDoor


/- Permitted amounts form a lattice; lists of amounts that may be held together: in plain Lean. Conditions: none of our own. -/
namespace Go.Proofs.YtlkhdhjdcgiciaaDoor
open Go.RowKit Go.Proofs.YtlkhdhjdcgiciaaDoorW.PrintWords Go.Proofs.YtlkhdhjdcgiciaaDoorW.PrintLast Go.Proofs.YtlkhdhjdcgiciaaDoorW.PrintMore Amt
namespace PA
set_option linter.unusedVariables false
set_option linter.unusedSimpArgs false
/-! ### Lists -/
end PA
end Go.Proofs.YtlkhdhjdcgiciaaDoor


/- AmountCompatible -/
namespace Go.Proofs.YtlkhdhjdcgiciaaDoor.PA
open Go.RowKit Go.Proofs.YtlkhdhjdcgiciaaDoorW.PrintWords Go.Proofs.YtlkhdhjdcgiciaaDoorW.PrintLast Go.Proofs.YtlkhdhjdcgiciaaDoorW.PrintMore
open Amt
set_option linter.unusedVariables false
set_option linter.unusedSimpArgs false
/-- The law as a statement on plain data. -/
def AmountCompatible_Pure : Prop := ∀ (x0 : S23) (x1 : List S25) (x2 : S25), ok23 x0 → (x1.length * 16 ≤ 140737488351232 ∧ x1.length ≤ maxLen ∧ ∀ x ∈ x1, ok25 x) → ok25 x2 → ∃ k, clusterlockslaw04_AmountCompatible.f k x0.f0 x0.f1 x0.f2 x0.f3 x1 x2.f0 x2.f1 = some true
theorem AmountCompatible_pure : AmountCompatible_Pure := by
  intro x0 x1 x2 _ _ _
  obtain ⟨K, hK⟩ := awake_ev
  by_cases hl : (x1.length : Int) > 100
  · refine ⟨K, ?_⟩
    unfold clusterlockslaw04_AmountCompatible.f
    have h := hK K (by omega)
    simp only at h
    rw [if_pos hl, h]
    rfl
  · obtain ⟨K1, hK1⟩ := compat_eq x0.f0 x0.f1 x0.f2 x0.f3 x1 (by omega)
    obtain ⟨K2, hK2⟩ := rcompat_eq x0.f0 x0.f1 x0.f2 x0.f3 x1 (by omega)
    obtain ⟨K3, hK3⟩ := room_eq x0.f0 x0.f1 x0.f2 x0.f3 x2.f0 x2.f1 x1 (by omega)
    obtain ⟨K4, hK4⟩ := rcompat_eq x0.f0 x0.f1 x0.f2 x0.f3 (x1 ++ [⟨x2.f0, x2.f1⟩]) (by simp; omega)
    rw [prs_app] at hK4
    have h := hK (K + K1 + K2 + K3 + K4) (by omega)
    have h1 := hK1 (K + K1 + K2 + K3 + K4) (by omega)
    have h2 := hK2 (K + K1 + K2 + K3 + K4) (by omega)
    have h3 := hK3 (K + K1 + K2 + K3 + K4) (by omega)
    have h4 := hK4 (K + K1 + K2 + K3 + K4) (by omega)
    simp only at h h1 h2 h3 h4
    refine ⟨K + K1 + K2 + K3 + K4, ?_⟩
    unfold clusterlockslaw04_AmountCompatible.f
    rw [if_neg hl]
    have hr : clusterlocksref04_Room.f (K + K1 + K2 + K3 + K4) x0.f0 x0.f1 x0.f2 x0.f3 x1 x2.f0 x2.f1 = some (compat x0.f1 x0.f2 (prs x1 ++ [(x2.f0, x2.f1)])) := by
      unfold clusterlocksref04_Room.f
      simp only [Option.bind_some, List.nil_append]
      rw [if_pos (by simp; omega), if_pos (by simp; omega), h4]
      rfl
    simp only [h, h1, h2, h3, hr, Option.bind_some]
    simp
end Go.Proofs.YtlkhdhjdcgiciaaDoor.PA

