/- The law HoldersSets in plain data, with the facts that it needs. Conditions: those of its statement. -/
import Derived.Test.YtnmemkphfgdplaaDoorGL
import Derived.IntWalk
import Derived.Test.YtnmemkphfgdplaaDoorT7
import Derived.Test.YtnmemkphfgdplaaDoorPAOk
import Derived.Test.YtnmemkphfgdplaaDoorPLHoldersSets
import Derived.Test.YtnmemkphfgdplaaDoorPAx10
import Derived.Test.YtnmemkphfgdplaaDoorPAx11
import Derived.Test.YtnmemkphfgdplaaDoorPAx4
import Derived.Test.YtnmemkphfgdplaaDoorPAx9
namespace Go.Proofs.YtnmemkphfgdplaaDoor.Amt
set_option linter.unusedVariables false
def zero (m u : Int) : Bool := m == 0 && u == 0
end Go.Proofs.YtnmemkphfgdplaaDoor.Amt


/- What the printed functions of the packages mode and amount, and of their references, compute. Conditions: none of our own. -/
namespace Go.Proofs.YtnmemkphfgdplaaDoor
open Go.RowKit Go.Proofs.YtnmemkphfgdplaaDoorW.PrintWords Go.Proofs.YtnmemkphfgdplaaDoorW.PrintLast Go.Proofs.YtnmemkphfgdplaaDoorW.PrintMore Amt
namespace PA
set_option linter.unusedVariables false
set_option linter.unusedSimpArgs false
theorem zero_eq (m u : Int) : amount_Zero.f m u = some (zero m u) := rfl
theorem rzero_eq (m u : Int) : clusterlocksref04_Zero.f m u = some (zero m u) := rfl
theorem wrap_small {x : Int} (h0 : -9223372036854775808 ≤ x) (h : x ≤ 9223372036854775807) : wrap64 x = x := by unfold wrap64; omega
end PA
end Go.Proofs.YtnmemkphfgdplaaDoor


/- What the two functions Compatible compute of a list of amounts, and Room. Conditions: none of our own. -/
namespace Go.Proofs.YtnmemkphfgdplaaDoor
open Go.RowKit Go.Proofs.YtnmemkphfgdplaaDoorW.PrintWords Go.Proofs.YtnmemkphfgdplaaDoorW.PrintLast Go.Proofs.YtnmemkphfgdplaaDoorW.PrintMore Amt
namespace PA
set_option linter.unusedVariables false
set_option linter.unusedSimpArgs false
theorem drop_cons {α : Type} (l : List α) (i : Nat) (h : i < l.length) : l.drop i = l[i] :: l.drop (i + 1) := List.drop_eq_getElem_cons h
end PA
end Go.Proofs.YtnmemkphfgdplaaDoor


/- What the reference's function Compatible computes of a list of amounts, and its Room. Conditions: none of our own. -/
namespace Go.Proofs.YtnmemkphfgdplaaDoor
open Go.RowKit Go.Proofs.YtnmemkphfgdplaaDoorW.PrintWords Go.Proofs.YtnmemkphfgdplaaDoorW.PrintLast Go.Proofs.YtnmemkphfgdplaaDoorW.PrintMore Amt
namespace PA
set_option linter.unusedVariables false
set_option linter.unusedSimpArgs false
end PA
end Go.Proofs.YtnmemkphfgdplaaDoor


/- Grants in plain Lean: what Set, place and their reference compute. Conditions: none of our own. -/
namespace Go.Proofs.YtnmemkphfgdplaaDoor
open Go.RowKit Go.Proofs.YtnmemkphfgdplaaDoorW.PrintWords Go.Proofs.YtnmemkphfgdplaaDoorW.PrintLast Go.Proofs.YtnmemkphfgdplaaDoorW.PrintMore Amt
namespace PA
set_option linter.unusedVariables false
set_option linter.unusedSimpArgs false
theorem rd_hold (l : List S53) (i : Nat) (h : i < l.length) : rd_T53 l (i : Int) = l[i] := by
  unfold rd_T53
  rw [Int.toNat_natCast, List.getD_eq_getElem?_getD, List.getElem?_eq_getElem h]
  rfl
theorem cmp3_pos (a0 a1 a2 b0 b1 b2 : Int) : cmp3 a0 a1 a2 b0 b1 b2 > 0 ↔ (b0 < a0 ∨ (b0 = a0 ∧ (b1 < a1 ∨ (b1 = a1 ∧ b2 < a2)))) := by
  unfold cmp3
  repeat' split
  all_goals omega
theorem cmp3_neg (a0 a1 a2 b0 b1 b2 : Int) : cmp3 a0 a1 a2 b0 b1 b2 < 0 ↔ (a0 < b0 ∨ (a0 = b0 ∧ (a1 < b1 ∨ (a1 = b1 ∧ a2 < b2)))) := by
  unfold cmp3
  repeat' split
  all_goals omega
theorem rcmp_eq (a0 a1 a2 b0 b1 b2 : Int) : clusterlocksref02_CompareProc.f a0 a1 a2 b0 b1 b2 = some (cmp3 a0 a1 a2 b0 b1 b2) := by
  unfold clusterlocksref02_CompareProc.f clusterlocksref02_Order.f cmp3
  by_cases h0 : a0 < b0
  · simp [h0]
  · by_cases h1 : a0 > b0
    · simp [h0, h1]
    · by_cases h2 : a1 < b1
      · simp [h0, h1, h2]
      · by_cases h3 : a1 > b1
        · simp [h0, h1, h2, h3]
        · by_cases h4 : a2 < b2
          · simp [h0, h1, h2, h3, h4]
          · by_cases h5 : a2 > b2
            · simp [h0, h1, h2, h3, h4, h5]
            · simp [h0, h1, h2, h3, h4, h5]
def isP (p0 p1 p2 : Int) (h : S53) : Bool := h.f0.f0 == p0 && (h.f0.f1 == p1 && (h.f0.f2 == p2))
def abv (p0 p1 p2 : Int) (h : S53) : Bool := decide (cmp3 h.f0.f0 h.f0.f1 h.f0.f2 p0 p1 p2 > 0)
def others (p0 p1 p2 : Int) (l : List S53) : List S53 := l.filter (fun h => !isP p0 p1 p2 h)
def putS (p0 p1 p2 m u : Int) (l : List S53) : List S53 := if zero m u then l else l.takeWhile (fun h => !abv p0 p1 p2 h) ++ ⟨⟨p0, p1, p2⟩, ⟨m, u⟩⟩ :: l.dropWhile (fun h => !abv p0 p1 p2 h)
def setS (l : List S53) (p0 p1 p2 m u : Int) : List S53 := putS p0 p1 p2 m u (others p0 p1 p2 l)
theorem others_length (p0 p1 p2 : Int) (l : List S53) : (others p0 p1 p2 l).length ≤ l.length := List.length_filter_le _ _
theorem putS_length (p0 p1 p2 m u : Int) (l : List S53) : (putS p0 p1 p2 m u l).length ≤ l.length + 1 := by
  unfold putS
  split
  · omega
  · have h := congrArg List.length (List.takeWhile_append_dropWhile (p := fun h => !abv p0 p1 p2 h) (l := l))
    rw [List.length_append] at h
    rw [List.length_append, List.length_cons]
    omega
theorem setS_length (l : List S53) (p0 p1 p2 m u : Int) : (setS l p0 p1 p2 m u).length ≤ l.length + 1 := by
  have h := putS_length p0 p1 p2 m u (others p0 p1 p2 l)
  have h2 := others_length p0 p1 p2 l
  unfold setS
  omega
/-- The first place at which a test fails. -/
theorem tw_len {α : Type} (q : α → Bool) : ∀ (l : List α) (n : Nat), n ≤ l.length → (∀ j (h : j < l.length), j < n → q l[j] = true) → (∀ h : n < l.length, q l[n] = false) → (l.takeWhile q).length = n
  | [], n, h1, _, _ => by simp at h1; simp [h1]
  | a :: l, 0, _, _, h3 => by
    have := h3 (by simp)
    simp only [List.getElem_cons_zero] at this
    simp [List.takeWhile_cons, this]
  | a :: l, n + 1, h1, h2, h3 => by
    have ha := h2 0 (by simp) (by omega)
    simp only [List.getElem_cons_zero] at ha
    rw [List.takeWhile_cons, ha]
    simp only [if_true, List.length_cons]
    rw [tw_len q l n (by simpa using h1) (fun j h hj => by have := h2 (j + 1) (by simpa using h) (by omega); rwa [List.getElem_cons_succ] at this) (fun h => by have := h3 (by simpa using h); rwa [List.getElem_cons_succ] at this)]
/-- An element put in at place n, as Set does it. -/
theorem shift_set {α : Type} (A B : List α) (z h : α) : (((A ++ B) ++ [z]).take (A.length + 1) ++ (((A ++ B) ++ [z]).drop A.length).take (((A ++ B) ++ [z]).length - (A.length + 1))).set A.length h = A ++ h :: B := by
  have e1 : ((A ++ B) ++ [z]).drop A.length = B ++ [z] := by rw [List.append_assoc, List.drop_left']; rfl
  have e2 : ((A ++ B) ++ [z]).length - (A.length + 1) = B.length := by simp only [List.length_append, List.length_singleton]; omega
  rw [e1, e2, List.take_left' rfl, List.append_assoc]
  obtain ⟨c, t, ht⟩ : ∃ c t, B ++ [z] = c :: t := by
    cases B with
    | nil => exact ⟨z, [], rfl⟩
    | cons b B => exact ⟨b, B ++ [z], rfl⟩
  rw [ht, List.take_append]
  have e3 : A.length + 1 - A.length = 1 := by omega
  rw [e3, List.take_of_length_le (by omega), List.append_assoc, List.set_append_right _ _ (Nat.le_refl _), Nat.sub_self]
  rfl
theorem above_eq (l : List S53) (p0 p1 p2 : Int) (i : Nat) (h : i < l.length) : above l p0 p1 p2 (i : Int) > 0 ↔ abv p0 p1 p2 l[i] = true := by
  unfold above abv
  rw [rd_hold l i h, decide_eq_true_eq]
theorem linear_eq (l : List S53) (p0 p1 p2 : Int) : ∀ (d i k : Nat), i + d = l.length → d < k → (∀ j (h : j < l.length), j < i → abv p0 p1 p2 l[j] = false) → linear_l l p0 p1 p2 k (i : Int) = some (((l.takeWhile (fun h => !abv p0 p1 p2 h)).length : Nat) : Int) := by
  intro d
  induction d with
  | zero =>
    intro i k hi hk hb
    obtain ⟨k, rfl⟩ : ∃ m, k = m + 1 := ⟨k - 1, by omega⟩
    rw [linear_l, if_neg (by omega), tw_len _ l i (by omega) (fun j h hj => by rw [hb j h hj]; rfl) (fun h => absurd h (by omega))]
  | succ d ih =>
    intro i k hi hk hb
    obtain ⟨k, rfl⟩ : ∃ m, k = m + 1 := ⟨k - 1, by omega⟩
    have hlt : i < l.length := by omega
    rw [linear_l, if_pos (by omega)]
    cases ha : abv p0 p1 p2 l[i]
    · rw [if_neg (by rw [above_eq l p0 p1 p2 i hlt, ha]; simp)]
      have := ih (i + 1) k (by omega) (by omega) (fun j h hj => by
        by_cases hj2 : j = i
        · subst hj2; exact ha
        · exact hb j h (by omega))
      rw [← this]
      congr 1
    · rw [if_pos (by rw [above_eq l p0 p1 p2 i hlt, ha]), tw_len _ l i (by omega) (fun j h hj => by rw [hb j h hj]; rfl) (fun h => by rw [ha]; rfl)]
theorem sorted_some (l : List S53) : ∀ (k : Nat) (i : Int), i < k → 0 < k → i < l.length → ∃ b, sorted_l l k i = some b ∧ (b = true → ∀ (j : Nat) (h : j + 1 < l.length), (j : Int) + 1 ≤ i → ¬ cmp3 l[j + 1].f0.f0 l[j + 1].f0.f1 l[j + 1].f0.f2 l[j].f0.f0 l[j].f0.f1 l[j].f0.f2 < 0)
  | 0, i, _, h0, _ => absurd h0 (by omega)
  | k + 1, i, h, _, hl => by
    rw [sorted_l]
    by_cases hi : i > 0
    · rw [if_pos hi]
      obtain ⟨n, rfl⟩ : ∃ n : Nat, i = ((n + 1 : Nat) : Int) := ⟨(i - 1).toNat, by omega⟩
      have e : (((n + 1 : Nat) : Int) - 1) = ((n : Nat) : Int) := by omega
      rw [e, rd_hold l (n + 1) (by omega), rd_hold l n (by omega)]
      by_cases hc : cmp3 l[n + 1].f0.f0 l[n + 1].f0.f1 l[n + 1].f0.f2 l[n].f0.f0 l[n].f0.f1 l[n].f0.f2 < 0
      · exact ⟨false, if_pos hc, fun h => by cases h⟩
      · rw [if_neg hc]
        obtain ⟨b, hb, hs⟩ := sorted_some l k (n : Int) (by omega) (by omega) (by omega)
        refine ⟨b, hb, fun ht j hj hji => ?_⟩
        by_cases hjn : j = n
        · subst hjn; exact hc
        · exact hs ht j hj (by omega)
    · rw [if_neg hi]
      exact ⟨true, rfl, fun _ j hj hji => by omega⟩
theorem search_eq (l : List S53) (p0 p1 p2 : Int) (hm : ∀ (i j : Nat) (hj : j < l.length) (hij : i ≤ j), abv p0 p1 p2 (l[i]'(by omega)) = true → abv p0 p1 p2 l[j] = true) : ∀ (k i j : Nat), j - i < k → i ≤ j → j ≤ l.length → (∀ x (h : x < l.length), x < i → abv p0 p1 p2 l[x] = false) → (∀ x (h : x < l.length), j ≤ x → abv p0 p1 p2 l[x] = true) → search_l l p0 p1 p2 k (i : Int) (j : Int) = some (((l.takeWhile (fun h => !abv p0 p1 p2 h)).length : Nat) : Int)
  | 0, i, j, h, _, _, _, _ => absurd h (by omega)
  | k + 1, i, j, h, hij, hj, hb, ha => by
    rw [search_l]
    by_cases hlt : i < j
    · rw [if_pos (by omega)]
      have em : (((i : Nat) : Int) + (j : Int)) / 2 = (((i + j) / 2 : Nat) : Int) := by omega
      have hx : (i + j) / 2 < l.length := by omega
      rw [em]
      cases hc : abv p0 p1 p2 (l[(i + j) / 2]'hx)
      · rw [if_neg (by rw [above_eq l p0 p1 p2 _ hx, hc]; simp)]
        have e2 : ((((i + j) / 2 : Nat) : Int) + 1) = (((i + j) / 2 + 1 : Nat) : Int) := by omega
        rw [e2]
        exact search_eq l p0 p1 p2 hm k _ j (by omega) (by omega) hj (fun x h hxi => by
          rw [Bool.eq_false_iff]
          intro ht
          have := hm x ((i + j) / 2) hx (by omega) ht
          rw [hc] at this
          cases this) ha
      · rw [if_pos (by rw [above_eq l p0 p1 p2 _ hx, hc])]
        exact search_eq l p0 p1 p2 hm k i _ (by omega) (by omega) (by omega) hb (fun x h hxi => hm _ x h hxi hc)
    · rw [if_neg (by omega), tw_len _ l i (by omega) (fun x h hx => by rw [hb x h hx]; rfl) (fun h => by rw [ha i h (by omega)]; rfl)]
theorem place_eq (l : List S53) (p0 p1 p2 : Int) (hl : l.length < 1000000) : holders_place.f l p0 p1 p2 = some (((l.takeWhile (fun h => !abv p0 p1 p2 h)).length : Nat) : Int) := by
  unfold holders_place.f place_f
  rw [if_pos hl]
  obtain ⟨b, hb, hs⟩ := sorted_some l (l.length + 2) ((l.length : Int) - 1) (by omega) (by omega) (by omega)
  rw [hb, Option.bind_some]
  cases b
  · rw [if_neg (by simp)]
    exact linear_eq l p0 p1 p2 l.length 0 (l.length + 2) (by omega) (by omega) (fun j h hj => by omega)
  · rw [if_pos rfl]
    have hs := hs rfl
    have hm : ∀ (d i : Nat) (hj : i + d < l.length), abv p0 p1 p2 (l[i]'(by omega)) = true → abv p0 p1 p2 l[i + d] = true := by
      intro d i
      induction d with
      | zero => exact fun hj h => h
      | succ d ih =>
        intro hj h
        have h1 := ih (by omega) h
        have h2 := hs (i + d) hj (by omega)
        rw [cmp3_neg] at h2
        simp only [abv, decide_eq_true_eq, cmp3_pos] at h1 ⊢
        have e : l[i + (d + 1)] = l[i + d + 1] := rfl
        rw [e]
        omega
    refine search_eq l p0 p1 p2 (fun i j hj hij h => ?_) (l.length + 2) 0 l.length (by omega) (by omega) (by omega) (fun x h hx => by omega) (fun x h hx => by omega)
    obtain ⟨d, rfl⟩ : ∃ d, j = i + d := ⟨j - i, by omega⟩
    exact hm d i hj h
theorem others_not {p0 p1 p2 : Int} {h : S53} (t : List S53) (hp : isP p0 p1 p2 h = false) : others p0 p1 p2 (h :: t) = h :: others p0 p1 p2 t := by
  simp [others, List.filter_cons, hp]
theorem others_is {p0 p1 p2 : Int} {h : S53} (t : List S53) (hp : isP p0 p1 p2 h = true) : others p0 p1 p2 (h :: t) = others p0 p1 p2 t := by
  simp [others, List.filter_cons, hp]
theorem putS_not {p0 p1 p2 m u : Int} (hz : zero m u = false) {h : S53} (t : List S53) (ha : abv p0 p1 p2 h = false) : putS p0 p1 p2 m u (h :: t) = h :: putS p0 p1 p2 m u t := by
  simp [putS, hz, List.takeWhile_cons, List.dropWhile_cons, ha]
theorem putS_is {p0 p1 p2 m u : Int} (hz : zero m u = false) {h : S53} (t : List S53) (ha : abv p0 p1 p2 h = true) : putS p0 p1 p2 m u (h :: t) = ⟨⟨p0, p1, p2⟩, ⟨m, u⟩⟩ :: h :: t := by
  simp [putS, hz, List.takeWhile_cons, List.dropWhile_cons, ha]
theorem others_nil (p0 p1 p2 : Int) : others p0 p1 p2 [] = [] := rfl
theorem set_l0 (p0 p1 p2 m u : Int) (l : List S53) (hl : l.length < 900000) :
    ∀ (d i : Nat), i + d = l.length → ∀ acc : List S53, acc.length ≤ i → Ev (fun k => holders_Set.l0 k acc l (l.length : Int) (i : Int) p0 p1 p2 m u) (putS p0 p1 p2 m u (acc ++ others p0 p1 p2 (l.drop i))) := by
  intro d
  induction d with
  | zero =>
    intro i hi acc ha
    have hd : l.drop i = [] := by rw [List.drop_eq_nil_iff]; omega
    rw [hd, others_nil, List.append_nil]
    refine Ev.step (f := fun _ => some (putS p0 p1 p2 m u acc)) (fun k => ?_) (Ev.now _)
    simp only [holders_Set.l0]
    rw [if_neg (by omega)]
    simp only [zero_eq, Option.bind_some]
    unfold putS
    cases hz : zero m u
    · rw [if_neg (by simp), place_eq acc p0 p1 p2 (by omega)]
      simp only [Option.bind_some]
      have hs := List.takeWhile_append_dropWhile (p := fun h => !abv p0 p1 p2 h) (l := acc)
      generalize hA : acc.takeWhile (fun h => !abv p0 p1 p2 h) = A at hs ⊢
      generalize hB : acc.dropWhile (fun h => !abv p0 p1 p2 h) = B at hs ⊢
      subst hs
      have hAB := ha
      rw [List.length_append] at hAB
      have hw : wrap64 ((A.length : Int) + 1) = (A.length : Int) + 1 := wrap_small (by omega) (by omega)
      have hy : ((A ++ B ++ [(⟨(⟨0, 0, 0⟩ : S24), (⟨0, 0⟩ : S26)⟩ : S53)]).length : Int) = (A.length : Int) + B.length + 1 := by simp only [List.length_append, List.length_singleton]; omega
      rw [if_pos (by rw [List.length_append]; omega), hw, if_pos (by omega), if_pos (by rw [hy]; omega), if_pos (by omega), if_pos (by rw [hy]; omega), if_pos (by
        simp only [List.length_append, List.length_take, List.length_drop, List.length_singleton]
        omega), Int.toNat_natCast, shift_set]
      rfl
    · rfl
  | succ d ih =>
    intro i hi acc ha
    have hlt : i < l.length := by omega
    have hw : wrap64 ((i : Int) + 1) = ((i + 1 : Nat) : Int) := by rw [wrap_small (by omega) (by omega)]; omega
    rw [drop_cons l i hlt]
    cases hp : isP p0 p1 p2 l[i]
    · have ih' := ih (i + 1) (by omega) (acc ++ [l[i]]) (by rw [List.length_append, List.length_singleton]; omega)
      rw [others_not _ hp, List.append_cons]
      refine Ev.step (fun k => ?_) ih'
      simp only [holders_Set.l0, rd_hold l i hlt]
      have hc : ((!(l[i].f0.f0 == p0)) || ((!(l[i].f0.f1 == p1)) || (!(l[i].f0.f2 == p2)))) = true := by
        have := hp
        unfold isP at this
        revert this
        cases (l[i].f0.f0 == p0) <;> cases (l[i].f0.f1 == p1) <;> cases (l[i].f0.f2 == p2) <;> simp
      rw [if_pos (by omega), if_pos (by omega), if_pos (by omega), if_pos hc, if_pos (by omega), hw]
    · have ih' := ih (i + 1) (by omega) acc (by omega)
      rw [others_is _ hp]
      refine Ev.step (fun k => ?_) ih'
      simp only [holders_Set.l0, rd_hold l i hlt]
      have hc : ¬ ((!(l[i].f0.f0 == p0)) || ((!(l[i].f0.f1 == p1)) || (!(l[i].f0.f2 == p2)))) = true := by
        have := hp
        unfold isP at this
        revert this
        cases (l[i].f0.f0 == p0) <;> cases (l[i].f0.f1 == p1) <;> cases (l[i].f0.f2 == p2) <;> simp
      rw [if_pos (by omega), if_pos (by omega), if_pos (by omega), if_neg hc, hw]
theorem set_eq (p0 p1 p2 m u : Int) (l : List S53) (hl : l.length < 900000) : Ev (fun k => holders_Set.f k l p0 p1 p2 m u) (setS l p0 p1 p2 m u) := by
  refine Ev.congr (fun k => ?_) (set_l0 p0 p1 p2 m u l hl l.length 0 (by omega) [] (by simp))
  have hw : wrap64 ((l.length : Int) + 1) = (l.length : Int) + 1 := wrap_small (by omega) (by omega)
  unfold holders_Set.f
  rw [hw, if_pos (by omega), if_pos (by omega)]
  rfl
theorem rset_l0t (p0 p1 p2 m u : Int) (l : List S53) (hl : l.length < 900000) :
    ∀ (d i : Nat), i + d = l.length → ∀ acc : List S53, acc.length ≤ i + 1 → Ev (fun k => clusterlocksref10_Set.l0 k l acc true (i : Int) p0 p1 p2 m u) (acc ++ others p0 p1 p2 (l.drop i)) := by
  intro d
  induction d with
  | zero =>
    intro i hi acc ha
    have hd : l.drop i = [] := by rw [List.drop_eq_nil_iff]; omega
    rw [hd, others_nil, List.append_nil]
    refine Ev.step (f := fun _ => some acc) (fun k => ?_) (Ev.now _)
    simp only [clusterlocksref10_Set.l0]
    rw [if_neg (by omega)]
    rfl
  | succ d ih =>
    intro i hi acc ha
    have hlt : i < l.length := by omega
    have hw : wrap64 ((i : Int) + 1) = ((i + 1 : Nat) : Int) := by rw [wrap_small (by omega) (by omega)]; omega
    rw [drop_cons l i hlt]
    cases hp : isP p0 p1 p2 l[i]
    · have ih' := ih (i + 1) (by omega) (acc ++ [l[i]]) (by rw [List.length_append, List.length_singleton]; omega)
      rw [others_not _ hp, List.append_cons]
      refine Ev.step (fun k => ?_) ih'
      simp only [clusterlocksref10_Set.l0, rd_hold l i hlt]
      unfold isP at hp
      rw [if_pos (by omega), if_pos (by omega), if_neg (by rw [hp]; simp), if_pos trivial, if_pos (by omega), hw]
    · have ih' := ih (i + 1) (by omega) acc (by omega)
      rw [others_is _ hp]
      refine Ev.step (fun k => ?_) ih'
      simp only [clusterlocksref10_Set.l0, rd_hold l i hlt]
      unfold isP at hp
      rw [if_pos (by omega), if_pos (by omega), if_pos hp, hw]
theorem rset_l0 (p0 p1 p2 m u : Int) (hz : zero m u = false) (l : List S53) (hl : l.length < 900000) :
    ∀ (d i : Nat), i + d = l.length → ∀ acc : List S53, acc.length ≤ i → Ev (fun k => clusterlocksref10_Set.l0 k l acc false (i : Int) p0 p1 p2 m u) (acc ++ putS p0 p1 p2 m u (others p0 p1 p2 (l.drop i))) := by
  intro d
  induction d with
  | zero =>
    intro i hi acc ha
    have hd : l.drop i = [] := by rw [List.drop_eq_nil_iff]; omega
    rw [hd, others_nil]
    refine Ev.step (f := fun _ => some (acc ++ putS p0 p1 p2 m u [])) (fun k => ?_) (Ev.now _)
    simp only [clusterlocksref10_Set.l0]
    rw [if_neg (by omega), if_neg (by simp), if_pos (by omega)]
    simp [putS, hz]
  | succ d ih =>
    intro i hi acc ha
    have hlt : i < l.length := by omega
    have hw : wrap64 ((i : Int) + 1) = ((i + 1 : Nat) : Int) := by rw [wrap_small (by omega) (by omega)]; omega
    rw [drop_cons l i hlt]
    cases hp : isP p0 p1 p2 l[i]
    · rw [others_not _ hp]
      have hp2 := hp
      unfold isP at hp2
      cases ha2 : abv p0 p1 p2 l[i]
      · have ih' := ih (i + 1) (by omega) (acc ++ [l[i]]) (by rw [List.length_append, List.length_singleton]; omega)
        rw [putS_not hz _ ha2, List.append_cons]
        refine Ev.step (fun k => ?_) ih'
        simp only [clusterlocksref10_Set.l0, rd_hold l i hlt, rcmp_eq, Option.bind_some]
        have hc : ¬ cmp3 l[i].f0.f0 l[i].f0.f1 l[i].f0.f2 p0 p1 p2 > 0 := by
          unfold abv at ha2
          simpa using ha2
        rw [if_pos (by omega), if_pos (by omega), if_neg (by rw [hp2]; simp), if_neg (by simp), if_neg hc, if_pos (by omega), hw]
      · have ih' := rset_l0t p0 p1 p2 m u l hl d (i + 1) (by omega) (acc ++ [⟨⟨p0, p1, p2⟩, ⟨m, u⟩⟩] ++ [l[i]]) (by simp only [List.length_append, List.length_singleton]; omega)
        rw [putS_is hz _ ha2, List.append_cons, List.append_cons]
        refine Ev.step (fun k => ?_) ih'
        simp only [clusterlocksref10_Set.l0, rd_hold l i hlt, rcmp_eq, Option.bind_some]
        have hc : cmp3 l[i].f0.f0 l[i].f0.f1 l[i].f0.f2 p0 p1 p2 > 0 := by
          unfold abv at ha2
          simpa using ha2
        rw [if_pos (by omega), if_pos (by omega), if_neg (by rw [hp2]; simp), if_neg (by simp), if_pos hc, if_pos (by omega), if_pos (by rw [List.length_append, List.length_singleton]; omega), hw]
    · have ih' := ih (i + 1) (by omega) acc (by omega)
      rw [others_is _ hp]
      refine Ev.step (fun k => ?_) ih'
      simp only [clusterlocksref10_Set.l0, rd_hold l i hlt]
      unfold isP at hp
      rw [if_pos (by omega), if_pos (by omega), if_pos hp, hw]
theorem rset_eq (p0 p1 p2 m u : Int) (l : List S53) (hl : l.length < 900000) : Ev (fun k => clusterlocksref10_Set.f k l p0 p1 p2 m u) (setS l p0 p1 p2 m u) := by
  unfold clusterlocksref10_Set.f setS
  simp only [rzero_eq, Option.bind_some]
  cases hz : zero m u
  · have h := rset_l0 p0 p1 p2 m u hz l hl l.length 0 (by omega) [] (by simp)
    rw [List.drop_zero, List.nil_append] at h
    exact h
  · have h := rset_l0t p0 p1 p2 m u l hl l.length 0 (by omega) [] (by simp)
    rw [List.drop_zero, List.nil_append] at h
    unfold putS
    rw [hz, if_pos rfl]
    exact h
theorem same_l0 (l : List S53) (hl : l.length < 1000000) : ∀ (d i : Nat), i + d = l.length → Ev (fun k => clusterlocksref10_SameHolds.l0 k l l (i : Int)) true := by
  intro d
  induction d with
  | zero =>
    intro i hi
    refine Ev.step (f := fun _ => some true) (fun k => ?_) (Ev.now _)
    simp only [clusterlocksref10_SameHolds.l0]
    rw [if_neg (by omega)]
  | succ d ih =>
    intro i hi
    have hlt : i < l.length := by omega
    have hw : wrap64 ((i : Int) + 1) = ((i + 1 : Nat) : Int) := by rw [wrap_small (by omega) (by omega)]; omega
    refine Ev.step (fun k => ?_) (ih (i + 1) (by omega))
    simp only [clusterlocksref10_SameHolds.l0]
    rw [if_pos (by omega), if_pos (by omega), if_pos (by omega), if_neg (by simp), hw]
theorem same_eq (l : List S53) (hl : l.length < 1000000) : Ev (fun k => clusterlocksref10_SameHolds.f k l l) true := by
  refine Ev.congr (fun k => ?_) (same_l0 l hl l.length 0 (by omega))
  unfold clusterlocksref10_SameHolds.f
  rw [if_pos rfl]
  rfl
end PA
end Go.Proofs.YtnmemkphfgdplaaDoor


/- Grants in plain Lean: what Valid, Room, Against, Get, Procs and their references compute. Conditions: none of our own. -/
namespace Go.Proofs.YtnmemkphfgdplaaDoor
open Go.RowKit Go.Proofs.YtnmemkphfgdplaaDoorW.PrintWords Go.Proofs.YtnmemkphfgdplaaDoorW.PrintLast Go.Proofs.YtnmemkphfgdplaaDoorW.PrintMore Amt
namespace PA
set_option linter.unusedVariables false
set_option linter.unusedSimpArgs false
end PA
end Go.Proofs.YtnmemkphfgdplaaDoor


/- HoldersSets: the law in plain Lean. Conditions: none of our own. -/
namespace Go.Proofs.YtnmemkphfgdplaaDoor.PA
open Amt Go.RowKit Go.Proofs.YtnmemkphfgdplaaDoorW.PrintWords Go.Proofs.YtnmemkphfgdplaaDoorW.PrintLast Go.Proofs.YtnmemkphfgdplaaDoorW.PrintMore
set_option linter.unusedVariables false
/-- The law as a statement on plain data. -/
def HoldersSets_Pure : Prop := ∀ (x0 : List S53) (x1 : S24) (x2 : S26), (x0.length * 40 ≤ 140737488351232 ∧ x0.length ≤ maxLen ∧ ∀ x ∈ x0, ok53 x) → ok24 x1 → ok26 x2 → ∃ k, clusterlockslaw10_HoldersSets.f k x0 x1.f0 x1.f1 x1.f2 x2.f0 x2.f1 = some true
theorem awake_ev : Ev (fun k => clusterlockslaw10_awake.f k) true := Ev.of (fun k => clusterlockslaw10_awake.mono k) clusterlockslaw10_awake.at
theorem HoldersSets_pure : HoldersSets_Pure := by
  intro x0 x1 x2 _ _ _
  by_cases hl : (x0.length : Int) > 100
  · obtain ⟨K, hK⟩ := awake_ev
    have h := hK K (Nat.le_refl _)
    exact ⟨K, by unfold clusterlockslaw10_HoldersSets.f; rw [if_pos hl]; simp only at h; rw [h]; rfl⟩
  · have hs := setS_length x0 x1.f0 x1.f1 x1.f2 x2.f0 x2.f1
    obtain ⟨K, hK⟩ := Ev.bind awake_ev (f := fun k t => if t = true then ((holders_Set.f k x0 x1.f0 x1.f1 x1.f2 x2.f0 x2.f1).bind fun t254 => ((clusterlocksref10_Set.f k x0 x1.f0 x1.f1 x1.f2 x2.f0 x2.f1).bind fun t257 => ((clusterlocksref10_SameHolds.f k t254 t257).bind fun t260 => (some t260)))) else (some false)) (r := true) (Ev.congr (fun k => if_pos rfl) (Ev.bind (set_eq _ _ _ _ _ x0 (by omega)) (Ev.bind (rset_eq _ _ _ _ _ x0 (by omega)) (Ev.bind (same_eq _ (by omega)) (Ev.now _)))))
    exact ⟨K, by unfold clusterlockslaw10_HoldersSets.f; rw [if_neg hl]; exact hK K (Nat.le_refl _)⟩
end Go.Proofs.YtnmemkphfgdplaaDoor.PA

