/- The law AmountCovers in plain data, with the facts that it needs. Conditions: those of its statement. -/
import Derived.Test.YtlkhdhjdcgiciaaDoorGL
import Derived.IntWalk
import Derived.Test.YtlkhdhjdcgiciaaDoorPAOk
import Derived.Test.YtlkhdhjdcgiciaaDoorPAx14
import Derived.Test.YtlkhdhjdcgiciaaDoorPAx15
import Derived.Test.YtlkhdhjdcgiciaaDoorPAx16
import Derived.Test.YtlkhdhjdcgiciaaDoorPAx2
import Derived.Test.YtlkhdhjdcgiciaaDoorPAx3
import Derived.Test.YtlkhdhjdcgiciaaDoorPAx4
import Derived.Test.YtlkhdhjdcgiciaaDoorPAx7
import Derived.Test.YtlkhdhjdcgiciaaDoorPAx8
namespace Go.Proofs.YtlkhdhjdcgiciaaDoor.Amt
set_option linter.unusedVariables false
def valid (m : Int) : Bool := decide (1 ≤ m) && decide (m ≤ 5)
def shaped (k n : Int) : Bool := (k == 1 && n == 1) || (k == 2 && decide (1 ≤ n) && decide (n ≤ 8))
def zero (m u : Int) : Bool := m == 0 && u == 0
def fits (k n m u : Int) : Bool := shaped k n && (if k = 1 then valid m && u == 0 else m == 0 && decide (1 ≤ u) && decide (u ≤ n))
def permitted (k n m u : Int) : Bool := shaped k n && (zero m u || fits k n m u)
def mcovers (a b : Int) : Bool := valid a && valid b && (a == b || a == 5 || b == 1 || (a == 4 && b != 5))
def msup (a b : Int) : Int := if mcovers 1 a && mcovers 1 b then 1 else if mcovers 2 a && mcovers 2 b then 2 else if mcovers 3 a && mcovers 3 b then 3 else if mcovers 4 a && mcovers 4 b then 4 else if mcovers 5 a && mcovers 5 b then 5 else 0
def covers (k n am au bm bu : Int) : Bool := permitted k n am au && permitted k n bm bu && (zero bm bu || (!zero am au && (if k = 1 then mcovers am bm else decide (bu ≤ au))))
theorem five {a : Int} (h : 1 ≤ a ∧ a ≤ 5) : a = 1 ∨ a = 2 ∨ a = 3 ∨ a = 4 ∨ a = 5 := by omega
theorem valid_iff {a : Int} : valid a = true ↔ 1 ≤ a ∧ a ≤ 5 := by simp [valid]
end Go.Proofs.YtlkhdhjdcgiciaaDoor.Amt


/- What the printed functions of the packages mode and amount, and of their references, compute. Conditions: none of our own. -/
namespace Go.Proofs.YtlkhdhjdcgiciaaDoor
open Go.RowKit Go.Proofs.YtlkhdhjdcgiciaaDoorW.PrintWords Go.Proofs.YtlkhdhjdcgiciaaDoorW.PrintLast Go.Proofs.YtlkhdhjdcgiciaaDoorW.PrintMore Amt
namespace PA
set_option linter.unusedVariables false
set_option linter.unusedSimpArgs false
theorem shaped_eq (s : ByteArray) (k n h : Int) : amount_Shaped.f s k n h = some (shaped k n) := by
  unfold amount_Shaped.f shaped
  by_cases h1 : k = 1
  · subst h1; simp
  · rw [if_neg h1]
    by_cases h2 : k = 2
    · subst h2
      by_cases h3 : n ≥ 1
      · rw [if_pos rfl, if_pos h3]; simp [h3]
      · rw [if_pos rfl, if_neg h3]; simp [h3]
    · rw [if_neg h2]; simp [h1, h2]
theorem rshaped_eq (s : ByteArray) (k n h : Int) : clusterlocksref04_Shaped.f s k n h = some (shaped k n) := by
  unfold clusterlocksref04_Shaped.f shaped
  by_cases h1 : k = 1
  · subst h1
    by_cases h3 : n = 1
    · subst h3; simp
    · rw [if_pos rfl, if_neg h3, if_neg (by omega)]; simp [h3]
  · rw [if_neg h1]
    by_cases h2 : k = 2
    · subst h2
      by_cases h3 : n ≥ 1
      · rw [if_pos rfl, if_pos h3]; simp [h3]
      · rw [if_pos rfl, if_neg h3]; simp [h3]
    · rw [if_neg h2]; simp [h1, h2]
theorem valid_eq (m : Int) : mode_Valid.f m = some (valid m) := by
  unfold mode_Valid.f valid
  by_cases h : m ≥ 1
  · rw [if_pos h]; simp [h]
  · rw [if_neg h]; simp [h]
theorem rvalid_eq (m : Int) : clusterlocksref03_Valid.f m = some (valid m) := by
  unfold clusterlocksref03_Valid.f valid
  by_cases h : m ≥ 1
  · rw [if_pos h]; simp [h]
  · rw [if_neg h]; simp [h]
theorem zero_eq (m u : Int) : amount_Zero.f m u = some (zero m u) := rfl
theorem rzero_eq (m u : Int) : clusterlocksref04_Zero.f m u = some (zero m u) := rfl
theorem fits_eq (s : ByteArray) (k n h m u : Int) : amount_Fits.f s k n h m u = some (fits k n m u) := by
  unfold amount_Fits.f fits
  simp only [shaped_eq, valid_eq, Option.bind_some]
  cases h0 : shaped k n
  · simp
  · by_cases h1 : k = 1
    · subst h1
      cases hv : valid m <;> simp [hv]
    · by_cases h2 : m = 0
      · by_cases h3 : u ≥ 1 <;> simp [h1, h2, h3]
      · simp [h1, h2]
theorem rfits_eq (s : ByteArray) (k n h m u : Int) : clusterlocksref04_Fits.f s k n h m u = some (fits k n m u) := by
  unfold clusterlocksref04_Fits.f fits
  simp only [rshaped_eq, rvalid_eq, Option.bind_some]
  cases h0 : shaped k n
  · simp
  · by_cases h1 : k = 1
    · subst h1
      cases hv : valid m <;> simp [hv]
    · by_cases h2 : m = 0
      · by_cases h3 : u ≥ 1 <;> simp [h1, h2, h3]
      · simp [h1, h2]
theorem fits_shaped {k n m u : Int} (h : fits k n m u = true) : shaped k n = true := by
  unfold fits at h
  cases h0 : shaped k n
  · simp [h0] at h
  · rfl
theorem permitted_eq (s : ByteArray) (k n h m u : Int) : amount_permitted.f s k n h m u = some (permitted k n m u) := by
  unfold amount_permitted.f permitted
  simp only [fits_eq, zero_eq, shaped_eq, Option.bind_some]
  cases hf : fits k n m u
  · cases hz : zero m u <;> simp
  · simp [fits_shaped hf]
theorem rpermitted_eq (s : ByteArray) (k n h m u : Int) : clusterlocksref04_Permitted.f s k n h m u = some (permitted k n m u) := by
  unfold clusterlocksref04_Permitted.f permitted
  simp only [rfits_eq, rzero_eq, rshaped_eq, Option.bind_some]
  cases hs : shaped k n <;> cases hz : zero m u <;> simp
theorem wrap_small {x : Int} (h0 : -9223372036854775808 ≤ x) (h : x ≤ 9223372036854775807) : wrap64 x = x := by unfold wrap64; omega
end PA
end Go.Proofs.YtlkhdhjdcgiciaaDoor


/- What Covers and Join compute, in the program and in the reference, and that the two agree. Conditions: none of our own. -/
namespace Go.Proofs.YtlkhdhjdcgiciaaDoor
open Go.RowKit Go.Proofs.YtlkhdhjdcgiciaaDoorW.PrintWords Go.Proofs.YtlkhdhjdcgiciaaDoorW.PrintLast Go.Proofs.YtlkhdhjdcgiciaaDoorW.PrintMore Amt
namespace PA
set_option linter.unusedVariables false
set_option linter.unusedSimpArgs false
theorem valid_false {a : Int} (h : ¬ (1 ≤ a ∧ a ≤ 5)) : valid a = false := by rw [Bool.eq_false_iff]; intro h2; exact h (valid_iff.1 h2)
theorem valid_true {a : Int} (h : 1 ≤ a ∧ a ≤ 5) : valid a = true := valid_iff.2 h
theorem mcov_eq (a b : Int) : mode_Covers.f a b = some (mcovers a b) := by
  unfold mode_Covers.f
  simp only [valid_eq, Option.bind_some]
  by_cases ha : 1 ≤ a ∧ a ≤ 5
  · by_cases hb : 1 ≤ b ∧ b ≤ 5
    · rcases five ha with rfl | rfl | rfl | rfl | rfl <;> rcases five hb with rfl | rfl | rfl | rfl | rfl <;> decide +kernel
    · simp [valid_false hb, valid_true ha, mcovers]
  · simp [valid_false ha, mcovers]
theorem rmcov_eq (a b : Int) : clusterlocksref03_Covers.f a b = some (mcovers a b) := by
  unfold clusterlocksref03_Covers.f
  simp only [rvalid_eq, Option.bind_some]
  by_cases ha : 1 ≤ a ∧ a ≤ 5
  · by_cases hb : 1 ≤ b ∧ b ≤ 5
    · rcases five ha with rfl | rfl | rfl | rfl | rfl <;> rcases five hb with rfl | rfl | rfl | rfl | rfl <;> decide +kernel
    · simp [valid_false hb, valid_true ha, mcovers]
  · simp [valid_false ha, mcovers]
theorem rsup_eq (a b : Int) : Ev (fun k => clusterlocksref03_Sup.f k a b) (msup a b) := by
  have h6 : Ev (fun k => clusterlocksref03_Sup.l0 k a b 6) 0 := Ev.step (f := fun _ => some 0) (fun k => rfl) (Ev.now _)
  have st : ∀ (m : Int) (r : Int), 1 ≤ m → m ≤ 5 → Ev (fun k => clusterlocksref03_Sup.l0 k a b (m + 1)) r → Ev (fun k => clusterlocksref03_Sup.l0 k a b m) (if mcovers m a && mcovers m b then m else r) := by
    intro m r h0 h1 h
    have hw : wrap64 (m + 1) = m + 1 := wrap_small (by omega) (by omega)
    cases hc : mcovers m a
    · refine Ev.step (fun k => ?_) (by simpa using h)
      simp only [clusterlocksref03_Sup.l0, rmcov_eq, Option.bind_some, hc, hw]
      rw [if_pos h1, if_neg (by decide)]
    · cases hd : mcovers m b
      · refine Ev.step (fun k => ?_) (by simpa using h)
        simp only [clusterlocksref03_Sup.l0, rmcov_eq, Option.bind_some, hc, hd, hw]
        rw [if_pos h1, if_pos trivial, if_neg (by decide)]
      · refine Ev.step (f := fun _ => some m) (fun k => ?_) (by simpa using Ev.now m)
        simp only [clusterlocksref03_Sup.l0, rmcov_eq, Option.bind_some, hc, hd, hw]
        rw [if_pos h1, if_pos trivial, if_pos trivial]
  exact st 1 _ (by omega) (by omega) (st 2 _ (by omega) (by omega) (st 3 _ (by omega) (by omega) (st 4 _ (by omega) (by omega) (st 5 _ (by omega) (by omega) h6))))
theorem sup_eq (a b : Int) : Ev (fun k => mode_Sup.f k a b) (msup a b) := by
  have h6 : Ev (fun k => mode_Sup.l0 k a b 6) 0 := Ev.step (f := fun _ => some 0) (fun k => rfl) (Ev.now _)
  have st : ∀ (m : Int) (r : Int), 1 ≤ m → m ≤ 5 → Ev (fun k => mode_Sup.l0 k a b (m + 1)) r → Ev (fun k => mode_Sup.l0 k a b m) (if mcovers m a && mcovers m b then m else r) := by
    intro m r h0 h1 h
    have hw : wrap64 (m + 1) = m + 1 := wrap_small (by omega) (by omega)
    cases hc : mcovers m a
    · refine Ev.step (fun k => ?_) (by simpa using h)
      simp only [mode_Sup.l0, mcov_eq, Option.bind_some, hc, hw]
      rw [if_pos h1, if_neg (by decide)]
    · cases hd : mcovers m b
      · refine Ev.step (fun k => ?_) (by simpa using h)
        simp only [mode_Sup.l0, mcov_eq, Option.bind_some, hc, hd, hw]
        rw [if_pos h1, if_pos trivial, if_neg (by decide)]
      · refine Ev.step (f := fun _ => some m) (fun k => ?_) (by simpa using Ev.now m)
        simp only [mode_Sup.l0, mcov_eq, Option.bind_some, hc, hd, hw]
        rw [if_pos h1, if_pos trivial, if_pos trivial]
  have h1 := st 1 _ (by omega) (by omega) (st 2 _ (by omega) (by omega) (st 3 _ (by omega) (by omega) (st 4 _ (by omega) (by omega) (st 5 _ (by omega) (by omega) h6))))
  have hj : Ev (fun k => mode_Sup.j0 k a b (!valid b)) (if valid b then msup a b else 0) := by
    cases valid b
    · exact Ev.step (f := fun _ => some 0) (fun k => rfl) (Ev.now _)
    · exact Ev.step (fun k => rfl) h1
  cases ha : valid a
  · have e : msup a b = 0 := by simp [msup, mcovers, ha]
    rw [e]
    have hj0 : Ev (fun k => mode_Sup.j0 k a b true) 0 := Ev.step (f := fun _ => some 0) (fun k => rfl) (Ev.now _)
    refine Ev.congr (fun k => ?_) hj0
    unfold mode_Sup.f
    simp only [valid_eq, Option.bind_some, ha]
    rfl
  · have e : msup a b = (if valid b then msup a b else 0) := by
      cases hb : valid b
      · simp [msup, mcovers, hb]
      · rfl
    rw [e]
    refine Ev.congr (fun k => ?_) hj
    unfold mode_Sup.f
    simp only [valid_eq, Option.bind_some, ha]
    rfl
theorem covers_eq (s : ByteArray) (kd n hm am au bm bu : Int) : Ev (fun k => amount_Covers.f k s kd n hm am au bm bu) (covers kd n am au bm bu) := by
  have hj : Ev (fun k => amount_Covers.j0 k (!permitted kd n bm bu) s kd n hm am au bm bu) (permitted kd n bm bu && (zero bm bu || (!zero am au && (if kd = 1 then mcovers am bm else decide (bu ≤ au))))) := by
    refine Ev.step (f := fun _ => some _) (fun k => ?_) (Ev.now _)
    simp only [amount_Covers.j0, zero_eq, mcov_eq, Option.bind_some]
    cases permitted kd n bm bu
    · rfl
    · cases zero bm bu
      · cases zero am au
        · by_cases h1 : kd = 1 <;> simp [h1]
        · rfl
      · rfl
  cases ha : permitted kd n am au
  · have e : covers kd n am au bm bu = false := by simp [covers, ha]
    rw [e]
    have hj0 : Ev (fun k => amount_Covers.j0 k true s kd n hm am au bm bu) false := Ev.step (f := fun _ => some false) (fun k => rfl) (Ev.now _)
    refine Ev.congr (fun k => ?_) hj0
    unfold amount_Covers.f
    simp only [permitted_eq, Option.bind_some, ha]
    rfl
  · have e : covers kd n am au bm bu = (permitted kd n bm bu && (zero bm bu || (!zero am au && (if kd = 1 then mcovers am bm else decide (bu ≤ au))))) := by simp [covers, ha]
    rw [e]
    refine Ev.congr (fun k => ?_) hj
    unfold amount_Covers.f
    simp only [permitted_eq, Option.bind_some, ha]
    rfl
theorem rcovers_eq (s : ByteArray) (kd n hm am au bm bu : Int) : Ev (fun k => clusterlocksref04_Covers.f k s kd n hm am au bm bu) (covers kd n am au bm bu) := by
  have hj : Ev (fun k => clusterlocksref04_Covers.j0 k (!permitted kd n bm bu) s kd n hm am au bm bu) (permitted kd n bm bu && (zero bm bu || (!zero am au && (if kd = 1 then mcovers am bm else decide (bu ≤ au))))) := by
    refine Ev.step (f := fun _ => some _) (fun k => ?_) (Ev.now _)
    simp only [clusterlocksref04_Covers.j0, rzero_eq, rmcov_eq, Option.bind_some]
    cases permitted kd n bm bu
    · rfl
    · cases zero bm bu
      · cases zero am au
        · by_cases h1 : kd = 1 <;> simp [h1]
        · rfl
      · rfl
  cases ha : permitted kd n am au
  · have e : covers kd n am au bm bu = false := by simp [covers, ha]
    rw [e]
    have hj0 : Ev (fun k => clusterlocksref04_Covers.j0 k true s kd n hm am au bm bu) false := Ev.step (f := fun _ => some false) (fun k => rfl) (Ev.now _)
    refine Ev.congr (fun k => ?_) hj0
    unfold clusterlocksref04_Covers.f
    simp only [rpermitted_eq, Option.bind_some, ha]
    rfl
  · have e : covers kd n am au bm bu = (permitted kd n bm bu && (zero bm bu || (!zero am au && (if kd = 1 then mcovers am bm else decide (bu ≤ au))))) := by simp [covers, ha]
    rw [e]
    refine Ev.congr (fun k => ?_) hj
    unfold clusterlocksref04_Covers.f
    simp only [rpermitted_eq, Option.bind_some, ha]
    rfl
def join (kd n am au bm bu : Int) : Int × Int := if permitted kd n am au && permitted kd n bm bu then (if zero am au then (bm, bu) else if zero bm bu then (am, au) else if kd = 1 then (msup am bm, 0) else (0, mx au bu)) else (0, 0)
theorem join_eq (s : ByteArray) (kd n hm am au bm bu : Int) : Ev (fun k => amount_Join.f k s kd n hm am au bm bu) (join kd n am au bm bu) := by
  obtain ⟨K, hK⟩ := sup_eq am bm
  refine ⟨K + 1, fun k hk => ?_⟩
  obtain ⟨k, rfl⟩ : ∃ m, k = m + 1 := ⟨k - 1, by omega⟩
  have h := hK k (by omega)
  simp only at h
  unfold amount_Join.f join
  simp only [permitted_eq, Option.bind_some, amount_Join.j0, zero_eq, h]
  cases permitted kd n am au
  · rfl
  · cases permitted kd n bm bu
    · rfl
    · cases zero am au
      · cases zero bm bu
        · by_cases h1 : kd = 1 <;> simp [h1]
        · rfl
      · rfl
theorem perm_cases {kd n m u : Int} (h : permitted kd n m u = true) (hz : zero m u = false) : (kd = 1 ∧ 1 ≤ m ∧ m ≤ 5 ∧ u = 0) ∨ (kd = 2 ∧ m = 0 ∧ 1 ≤ u ∧ u ≤ n) := by
  simp only [permitted, fits, hz, Bool.false_or, Bool.and_eq_true] at h
  obtain ⟨h1, _, h2⟩ := h
  simp only [shaped, Bool.or_eq_true, Bool.and_eq_true, beq_iff_eq, decide_eq_true_eq] at h1
  by_cases hk : kd = 1
  · rw [if_pos hk] at h2
    simp only [Bool.and_eq_true, beq_iff_eq, valid_iff] at h2
    exact .inl ⟨hk, h2.1.1, h2.1.2, h2.2⟩
  · rw [if_neg hk] at h2
    simp only [Bool.and_eq_true, beq_iff_eq, decide_eq_true_eq] at h2
    exact .inr ⟨by omega, h2.1.1, h2.1.2, h2.2⟩
theorem zero_iff {m u : Int} : zero m u = true ↔ m = 0 ∧ u = 0 := by simp [zero]
theorem rjoin_eq (s : ByteArray) (kd n hm am au bm bu : Int) : Ev (fun k => clusterlocksref04_Join.f k s kd n hm am au bm bu) (join kd n am au bm bu) := by
  obtain ⟨K, hK⟩ := rsup_eq am bm
  obtain ⟨K1, hK1⟩ := rcovers_eq s kd n hm am au bm bu
  obtain ⟨K2, hK2⟩ := rcovers_eq s kd n hm bm bu am au
  refine ⟨K + K1 + K2 + 1, fun k hk => ?_⟩
  obtain ⟨k, rfl⟩ : ∃ m, k = m + 1 := ⟨k - 1, by omega⟩
  have h := hK k (by omega)
  have h1 := hK1 k (by omega)
  have h2 := hK2 k (by omega)
  simp only at h h1 h2
  unfold clusterlocksref04_Join.f join
  simp only [rpermitted_eq, Option.bind_some, clusterlocksref04_Join.j0, h, h1, h2]
  cases ha : permitted kd n am au
  · rfl
  · cases hb : permitted kd n bm bu
    · rfl
    · simp only [covers, ha, hb, Bool.true_and]
      cases hz : zero am au
      · cases hz2 : zero bm bu
        · rcases perm_cases ha hz with ⟨rfl, p1, p2, rfl⟩ | ⟨rfl, rfl, p1, p2⟩
          · rcases perm_cases hb hz2 with ⟨_, q1, q2, rfl⟩ | ⟨h3, _⟩
            · rcases five ⟨p1, p2⟩ with rfl | rfl | rfl | rfl | rfl <;> rcases five ⟨q1, q2⟩ with rfl | rfl | rfl | rfl | rfl <;> decide +kernel
            · omega
          · rcases perm_cases hb hz2 with ⟨h3, _⟩ | ⟨_, rfl, q1, q2⟩
            · omega
            · by_cases h5 : bu ≤ au
              · (simp [h5, mx] <;> omega)
              · have h6 : au ≤ bu := by omega
                (simp [h5, h6, mx] <;> omega)
        · simp
      · have e := zero_iff.1 hz
        obtain ⟨rfl, rfl⟩ := e
        cases hz2 : zero bm bu
        · simp
        · obtain ⟨rfl, rfl⟩ := zero_iff.1 hz2
          simp
end PA
end Go.Proofs.YtlkhdhjdcgiciaaDoor


/- What the two functions Compatible compute of a list of amounts, and Room. Conditions: none of our own. -/
namespace Go.Proofs.YtlkhdhjdcgiciaaDoor
open Go.RowKit Go.Proofs.YtlkhdhjdcgiciaaDoorW.PrintWords Go.Proofs.YtlkhdhjdcgiciaaDoorW.PrintLast Go.Proofs.YtlkhdhjdcgiciaaDoorW.PrintMore Amt
namespace PA
set_option linter.unusedVariables false
set_option linter.unusedSimpArgs false
end PA
end Go.Proofs.YtlkhdhjdcgiciaaDoor


/- What the reference's function Compatible computes of a list of amounts, and its Room. Conditions: none of our own. -/
namespace Go.Proofs.YtlkhdhjdcgiciaaDoor
open Go.RowKit Go.Proofs.YtlkhdhjdcgiciaaDoorW.PrintWords Go.Proofs.YtlkhdhjdcgiciaaDoorW.PrintLast Go.Proofs.YtlkhdhjdcgiciaaDoorW.PrintMore Amt
namespace PA
set_option linter.unusedVariables false
set_option linter.unusedSimpArgs false
end PA
end Go.Proofs.YtlkhdhjdcgiciaaDoor


/- The sanity check of the amounts' laws, and how amounts are written. Conditions: none of our own. -/
namespace Go.Proofs.YtlkhdhjdcgiciaaDoor
open Go.RowKit Go.Proofs.YtlkhdhjdcgiciaaDoorW.PrintWords Go.Proofs.YtlkhdhjdcgiciaaDoorW.PrintLast Go.Proofs.YtlkhdhjdcgiciaaDoorW.PrintMore Amt
namespace PA
set_option linter.unusedVariables false
set_option linter.unusedSimpArgs false
theorem awake_at : clusterlockslaw04_awake.f 30 = some true := by decide +kernel
theorem awake_ev : Ev (fun k => clusterlockslaw04_awake.f k) true := Ev.of (fun k => clusterlockslaw04_awake.mono k) awake_at
end PA
end Go.Proofs.YtlkhdhjdcgiciaaDoor


/- Permitted amounts form a lattice; lists of amounts that may be held together: in plain Lean. Conditions: none of our own. -/
namespace Go.Proofs.YtlkhdhjdcgiciaaDoor
open Go.RowKit Go.Proofs.YtlkhdhjdcgiciaaDoorW.PrintWords Go.Proofs.YtlkhdhjdcgiciaaDoorW.PrintLast Go.Proofs.YtlkhdhjdcgiciaaDoorW.PrintMore Amt
namespace PA
set_option linter.unusedVariables false
set_option linter.unusedSimpArgs false
/-! ### Lists -/
end PA
end Go.Proofs.YtlkhdhjdcgiciaaDoor


/- AmountCovers -/
namespace Go.Proofs.YtlkhdhjdcgiciaaDoor.PA
open Go.RowKit Go.Proofs.YtlkhdhjdcgiciaaDoorW.PrintWords Go.Proofs.YtlkhdhjdcgiciaaDoorW.PrintLast Go.Proofs.YtlkhdhjdcgiciaaDoorW.PrintMore
open Amt
set_option linter.unusedVariables false
set_option linter.unusedSimpArgs false
/-- The law as a statement on plain data. -/
def AmountCovers_Pure : Prop := ∀ (x0 : S23) (x1 : S25) (x2 : S25), ok23 x0 → ok25 x1 → ok25 x2 → ∃ k, clusterlockslaw04_AmountCovers.f k x0.f0 x0.f1 x0.f2 x0.f3 x1.f0 x1.f1 x2.f0 x2.f1 = some true
theorem AmountCovers_pure : AmountCovers_Pure := by
  intro x0 x1 x2 _ _ _
  obtain ⟨K, hK⟩ := awake_ev
  obtain ⟨K1, hK1⟩ := covers_eq x0.f0 x0.f1 x0.f2 x0.f3 x1.f0 x1.f1 x2.f0 x2.f1
  obtain ⟨K2, hK2⟩ := rcovers_eq x0.f0 x0.f1 x0.f2 x0.f3 x1.f0 x1.f1 x2.f0 x2.f1
  obtain ⟨K3, hK3⟩ := join_eq x0.f0 x0.f1 x0.f2 x0.f3 x1.f0 x1.f1 x2.f0 x2.f1
  obtain ⟨K4, hK4⟩ := rjoin_eq x0.f0 x0.f1 x0.f2 x0.f3 x1.f0 x1.f1 x2.f0 x2.f1
  have h := hK (K + K1 + K2 + K3 + K4) (by omega)
  have h1 := hK1 (K + K1 + K2 + K3 + K4) (by omega)
  have h2 := hK2 (K + K1 + K2 + K3 + K4) (by omega)
  have h3 := hK3 (K + K1 + K2 + K3 + K4) (by omega)
  have h4 := hK4 (K + K1 + K2 + K3 + K4) (by omega)
  simp only at h h1 h2 h3 h4
  refine ⟨K + K1 + K2 + K3 + K4, ?_⟩
  unfold clusterlockslaw04_AmountCovers.f
  simp only [h, h1, h2, h3, h4, Option.bind_some]
  simp
end Go.Proofs.YtlkhdhjdcgiciaaDoor.PA

