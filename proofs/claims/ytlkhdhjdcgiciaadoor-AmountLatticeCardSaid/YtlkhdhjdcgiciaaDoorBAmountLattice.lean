/- The law AmountLattice in plain data, with the facts that it needs. Conditions: those of its statement. -/
import Derived.Test.YtlkhdhjdcgiciaaDoorGL
import Derived.IntWalk
import Derived.Test.YtlkhdhjdcgiciaaDoorPAOk
import Derived.Test.YtlkhdhjdcgiciaaDoorPAx14
import Derived.Test.YtlkhdhjdcgiciaaDoorPAx17
import Derived.Test.YtlkhdhjdcgiciaaDoorPAx2
import Derived.Test.YtlkhdhjdcgiciaaDoorPAx3
import Derived.Test.YtlkhdhjdcgiciaaDoorPAx4
import Derived.Test.YtlkhdhjdcgiciaaDoorPAx7
import Derived.Test.YtlkhdhjdcgiciaaDoorPAx8
namespace Go.Proofs.YtlkhdhjdcgiciaaDoor.Amt
set_option linter.unusedVariables false
def valid (m : Int) : Bool := decide (1 ≤ m) && decide (m ≤ 5)
def shaped (k n : Int) : Bool := (k == 1 && n == 1) || (k == 2 && decide (1 ≤ n) && decide (n ≤ 8))
def zero (m u : Int) : Bool := m == 0 && u == 0
def fits (k n m u : Int) : Bool := shaped k n && (if k = 1 then valid m && u == 0 else m == 0 && decide (1 ≤ u) && decide (u ≤ n))
def permitted (k n m u : Int) : Bool := shaped k n && (zero m u || fits k n m u)
def mcovers (a b : Int) : Bool := valid a && valid b && (a == b || a == 5 || b == 1 || (a == 4 && b != 5))
def msup (a b : Int) : Int := if mcovers 1 a && mcovers 1 b then 1 else if mcovers 2 a && mcovers 2 b then 2 else if mcovers 3 a && mcovers 3 b then 3 else if mcovers 4 a && mcovers 4 b then 4 else if mcovers 5 a && mcovers 5 b then 5 else 0
def covers (k n am au bm bu : Int) : Bool := permitted k n am au && permitted k n bm bu && (zero bm bu || (!zero am au && (if k = 1 then mcovers am bm else decide (bu ≤ au))))
theorem five {a : Int} (h : 1 ≤ a ∧ a ≤ 5) : a = 1 ∨ a = 2 ∨ a = 3 ∨ a = 4 ∨ a = 5 := by omega
theorem valid_iff {a : Int} : valid a = true ↔ 1 ≤ a ∧ a ≤ 5 := by simp [valid]
end Go.Proofs.YtlkhdhjdcgiciaaDoor.Amt


/- What the printed functions of the packages mode and amount, and of their references, compute. Conditions: none of our own. -/
namespace Go.Proofs.YtlkhdhjdcgiciaaDoor
open Go.RowKit Go.Proofs.YtlkhdhjdcgiciaaDoorW.PrintWords Go.Proofs.YtlkhdhjdcgiciaaDoorW.PrintLast Go.Proofs.YtlkhdhjdcgiciaaDoorW.PrintMore Amt
namespace PA
set_option linter.unusedVariables false
set_option linter.unusedSimpArgs false
theorem shaped_eq (s : ByteArray) (k n h : Int) : amount_Shaped.f s k n h = some (shaped k n) := by
  unfold amount_Shaped.f shaped
  by_cases h1 : k = 1
  · subst h1; simp
  · rw [if_neg h1]
    by_cases h2 : k = 2
    · subst h2
      by_cases h3 : n ≥ 1
      · rw [if_pos rfl, if_pos h3]; simp [h3]
      · rw [if_pos rfl, if_neg h3]; simp [h3]
    · rw [if_neg h2]; simp [h1, h2]
theorem rshaped_eq (s : ByteArray) (k n h : Int) : clusterlocksref04_Shaped.f s k n h = some (shaped k n) := by
  unfold clusterlocksref04_Shaped.f shaped
  by_cases h1 : k = 1
  · subst h1
    by_cases h3 : n = 1
    · subst h3; simp
    · rw [if_pos rfl, if_neg h3, if_neg (by omega)]; simp [h3]
  · rw [if_neg h1]
    by_cases h2 : k = 2
    · subst h2
      by_cases h3 : n ≥ 1
      · rw [if_pos rfl, if_pos h3]; simp [h3]
      · rw [if_pos rfl, if_neg h3]; simp [h3]
    · rw [if_neg h2]; simp [h1, h2]
theorem valid_eq (m : Int) : mode_Valid.f m = some (valid m) := by
  unfold mode_Valid.f valid
  by_cases h : m ≥ 1
  · rw [if_pos h]; simp [h]
  · rw [if_neg h]; simp [h]
theorem rvalid_eq (m : Int) : clusterlocksref03_Valid.f m = some (valid m) := by
  unfold clusterlocksref03_Valid.f valid
  by_cases h : m ≥ 1
  · rw [if_pos h]; simp [h]
  · rw [if_neg h]; simp [h]
theorem zero_eq (m u : Int) : amount_Zero.f m u = some (zero m u) := rfl
theorem rzero_eq (m u : Int) : clusterlocksref04_Zero.f m u = some (zero m u) := rfl
theorem fits_eq (s : ByteArray) (k n h m u : Int) : amount_Fits.f s k n h m u = some (fits k n m u) := by
  unfold amount_Fits.f fits
  simp only [shaped_eq, valid_eq, Option.bind_some]
  cases h0 : shaped k n
  · simp
  · by_cases h1 : k = 1
    · subst h1
      cases hv : valid m <;> simp [hv]
    · by_cases h2 : m = 0
      · by_cases h3 : u ≥ 1 <;> simp [h1, h2, h3]
      · simp [h1, h2]
theorem rfits_eq (s : ByteArray) (k n h m u : Int) : clusterlocksref04_Fits.f s k n h m u = some (fits k n m u) := by
  unfold clusterlocksref04_Fits.f fits
  simp only [rshaped_eq, rvalid_eq, Option.bind_some]
  cases h0 : shaped k n
  · simp
  · by_cases h1 : k = 1
    · subst h1
      cases hv : valid m <;> simp [hv]
    · by_cases h2 : m = 0
      · by_cases h3 : u ≥ 1 <;> simp [h1, h2, h3]
      · simp [h1, h2]
theorem fits_shaped {k n m u : Int} (h : fits k n m u = true) : shaped k n = true := by
  unfold fits at h
  cases h0 : shaped k n
  · simp [h0] at h
  · rfl
theorem permitted_eq (s : ByteArray) (k n h m u : Int) : amount_permitted.f s k n h m u = some (permitted k n m u) := by
  unfold amount_permitted.f permitted
  simp only [fits_eq, zero_eq, shaped_eq, Option.bind_some]
  cases hf : fits k n m u
  · cases hz : zero m u <;> simp
  · simp [fits_shaped hf]
theorem rpermitted_eq (s : ByteArray) (k n h m u : Int) : clusterlocksref04_Permitted.f s k n h m u = some (permitted k n m u) := by
  unfold clusterlocksref04_Permitted.f permitted
  simp only [rfits_eq, rzero_eq, rshaped_eq, Option.bind_some]
  cases hs : shaped k n <;> cases hz : zero m u <;> simp
theorem wrap_small {x : Int} (h0 : -9223372036854775808 ≤ x) (h : x ≤ 9223372036854775807) : wrap64 x = x := by unfold wrap64; omega
end PA
end Go.Proofs.YtlkhdhjdcgiciaaDoor


/- What Covers and Join compute, in the program and in the reference, and that the two agree. Conditions: none of our own. -/
namespace Go.Proofs.YtlkhdhjdcgiciaaDoor
open Go.RowKit Go.Proofs.YtlkhdhjdcgiciaaDoorW.PrintWords Go.Proofs.YtlkhdhjdcgiciaaDoorW.PrintLast Go.Proofs.YtlkhdhjdcgiciaaDoorW.PrintMore Amt
namespace PA
set_option linter.unusedVariables false
set_option linter.unusedSimpArgs false
theorem valid_false {a : Int} (h : ¬ (1 ≤ a ∧ a ≤ 5)) : valid a = false := by rw [Bool.eq_false_iff]; intro h2; exact h (valid_iff.1 h2)
theorem valid_true {a : Int} (h : 1 ≤ a ∧ a ≤ 5) : valid a = true := valid_iff.2 h
theorem mcov_eq (a b : Int) : mode_Covers.f a b = some (mcovers a b) := by
  unfold mode_Covers.f
  simp only [valid_eq, Option.bind_some]
  by_cases ha : 1 ≤ a ∧ a ≤ 5
  · by_cases hb : 1 ≤ b ∧ b ≤ 5
    · rcases five ha with rfl | rfl | rfl | rfl | rfl <;> rcases five hb with rfl | rfl | rfl | rfl | rfl <;> decide +kernel
    · simp [valid_false hb, valid_true ha, mcovers]
  · simp [valid_false ha, mcovers]
theorem sup_eq (a b : Int) : Ev (fun k => mode_Sup.f k a b) (msup a b) := by
  have h6 : Ev (fun k => mode_Sup.l0 k a b 6) 0 := Ev.step (f := fun _ => some 0) (fun k => rfl) (Ev.now _)
  have st : ∀ (m : Int) (r : Int), 1 ≤ m → m ≤ 5 → Ev (fun k => mode_Sup.l0 k a b (m + 1)) r → Ev (fun k => mode_Sup.l0 k a b m) (if mcovers m a && mcovers m b then m else r) := by
    intro m r h0 h1 h
    have hw : wrap64 (m + 1) = m + 1 := wrap_small (by omega) (by omega)
    cases hc : mcovers m a
    · refine Ev.step (fun k => ?_) (by simpa using h)
      simp only [mode_Sup.l0, mcov_eq, Option.bind_some, hc, hw]
      rw [if_pos h1, if_neg (by decide)]
    · cases hd : mcovers m b
      · refine Ev.step (fun k => ?_) (by simpa using h)
        simp only [mode_Sup.l0, mcov_eq, Option.bind_some, hc, hd, hw]
        rw [if_pos h1, if_pos trivial, if_neg (by decide)]
      · refine Ev.step (f := fun _ => some m) (fun k => ?_) (by simpa using Ev.now m)
        simp only [mode_Sup.l0, mcov_eq, Option.bind_some, hc, hd, hw]
        rw [if_pos h1, if_pos trivial, if_pos trivial]
  have h1 := st 1 _ (by omega) (by omega) (st 2 _ (by omega) (by omega) (st 3 _ (by omega) (by omega) (st 4 _ (by omega) (by omega) (st 5 _ (by omega) (by omega) h6))))
  have hj : Ev (fun k => mode_Sup.j0 k a b (!valid b)) (if valid b then msup a b else 0) := by
    cases valid b
    · exact Ev.step (f := fun _ => some 0) (fun k => rfl) (Ev.now _)
    · exact Ev.step (fun k => rfl) h1
  cases ha : valid a
  · have e : msup a b = 0 := by simp [msup, mcovers, ha]
    rw [e]
    have hj0 : Ev (fun k => mode_Sup.j0 k a b true) 0 := Ev.step (f := fun _ => some 0) (fun k => rfl) (Ev.now _)
    refine Ev.congr (fun k => ?_) hj0
    unfold mode_Sup.f
    simp only [valid_eq, Option.bind_some, ha]
    rfl
  · have e : msup a b = (if valid b then msup a b else 0) := by
      cases hb : valid b
      · simp [msup, mcovers, hb]
      · rfl
    rw [e]
    refine Ev.congr (fun k => ?_) hj
    unfold mode_Sup.f
    simp only [valid_eq, Option.bind_some, ha]
    rfl
theorem covers_eq (s : ByteArray) (kd n hm am au bm bu : Int) : Ev (fun k => amount_Covers.f k s kd n hm am au bm bu) (covers kd n am au bm bu) := by
  have hj : Ev (fun k => amount_Covers.j0 k (!permitted kd n bm bu) s kd n hm am au bm bu) (permitted kd n bm bu && (zero bm bu || (!zero am au && (if kd = 1 then mcovers am bm else decide (bu ≤ au))))) := by
    refine Ev.step (f := fun _ => some _) (fun k => ?_) (Ev.now _)
    simp only [amount_Covers.j0, zero_eq, mcov_eq, Option.bind_some]
    cases permitted kd n bm bu
    · rfl
    · cases zero bm bu
      · cases zero am au
        · by_cases h1 : kd = 1 <;> simp [h1]
        · rfl
      · rfl
  cases ha : permitted kd n am au
  · have e : covers kd n am au bm bu = false := by simp [covers, ha]
    rw [e]
    have hj0 : Ev (fun k => amount_Covers.j0 k true s kd n hm am au bm bu) false := Ev.step (f := fun _ => some false) (fun k => rfl) (Ev.now _)
    refine Ev.congr (fun k => ?_) hj0
    unfold amount_Covers.f
    simp only [permitted_eq, Option.bind_some, ha]
    rfl
  · have e : covers kd n am au bm bu = (permitted kd n bm bu && (zero bm bu || (!zero am au && (if kd = 1 then mcovers am bm else decide (bu ≤ au))))) := by simp [covers, ha]
    rw [e]
    refine Ev.congr (fun k => ?_) hj
    unfold amount_Covers.f
    simp only [permitted_eq, Option.bind_some, ha]
    rfl
def join (kd n am au bm bu : Int) : Int × Int := if permitted kd n am au && permitted kd n bm bu then (if zero am au then (bm, bu) else if zero bm bu then (am, au) else if kd = 1 then (msup am bm, 0) else (0, mx au bu)) else (0, 0)
theorem join_eq (s : ByteArray) (kd n hm am au bm bu : Int) : Ev (fun k => amount_Join.f k s kd n hm am au bm bu) (join kd n am au bm bu) := by
  obtain ⟨K, hK⟩ := sup_eq am bm
  refine ⟨K + 1, fun k hk => ?_⟩
  obtain ⟨k, rfl⟩ : ∃ m, k = m + 1 := ⟨k - 1, by omega⟩
  have h := hK k (by omega)
  simp only at h
  unfold amount_Join.f join
  simp only [permitted_eq, Option.bind_some, amount_Join.j0, zero_eq, h]
  cases permitted kd n am au
  · rfl
  · cases permitted kd n bm bu
    · rfl
    · cases zero am au
      · cases zero bm bu
        · by_cases h1 : kd = 1 <;> simp [h1]
        · rfl
      · rfl
theorem perm_cases {kd n m u : Int} (h : permitted kd n m u = true) (hz : zero m u = false) : (kd = 1 ∧ 1 ≤ m ∧ m ≤ 5 ∧ u = 0) ∨ (kd = 2 ∧ m = 0 ∧ 1 ≤ u ∧ u ≤ n) := by
  simp only [permitted, fits, hz, Bool.false_or, Bool.and_eq_true] at h
  obtain ⟨h1, _, h2⟩ := h
  simp only [shaped, Bool.or_eq_true, Bool.and_eq_true, beq_iff_eq, decide_eq_true_eq] at h1
  by_cases hk : kd = 1
  · rw [if_pos hk] at h2
    simp only [Bool.and_eq_true, beq_iff_eq, valid_iff] at h2
    exact .inl ⟨hk, h2.1.1, h2.1.2, h2.2⟩
  · rw [if_neg hk] at h2
    simp only [Bool.and_eq_true, beq_iff_eq, decide_eq_true_eq] at h2
    exact .inr ⟨by omega, h2.1.1, h2.1.2, h2.2⟩
theorem zero_iff {m u : Int} : zero m u = true ↔ m = 0 ∧ u = 0 := by simp [zero]
end PA
end Go.Proofs.YtlkhdhjdcgiciaaDoor


/- What the two functions Compatible compute of a list of amounts, and Room. Conditions: none of our own. -/
namespace Go.Proofs.YtlkhdhjdcgiciaaDoor
open Go.RowKit Go.Proofs.YtlkhdhjdcgiciaaDoorW.PrintWords Go.Proofs.YtlkhdhjdcgiciaaDoorW.PrintLast Go.Proofs.YtlkhdhjdcgiciaaDoorW.PrintMore Amt
namespace PA
set_option linter.unusedVariables false
set_option linter.unusedSimpArgs false
end PA
end Go.Proofs.YtlkhdhjdcgiciaaDoor


/- What the reference's function Compatible computes of a list of amounts, and its Room. Conditions: none of our own. -/
namespace Go.Proofs.YtlkhdhjdcgiciaaDoor
open Go.RowKit Go.Proofs.YtlkhdhjdcgiciaaDoorW.PrintWords Go.Proofs.YtlkhdhjdcgiciaaDoorW.PrintLast Go.Proofs.YtlkhdhjdcgiciaaDoorW.PrintMore Amt
namespace PA
set_option linter.unusedVariables false
set_option linter.unusedSimpArgs false
end PA
end Go.Proofs.YtlkhdhjdcgiciaaDoor


/- The sanity check of the amounts' laws, and how amounts are written. Conditions: none of our own. -/
namespace Go.Proofs.YtlkhdhjdcgiciaaDoor
open Go.RowKit Go.Proofs.YtlkhdhjdcgiciaaDoorW.PrintWords Go.Proofs.YtlkhdhjdcgiciaaDoorW.PrintLast Go.Proofs.YtlkhdhjdcgiciaaDoorW.PrintMore Amt
namespace PA
set_option linter.unusedVariables false
set_option linter.unusedSimpArgs false
theorem awake_at : clusterlockslaw04_awake.f 30 = some true := by decide +kernel
theorem awake_ev : Ev (fun k => clusterlockslaw04_awake.f k) true := Ev.of (fun k => clusterlockslaw04_awake.mono k) awake_at
end PA
end Go.Proofs.YtlkhdhjdcgiciaaDoor


/- Permitted amounts form a lattice; lists of amounts that may be held together: in plain Lean. Conditions: none of our own. -/
namespace Go.Proofs.YtlkhdhjdcgiciaaDoor
open Go.RowKit Go.Proofs.YtlkhdhjdcgiciaaDoorW.PrintWords Go.Proofs.YtlkhdhjdcgiciaaDoorW.PrintLast Go.Proofs.YtlkhdhjdcgiciaaDoorW.PrintMore Amt
namespace PA
set_option linter.unusedVariables false
set_option linter.unusedSimpArgs false
theorem six {m : Int} (h0 : 0 ≤ m) (h : m ≤ 5) : ∃ a : Fin 6, m = (a.val : Int) := ⟨⟨m.toNat, by omega⟩, by simp; omega⟩
theorem perm_kind {k n m u : Int} (h : permitted k n m u = true) : k = 1 ∨ k = 2 := by
  simp only [permitted, Bool.and_eq_true] at h
  have := h.1
  simp only [shaped, Bool.or_eq_true, Bool.and_eq_true, beq_iff_eq, decide_eq_true_eq] at this
  omega
theorem perm1 {n m u : Int} : permitted 1 n m u = true ↔ n = 1 ∧ 0 ≤ m ∧ m ≤ 5 ∧ u = 0 := by
  constructor
  · intro h
    cases hz : zero m u
    · rcases perm_cases h hz with ⟨_, h1, h2, h3⟩ | ⟨h1, _⟩
      · refine ⟨?_, by omega, h2, h3⟩
        simp only [permitted, Bool.and_eq_true] at h
        have := h.1
        simp only [shaped, Bool.or_eq_true, Bool.and_eq_true, beq_iff_eq, decide_eq_true_eq] at this
        omega
      · omega
    · obtain ⟨rfl, rfl⟩ := zero_iff.1 hz
      simp only [permitted, Bool.and_eq_true] at h
      have := h.1
      simp only [shaped, Bool.or_eq_true, Bool.and_eq_true, beq_iff_eq, decide_eq_true_eq] at this
      omega
  · rintro ⟨rfl, h1, h2, rfl⟩
    obtain ⟨a, rfl⟩ := six h1 h2
    have key : ∀ a : Fin 6, permitted 1 1 (a.val : Int) 0 = true := by decide +kernel
    exact key a
theorem perm2 {n m u : Int} : permitted 2 n m u = true ↔ 1 ≤ n ∧ n ≤ 8 ∧ m = 0 ∧ 0 ≤ u ∧ u ≤ n := by
  constructor
  · intro h
    have hs : shaped 2 n = true := by
      simp only [permitted, Bool.and_eq_true] at h
      exact h.1
    simp only [shaped, Bool.or_eq_true, Bool.and_eq_true, beq_iff_eq, decide_eq_true_eq] at hs
    cases hz : zero m u
    · rcases perm_cases h hz with ⟨h1, _⟩ | ⟨_, h1, h2, h3⟩
      · omega
      · omega
    · obtain ⟨rfl, rfl⟩ := zero_iff.1 hz
      omega
  · rintro ⟨h1, h2, rfl, h3, h4⟩
    by_cases hu : u = 0
    · subst hu
      simp [permitted, shaped, zero, h1, h2]
    · simp [permitted, fits, shaped, zero, h1, h2, h4, hu]
      omega
theorem cov2 {n am au bm bu : Int} (ha : permitted 2 n am au = true) (hb : permitted 2 n bm bu = true) : covers 2 n am au bm bu = decide (bu ≤ au) := by
  have h1 := perm2.1 ha
  have h2 := perm2.1 hb
  obtain ⟨_, _, rfl, h3, h4⟩ := h1
  obtain ⟨_, _, rfl, h5, h6⟩ := h2
  simp only [covers, ha, hb, Bool.true_and]
  by_cases e : bu = 0
  · subst e
    simp [zero, h3]
  · by_cases e2 : au = 0
    · subst e2
      have : ¬ bu ≤ 0 := by omega
      simp [zero, e, this]
    · have e3 : (bu == 0) = false := beq_eq_false_iff_ne.2 e
      have e4 : (au == 0) = false := beq_eq_false_iff_ne.2 e2
      simp [zero, e3, e4]
theorem cov_perm {k n am au bm bu : Int} (h : covers k n am au bm bu = true) : permitted k n am au = true ∧ permitted k n bm bu = true := by
  simp only [covers, Bool.and_eq_true] at h
  exact ⟨h.1.1, h.1.2⟩
theorem cov_refl (k n m u : Int) : covers k n m u m u = permitted k n m u := by
  cases h : permitted k n m u
  · simp [covers, h]
  · rcases perm_kind h with rfl | rfl
    · obtain ⟨rfl, h1, h2, rfl⟩ := perm1.1 h
      obtain ⟨a, rfl⟩ := six h1 h2
      have key : ∀ a : Fin 6, covers 1 1 (a.val : Int) 0 (a.val : Int) 0 = true := by decide +kernel
      exact key a
    · rw [cov2 h h]; simp
theorem cov_antisymm {k n am au bm bu : Int} (h1 : covers k n am au bm bu = true) (h2 : covers k n bm bu am au = true) : am = bm ∧ au = bu := by
  obtain ⟨ha, hb⟩ := cov_perm h1
  rcases perm_kind ha with rfl | rfl
  · obtain ⟨rfl, a1, a2, rfl⟩ := perm1.1 ha
    obtain ⟨_, b1, b2, rfl⟩ := perm1.1 hb
    obtain ⟨a, rfl⟩ := six a1 a2
    obtain ⟨b, rfl⟩ := six b1 b2
    have key : ∀ a b : Fin 6, covers 1 1 (a.val : Int) 0 (b.val : Int) 0 = true → covers 1 1 (b.val : Int) 0 (a.val : Int) 0 = true → a = b := by decide +kernel
    rw [key a b h1 h2]
    exact ⟨rfl, rfl⟩
  · rw [cov2 ha hb, decide_eq_true_eq] at h1
    rw [cov2 hb ha, decide_eq_true_eq] at h2
    have := perm2.1 ha
    have := perm2.1 hb
    omega
theorem cov_trans {k n am au bm bu cm cu : Int} (h1 : covers k n am au bm bu = true) (h2 : covers k n bm bu cm cu = true) : covers k n am au cm cu = true := by
  obtain ⟨ha, hb⟩ := cov_perm h1
  obtain ⟨_, hc⟩ := cov_perm h2
  rcases perm_kind ha with rfl | rfl
  · obtain ⟨rfl, a1, a2, rfl⟩ := perm1.1 ha
    obtain ⟨_, b1, b2, rfl⟩ := perm1.1 hb
    obtain ⟨_, c1, c2, rfl⟩ := perm1.1 hc
    obtain ⟨a, rfl⟩ := six a1 a2
    obtain ⟨b, rfl⟩ := six b1 b2
    obtain ⟨c, rfl⟩ := six c1 c2
    have key : ∀ a b c : Fin 6, covers 1 1 (a.val : Int) 0 (b.val : Int) 0 = true → covers 1 1 (b.val : Int) 0 (c.val : Int) 0 = true → covers 1 1 (a.val : Int) 0 (c.val : Int) 0 = true := by decide +kernel
    exact key a b c h1 h2
  · rw [cov2 ha hb, decide_eq_true_eq] at h1
    rw [cov2 hb hc, decide_eq_true_eq] at h2
    rw [cov2 ha hc, decide_eq_true_eq]
    omega
theorem join2 {n am au bm bu : Int} (ha : permitted 2 n am au = true) (hb : permitted 2 n bm bu = true) : join 2 n am au bm bu = (0, mx au bu) := by
  obtain ⟨_, _, rfl, h3, h4⟩ := perm2.1 ha
  obtain ⟨_, _, rfl, h5, h6⟩ := perm2.1 hb
  simp only [join, ha, hb, Bool.true_and, if_true]
  by_cases e : au = 0
  · subst e
    simp only [zero, beq_self_eq_true, Bool.and_self, if_true, mx]
    by_cases e2 : 0 < bu
    · rw [if_pos e2]
    · rw [if_neg e2]; congr 1; omega
  · by_cases e2 : bu = 0
    · subst e2
      have : ¬ au < 0 := by omega
      simp [zero, e, mx, this]
    · simp [zero, e, e2]
theorem mx_le {a b c : Int} : mx a b ≤ c ↔ a ≤ c ∧ b ≤ c := by unfold mx; split <;> omega
theorem join_perm {k n am au bm bu : Int} (ha : permitted k n am au = true) (hb : permitted k n bm bu = true) : permitted k n (join k n am au bm bu).1 (join k n am au bm bu).2 = true := by
  rcases perm_kind ha with rfl | rfl
  · obtain ⟨rfl, a1, a2, rfl⟩ := perm1.1 ha
    obtain ⟨_, b1, b2, rfl⟩ := perm1.1 hb
    obtain ⟨a, rfl⟩ := six a1 a2
    obtain ⟨b, rfl⟩ := six b1 b2
    have key : ∀ a b : Fin 6, permitted 1 1 (join 1 1 (a.val : Int) 0 (b.val : Int) 0).1 (join 1 1 (a.val : Int) 0 (b.val : Int) 0).2 = true := by decide +kernel
    exact key a b
  · rw [join2 ha hb]
    have h1 := perm2.1 ha
    have h2 := perm2.1 hb
    refine perm2.2 ⟨h1.1, h1.2.1, rfl, ?_, ?_⟩
    · have := (mx_le (a := au) (b := bu) (c := mx au bu)).1 (Int.le_refl _)
      omega
    · rw [mx_le]; omega
theorem join_comm {k n am au bm bu : Int} (ha : permitted k n am au = true) (hb : permitted k n bm bu = true) : join k n am au bm bu = join k n bm bu am au := by
  rcases perm_kind ha with rfl | rfl
  · obtain ⟨rfl, a1, a2, rfl⟩ := perm1.1 ha
    obtain ⟨_, b1, b2, rfl⟩ := perm1.1 hb
    obtain ⟨a, rfl⟩ := six a1 a2
    obtain ⟨b, rfl⟩ := six b1 b2
    have key : ∀ a b : Fin 6, join 1 1 (a.val : Int) 0 (b.val : Int) 0 = join 1 1 (b.val : Int) 0 (a.val : Int) 0 := by decide +kernel
    exact key a b
  · rw [join2 ha hb, join2 hb ha]
    congr 1
    unfold mx; split <;> split <;> omega
theorem join_ub {k n am au bm bu : Int} (ha : permitted k n am au = true) (hb : permitted k n bm bu = true) : covers k n (join k n am au bm bu).1 (join k n am au bm bu).2 am au = true := by
  rcases perm_kind ha with rfl | rfl
  · obtain ⟨rfl, a1, a2, rfl⟩ := perm1.1 ha
    obtain ⟨_, b1, b2, rfl⟩ := perm1.1 hb
    obtain ⟨a, rfl⟩ := six a1 a2
    obtain ⟨b, rfl⟩ := six b1 b2
    have key : ∀ a b : Fin 6, covers 1 1 (join 1 1 (a.val : Int) 0 (b.val : Int) 0).1 (join 1 1 (a.val : Int) 0 (b.val : Int) 0).2 (a.val : Int) 0 = true := by decide +kernel
    exact key a b
  · rw [cov2 (join_perm ha hb) ha, join2 ha hb, decide_eq_true_eq]
    exact ((mx_le (a := au) (b := bu)).1 (Int.le_refl _)).1
theorem join_ub2 {k n am au bm bu : Int} (ha : permitted k n am au = true) (hb : permitted k n bm bu = true) : covers k n (join k n am au bm bu).1 (join k n am au bm bu).2 bm bu = true := by
  rw [join_comm ha hb]; exact join_ub hb ha
theorem join_lub {k n am au bm bu cm cu : Int} (h1 : covers k n cm cu am au = true) (h2 : covers k n cm cu bm bu = true) : covers k n cm cu (join k n am au bm bu).1 (join k n am au bm bu).2 = true := by
  obtain ⟨hc, ha⟩ := cov_perm h1
  obtain ⟨_, hb⟩ := cov_perm h2
  rcases perm_kind ha with rfl | rfl
  · obtain ⟨rfl, a1, a2, rfl⟩ := perm1.1 ha
    obtain ⟨_, b1, b2, rfl⟩ := perm1.1 hb
    obtain ⟨_, c1, c2, rfl⟩ := perm1.1 hc
    obtain ⟨a, rfl⟩ := six a1 a2
    obtain ⟨b, rfl⟩ := six b1 b2
    obtain ⟨c, rfl⟩ := six c1 c2
    have key : ∀ a b c : Fin 6, covers 1 1 (c.val : Int) 0 (a.val : Int) 0 = true → covers 1 1 (c.val : Int) 0 (b.val : Int) 0 = true → covers 1 1 (c.val : Int) 0 (join 1 1 (a.val : Int) 0 (b.val : Int) 0).1 (join 1 1 (a.val : Int) 0 (b.val : Int) 0).2 = true := by decide +kernel
    exact key a b c h1 h2
  · rw [cov2 hc ha, decide_eq_true_eq] at h1
    rw [cov2 hc hb, decide_eq_true_eq] at h2
    rw [cov2 hc (join_perm ha hb), join2 ha hb, decide_eq_true_eq, mx_le]
    exact ⟨h1, h2⟩
/-! ### Lists -/
end PA
end Go.Proofs.YtlkhdhjdcgiciaaDoor


/- AmountLattice -/
namespace Go.Proofs.YtlkhdhjdcgiciaaDoor.PA
open Go.RowKit Go.Proofs.YtlkhdhjdcgiciaaDoorW.PrintWords Go.Proofs.YtlkhdhjdcgiciaaDoorW.PrintLast Go.Proofs.YtlkhdhjdcgiciaaDoorW.PrintMore
open Amt
set_option linter.unusedVariables false
set_option linter.unusedSimpArgs false
/-- The law as a statement on plain data. -/
def AmountLattice_Pure : Prop := ∀ (x0 : S23) (x1 : S25) (x2 : S25) (x3 : S25), ok23 x0 → ok25 x1 → ok25 x2 → ok25 x3 → ∃ k, clusterlockslaw04_AmountLattice.f k x0.f0 x0.f1 x0.f2 x0.f3 x1.f0 x1.f1 x2.f0 x2.f1 x3.f0 x3.f1 = some true
theorem AmountLattice_pure : AmountLattice_Pure := by
  intro x0 x1 x2 x3 _ _ _ _
  obtain ⟨s, kd, n, hm⟩ := x0
  obtain ⟨am, au⟩ := x1
  obtain ⟨bm, bu⟩ := x2
  obtain ⟨cm, cu⟩ := x3
  obtain ⟨K, hK⟩ := awake_ev
  obtain ⟨K1, hK1⟩ := covers_eq s kd n hm am au am au
  obtain ⟨K2, hK2⟩ := covers_eq s kd n hm am au bm bu
  obtain ⟨K3, hK3⟩ := covers_eq s kd n hm bm bu am au
  obtain ⟨K4, hK4⟩ := covers_eq s kd n hm bm bu cm cu
  obtain ⟨K5, hK5⟩ := covers_eq s kd n hm am au cm cu
  obtain ⟨K6, hK6⟩ := join_eq s kd n hm am au bm bu
  obtain ⟨K7, hK7⟩ := covers_eq s kd n hm (join kd n am au bm bu).1 (join kd n am au bm bu).2 am au
  obtain ⟨K8, hK8⟩ := covers_eq s kd n hm (join kd n am au bm bu).1 (join kd n am au bm bu).2 bm bu
  obtain ⟨K9, hK9⟩ := covers_eq s kd n hm cm cu am au
  obtain ⟨K10, hK10⟩ := covers_eq s kd n hm cm cu bm bu
  obtain ⟨K11, hK11⟩ := covers_eq s kd n hm cm cu (join kd n am au bm bu).1 (join kd n am au bm bu).2
  generalize hM : K + K1 + K2 + K3 + K4 + K5 + K6 + K7 + K8 + K9 + K10 + K11 = M
  have t : ∀ j : Nat, clusterlockslaw04_awake.f (M + j) = some true ∧ amount_Covers.f (M + j) s kd n hm am au am au = some (covers kd n am au am au) ∧ amount_Covers.f (M + j) s kd n hm am au bm bu = some (covers kd n am au bm bu) ∧ amount_Covers.f (M + j) s kd n hm bm bu am au = some (covers kd n bm bu am au) ∧
      amount_Covers.f (M + j) s kd n hm bm bu cm cu = some (covers kd n bm bu cm cu) ∧ amount_Covers.f (M + j) s kd n hm am au cm cu = some (covers kd n am au cm cu) ∧ amount_Join.f (M + j) s kd n hm am au bm bu = some (join kd n am au bm bu) ∧
      amount_Covers.f (M + j) s kd n hm (join kd n am au bm bu).1 (join kd n am au bm bu).2 am au = some (covers kd n (join kd n am au bm bu).1 (join kd n am au bm bu).2 am au) ∧ amount_Covers.f (M + j) s kd n hm (join kd n am au bm bu).1 (join kd n am au bm bu).2 bm bu = some (covers kd n (join kd n am au bm bu).1 (join kd n am au bm bu).2 bm bu) ∧
      amount_Covers.f (M + j) s kd n hm cm cu am au = some (covers kd n cm cu am au) ∧ amount_Covers.f (M + j) s kd n hm cm cu bm bu = some (covers kd n cm cu bm bu) ∧ amount_Covers.f (M + j) s kd n hm cm cu (join kd n am au bm bu).1 (join kd n am au bm bu).2 = some (covers kd n cm cu (join kd n am au bm bu).1 (join kd n am au bm bu).2) :=
    fun j => ⟨hK _ (by omega), hK1 _ (by omega), hK2 _ (by omega), hK3 _ (by omega), hK4 _ (by omega), hK5 _ (by omega), hK6 _ (by omega), hK7 _ (by omega), hK8 _ (by omega), hK9 _ (by omega), hK10 _ (by omega), hK11 _ (by omega)⟩
  clear hM hK hK1 hK2 hK3 hK4 hK5 hK6 hK7 hK8 hK9 hK10 hK11
  have j2 : ∀ b, b = (!(permitted kd n am au && permitted kd n bm bu)) → clusterlockslaw04_AmountLattice.j2 (M + 1) b s kd n hm am au bm bu cm cu = some true := by
    intro b hb
    obtain ⟨h, h1, h2, h3, h4, h5, h6, h7, h8, h9, h10, h11⟩ := t 0
    simp only [Nat.add_zero] at h h1 h2 h3 h4 h5 h6 h7 h8 h9 h10 h11
    cases b
    · have hp : permitted kd n am au = true ∧ permitted kd n bm bu = true := by
        have : (permitted kd n am au && permitted kd n bm bu) = true := by
          cases hx : (permitted kd n am au && permitted kd n bm bu)
          · rw [hx] at hb; cases hb
          · rfl
        simpa using this
      simp only [clusterlockslaw04_AmountLattice.j2, h6, h7, h8, h9, h10, h11, Option.bind_some, join_ub hp.1 hp.2, join_ub2 hp.1 hp.2]
      cases hca : covers kd n cm cu am au
      · rfl
      · cases hcb : covers kd n cm cu bm bu
        · rfl
        · rw [join_lub hca hcb]; rfl
    · have hj : join kd n am au bm bu = (0, 0) := by
        unfold join
        rw [if_neg]
        intro hx
        rw [hx] at hb
        cases hb
      simp only [clusterlockslaw04_AmountLattice.j2, h6, hj, Option.bind_some, zero_eq]
      rfl
  have j1 : clusterlockslaw04_AmountLattice.j1 (M + 2) false s kd n hm am au bm bu cm cu = some true := by
    show clusterlockslaw04_AmountLattice.j1 ((M + 1) + 1) false s kd n hm am au bm bu cm cu = some true
    simp only [clusterlockslaw04_AmountLattice.j1, rpermitted_eq, Option.bind_some]
    rw [if_neg (by decide)]
    cases ha : permitted kd n am au
    · rw [if_neg (by decide)]
      exact j2 true (by simp [ha])
    · rw [if_pos rfl]
      exact j2 _ (by simp [ha])
  have j0 : clusterlockslaw04_AmountLattice.j0 (M + 3) false s kd n hm am au bm bu cm cu = some true := by
    show clusterlockslaw04_AmountLattice.j0 ((M + 2) + 1) false s kd n hm am au bm bu cm cu = some true
    obtain ⟨h, h1, h2, h3, h4, h5, h6, h7, h8, h9, h10, h11⟩ := t 2
    simp only [clusterlockslaw04_AmountLattice.j0, h2, h3, h4, h5, Option.bind_some]
    rw [if_neg (by decide)]
    cases hab : covers kd n am au bm bu
    · simp only [Bool.false_eq_true, if_false]
      exact j1
    · simp only [if_true]
      have tr : (if covers kd n bm bu cm cu = true then clusterlockslaw04_AmountLattice.j1 (M + 2) (!covers kd n am au cm cu) s kd n hm am au bm bu cm cu else clusterlockslaw04_AmountLattice.j1 (M + 2) false s kd n hm am au bm bu cm cu) = some true := by
        cases hbc : covers kd n bm bu cm cu
        · simp only [Bool.false_eq_true, if_false]; exact j1
        · simp only [if_true, cov_trans hab hbc, Bool.not_true]; exact j1
      cases hba : covers kd n bm bu am au
      · simp only [Bool.false_eq_true, if_false]
        exact tr
      · obtain ⟨rfl, rfl⟩ := cov_antisymm hab hba
        simp only [if_true, beq_self_eq_true, Bool.not_true, Bool.or_self, Bool.false_eq_true, if_false]
        exact tr
  refine ⟨M + 3, ?_⟩
  unfold clusterlockslaw04_AmountLattice.f
  obtain ⟨h, h1, _⟩ := t 3
  simp only [h, h1, Option.bind_some, rpermitted_eq, if_true, cov_refl]
  have e : (permitted kd n am au != permitted kd n am au) = false := by simp
  rw [e]
  exact j0
end Go.Proofs.YtlkhdhjdcgiciaaDoor.PA

