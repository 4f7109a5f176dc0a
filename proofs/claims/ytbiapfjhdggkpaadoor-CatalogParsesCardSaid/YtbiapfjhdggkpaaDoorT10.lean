/- slices.Clone and slices.Insert at a slice of resources. Conditions: as the theorems state. -/
import Derived.Shelf.Spec.SlicesInsert
import Derived.Lib.AppendZerosOnto
import Derived.Lib.Overlaps
import Derived.Test.YtbiapfjhdggkpaaDoorPAx0
import Derived.Test.YtbiapfjhdggkpaaDoorSlim
import Derived.Test.YtbiapfjhdggkpaaDoorT8
namespace Go.Proofs.YtbiapfjhdggkpaaDoor.PA
open Go.RowKit Go.Lib Go.Proofs.YtbiapfjhdggkpaaDoorW.PrintWords Go.Proofs.YtbiapfjhdggkpaaDoorW.PrintLast Go.Proofs.YtbiapfjhdggkpaaDoorW.PrintMore
attribute [local go_sem] max2_int min2_int max_two min_two max_three min_three max_four min_four
set_option linter.unusedVariables false
set_option linter.unusedSimpArgs false
/-- The cells of a resource, and of a row of them. -/
def cs26 (x : S26) : List Value := [.string x.f0, .int .i64 x.f1, .int .i64 x.f2, .int .i64 x.f3]
def flat26 : List S26 → List Value
 | [] => []
 | x :: l => cs26 x ++ flat26 l
theorem flat26_length (l : List S26) : (flat26 l).length = l.length * 4 := by
 induction l with
 | nil => rfl
 | cons x l ih => rw [flat26, List.length_append, ih]; show 4 + l.length * 4 = (l.length + 1) * 4; omega
theorem flat26_append (a b : List S26) : flat26 (a ++ b) = flat26 a ++ flat26 b := by
 induction a with
 | nil => rfl
 | cons x l ih => rw [List.cons_append, flat26, ih, flat26, List.append_assoc]
theorem flat26_take (l : List S26) (i : Nat) (hi : i ≤ l.length) : (flat26 l).take (i * 4) = flat26 (l.take i) := by
 have e : flat26 l = flat26 (l.take i) ++ flat26 (l.drop i) := by rw [← flat26_append, List.take_append_drop]
 rw [e]
 exact List.take_left' (by rw [flat26_length, List.length_take]; omega)
theorem flat26_drop (l : List S26) (i : Nat) (hi : i ≤ l.length) : (flat26 l).drop (i * 4) = flat26 (l.drop i) := by
 have e : flat26 l = flat26 (l.take i) ++ flat26 (l.drop i) := by rw [← flat26_append, List.take_append_drop]
 rw [e]
 exact List.drop_left' (by rw [flat26_length, List.length_take]; omega)
theorem flat26_one (l : List S26) : ∀ u ∈ flat26 l, u.oneCell' = true := by
 induction l with
 | nil => intro u hu; cases hu
 | cons x l ih =>
  intro u hu
  rw [flat26] at hu
  rcases List.mem_append.1 hu with h | h
  ·simp only [cs26, List.mem_cons, List.not_mem_nil, or_false] at h
   rcases h with rfl | rfl | rfl | rfl <;> rfl
  ·exact ih u h
theorem reps26 {R : S26 → List Value → Prop} (hR : ∀ x c, R x c → c = cs26 x) : ∀ (l : List S26) (cs : List Value), Reps R 4 l cs → cs = flat26 l := by
 intro l
 induction l with
 | nil => intro cs h; exact List.eq_nil_of_length_eq_zero (by rw [h.1]; rfl)
 | cons x l ih =>
  intro cs h
  have h0 := hR _ _ (h.2 0 x rfl)
  rw [Nat.zero_mul, List.drop_zero] at h0
  have h1 := ih (cs.drop 4) ⟨by rw [List.length_drop, h.1, List.length_cons]; omega, fun j p hj => by have := h.2 (j + 1) p hj; rwa [List.drop_drop, show 4 + j * 4 = (j + 1) * 4 by omega]⟩
  rw [flat26, ← h0, ← h1, List.take_append_drop]
theorem reps26_of {R : S26 → List Value → Prop} (hR : ∀ x, R x (cs26 x)) : ∀ (l : List S26), Reps R 4 l (flat26 l) := by
 intro l
 refine ⟨flat26_length l, fun j p hj => ?_⟩
 obtain ⟨hl, hp⟩ := List.getElem?_eq_some_iff.1 hj
 rw [flat26_drop l j (by omega), List.drop_eq_getElem_cons hl, flat26, hp]
 have : (cs26 p ++ flat26 (l.drop (j + 1))).take 4 = cs26 p := List.take_left' rfl
 rw [this]
 exact hR p
theorem R26_own {w : World} {base : Nat} {ok : Nat → Prop} {v : Value} {xs : List S26} (h : Kd.R k26 26 w base ok v xs) : w.ownsRow base 26 4 v xs.length (flat26 xs) := by
 obtain ⟨_, inner, hown, hr⟩ := h
 rw [← reps26 (fun x c hc => k26_openM hc) xs inner hr]
 exact hown
theorem R26_of {w : World} {base : Nat} {ok : Nat → Prop} {v : Value} {xs : List S26} (hok : ∀ k, v.ownBlock = some k → ok k) (h : w.ownsRow base 26 4 v xs.length (flat26 xs)) : Kd.R k26 26 w base ok v xs :=
 ⟨hok, flat26 xs, h, reps26_of (fun x => k26_mkM _ _ _ x) xs⟩
theorem C26_cells {w : World} {ad : Addr} {xs : List S26} (h : Kd.C k26 w (some ad) xs.length xs) : ∀ j u, (flat26 xs)[j]? = some u → w.cell? (ad.add j) = some u := by
 obtain ⟨inner, hr, hc⟩ := ReadsRow.inner_ h
 rw [← reps26 (fun x c hc => k26_open hc) xs inner hr]
 exact hc
theorem C26_none {w : World} {xs : List S26} (h : Kd.C k26 w none xs.length xs) : xs = [] := by
 rcases Nat.eq_zero_or_pos xs.length with h0 | h0
 ·exact List.eq_nil_of_length_eq_zero h0
 ·obtain ⟨_, h1, _⟩ := h.2.2 h0
  cases h1
set_option maxHeartbeats 4000000 in
set_option maxRecDepth 100000 in
theorem slices_Clone.calls (A : Option Addr) (c : Nat) (l : List S26) (w : World) (hr : Kd.C k26 w A l.length l) (hl : l.length < 1000000) :
  Calls Tryd.prog 43 #[.slice A l.length c] w fun e w' => ∃ v, e = .returned v ∧ Kd.R k26 26 w' w.heap.size (fun _ => True) v l ∧ Below w.heap.size w w' := by
 have hu24 := Tryd.underlying24
 obtain ⟨i0, hi, hz0, hz1, hz2⟩ := info_parts info26
 have q24 : ∀ (w : World) (a : Option Addr) (n c n' c' : Nat), (binOp .eql 24 (.slice a n c) (.slice none n' c')).run Tryd.prog w = .ok (.bool a.isNone) w := fun w a n c n' c' => Lib.run_eql_slice_nil w _ _ a n c n' c' Tryd.underlying24
 cases A with
 | none =>
  obtain rfl := C26_none hr
  go_enter Tryd.func43, Tryd.ntmps43
  go_wp2
  go_ret
  exact ⟨_, rfl, Kd.R_nil _ _ _ _ _, Below.refl _ _⟩
 | some ad =>
  have HC := Aside0.mk (C26_cells hr)
  have HL := Aside0.mk hl
  clear hr hl
  go_enter Tryd.func43, Tryd.ntmps43
  go_wp2_with (at_builtin; refine wpList_append_own _ rfl _ _ 24 rfl w.heap.size 26 i0 _ 4 40 Tryd.underlying24 hi hz0 hz1 hz2 (by rfl) (by decide) _ _ _ rfl (World.ownsRow_made w #[] 0 (Nat.le_refl _) (Nat.zero_le _) (by simp)) ad l.length c (flat26 l) rfl ?qc1 ?qc2 ?qc3 ?qc4 ?qc5 ?qc6 ?_)
  case qc1 => exact flat26_length l
  case qc2 =>
   intro j u hj
   exact Lib.cell?_alloc_some _ (HC.out j u hj)
  case qc3 => exact flat26_one l
  case qc4 => have := HL.out; unfold maxLen; omega
  case qc5 => have := HL.out; omega
  case qc6 => simp
  intro v' w1 hown hgrow hnil
  go_wp2
  go_ret
  refine ⟨v', rfl, R26_of (fun _ _ => trivial) (by simpa using hown), ?_⟩
  exact ((Below.refl _ w).alloc (Nat.le_refl _) _).grown hgrow (by simp) (by intro k hk; simp [Value.ownBlock] at hk; omega)
end Go.Proofs.YtbiapfjhdggkpaaDoor.PA
