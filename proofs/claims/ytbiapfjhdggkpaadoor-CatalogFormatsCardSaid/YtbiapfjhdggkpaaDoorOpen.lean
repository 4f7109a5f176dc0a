/- What an argument says, by its kind: a datum that is read at a type is a value of the kind that the walk tells of it, of whatever kind: no condition of its own. -/
import Derived.Test.YtbiapfjhdggkpaaDoorWWords
import Derived.ChangeArms
import Derived.ChangeOld
import Derived.DataReads
import Derived.OpenShut
import Derived.ProofKit
import Derived.SizedLaws
namespace Go.Proofs.YtbiapfjhdggkpaaDoor.Open
open Go.Proofs.YtbiapfjhdggkpaaDoorW.PrintWords
set_option linter.unusedVariables false

/-- A datum of type t, wherever it lies, is a value of kind d, of which ok holds. -/
def Opens {α : Type} (P : Program) (t : TypeId) (d : Kd α) (ok : α → Prop) : Prop :=
  P.cellsOf t = d.sz ∧ ∀ (H : Type) (enc : TypeId × Value → H) (w : World) (spare : Nat → Bool) (held : Bool) (fuel : Nat) (cs : List Value) (x : DataW H × List MemPlace),
    DataW.trod enc P w 0 spare held fuel t cs = some x → (x.1.weights P t).all (· ≤ reachBytes) = true → ∃ a, d.K w a cs ∧ ok a

theorem Opens.mono {α : Type} {P : Program} {t : TypeId} {d : Kd α} {ok ok' : α → Prop} (h : Opens P t d ok) (hk : ∀ a, ok a → ok' a) : Opens P t d ok' := by
  refine ⟨h.1, fun H enc w spare held fuel cs x hx hw => ?_⟩
  obtain ⟨a, ha, hok⟩ := h.2 H enc w spare held fuel cs x hx hw
  exact ⟨a, ha, hk a hok⟩

theorem Opens.int {P : Program} {t : TypeId} {k : IntKind} (ht : P.underlying t = some (.int k)) (hc : P.cellsOf t = 1) : Opens P t (Kd.int k) (fun n => (Lit.int k n).wf = true) := by
  refine ⟨hc, fun H enc w spare held fuel cs x hx _ => ?_⟩
  obtain ⟨n, rfl, _, hw⟩ := DataW.trod_int ht hx
  exact ⟨n, rfl, hw⟩
theorem Opens.bool {P : Program} {t : TypeId} (ht : P.underlying t = some .bool) (hc : P.cellsOf t = 1) : Opens P t Kd.bool (fun _ => True) := by
  refine ⟨hc, fun H enc w spare held fuel cs x hx _ => ?_⟩
  obtain ⟨b, rfl, _⟩ := DataW.trod_bool ht hx
  exact ⟨b, rfl, trivial⟩
theorem Opens.string {P : Program} {t : TypeId} (ht : P.underlying t = some .string) (hc : P.cellsOf t = 1) : Opens P t Kd.string (fun s => s.size ≤ 140737488351232) := by
  refine ⟨hc, fun H enc w spare held fuel cs x hx hw => ?_⟩
  obtain ⟨s, rfl, rfl, _⟩ := DataW.trod_string ht hx
  refine ⟨s, rfl, ?_⟩
  simp only [DataW.weights, List.all_cons, List.all_nil, Bool.and_true, decide_eq_true_eq, Array.length_toList] at hw
  exact hw

theorem weightsAll_of {H : Type} {P : Program} {e : TypeId} {l : List (DataW H)} (h : (DataW.weightsAll P e l).all (· ≤ reachBytes) = true) : ∀ y, y ∈ l → (y.weights P e).all (· ≤ reachBytes) = true := by
  induction l with
  | nil => intro y hy; cases hy
  | cons z l ih =>
    intro y hy
    simp only [DataW.weightsAll, List.all_append, Bool.and_eq_true] at h
    rcases List.mem_cons.1 hy with rfl | hy
    · exact h.1
    · exact ih h.2 y hy

theorem addr_add (a : Addr) (m n : Nat) : (a.add m).add n = a.add (m + n) := by
  unfold Addr.add
  by_cases hm : m = 0
  · subst hm
    simp
  · by_cases hn : n = 0
    · subst hn
      simp
    · simp [hm, hn, Nat.add_assoc]

theorem list_of {α : Type} (n : Nat) (Q : Nat → α → Prop) (h : ∀ i, i < n → ∃ a, Q i a) : ∃ l : List α, l.length = n ∧ ∀ i a, l[i]? = some a → Q i a := by
  induction n with
  | zero => exact ⟨[], rfl, fun i a hi => by simp at hi⟩
  | succ n ih =>
    obtain ⟨l, hl, hq⟩ := ih (fun i hi => h i (by omega))
    obtain ⟨a, ha⟩ := h n (by omega)
    refine ⟨l ++ [a], by simp [hl], fun i b hb => ?_⟩
    rcases Nat.lt_or_ge i l.length with hi | hi
    · rw [List.getElem?_append_left hi] at hb
      exact hq i b hb
    · have hin : i = n := by
        have := (List.getElem?_eq_some_iff.1 hb).1
        simp at this
        omega
      subst hin
      rw [← hl] at hb
      simp at hb
      subst hb
      exact ha

theorem Opens.slice {α : Type} {P : Program} {t e : TypeId} {d : Kd α} {ok : α → Prop} {b : Nat} (ht : P.underlying t = some (.slice e)) (hc : P.cellsOf t = 1) (hb : P.bytesOf e = b) (h : Opens P e d ok) :
    Opens P t (Kd.slice e d) (fun xs => xs.length * b ≤ 140737488351232 ∧ xs.length ≤ maxLen ∧ ∀ x ∈ xs, ok x) := by
  refine ⟨hc, fun H enc w spare held fuel cs x hx hw => ?_⟩
  rcases DataW.trod_slice ht hx with ⟨rfl, rfl⟩ | ⟨a, len, cap, elems, rest, n, rfl, rfl, rfl, _, hlc, hcm, hel, hget, _, _⟩
  · exact ⟨[], ⟨none, 0, rfl, Nat.le_refl _, Kd.C_nil _ _⟩, by simp, by simp, fun x hx => by cases hx⟩
  · simp only [DataW.weights, ht, List.all_cons, List.all_append, Bool.and_eq_true, decide_eq_true_eq, List.length_map] at hw
    obtain ⟨h1, h2, _⟩ := hw
    have hall := weightsAll_of h2
    obtain ⟨xs, hxs, hq⟩ := list_of len (fun i a' => ∃ c, w.cells? 0 (a.add (i * P.cellsOf e)) (P.cellsOf e) = some c ∧ d.K w a' c ∧ ok a') (fun i hi => by
      have hg := hget i hi
      have hy : elems[i]? = some elems[i] := List.getElem?_eq_getElem (by omega)
      rw [hy] at hg
      obtain ⟨c, hcells, htr⟩ := Option.bind_eq_some_iff.1 hg
      obtain ⟨a', hK, hok⟩ := h.2 H enc w spare held n c _ htr (hall _ (List.mem_map_of_mem (List.getElem_mem _)))
      exact ⟨a', c, hcells, hK, hok⟩)
    have hlen : len * b ≤ 140737488351232 := by
      have : (elems.length + rest.length) * P.bytesOf e ≤ reachBytes := h1
      rw [hb, hel] at this
      have h3 : len * b ≤ (len + rest.length) * b := Nat.mul_le_mul_right _ (by omega)
      unfold reachBytes at this
      omega
    refine ⟨xs, ⟨some a, cap, by rw [hxs], by omega, ?_⟩, by rw [hxs]; exact hlen, by omega, ?_⟩
    · refine ⟨rfl, by unfold maxLen at hcm; omega, fun _ => ⟨a, rfl, fun j p hj => ?_⟩⟩
      obtain ⟨c, hcells, hK, _⟩ := hq j p hj
      obtain ⟨_, hcl, hcell⟩ := World.cells?_some hcells
      refine ⟨c, by rw [hcl]; exact h.1, hK, fun i u hi => ?_⟩
      have hil : i < P.cellsOf e := by
        have := (List.getElem?_eq_some_iff.1 hi).1
        omega
      have := hcell i hil
      rw [hi] at this
      rw [← h.1]
      rw [show a.add (j * P.cellsOf e + i) = (a.add (j * P.cellsOf e)).add i from (addr_add _ _ _).symm]
      exact this
    · intro y hy
      obtain ⟨i, hi⟩ := List.getElem?_of_mem hy
      obtain ⟨c, _, _, hok⟩ := hq i y hi
      exact hok

/-- Some fields in line, from cell off on. -/
def OpensF {α : Type} (P : Program) (fs : List Field) (off : Nat) (d : Kd α) (ok : α → Prop) : Prop :=
  ∀ (H : Type) (enc : TypeId × Value → H) (w : World) (spare : Nat → Bool) (held : Bool) (fuel : Nat) (cs : List Value) (xs : List (DataW H × List MemPlace)),
    cs.length = off + d.sz → xs.length = fs.length → (∀ (i : Nat) (f : Field), fs[i]? = some f → DataW.trod enc P w 0 spare held fuel f.type ((cs.drop f.offset).take (P.cellsOf f.type)) = xs[i]?) →
    (DataW.weightsEach P (fs.map (·.type)) (xs.map (·.1))).all (· ≤ reachBytes) = true → ∃ a, d.K w a (cs.drop off) ∧ ok a

theorem OpensF.one {α : Type} {P : Program} {f : Field} {off : Nat} {d : Kd α} {ok : α → Prop} (ho : f.offset = off) (h : Opens P f.type d ok) : OpensF P [f] off d ok := by
  intro H enc w spare held fuel cs xs hl hx hg hw
  match xs, hx with
  | [y], _ =>
    have h0 := hg 0 f rfl
    simp only [List.getElem?_cons_zero] at h0
    rw [h.1, ho, List.take_of_length_le (by simp; omega)] at h0
    simp only [List.map_cons, List.map_nil, DataW.weightsEach, List.append_nil] at hw
    exact h.2 H enc w spare held fuel _ y h0 hw

theorem OpensF.cons {α β : Type} {P : Program} {f : Field} {fs : List Field} {off off2 : Nat} {d : Kd α} {d2 : Kd β} {ok : α → Prop} {ok2 : β → Prop} (ho : f.offset = off) (h : Opens P f.type d ok) (ho2 : off2 = off + d.sz) (h2 : OpensF P fs off2 d2 ok2) :
    OpensF P (f :: fs) off (Kd.pair d d2) (fun a => ok a.1 ∧ ok2 a.2) := by
  intro H enc w spare held fuel cs xs hl hx hg hw
  match xs, hx with
  | y :: xs, hx =>
    have h0 := hg 0 f rfl
    simp only [List.getElem?_cons_zero] at h0
    have hw' : (y.1.weights P f.type).all (· ≤ reachBytes) = true ∧ (DataW.weightsEach P (fs.map (·.type)) (xs.map (·.1))).all (· ≤ reachBytes) = true := by
      simpa only [List.map_cons, DataW.weightsEach, List.all_append, Bool.and_eq_true] using hw
    obtain ⟨a, hK, hok⟩ := h.2 H enc w spare held fuel _ y h0 hw'.1
    have hl' : cs.length = off2 + d2.sz := by
      rw [hl, ho2]
      show off + (d.sz + d2.sz) = _
      omega
    obtain ⟨b, hK2, hok2⟩ := h2 H enc w spare held fuel cs xs hl' (by simpa using hx) (fun i g hi => by simpa using hg (i + 1) g (by simpa using hi)) hw'.2
    refine ⟨(a, b), ⟨_, _, ?_, hK, hK2⟩, hok, hok2⟩
    rw [ho, h.1, ho2, ← List.drop_drop, List.take_append_drop]

theorem Opens.struct {α : Type} {P : Program} {t : TypeId} {fs : Array Field} {d : Kd α} {ok : α → Prop} (ht : P.underlying t = some (.struct fs)) (hc : P.cellsOf t = d.sz) (h : OpensF P fs.toList 0 d ok) : Opens P t d ok := by
  refine ⟨hc, fun H enc w spare held fuel cs x hx hw => ?_⟩
  obtain ⟨xs, n, rfl, rfl, hl, hlen, hg⟩ := DataW.trod_struct ht hx
  simp only [DataW.weights, ht] at hw
  have := h H enc w spare held n cs xs (by omega) (by simpa using hlen) (fun i f hi => hg i f (by simpa using hi)) hw
  simpa using this

theorem Opens.iso {α β : Type} {P : Program} {t : TypeId} {d : Kd α} {ok : α → Prop} (f : β → α) (g : α → β) (hfg : ∀ a, f (g a) = a) (h : Opens P t d ok) : Opens P t (Kd.iso d f) (fun b => ok (f b)) := by
  refine ⟨h.1, fun H enc w spare held fuel cs x hx hw => ?_⟩
  obtain ⟨a, hK, hok⟩ := h.2 H enc w spare held fuel cs x hx hw
  exact ⟨g a, by show d.K w (f (g a)) cs; rw [hfg]; exact hK, by show ok (f (g a)); rw [hfg]; exact hok⟩

/-- An argument's weight, out of the weights of all. -/
theorem weights_head {H : Type} {P : Program} {t : TypeId} {ts : List TypeId} {x : DataW H} {xs : List (DataW H)} (h : (DataW.weightsEach P (t :: ts) (x :: xs)).all (· ≤ reachBytes) = true) : (x.weights P t).all (· ≤ reachBytes) = true ∧ (DataW.weightsEach P ts xs).all (· ≤ reachBytes) = true := by
  simpa only [DataW.weightsEach, List.all_append, Bool.and_eq_true] using h
/-! ### What a table holds: a datum without roads to memory tells its cells. -/
def flat0 {H : Type} : DataW H → List Value
  | .lit (.bool b) => [.bool b]
  | .lit (.int k n) => [.int k n]
  | _ => []
def flatA {H : Type} (F : DataW H → List Value) : DataW H → List Value
  | .agg l => l.flatMap F
  | _ => []
/-- A datum of type t tells its cells. -/
def Flat {H : Type} (enc : TypeId × Value → H) (P : Program) (w : World) (spare : Nat → Bool) (held : Bool) (t : TypeId) (F : DataW H → List Value) : Prop :=
  ∀ (fuel : Nat) (cs : List Value) (x : DataW H × List MemPlace), DataW.trod enc P w 0 spare held fuel t cs = some x → cs = F x.1
section
variable {H : Type} {enc : TypeId × Value → H} {P : Program} {w : World} {spare : Nat → Bool} {held : Bool}
theorem Flat.bool {t : TypeId} (ht : P.underlying t = some .bool) : Flat enc P w spare held t flat0 := by
  intro fuel cs x hx
  obtain ⟨b, rfl, rfl⟩ := DataW.trod_bool ht hx
  rfl
theorem Flat.int {t : TypeId} {k : IntKind} (ht : P.underlying t = some (.int k)) : Flat enc P w spare held t flat0 := by
  intro fuel cs x hx
  obtain ⟨n, rfl, rfl, _⟩ := DataW.trod_int ht hx
  rfl
theorem range_flat {β : Type} (f : Nat → List β) (n : Nat) : (List.range (n + 1)).flatMap f = f 0 ++ (List.range n).flatMap (fun i => f (i + 1)) := by
  rw [List.range_succ_eq_map, List.flatMap_cons, List.flatMap_map]
theorem chop {α : Type} (c : Nat) : ∀ (n : Nat) (l : List α), l.length = n * c → l = (List.range n).flatMap fun i => (l.drop (i * c)).take c
  | 0, l, h => by
    have : l.length = 0 := by rw [h, Nat.zero_mul]
    rw [List.eq_nil_of_length_eq_zero this]
    rfl
  | n + 1, l, h => by
    have ih := chop c n (l.drop c) (by rw [List.length_drop, h, Nat.succ_mul]; omega)
    rw [range_flat]
    have e : ∀ i, (l.drop ((i + 1) * c)).take c = ((l.drop c).drop (i * c)).take c := fun i => by rw [List.drop_drop, Nat.succ_mul, Nat.add_comm c]
    simp only [e]
    rw [← ih, Nat.zero_mul, List.drop_zero, List.take_append_drop]
theorem gather {β γ : Type} (F : β → List γ) : ∀ (xs : List β) (f : Nat → List γ), (∀ i y, xs[i]? = some y → f i = F y) → (List.range xs.length).flatMap f = xs.flatMap F
  | [], _, _ => rfl
  | x :: xs, f, h => by
    rw [List.length_cons, range_flat, List.flatMap_cons, h 0 x rfl, gather F xs (fun i => f (i + 1)) (fun i y hy => h (i + 1) y (by simpa using hy))]
theorem Flat.array {t e : TypeId} {n : Nat} {F : DataW H → List Value} (ht : P.underlying t = some (.array n e)) (hc : P.cellsOf t = n * P.cellsOf e) (he : Flat enc P w spare held e F) : Flat enc P w spare held t (flatA F) := by
  intro fuel cs x hx
  obtain ⟨xs, m, rfl, rfl, hl, hlen, hg⟩ := DataW.trod_array ht hx
  rw [hc] at hl
  rw [chop (P.cellsOf e) n cs hl]
  show _ = (xs.map (·.1)).flatMap F
  rw [List.flatMap_map, ← hlen]
  refine gather (fun y => F y.1) xs _ (fun i y hy => he m _ _ ((hg i ?_).trans hy))
  rw [← hlen]
  exact (List.getElem?_eq_some_iff.1 hy).1
end
end Go.Proofs.YtbiapfjhdggkpaaDoor.Open
