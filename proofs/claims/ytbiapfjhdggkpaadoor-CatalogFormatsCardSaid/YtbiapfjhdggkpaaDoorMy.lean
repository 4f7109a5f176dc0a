/- Small facts that the texts of this seat share. Conditions: none. -/
import Derived.Test.YtbiapfjhdggkpaaDoorWMore
import Derived.Below
import Derived.Deep.RegionLawGrows
import Derived.Laws.MakeOwn
set_option linter.unusedVariables false
set_option linter.unusedSimpArgs false
namespace Go.Proofs.YtbiapfjhdggkpaaDoor
open Go.RowKit Go.Proofs.YtbiapfjhdggkpaaDoorW.PrintWords
theorem ownsRow_le {w : World} {base : Nat} {e : TypeId} {size n m c : Nat} {A : Option Addr} {xs : List Value} (h : w.ownsRow base e size (.slice A m c) n xs) : n ≤ c := by
  rcases h.2 with ⟨he, hn⟩ | ⟨g, cap, cur, he, _, _, hnc, _⟩
  · injection he with _ h1 h2
    omega
  · injection he with _ h1 h2
    omega
theorem below_of_grown_none {w w1 : World} (h : w.grownBy w1 none) : Below w.heap.size w w1 := Below.grown (Below.refl _ _) h (Nat.le_refl _) (fun k hk => by cases hk)
/-- A number of at most two digits, as text. -/
def itoa2 (n : Int) : ByteArray := if n < 10 then ⟨#[UInt8.ofNat (48 + n.toNat)]⟩ else ⟨#[UInt8.ofNat (48 + n.toNat / 10), UInt8.ofNat (48 + n.toNat % 10)]⟩
end Go.Proofs.YtbiapfjhdggkpaaDoor
namespace Go.Proofs.YtbiapfjhdggkpaaDoorW.PrintWords
open Go.RowKit Go.Proofs.YtbiapfjhdggkpaaDoor
namespace Kd
theorem R_make0 {P : Program} {ops : Array Oper} {Q : Exit → Act → World → Prop} {rest : List Oper} {o : Oper} {a : Act} {α : Type} (d : Kd α) {w0 W : World} (base e : Nat) (hgd : o.guard = none) {N : Tmp} (hd : o.dst = some N) (t : TypeId) (x y : Operand) (ho : o.op = .makeSlice t x y) (n : Int) (hx : a.eval x = .int .i64 0) (hy : a.eval y = .int .i64 n)
    (ht : P.underlying t = some (.slice e)) (z : Value) (bytes : Nat) (hinfo : (P.info? e).map (fun i => (i.zero, i.size, i.bytes)) = some (some z, d.sz, bytes)) (hz : z.cells.size = d.sz) (hs0 : 0 < d.sz) (hb0 : 0 < bytes)
    (z0 : α) {ok okp : Nat → Prop} (hzero : d.M W base okp z0 z.cells.toList) (hok : ∀ k, okp k → ok k) (hfresh : ok W.heap.size) (h0 : 0 ≤ n) (hl : n.toNat * bytes ≤ 281474976710656) (HB : Below base w0 W) (hbase : base ≤ W.heap.size)
    (h : ∀ v1 w1, d.R e w1 base ok v1 [] → Below base w0 w1 → W.grownBy w1 none → (∃ b, v1.ownBlock = some b ∧ W.heap.size ≤ b) → wpList P ops Q rest (a.put o.dst v1) w1) : wpList P ops Q (o :: rest) a W := by
  obtain ⟨m, rfl⟩ := Int.eq_ofNat_of_zero_le h0
  simp only [Int.toNat_natCast] at hl
  obtain ⟨i0, hi, hzz⟩ := Option.map_eq_some_iff.1 hinfo
  simp only [Prod.mk.injEq] at hzz
  obtain ⟨hz0, hz1, hz2⟩ := hzz
  have hm : m ≤ 281474976710656 := Nat.le_trans (Nat.le_mul_of_pos_right _ hb0) hl
  obtain ⟨w', hr, hown, hgrow⟩ := run_make_own (P := P) W base t e i0 z d.sz ht hi hz0 hz1 .i64 .i64 m (by rw [hz2, Nat.mul_comm]; omega) (by unfold maxLen; omega) hbase
  refine event_run hgd (by simp [execOp, ho, hx, hy, hr]) (h _ _ ⟨fun k hk => ?_, [], hown, Reps.none _ _⟩ (Below.grown HB hgrow hbase (fun k hk => by cases hk)) hgrow ⟨W.heap.size, by simp [Value.ownBlock], Nat.le_refl _⟩)
  have : W.heap.size = k := by simpa [Value.ownBlock] using hk
  subst this
  exact hfresh
end Kd
end Go.Proofs.YtbiapfjhdggkpaaDoorW.PrintWords
