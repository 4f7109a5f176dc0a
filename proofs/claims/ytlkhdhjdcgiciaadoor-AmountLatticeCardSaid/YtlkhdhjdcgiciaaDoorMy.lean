/- Small facts that the texts of this seat share. Conditions: none. -/
import Derived.Test.YtlkhdhjdcgiciaaDoorWMore
import Derived.Below
import Derived.Deep.RegionLawGrows
namespace Go.Proofs.YtlkhdhjdcgiciaaDoor
open Go.RowKit Go.Proofs.YtlkhdhjdcgiciaaDoorW.PrintWords
theorem ownsRow_le {w : World} {base : Nat} {e : TypeId} {size n m c : Nat} {A : Option Addr} {xs : List Value} (h : w.ownsRow base e size (.slice A m c) n xs) : n ≤ c := by
  rcases h.2 with ⟨he, hn⟩ | ⟨g, cap, cur, he, _, _, hnc, _⟩
  · injection he with _ h1 h2
    omega
  · injection he with _ h1 h2
    omega
theorem below_of_grown_none {w w1 : World} (h : w.grownBy w1 none) : Below w.heap.size w w1 := Below.grown (Below.refl _ _) h (Nat.le_refl _) (fun k hk => by cases hk)
/-- A number of at most two digits, as text. -/
def itoa2 (n : Int) : ByteArray := if n < 10 then ⟨#[UInt8.ofNat (48 + n.toNat)]⟩ else ⟨#[UInt8.ofNat (48 + n.toNat / 10), UInt8.ofNat (48 + n.toNat % 10)]⟩
end Go.Proofs.YtlkhdhjdcgiciaaDoor
