/-
  DERIVED: THE SHELF's CONTRACTS AT THIS DUMP, IN PLAIN WORDS (tools/lay-plain.mjs out of 'TrydShelf.lean', which tools/lay-shelf.mjs wrote): THE SAME DECLARATIONS UNDER THE SAME NAMES: 'import', 'namespace', 'open', 'def', 'theorem' AND NOTHING ELSE: no command of the shelf's: FOR A HAND-IN. Each laying: the table of numbers ('.._ren') and one theorem, a field a fact of the dump's own or the kernel's comparison; each contract: ONE APPLICATION.
-/
import Derived.Shelf.Strings.Search1
import Derived.Shelf.Strings.Search2
import Derived.Shelf.Strings.Search3
import Derived.Shelf.Strings.Count
import Derived.Shelf.Strings.Split
import Derived.Test.YtbiapfjhdggkpaaDoorProg
import Derived.Test.YtbiapfjhdggkpaaDoorPAx0
import Derived.Test.YtbiapfjhdggkpaaDoorSlim
import Derived.Shelf.Strings.SplitCore
namespace Go.Proofs
open Go.Shelf
def Tryd.lays219_ren : Go.Shelf.Ren := ⟨fun | 219 => 70 | 217 => 77 | 225 => 78 | 224 => 79 | 267 => 80 | 266 => 89 | 314 => 90 | n => n, fun | 9 => 9 | 3 => 3 | 4 => 4 | 5 => 5 | 46 => 78 | 146 => 99 | 51 => 96 | n => n, fun | 1 => 0 | n => n⟩
theorem Tryd.lays219 : Go.Proofs.Lays.n219 Tryd.prog Tryd.lays219_ren := {
  mixed := by kernel_rfl
  f217 := Tryd.func77.trans (congrArg some (by kernel_rfl))
  f219 := Tryd.func70.trans (congrArg some (by kernel_rfl))
  f224 := Tryd.func79.trans (congrArg some (by kernel_rfl))
  f225 := Tryd.func78.trans (congrArg some (by kernel_rfl))
  f266 := Tryd.func89.trans (congrArg some (by kernel_rfl))
  f267 := Tryd.func80.trans (congrArg some (by kernel_rfl))
  f314 := Tryd.func90.trans (congrArg some (by kernel_rfl))
  t3 := Tryd.underlying3
  a3 := Tryd.isAgg3
  z3 := Tryd.sizeOf3
  v3 := Tryd.zeroValue3
  t4 := Tryd.underlying4
  a4 := Tryd.isAgg4
  z4 := Tryd.sizeOf4
  v4 := Tryd.zeroValue4
  t5 := Tryd.underlying5
  a5 := Tryd.isAgg5
  z5 := Tryd.sizeOf5
  v5 := Tryd.zeroValue5
  t9 := Tryd.underlying9
  a9 := Tryd.isAgg9
  z9 := Tryd.sizeOf9
  v9 := Tryd.zeroValue9
  t46 := Tryd.underlying78
  a46 := Tryd.isAgg78
  z46 := Tryd.sizeOf78
  v46 := Tryd.zeroValue78
  t51 := Tryd.underlying96
  a51 := Tryd.isAgg96
  z51 := Tryd.sizeOf96
  v51 := Tryd.zeroValue96
  t146 := Tryd.underlying99
  a146 := Tryd.isAgg99
  z146 := Tryd.sizeOf99
  v146 := Tryd.zeroValue99
  g1 := by kernel_rfl }
open Go.RowKit Go.Lib in
/-- internal/stringslite.Index (what strings.Index calls) AT A substr OF ONE BYTE c: IT RETURNS 'Lib.indexByte s c'; the world is as it was. (LAID: no walk: one application.) -/
theorem Tryd.stringslite_Index_one (s : ByteArray) (c : UInt8) (w : World) :
    Calls Tryd.prog 70 #[.string s, .string ⟨#[c]⟩] w fun e w' => e = .returned (.int .i64 (Lib.indexByte s.data.toList c)) ∧ w' = w := Any.stringslite_Index_one Tryd.lays219 s c w
def Tryd.lays143_ren : Go.Shelf.Ren := ⟨fun | 143 => 83 | 219 => 70 | 217 => 77 | 225 => 78 | 224 => 79 | 267 => 80 | 266 => 89 | 314 => 90 | n => n, fun | 9 => 9 | 3 => 3 | 4 => 4 | 5 => 5 | 46 => 78 | 146 => 99 | 51 => 96 | n => n, fun | 1 => 0 | n => n⟩
theorem Tryd.lays143 : Go.Proofs.Lays.n143 Tryd.prog Tryd.lays143_ren := {
  mixed := by kernel_rfl
  f143 := Tryd.func83.trans (congrArg some (by kernel_rfl))
  f217 := Tryd.func77.trans (congrArg some (by kernel_rfl))
  f219 := Tryd.func70.trans (congrArg some (by kernel_rfl))
  f224 := Tryd.func79.trans (congrArg some (by kernel_rfl))
  f225 := Tryd.func78.trans (congrArg some (by kernel_rfl))
  f266 := Tryd.func89.trans (congrArg some (by kernel_rfl))
  f267 := Tryd.func80.trans (congrArg some (by kernel_rfl))
  f314 := Tryd.func90.trans (congrArg some (by kernel_rfl))
  t3 := Tryd.underlying3
  a3 := Tryd.isAgg3
  z3 := Tryd.sizeOf3
  v3 := Tryd.zeroValue3
  t4 := Tryd.underlying4
  a4 := Tryd.isAgg4
  z4 := Tryd.sizeOf4
  v4 := Tryd.zeroValue4
  t5 := Tryd.underlying5
  a5 := Tryd.isAgg5
  z5 := Tryd.sizeOf5
  v5 := Tryd.zeroValue5
  t9 := Tryd.underlying9
  a9 := Tryd.isAgg9
  z9 := Tryd.sizeOf9
  v9 := Tryd.zeroValue9
  t46 := Tryd.underlying78
  a46 := Tryd.isAgg78
  z46 := Tryd.sizeOf78
  v46 := Tryd.zeroValue78
  t51 := Tryd.underlying96
  a51 := Tryd.isAgg96
  z51 := Tryd.sizeOf96
  v51 := Tryd.zeroValue96
  t146 := Tryd.underlying99
  a146 := Tryd.isAgg99
  z146 := Tryd.sizeOf99
  v146 := Tryd.zeroValue99
  g1 := by kernel_rfl }
open Go.RowKit Go.Lib in
/-- strings.Index: "Index returns the index of the first instance of substr in s, or -1 if substr is not present in s.": AT A substr OF ONE BYTE c: IT RETURNS 'Lib.indexByte s c'; the world is as it was. (LAID: no walk: one application.) -/
theorem Tryd.strings_Index_one (s : ByteArray) (c : UInt8) (w : World) :
    Calls Tryd.prog 83 #[.string s, .string ⟨#[c]⟩] w fun e w' => e = .returned (.int .i64 (Lib.indexByte s.data.toList c)) ∧ w' = w := Any.strings_Index_one Tryd.lays143 s c w
def Tryd.lays138_ren : Go.Shelf.Ren := ⟨fun | 138 => 82 | 195 => 91 | 218 => 93 | 143 => 83 | 219 => 70 | 217 => 77 | 225 => 78 | 224 => 79 | 267 => 80 | 266 => 89 | 314 => 90 | n => n, fun | 9 => 9 | 3 => 3 | 4 => 4 | 5 => 5 | 0 => 0 | 46 => 78 | 146 => 99 | 51 => 96 | n => n, fun | 1 => 0 | n => n⟩
theorem Tryd.lays138 : Go.Proofs.Lays.n138 Tryd.prog Tryd.lays138_ren := {
  mixed := by kernel_rfl
  f138 := Tryd.func82.trans (congrArg some (by kernel_rfl))
  f143 := Tryd.func83.trans (congrArg some (by kernel_rfl))
  f195 := Tryd.func91.trans (congrArg some (by kernel_rfl))
  f217 := Tryd.func77.trans (congrArg some (by kernel_rfl))
  f218 := Tryd.func93.trans (congrArg some (by kernel_rfl))
  f219 := Tryd.func70.trans (congrArg some (by kernel_rfl))
  f224 := Tryd.func79.trans (congrArg some (by kernel_rfl))
  f225 := Tryd.func78.trans (congrArg some (by kernel_rfl))
  f266 := Tryd.func89.trans (congrArg some (by kernel_rfl))
  f267 := Tryd.func80.trans (congrArg some (by kernel_rfl))
  f314 := Tryd.func90.trans (congrArg some (by kernel_rfl))
  t0 := Tryd.underlying0
  a0 := Tryd.isAgg0
  z0 := Tryd.sizeOf0
  v0 := Tryd.zeroValue0
  t3 := Tryd.underlying3
  a3 := Tryd.isAgg3
  z3 := Tryd.sizeOf3
  v3 := Tryd.zeroValue3
  t4 := Tryd.underlying4
  a4 := Tryd.isAgg4
  z4 := Tryd.sizeOf4
  v4 := Tryd.zeroValue4
  t5 := Tryd.underlying5
  a5 := Tryd.isAgg5
  z5 := Tryd.sizeOf5
  v5 := Tryd.zeroValue5
  t9 := Tryd.underlying9
  a9 := Tryd.isAgg9
  z9 := Tryd.sizeOf9
  v9 := Tryd.zeroValue9
  t46 := Tryd.underlying78
  a46 := Tryd.isAgg78
  z46 := Tryd.sizeOf78
  v46 := Tryd.zeroValue78
  t51 := Tryd.underlying96
  a51 := Tryd.isAgg96
  z51 := Tryd.sizeOf96
  v51 := Tryd.zeroValue96
  t146 := Tryd.underlying99
  a146 := Tryd.isAgg99
  z146 := Tryd.sizeOf99
  v146 := Tryd.zeroValue99
  g1 := by kernel_rfl }
open Go.RowKit Go.Lib in
/-- strings.Count AT A substr OF ONE BYTE ('hp'): "Count counts the number of non-overlapping instances of substr in s.": IT RETURNS 'Lib.countByte s (that byte)'; the world is as it was. ✋ NO CONTRACT HERE YET at an empty substr (utf8.RuneCountInString) or at a longer one (a loop over strings.Index). (LAID: no walk: one application.) -/
theorem Tryd.strings_Count_one (s : ByteArray) (c : UInt8) (w : World) :
    Calls Tryd.prog 82 #[.string s, .string ⟨#[c]⟩] w fun e w' => e = .returned (.int .i64 (Lib.countByte s.data.toList c)) ∧ w' = w := Any.strings_Count_one Tryd.lays138 s c w
def Tryd.lays221_ren : Go.Shelf.Ren := ⟨fun | 221 => 71 | 268 => 81 | 138 => 82 | 143 => 83 | 195 => 91 | 197 => 92 | 218 => 93 | 219 => 70 | 260 => 96 | 217 => 77 | 225 => 78 | 224 => 79 | 267 => 80 | 266 => 89 | 314 => 90 | n => n, fun | 9 => 9 | 3 => 3 | 31 => 69 | 4 => 4 | 0 => 0 | 105 => 102 | 21 => 21 | 5 => 5 | 46 => 78 | 119 => 107 | 139 => 110 | 138 => 109 | 146 => 99 | 51 => 96 | n => n, fun | 1 => 0 | 3 => 4 | 4 => 5 | n => n⟩
theorem Tryd.lays221 : Go.Proofs.Lays.n221 Tryd.prog Tryd.lays221_ren := {
  mixed := by kernel_rfl
  f138 := Tryd.func82.trans (congrArg some (by kernel_rfl))
  f143 := Tryd.func83.trans (congrArg some (by kernel_rfl))
  f195 := Tryd.func91.trans (congrArg some (by kernel_rfl))
  f197 := Tryd.func92.trans (congrArg some (by kernel_rfl))
  f217 := Tryd.func77.trans (congrArg some (by kernel_rfl))
  f218 := Tryd.func93.trans (congrArg some (by kernel_rfl))
  f219 := Tryd.func70.trans (congrArg some (by kernel_rfl))
  f221 := Tryd.func71.trans (congrArg some (by kernel_rfl))
  f224 := Tryd.func79.trans (congrArg some (by kernel_rfl))
  f225 := Tryd.func78.trans (congrArg some (by kernel_rfl))
  f260 := Tryd.func96.trans (congrArg some (by kernel_rfl))
  f266 := Tryd.func89.trans (congrArg some (by kernel_rfl))
  f267 := Tryd.func80.trans (congrArg some (by kernel_rfl))
  f268 := Tryd.func81.trans (congrArg some (by kernel_rfl))
  f314 := Tryd.func90.trans (congrArg some (by kernel_rfl))
  t0 := Tryd.underlying0
  a0 := Tryd.isAgg0
  z0 := Tryd.sizeOf0
  v0 := Tryd.zeroValue0
  t3 := Tryd.underlying3
  a3 := Tryd.isAgg3
  z3 := Tryd.sizeOf3
  v3 := Tryd.zeroValue3
  t4 := Tryd.underlying4
  a4 := Tryd.isAgg4
  z4 := Tryd.sizeOf4
  v4 := Tryd.zeroValue4
  t5 := Tryd.underlying5
  a5 := Tryd.isAgg5
  z5 := Tryd.sizeOf5
  v5 := Tryd.zeroValue5
  t9 := Tryd.underlying9
  a9 := Tryd.isAgg9
  z9 := Tryd.sizeOf9
  v9 := Tryd.zeroValue9
  t21 := Tryd.underlying21
  a21 := Tryd.isAgg21
  z21 := Tryd.sizeOf21
  v21 := Tryd.zeroValue21
  t31 := Tryd.underlying69
  a31 := Tryd.isAgg69
  z31 := Tryd.sizeOf69
  v31 := Tryd.zeroValue69
  t46 := Tryd.underlying78
  a46 := Tryd.isAgg78
  z46 := Tryd.sizeOf78
  v46 := Tryd.zeroValue78
  t51 := Tryd.underlying96
  a51 := Tryd.isAgg96
  z51 := Tryd.sizeOf96
  v51 := Tryd.zeroValue96
  t105 := Tryd.underlying102
  a105 := Tryd.isAgg102
  z105 := Tryd.sizeOf102
  v105 := Tryd.zeroValue102
  t119 := Tryd.underlying107
  a119 := Tryd.isAgg107
  z119 := Tryd.sizeOf107
  t138 := Tryd.underlying109
  a138 := Tryd.isAgg109
  z138 := Tryd.sizeOf109
  v138 := Tryd.zeroValue109
  t139 := Tryd.underlying110
  a139 := Tryd.isAgg110
  z139 := Tryd.sizeOf110
  v139 := Tryd.zeroValue110
  t146 := Tryd.underlying99
  a146 := Tryd.isAgg99
  z146 := Tryd.sizeOf99
  v146 := Tryd.zeroValue99
  g1 := by kernel_rfl
  g3 := by kernel_rfl
  g4 := by kernel_rfl }
end Go.Proofs
namespace Go.Proofs.YtbiapfjhdggkpaaDoor.PA
open Go.RowKit Go.Proofs.YtbiapfjhdggkpaaDoorW.PrintWords Go.Proofs.YtbiapfjhdggkpaaDoorW.PrintLast Go.Proofs.YtbiapfjhdggkpaaDoorW.PrintMore
set_option linter.unusedVariables false
set_option linter.unusedSimpArgs false
/-- What strings.Cut returns where the byte is at a place, and where it is at none. -/
def cutAt (s : ByteArray) (i : Int) : ByteArray × ByteArray × Bool := if 0 ≤ i then (s.extract 0 i.toNat, s.extract (i.toNat + 1) s.size, true) else (s, ⟨#[]⟩, false)
set_option maxHeartbeats 4000000 in
set_option maxRecDepth 100000 in
theorem slite_Cut.calls (s : ByteArray) (c : UInt8) (i : Int) (w : World) (hs : s.size < 4000000000) (hi : Lib.indexByte s.data.toList c = i) (h1 : -1 ≤ i) (h2 : i < s.size) :
  Calls Tryd.prog 64 #[.string s, .string ⟨#[c]⟩] w fun e w' => e = .returned (.tuple #[.string (cutAt s i).1, .string (cutAt s i).2.1, .bool (cutAt s i).2.2]) ∧ Drawn0 w w' := by
 have mixed : Tryd.prog.follows Departure.mixedOrders = true := by kernel_rfl
 have hu9 := Tryd.underlying9
 have hsz : (⟨#[c]⟩ : ByteArray).size = 1 := rfl
 by_cases h0 : 0 ≤ i
 ·obtain ⟨j, rfl⟩ : ∃ j : Nat, i = (j : Int) := ⟨i.toNat, by omega⟩
  have e : cutAt s (j : Int) = (s.extract 0 j, s.extract (j + 1) s.size, true) := by unfold cutAt; rw [if_pos h0, Int.toNat_natCast]
  rw [e]
  have c1 : (0 : Int) ≤ (j : Int) := h0
  have c2 : (j : Int) ≤ (s.size : Int) := by omega
  have c3 : (0 : Int) ≤ (j : Int) + 1 := by omega
  have c4 : (j : Int) + 1 ≤ (s.size : Int) := by omega
  have c5 : j ≤ s.size := by omega
  have c6 : j + 1 ≤ s.size := by omega
  have c7 : ((j : Int) + 1).toNat = j + 1 := by omega
  have hw1 : IntKind.i64.wrap ((j : Int) + 1) = (j : Int) + 1 := by rw [IntKind.wrap_i64]; omega
  go_enter Tryd.func64, Tryd.ntmps64
  go_wp2_with (go_at_call 70; refine (Tryd.stringslite_Index_one s c _).mono ?_; rintro e w' ⟨rfl, rfl⟩; rw [hi])
  go_region_o
  go_wp2
  go_ret3
  exact ⟨rfl, 1, rfl⟩
 ·have e : cutAt s i = (s, ⟨#[]⟩, false) := by unfold cutAt; rw [if_neg h0]
  rw [e]
  go_enter Tryd.func64, Tryd.ntmps64
  go_wp2_with (go_at_call 70; refine (Tryd.stringslite_Index_one s c _).mono ?_; rintro e w' ⟨rfl, rfl⟩; rw [hi])
  go_ret3
  exact ⟨rfl, 0, rfl⟩
def cutO (s sep : ByteArray) : ByteArray × ByteArray × Bool := cutAt s (Lib.indexByte s.data.toList (sep.data.toList.headD 0))
def strings_Cut.f (a0 : ByteArray) (a1 : ByteArray) : Option (ByteArray × ByteArray × Bool) := if a0.size < 4000000000 then (if a1.size = 1 then some (cutO a0 a1) else none) else none
theorem indexByte_lt : ∀ (l : List UInt8) (c : UInt8), Lib.indexByte l c < (l.length : Int) ∨ (l = [] ∧ Lib.indexByte l c = -1)
 | [], _ => .inr ⟨rfl, rfl⟩
 | b :: l, c => by
  left
  have ih := indexByte_lt l c
  rw [Lib.indexByte, List.length_cons]
  split
  ·omega
  ·split
   ·omega
   ·rcases ih with h | ⟨rfl, h⟩
    ·omega
    ·rw [h]; simp
set_option maxHeartbeats 4000000 in
set_option maxRecDepth 100000 in
theorem strings_Cut.calls (a0 : ByteArray) (a1 : ByteArray) (r1 : ByteArray) (r2 : ByteArray) (r3 : Bool) (w : World) (h : strings_Cut.f a0 a1 = some (r1, r2, r3)) :
  Calls Tryd.prog 51 #[.string a0, .string a1] w fun e w' => e = .returned (.tuple #[.string r1, .string r2, .bool r3]) ∧ Drawn0 w w' := by
 unfold strings_Cut.f at h
 by_cases h1 : a0.size < 4000000000
 ·rw [if_pos h1] at h
  by_cases h2 : a1.size = 1
  ·rw [if_pos h2] at h
   obtain ⟨c, rfl⟩ := Lib.one_byte a1 h2
   have e := Option.some.inj h
   have hc : cutO a0 ⟨#[c]⟩ = cutAt a0 (Lib.indexByte a0.data.toList c) := rfl
   rw [hc] at e
   have hge := Lib.indexByte_ge a0.data.toList c
   have hlt : Lib.indexByte a0.data.toList c < (a0.size : Int) := by
    have hs : a0.size = a0.data.toList.length := rfl
    rcases indexByte_lt a0.data.toList c with h | ⟨_, h⟩
    ·rw [hs]; exact h
    ·rw [h]; omega
   have hcut := slite_Cut.calls a0 c (Lib.indexByte a0.data.toList c) w h1 rfl hge hlt
   rw [e] at hcut
   have HC := Aside0.mk hcut
   clear hcut e h hc hge hlt
   go_enter Tryd.func51, Tryd.ntmps51
   go_wp2_with (go_at_call 64; refine HC.out.mono ?_; rintro e w' ⟨rfl, nd, rfl⟩)
   go_ret3
   exact ⟨rfl, nd, rfl⟩
  ·rw [if_neg h2] at h; exact absurd h (by simp)
 ·rw [if_neg h1] at h; exact absurd h (by simp)
end Go.Proofs.YtbiapfjhdggkpaaDoor.PA
namespace Go.Proofs.YtbiapfjhdggkpaaDoor.PA
open Go.RowKit Go.Proofs.YtbiapfjhdggkpaaDoorW.PrintWords Go.Proofs.YtbiapfjhdggkpaaDoorW.PrintLast Go.Proofs.YtbiapfjhdggkpaaDoorW.PrintMore
set_option linter.unusedVariables false
set_option linter.unusedSimpArgs false
theorem infoS9 : (Tryd.prog.info? 9).map (fun i => (i.zero, i.size, i.bytes)) = some (some (.string ByteArray.empty), 1, 16) := by kernel_rfl
def strings_Split.f (a0 : ByteArray) (a1 : ByteArray) : Option (List ByteArray) := if a0.size < 4000000000 then (if a1.size = 1 then some (Lib.splitB a1 0 (Lib.countB a0 a1) a0) else none) else none
set_option maxHeartbeats 4000000 in
set_option maxRecDepth 100000 in
theorem strings_Split.calls (a0 : ByteArray) (a1 : ByteArray) (r : List ByteArray) (w : World) (h : strings_Split.f a0 a1 = some r) :
  Calls Tryd.prog 65 #[.string a0, .string a1] w fun e w' => ∃ v0_ : Value, e = .returned (v0_) ∧ Kd.R Kd.string 9 w' w.heap.size (fun _ => True) v0_ r ∧ Below w.heap.size w w' := by
 unfold strings_Split.f at h
 by_cases h1 : a0.size < 4000000000
 ·rw [if_pos h1] at h
  by_cases h2 : a1.size = 1
  ·rw [if_pos h2] at h
   have hr := Option.some.inj h
   obtain ⟨c, rfl⟩ := Lib.one_byte a1 h2
   have hle := Lib.countB_le ⟨#[c]⟩ (Nat.le_of_eq h2.symm) a0.size a0 (Nat.le_refl _)
   have hlen := Lib.splitB_all ⟨#[c]⟩ (Nat.le_of_eq h2.symm) 0 _ a0 rfl
   have hI : ∀ (x : ByteArray) (cc : Array Value), x.size ≤ a0.size → Calls Tryd.prog 83 #[.string x, .string ⟨#[c]⟩] (w.alloc (.cells cc 9)) fun e w' => e = .returned (.int .i64 (Lib.indexB x ⟨#[c]⟩)) ∧ w' = w.alloc (.cells cc 9) := fun x cc _ => by
    refine (Tryd.strings_Index_one x c _).mono ?_
    rintro e w' ⟨rfl, rfl⟩
    refine ⟨?_, rfl⟩
    have : Lib.indexB x ⟨#[c]⟩ = Lib.indexByte x.data.toList c := Lib.index_one x.data.toList c
    rw [this]
   have hC : Calls Tryd.prog 82 #[.string a0, .string ⟨#[c]⟩] w fun e w' => e = .returned (.int .i64 (Lib.countB a0 ⟨#[c]⟩)) ∧ w' = w := by
    refine (Tryd.strings_Count_one a0 c w).mono ?_
    rintro e w' ⟨rfl, rfl⟩
    refine ⟨?_, rfl⟩
    show _ = Ending.returned (Value.int .i64 ((Lib.count a0.data.toList [c] : Nat) : Int))
    rw [Lib.count_one]
    rfl
   have k := Any.strings_genSplit_core Tryd.lays221 infoS9 a0 ⟨#[c]⟩ 0 (-1) (Lib.countB a0 ⟨#[c]⟩ + 1) w (by omega) (Nat.le_of_eq h2.symm) (Nat.zero_le _) hI hC (by decide) (by decide) (by rw [if_pos (by decide)]; omega)
   rw [Nat.add_sub_cancel, hlen] at k
   have e2 : Lib.cellsOf (Lib.splitB ⟨#[c]⟩ 0 (Lib.countB a0 ⟨#[c]⟩) a0) (Lib.countB a0 ⟨#[c]⟩ + 1) = ((Lib.splitB ⟨#[c]⟩ 0 (Lib.countB a0 ⟨#[c]⟩) a0).map Value.string).toArray := by rw [← hlen]; exact Lib.cellsOf_full _
   rw [e2, hr] at k
   rw [hr] at hlen
   rw [← hlen] at k
   have HK := Aside0.mk (show Calls Tryd.prog 71 #[.string a0, .string ⟨#[c]⟩, .int .i64 0, .int .i64 (-1)] w _ from k)
   have HL := Aside0.mk (show r.length ≤ 4000000000 by omega)
   clear k hI hC e2 hlen hle hr h
   go_enter Tryd.func65, Tryd.ntmps65
   go_wp2_with (go_at_call 71; refine HK.out.mono ?_; rintro e w' ⟨rfl, rfl⟩)
   go_ret
   have hown : (w.alloc (.cells (r.map Value.string).toArray 9)).ownsRow w.heap.size 9 1 (.slice (some ⟨w.heap.size, 0, none⟩) r.length r.length) r.length (encs Value.string r) := by
    refine ⟨by rw [encs_length, Nat.mul_one], .inr ⟨w.heap.size, r.length, _, rfl, Nat.le_refl _, heap_alloc_new w _, Nat.le_refl _, ?_, ?_, ?_⟩⟩
    ·have := HL.out; unfold maxLen; omega
    ·simp
    ·rw [List.toList_toArray, Nat.mul_one, List.take_of_length_le (by simp)]
     rfl
   exact ⟨_, rfl, Kd.R_of_own hown (fun _ _ => trivial), below_alloc (Below.refl _ _) _⟩
  ·rw [if_neg h2] at h; exact absurd h (by simp)
 ·rw [if_neg h1] at h; exact absurd h (by simp)
end Go.Proofs.YtbiapfjhdggkpaaDoor.PA
