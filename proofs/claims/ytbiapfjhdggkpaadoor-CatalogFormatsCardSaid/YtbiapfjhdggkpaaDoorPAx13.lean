-- Printed by wip/tool/myprint.py for this claim; Lean checks it.
import Derived.Test.YtbiapfjhdggkpaaDoorPAx0
import Derived.Test.YtbiapfjhdggkpaaDoorPAx1
import Derived.Test.YtbiapfjhdggkpaaDoorSlim
import Derived.Test.YtbiapfjhdggkpaaDoorShelg
import Derived.Test.YtbiapfjhdggkpaaDoorPAx12
import Derived.Test.YtbiapfjhdggkpaaDoorPAx3
import Derived.Test.YtbiapfjhdggkpaaDoorT12
namespace Go.Proofs.YtbiapfjhdggkpaaDoor.PA
open Go.RowKit Go.Proofs.YtbiapfjhdggkpaaDoorW.PrintWords Go.Proofs.YtbiapfjhdggkpaaDoorW.PrintLast Go.Proofs.YtbiapfjhdggkpaaDoorW.PrintMore
attribute [local go_sem] max2_int min2_int max_two min_two max_three min_three max_four min_four   -- for this text's walks alone
set_option linter.unusedVariables false
set_option linter.unusedSimpArgs false

attribute [local go_sem high] eqA26
/-! ### catalog_digit: function 66 -/
def catalog_digit.f (a0 : ByteArray) : Option (Int × Bool) := if (a0.size : Int) = 1 then (if 0 < (a0.size : Int) then (if (bt a0 0) < 48 then (some (0, false)) else (if (bt a0 0) > 57 then (some (0, false)) else (some (((bt a0 0) - 48) % 256, true)))) else (none)) else (some (0, false))
set_option maxHeartbeats 8000000 in
set_option maxRecDepth 100000 in
theorem catalog_digit.calls (a0 : ByteArray) (r1 : Int) (r2 : Bool) (w : World) (h : catalog_digit.f a0 = some (r1, r2)) :
  Calls Tryd.prog 66 #[.string a0] w fun e w' => e = .returned (.tuple #[.int .i64 r1, .bool r2]) ∧ Drawn0 w w' := by
 have H : (if (a0.size : Int) = 1 then (if 0 < (a0.size : Int) then (if (bt a0 0) < 48 then (some (0, false)) else (if (bt a0 0) > 57 then (some (0, false)) else (some (((bt a0 0) - 48) % 256, true)))) else (none)) else (some (0, false))) = some (r1, r2) := h
 clear h
 by_cases c2 : (a0.size : Int) = 1
 ·rw [if_pos c2] at H
  have c2b0 : ((a0.size : Int) == 1) = true := beq_iff_eq.mpr c2
  have c2b1 : ((a0.size : Int) != 1) = false := bne_eq_false_iff_eq.mpr c2
  clear c2
  by_cases c3 : 0 < (a0.size : Int)
  ·rw [if_pos c3] at H
   have c3b0 : decide (0 < (a0.size : Int)) = true := decide_eq_true c3
   have c3b1 : decide (0 < a0.size) = true := decide_eq_true (by omega)
   clear c3
   by_cases c5 : (bt a0 0) < 48
   ·rw [if_pos c5] at H
    have c5b0 : decide ((bt a0 0) < 48) = true := decide_eq_true c5
    clear c5
    simp only [Option.some.injEq, Prod.mk.injEq] at H
    obtain ⟨rfl, rfl⟩ := H
    have p4 : 0 ≤ (0 : Int) := (by omega)
    have q4 : 0 < a0.size := (by have : (0 : Int) < (a0.size : Int) := of_decide_eq_true (by first | (with_reducible assumption) | assumption); omega)
    have hx4 : ∀ h : 0 < a0.size, ((a0[0]'h).toNat : Int) = bt a0 0 := bt_at a0 0
    clear p4
    have qi4 : (0 < (a0.size : Int)) = True := eq_true (of_decide_eq_true (by first | (with_reducible assumption) | assumption))
    replace q4 := eq_true q4
    go_enter Tryd.func66, Tryd.ntmps66
    go_wp2
    go_ret2
    exact ⟨by first | rfl | (simp; done) | (simp [*]; done), by repeat (first | exact Drawn0.refl _ | apply Drawn0.step)⟩
   ·rw [if_neg c5] at H
    have c5b0 : decide ((bt a0 0) < 48) = false := decide_eq_false c5
    clear c5
    by_cases c7 : (bt a0 0) > 57
    ·rw [if_pos c7] at H
     have c7b0 : decide (57 < (bt a0 0)) = true := decide_eq_true c7
     clear c7
     simp only [Option.some.injEq, Prod.mk.injEq] at H
     obtain ⟨rfl, rfl⟩ := H
     have p4 : 0 ≤ (0 : Int) := (by omega)
     have q4 : 0 < a0.size := (by have : (0 : Int) < (a0.size : Int) := of_decide_eq_true (by first | (with_reducible assumption) | assumption); omega)
     have hx4 : ∀ h : 0 < a0.size, ((a0[0]'h).toNat : Int) = bt a0 0 := bt_at a0 0
     clear p4
     have qi4 : (0 < (a0.size : Int)) = True := eq_true (of_decide_eq_true (by first | (with_reducible assumption) | assumption))
     replace q4 := eq_true q4
     have p6 : 0 ≤ (0 : Int) := (by omega)
     have q6 : 0 < a0.size := (by have : (0 : Int) < (a0.size : Int) := of_decide_eq_true (by first | (with_reducible assumption) | assumption); omega)
     have hx6 : ∀ h : 0 < a0.size, ((a0[0]'h).toNat : Int) = bt a0 0 := bt_at a0 0
     clear p6
     have qi6 : (0 < (a0.size : Int)) = True := eq_true (of_decide_eq_true (by first | (with_reducible assumption) | assumption))
     replace q6 := eq_true q6
     go_enter Tryd.func66, Tryd.ntmps66
     go_wp2
     go_ret2
     exact ⟨by first | rfl | (simp; done) | (simp [*]; done), by repeat (first | exact Drawn0.refl _ | apply Drawn0.step)⟩
    ·rw [if_neg c7] at H
     have c7b0 : decide (57 < (bt a0 0)) = false := decide_eq_false c7
     clear c7
     simp only [Option.some.injEq, Prod.mk.injEq] at H
     obtain ⟨rfl, rfl⟩ := H
     have p4 : 0 ≤ (0 : Int) := (by omega)
     have q4 : 0 < a0.size := (by have : (0 : Int) < (a0.size : Int) := of_decide_eq_true (by first | (with_reducible assumption) | assumption); omega)
     have hx4 : ∀ h : 0 < a0.size, ((a0[0]'h).toNat : Int) = bt a0 0 := bt_at a0 0
     clear p4
     have qi4 : (0 < (a0.size : Int)) = True := eq_true (of_decide_eq_true (by first | (with_reducible assumption) | assumption))
     replace q4 := eq_true q4
     have p6 : 0 ≤ (0 : Int) := (by omega)
     have q6 : 0 < a0.size := (by have : (0 : Int) < (a0.size : Int) := of_decide_eq_true (by first | (with_reducible assumption) | assumption); omega)
     have hx6 : ∀ h : 0 < a0.size, ((a0[0]'h).toNat : Int) = bt a0 0 := bt_at a0 0
     clear p6
     have qi6 : (0 < (a0.size : Int)) = True := eq_true (of_decide_eq_true (by first | (with_reducible assumption) | assumption))
     replace q6 := eq_true q6
     have p8 : 0 ≤ (0 : Int) := (by omega)
     have q8 : 0 < a0.size := (by have : (0 : Int) < (a0.size : Int) := of_decide_eq_true (by first | (with_reducible assumption) | assumption); omega)
     have hx8 : ∀ h : 0 < a0.size, ((a0[0]'h).toNat : Int) = bt a0 0 := bt_at a0 0
     clear p8
     have qi8 : (0 < (a0.size : Int)) = True := eq_true (of_decide_eq_true (by first | (with_reducible assumption) | assumption))
     replace q8 := eq_true q8
     go_enter Tryd.func66, Tryd.ntmps66
     go_wp2
     go_ret2
     exact ⟨by first | rfl | (simp; done) | (simp [*]; done), by repeat (first | exact Drawn0.refl _ | apply Drawn0.step)⟩
  ·rw [if_neg c3] at H
   exact absurd H (by simp)
 ·rw [if_neg c2] at H
  have c2b0 : ((a0.size : Int) == 1) = false := beq_eq_false_iff_ne.mpr c2
  have c2b1 : ((a0.size : Int) != 1) = true := bne_iff_ne.mpr c2
  simp only [Option.some.injEq, Prod.mk.injEq] at H
  obtain ⟨rfl, rfl⟩ := H
  go_enter Tryd.func66, Tryd.ntmps66
  go_wp2
  go_ret2
  exact ⟨by first | rfl | (simp; done) | (simp [*]; done), by repeat (first | exact Drawn0.refl _ | apply Drawn0.step)⟩
/-! ### catalog_line: function 52 -/
mutual
def catalog_line.j0 : Nat → List ByteArray → Bool → ByteArray → Int → Int → Int → Option (ByteArray × Int × Int × Int × Bool)
 | 0, _, _, _, _, _, _ => none
 | k + 1, x4, x21, x150000, x150001, x150002, x150003 => if x21 = true then (if 2 < (x4.length : Int) then ((catalog_digit.f (rdOf ByteArray.empty x4 2)).bind fun bt152 => (if bt152.2 = true then (if 1 < (x4.length : Int) then (if 3 < (x4.length : Int) then (if 4 < (x4.length : Int) then (catalog_line.j1 k (([(⟨#[108, 111, 99, 107]⟩ : ByteArray), rdOf ByteArray.empty x4 1, rdOf ByteArray.empty x4 3, rdOf ByteArray.empty x4 4] : List ByteArray)) x150000 2 bt152.1 x150003) else (none)) else (none)) else (none)) else (some ((⟨#[]⟩ : ByteArray), 0, 0, 0, false)))) else (none)) else (catalog_line.j1 k x4 x150000 x150001 x150002 x150003)
def catalog_line.j1 : Nat → List ByteArray → ByteArray → Int → Int → Int → Option (ByteArray × Int × Int × Int × Bool)
 | 0, _, _, _, _, _ => none
 | k + 1, x4, x150000, x150001, x150002, x150003 => if (x4.length : Int) = 4 then (if 0 < (x4.length : Int) then (if (rdOf ByteArray.empty x4 0).toList = ([108, 111, 99, 107] : List UInt8) then (if 2 < (x4.length : Int) then (catalog_line.j2 k x4 ((rdOf ByteArray.empty x4 2).toList != ([97, 116] : List UInt8)) x150000 x150001 x150002 x150003) else (none)) else (catalog_line.j2 k x4 true x150000 x150001 x150002 x150003)) else (none)) else (catalog_line.j2 k x4 true x150000 x150001 x150002 x150003)
def catalog_line.j2 : Nat → List ByteArray → Bool → ByteArray → Int → Int → Int → Option (ByteArray × Int × Int × Int × Bool)
 | 0, _, _, _, _, _, _ => none
 | k + 1, x4, x59, x150000, x150001, x150002, x150003 => if x59 = true then (some ((⟨#[]⟩ : ByteArray), 0, 0, 0, false)) else (if 3 < (x4.length : Int) then ((catalog_digit.f (rdOf ByteArray.empty x4 3)).bind fun bt163 => (if 1 < (x4.length : Int) then (some (rdOf ByteArray.empty x4 1, x150001, x150002, bt163.1, bt163.2)) else (none))) else (none))
end
def catalog_line.f (k : Nat) (a0 : ByteArray) : Option (ByteArray × Int × Int × Int × Bool) := (strings_Split.f a0 (⟨#[32]⟩ : ByteArray)).bind fun t146 => (if (t146.length : Int) = 5 then (if 0 < (t146.length : Int) then (catalog_line.j0 k t146 ((rdOf ByteArray.empty t146 0).toList == ([112, 111, 111, 108] : List UInt8)) (⟨#[]⟩ : ByteArray) 1 1 0) else (none)) else (catalog_line.j0 k t146 false (⟨#[]⟩ : ByteArray) 1 1 0))
theorem catalog_line.mono_l : ∀ k, (∀ y0 y1 y2 y3 y4 y5, LeO (catalog_line.j0 k y0 y1 y2 y3 y4 y5) (catalog_line.j0 (k + 1) y0 y1 y2 y3 y4 y5)) ∧ (∀ y0 y1 y2 y3 y4, LeO (catalog_line.j1 k y0 y1 y2 y3 y4) (catalog_line.j1 (k + 1) y0 y1 y2 y3 y4)) ∧ (∀ y0 y1 y2 y3 y4 y5, LeO (catalog_line.j2 k y0 y1 y2 y3 y4 y5) (catalog_line.j2 (k + 1) y0 y1 y2 y3 y4 y5))
 | 0 => ⟨fun _ _ _ _ _ _ r h => by simp [catalog_line.j0] at h, fun _ _ _ _ _ r h => by simp [catalog_line.j1] at h, fun _ _ _ _ _ _ r h => by simp [catalog_line.j2] at h⟩
 | k + 1 => by
  obtain ⟨ih0, ih1, ih2⟩ := catalog_line.mono_l k
  refine ⟨?_, ?_, ?_⟩
  ·intro y0 y1 y2 y3 y4 y5
   unfold catalog_line.j0
   repeat' first
   | (with_reducible exact ih0 _ _ _ _ _ _)
   | (with_reducible exact ih1 _ _ _ _ _)
   | (with_reducible exact ih2 _ _ _ _ _ _)
   | (with_reducible exact LeO.refl _)
   | (with_reducible exact LeO.none _)
   | (with_reducible refine LeO.ite ?_ ?_)
   | (with_reducible refine LeO.bind ?_ (fun _ => ?_))
   | exact ih0 _ _ _ _ _ _
   | exact ih1 _ _ _ _ _
   | exact ih2 _ _ _ _ _ _
   | exact LeO.none _
   | refine LeO.ite ?_ ?_
   | refine LeO.bind ?_ (fun _ => ?_)
  ·intro y0 y1 y2 y3 y4
   unfold catalog_line.j1
   repeat' first
   | (with_reducible exact ih0 _ _ _ _ _ _)
   | (with_reducible exact ih1 _ _ _ _ _)
   | (with_reducible exact ih2 _ _ _ _ _ _)
   | (with_reducible exact LeO.refl _)
   | (with_reducible exact LeO.none _)
   | (with_reducible refine LeO.ite ?_ ?_)
   | (with_reducible refine LeO.bind ?_ (fun _ => ?_))
   | exact ih0 _ _ _ _ _ _
   | exact ih1 _ _ _ _ _
   | exact ih2 _ _ _ _ _ _
   | exact LeO.none _
   | refine LeO.ite ?_ ?_
   | refine LeO.bind ?_ (fun _ => ?_)
  ·intro y0 y1 y2 y3 y4 y5
   unfold catalog_line.j2
   repeat' first
   | (with_reducible exact ih0 _ _ _ _ _ _)
   | (with_reducible exact ih1 _ _ _ _ _)
   | (with_reducible exact ih2 _ _ _ _ _ _)
   | (with_reducible exact LeO.refl _)
   | (with_reducible exact LeO.none _)
   | (with_reducible refine LeO.ite ?_ ?_)
   | (with_reducible refine LeO.bind ?_ (fun _ => ?_))
   | exact ih0 _ _ _ _ _ _
   | exact ih1 _ _ _ _ _
   | exact ih2 _ _ _ _ _ _
   | exact LeO.none _
   | refine LeO.ite ?_ ?_
   | refine LeO.bind ?_ (fun _ => ?_)
theorem catalog_line.mono : ∀ a0 k, LeO (catalog_line.f k a0) (catalog_line.f (k + 1) a0) := by
 intro a0 k
 obtain ⟨ih0, ih1, ih2⟩ := catalog_line.mono_l k
 unfold catalog_line.f
 repeat' first
   | (with_reducible exact ih0 _ _ _ _ _ _)
   | (with_reducible exact ih1 _ _ _ _ _)
   | (with_reducible exact ih2 _ _ _ _ _ _)
   | (with_reducible exact LeO.refl _)
   | (with_reducible exact LeO.none _)
   | (with_reducible refine LeO.ite ?_ ?_)
   | (with_reducible refine LeO.bind ?_ (fun _ => ?_))
   | exact ih0 _ _ _ _ _ _
   | exact ih1 _ _ _ _ _
   | exact ih2 _ _ _ _ _ _
   | exact LeO.none _
   | refine LeO.ite ?_ ?_
   | refine LeO.bind ?_ (fun _ => ?_)
def catalog_line.T8 : Bool × List (List Nat × List Nat) := (true, [([], []), ([0], [0]), ([1], [1]), ([], []), ([3], [3]), ([4], [4]), ([], []), ([6], [6]), ([7], [7]), ([2, 5, 8], [2, 5, 8]), ([9, 0, 1, 2, 3, 4, 5, 6, 7, 8, 9], [0, 3, 6, 9])])
def catalog_line.B8 : List Nat := [0, 1, 3, 0, 8, 24, 0, 64, 192, 511, 1023]
theorem catalog_line.tab8 : rtab .any (opsOf Tryd.f52 8) = catalog_line.T8 := by kernel_rfl
theorem catalog_line.bits8 : waitsOk catalog_line.T8.2 catalog_line.B8 = true := by kernel_rfl
set_option maxHeartbeats 8000000 in
set_option maxRecDepth 100000 in
theorem catalog_line.calls (k : Nat) (a0 : ByteArray) (r1 : ByteArray) (r2 : Int) (r3 : Int) (r4 : Int) (r5 : Bool) (w : World) (h : catalog_line.f k a0 = some (r1, r2, r3, r4, r5)) :
  Calls Tryd.prog 52 #[.string a0] w fun e w' => e = .returned (.tuple #[.agg #[.string r1, .int .i64 r2, .int .i64 r3, .int .i64 r4], .bool r5]) ∧ Below w.heap.size w w' := by
 have hu26 := Tryd.underlying26
 have HB := Aside0.mk (Below.refl w.heap.size w)
 have H : ((strings_Split.f a0 (⟨#[32]⟩ : ByteArray)).bind fun t146 => (if (t146.length : Int) = 5 then (if 0 < (t146.length : Int) then (catalog_line.j0 k t146 ((rdOf ByteArray.empty t146 0).toList == ([112, 111, 111, 108] : List UInt8)) (⟨#[]⟩ : ByteArray) 1 1 0) else (none)) else (catalog_line.j0 k t146 false (⟨#[]⟩ : ByteArray) 1 1 0))) = some (r1, r2, r3, r4, r5) := h
 clear h
 obtain ⟨t146, A20, H⟩ := Option.bind_eq_some_iff.mp H
 have A2 := Aside0.mk A20; clear A20
 have HC3 := Aside0.mk H
 clear H
 go_enter Tryd.func52, Tryd.ntmps52
 go_upto_region 3 with (first | ((with_reducible refine gate_dst (N := 2) rfl ?_); refine box_event ?hg (N := 2) ?hd (cs := #[.string (⟨#[]⟩ : ByteArray), .int .i64 0, .int .i64 0, .int .i64 0]) (t := 26) ?hr ?_; (case hd => rfl); (case hg => rfl); (case hr => first | (go_simp; done) | (go_simp; rfl)); intro gb145 hg w4 hbox hb; have BK145 := Aside0.mk hbox; have GW145 := gE HB hg; replace HB := bB HB hb; have GE145 := GW145; clear hb hbox hg) | ((with_reducible refine gate_callee (f := 65) rfl ?_); refine goesL_ (some 11) rfl rfl Tryd.func65 (by kernel_rfl) rfl #[.string a0, .string (⟨#[32]⟩ : ByteArray)] rfl (by (try simp only [mA]); first | done | rfl) ?_; (with_reducible refine (strings_Split.calls a0 (⟨#[32]⟩ : ByteArray) t146 _ A2.out).mono ?_); rintro e w5 ⟨v147, rfl, ho0, hb⟩; refine ⟨_, rfl, ?_⟩; have HO148 := Aside0.mk (Kd.R_lower ho0 (below_size (haveI := gI GE145; uS HB))); replace BK145 := Aside0.mk (blk_below (g := gb145) (o := .cells #[.string (⟨#[]⟩ : ByteArray), .int .i64 0, .int .i64 0, .int .i64 0] 26 (0, 0)) (uK BK145) hb); replace HB := (haveI := gI GE145; bT HB hb); (try clear hb); (try clear hk); (try clear ho0)) | ((with_reducible refine gate_dst (N := 5) rfl ?_); refine box_event ?hg (N := 5) ?hd (cs := #[.string (⟨#[]⟩ : ByteArray), .int .i64 0, .int .i64 0, .int .i64 0]) (t := 26) ?hr ?_; (case hd => rfl); (case hg => rfl); (case hr => first | (go_simp; done) | (go_simp; rfl)); intro gb149 hg w6 hbox hb; replace HO148 := Aside0.mk (Kd.R_below (by (with_reducible repeat (first | apply Kd.R_alloc | apply Kd.R_drewN | apply Kd.R_drew)); exact HO148.out) hb); have BK149 := Aside0.mk hbox; have GW149 := Aside0.mk ((by rw [hg]; exact (below_size (haveI := gI GE145; uS HB)) : w.heap.size ≤ gb149)); replace HB := (haveI := gI GE145; bT HB hb); have GE149 := GW149; have NB145_149 := Aside0.mk ((by rw [hg]; exact Nat.ne_of_lt (blk_lt (g := gb145) (o := .cells #[.string (⟨#[]⟩ : ByteArray), .int .i64 0, .int .i64 0, .int .i64 0] 26 (0, 0)) (uK BK145)) : gb145 ≠ gb149)); replace BK145 := Aside0.mk (blk_below (g := gb145) (o := .cells #[.string (⟨#[]⟩ : ByteArray), .int .i64 0, .int .i64 0, .int .i64 0] 26 (0, 0)) (uK BK145) hb); have NB149_145 := Aside0.mk NB145_149.out.symm; clear hb hbox hg; have hnb7 := NB149_145.out; have hnc7 := NB145_149.out; have hcz8_0 : w6.cell? ⟨gb149, 0, none⟩ = some (.string (⟨#[]⟩ : ByteArray)) := bC BK149 0 rfl; have hcz8_1 : w6.cell? ⟨gb149, 1, none⟩ = some (.int .i64 0) := bC BK149 1 rfl; have hcz8_2 : w6.cell? ⟨gb149, 2, none⟩ = some (.int .i64 0) := bC BK149 2 rfl; have hcz8_3 : w6.cell? ⟨gb149, 3, none⟩ = some (.int .i64 0) := bC BK149 3 rfl; have hfz8_0 := bF BK149 0; have hfz8_1 := bF BK149 1; have hfz8_2 := bF BK149 2; have hfz8_3 := bF BK149 3))
 (try simp only [Act.put, List.setIfInBounds_toArray, List.set_cons_zero, List.set_cons_succ])
 go_cut [21] (fun v21 wc => ∃ (kq : Nat) (x21_2 : Bool), v21 = .bool x21_2 ∧ Aside0 (catalog_line.j0 kq t146 x21_2 (⟨#[]⟩ : ByteArray) 1 1 0 = some (r1, r2, r3, r4, r5)) ∧ Aside0 (kq ≤ k) ∧ Aside0 (Kd.R Kd.string 9 wc w.heap.size (fun _ => True) v147 t146) ∧ Aside0 (wc.heap[gb145]? = some (.cells #[.string (⟨#[]⟩ : ByteArray), .int .i64 0, .int .i64 0, .int .i64 0] 26 (0, 0))) ∧ Aside0 (wc.heap[gb149]? = some (.cells #[.string (⟨#[]⟩ : ByteArray), .int .i64 1, .int .i64 1, .int .i64 0] 26 (0, 0))) ∧ Aside0 (Below w.heap.size w wc))
 case first =>
  have H := HC3.out
  clear HC3
  by_cases c9 : (t146.length : Int) = 5
  ·rw [if_pos c9] at H
   have c9b0 : ((t146.length : Int) == 5) = true := beq_iff_eq.mpr c9
   have c9b1 : ((t146.length : Int) != 5) = false := bne_eq_false_iff_eq.mpr c9
   clear c9
   (first | rw [c9b0] | (simp only [i64_w, i32_w]; rw [c9b0]) | skip)
   have HH_ := Aside0.mk H
   clear H
   obtain ⟨Ao11, co11, eo11⟩ := Kd.R_slice HO148.out
   subst eo11
   have p150 : 0 ≤ (0 : Int) := (by omega)
   have H := HH_.out
   clear HH_
   by_cases c10 : 0 < (t146.length : Int)
   ·rw [if_pos c10] at H
    have c10b0 : decide (0 < (t146.length : Int)) = true := decide_eq_true c10
    have c10b1 : decide (0 < t146.length) = true := decide_eq_true (by omega)
    clear c10
    have H' := Aside0.mk H
    clear H
    (try simp only [c10b0, c10b1])
    have q150 : 0 < (t146.length : Int) := of_decide_eq_true (by first | (with_reducible assumption) | assumption)
    obtain ⟨ad150, e150, hx150_0⟩ := Kd.at_string (Kd.R_reads' HO148.out).2.2 0 p150 q150
    cases e150
    have qi150 : (0 < t146.length) = True := eq_true (by omega)
    (try rw [show ((0 : Int)).toNat = 0 from rfl] at hx150_0)
    (try rw [Addr.add_zero'] at hx150_0)
    have hn150_0 : ad150.block ≠ gb149 := Kd.own_blk (Kd.R_ne HO148.out BK149.out (by decide))
    have hn150_1 : ad150.block ≠ gb149 := Kd.own_blk (Kd.R_ne HO148.out BK149.out (by decide))
    have hn150_2 : ad150.block ≠ gb149 := Kd.own_blk (Kd.R_ne HO148.out BK149.out (by decide))
    have hn150_3 : ad150.block ≠ gb149 := Kd.own_blk (Kd.R_ne HO148.out BK149.out (by decide))
    replace hx150_0 := (cell_far (p := ⟨gb149, 0, none⟩) (by first | (rw [add_block]; exact hn150_0) | (show (Addr.add _ _).block ≠ _; rw [add_block]; exact hn150_0) | exact hn150_0) (.string (⟨#[]⟩ : ByteArray))).trans hx150_0
    replace hx150_0 := (cell_far (p := ⟨gb149, 1, none⟩) (by first | (rw [add_block]; exact hn150_1) | (show (Addr.add _ _).block ≠ _; rw [add_block]; exact hn150_1) | exact hn150_1) (.int .i64 1)).trans hx150_0
    replace hx150_0 := (cell_far (p := ⟨gb149, 2, none⟩) (by first | (rw [add_block]; exact hn150_2) | (show (Addr.add _ _).block ≠ _; rw [add_block]; exact hn150_2) | exact hn150_2) (.int .i64 1)).trans hx150_0
    replace hx150_0 := (cell_far (p := ⟨gb149, 3, none⟩) (by first | (rw [add_block]; exact hn150_3) | (show (Addr.add _ _).block ≠ _; rw [add_block]; exact hn150_3) | exact hn150_3) (.int .i64 0)).trans hx150_0
    clear hn150_0
    clear hn150_1
    clear hn150_2
    clear hn150_3
    replace p150 := eq_true p150
    replace q150 := eq_true q150
    go_wp2
    go_meet
    case rel => exact ⟨_, (((rdOf ByteArray.empty t146 0).toList == ([112, 111, 111, 108] : List UInt8))), (by first | rfl | (simp; done) | (simp [*]; done)), H', ⟨by first | omega | exact Nat.le_refl _⟩, ⟨by (with_reducible repeat (first | apply Kd.R_alloc | apply Kd.R_drewN | apply Kd.R_drew)); exact Kd.R_mono (Kd.R_far (p := ⟨gb149, 3, none⟩) (Kd.R_far (p := ⟨gb149, 2, none⟩) (Kd.R_far (p := ⟨gb149, 1, none⟩) (Kd.R_far (p := ⟨gb149, 0, none⟩) (Kd.R_types HO148.out BK149.out (by decide)) (fun _ hk => hk.2) (.string (⟨#[]⟩ : ByteArray))) (fun _ hk => hk.2) (.int .i64 1)) (fun _ hk => hk.2) (.int .i64 1)) (fun _ hk => hk.2) (.int .i64 0)) (fun _ hk => trivial)⟩, ⟨by (with_reducible repeat first | refine bN ?_ _ | refine bD ?_ | refine bA ?_ _); refine blk_far ?_ NB145_149.out _; (with_reducible repeat first | refine bN ?_ _ | refine bD ?_ | refine bA ?_ _); refine blk_far ?_ NB145_149.out _; (with_reducible repeat first | refine bN ?_ _ | refine bD ?_ | refine bA ?_ _); refine blk_far ?_ NB145_149.out _; (with_reducible repeat first | refine bN ?_ _ | refine bD ?_ | refine bA ?_ _); refine blk_far ?_ NB145_149.out _; (with_reducible repeat first | refine bN ?_ _ | refine bD ?_ | refine bA ?_ _); exact BK145.out⟩, ⟨by (with_reducible repeat first | refine bN ?_ _ | refine bD ?_ | refine bA ?_ _); refine blk_put (cs := #[.string (⟨#[]⟩ : ByteArray), .int .i64 1, .int .i64 1, .int .i64 0]) ?_ 3 _ rfl; (with_reducible repeat first | refine bN ?_ _ | refine bD ?_ | refine bA ?_ _); refine blk_put (cs := #[.string (⟨#[]⟩ : ByteArray), .int .i64 1, .int .i64 0, .int .i64 0]) ?_ 2 _ rfl; (with_reducible repeat first | refine bN ?_ _ | refine bD ?_ | refine bA ?_ _); refine blk_put (cs := #[.string (⟨#[]⟩ : ByteArray), .int .i64 0, .int .i64 0, .int .i64 0]) ?_ 1 _ rfl; (with_reducible repeat first | refine bN ?_ _ | refine bD ?_ | refine bA ?_ _); refine blk_put (cs := #[.string (⟨#[]⟩ : ByteArray), .int .i64 0, .int .i64 0, .int .i64 0]) ?_ 0 _ rfl; (with_reducible repeat first | refine bN ?_ _ | refine bD ?_ | refine bA ?_ _); exact BK149.out⟩, ⟨(haveI := gI GE145; haveI := gI GE149; uS HB)⟩⟩
   ·rw [if_neg c10] at H
    exact absurd H (by simp)
  ·rw [if_neg c9] at H
   have c9b0 : ((t146.length : Int) == 5) = false := beq_eq_false_iff_ne.mpr c9
   have c9b1 : ((t146.length : Int) != 5) = true := bne_iff_ne.mpr c9
   (first | rw [c9b0] | (simp only [i64_w, i32_w]; rw [c9b0]) | skip)
   have H' := Aside0.mk H
   clear H
   obtain ⟨Ao12, co12, eo12⟩ := Kd.R_slice HO148.out
   subst eo12
   go_wp2
   go_meet
   case rel => exact ⟨_, (false), (by first | rfl | (simp; done) | (simp [*]; done)), H', ⟨by first | omega | exact Nat.le_refl _⟩, ⟨by (with_reducible repeat (first | apply Kd.R_alloc | apply Kd.R_drewN | apply Kd.R_drew)); exact Kd.R_mono (Kd.R_far (p := ⟨gb149, 3, none⟩) (Kd.R_far (p := ⟨gb149, 2, none⟩) (Kd.R_far (p := ⟨gb149, 1, none⟩) (Kd.R_far (p := ⟨gb149, 0, none⟩) (Kd.R_types HO148.out BK149.out (by decide)) (fun _ hk => hk.2) (.string (⟨#[]⟩ : ByteArray))) (fun _ hk => hk.2) (.int .i64 1)) (fun _ hk => hk.2) (.int .i64 1)) (fun _ hk => hk.2) (.int .i64 0)) (fun _ hk => trivial)⟩, ⟨by (with_reducible repeat first | refine bN ?_ _ | refine bD ?_ | refine bA ?_ _); refine blk_far ?_ NB145_149.out _; (with_reducible repeat first | refine bN ?_ _ | refine bD ?_ | refine bA ?_ _); refine blk_far ?_ NB145_149.out _; (with_reducible repeat first | refine bN ?_ _ | refine bD ?_ | refine bA ?_ _); refine blk_far ?_ NB145_149.out _; (with_reducible repeat first | refine bN ?_ _ | refine bD ?_ | refine bA ?_ _); refine blk_far ?_ NB145_149.out _; (with_reducible repeat first | refine bN ?_ _ | refine bD ?_ | refine bA ?_ _); exact BK145.out⟩, ⟨by (with_reducible repeat first | refine bN ?_ _ | refine bD ?_ | refine bA ?_ _); refine blk_put (cs := #[.string (⟨#[]⟩ : ByteArray), .int .i64 1, .int .i64 1, .int .i64 0]) ?_ 3 _ rfl; (with_reducible repeat first | refine bN ?_ _ | refine bD ?_ | refine bA ?_ _); refine blk_put (cs := #[.string (⟨#[]⟩ : ByteArray), .int .i64 1, .int .i64 0, .int .i64 0]) ?_ 2 _ rfl; (with_reducible repeat first | refine bN ?_ _ | refine bD ?_ | refine bA ?_ _); refine blk_put (cs := #[.string (⟨#[]⟩ : ByteArray), .int .i64 0, .int .i64 0, .int .i64 0]) ?_ 1 _ rfl; (with_reducible repeat first | refine bN ?_ _ | refine bD ?_ | refine bA ?_ _); refine blk_put (cs := #[.string (⟨#[]⟩ : ByteArray), .int .i64 0, .int .i64 0, .int .i64 0]) ?_ 0 _ rfl; (with_reducible repeat first | refine bN ?_ _ | refine bD ?_ | refine bA ?_ _); exact BK149.out⟩, ⟨(haveI := gI GE145; haveI := gI GE149; uS HB)⟩⟩
 case rest =>
  clear HC3
  try clear c1
  try clear p1
  try clear q1
  try clear hx1
  try clear qi1
  try clear p2
  try clear c5
  try clear c6
  try clear c7
  try clear c9
  try clear c9b0
  try clear c9b1
  try clear c10
  try clear c10b0
  try clear c10b1
  try clear hcz8_0
  try clear hcz8_1
  try clear hcz8_2
  try clear hcz8_3
  try clear hfz8_0
  try clear hfz8_1
  try clear hfz8_2
  try clear hfz8_3
  try clear hx150_0
  try clear p150
  try clear q150
  obtain ⟨kq, x21_2, rfl, HA, HJ2, HO_4, BK145, BK149, HB⟩ := hcut
  cases kq with
  | zero => exact absurd HA.out (by simp [catalog_line.j0])
  | succ kj2 =>
   have H := HA.out
   clear HA
   simp only [catalog_line.j0] at H
   have HC13 := Aside0.mk H
   clear H
   go_upto_if 21 with (fail)
   go_cut [4] (fun v4 wc => ∃ (kq : Nat) (x4_12 : List ByteArray) (x146000_12 : ByteArray) (x146001_12 : Int) (x146002_12 : Int) (x146003_12 : Int) (x150001_12 : Int) (x150002_12 : Int), Aside0 (catalog_line.j1 kq x4_12 (⟨#[]⟩ : ByteArray) x150001_12 x150002_12 0 = some (r1, r2, r3, r4, r5)) ∧ Aside0 (kq ≤ kj2) ∧ Aside0 (Kd.R Kd.string 9 wc w.heap.size (fun _ => True) v4 x4_12) ∧ Aside0 (wc.heap[gb145]? = some (.cells #[.string x146000_12, .int .i64 x146001_12, .int .i64 x146002_12, .int .i64 x146003_12] 26 (0, 0))) ∧ Aside0 (wc.heap[gb149]? = some (.cells #[.string (⟨#[]⟩ : ByteArray), .int .i64 x150001_12, .int .i64 x150002_12, .int .i64 0] 26 (0, 0))) ∧ Aside0 (Below w.heap.size w wc))
   case first =>
    have H := HC13.out
    clear HC13
    by_cases c14 : x21_2 = true
    ·subst c14
     have H1 : (if 2 < (t146.length : Int) then ((catalog_digit.f (rdOf ByteArray.empty t146 2)).bind fun bt152 => (if bt152.2 = true then (if 1 < (t146.length : Int) then (if 3 < (t146.length : Int) then (if 4 < (t146.length : Int) then (catalog_line.j1 kj2 (([(⟨#[108, 111, 99, 107]⟩ : ByteArray), rdOf ByteArray.empty t146 1, rdOf ByteArray.empty t146 3, rdOf ByteArray.empty t146 4] : List ByteArray)) (⟨#[]⟩ : ByteArray) 2 bt152.1 0) else (none)) else (none)) else (none)) else (some ((⟨#[]⟩ : ByteArray), 0, 0, 0, false)))) else (none)) = some (r1, r2, r3, r4, r5) := by rw [if_pos rfl] at H; exact H
     clear H
     have H := H1
     clear H1
     by_cases c15 : 2 < (t146.length : Int)
     ·rw [if_pos c15] at H
      have c15b0 : decide (2 < (t146.length : Int)) = true := decide_eq_true c15
      have c15b1 : decide (2 < t146.length) = true := decide_eq_true (by omega)
      clear c15
      (first | rw [c15b0] | (simp only [i64_w, i32_w]; rw [c15b0]) | skip)
      replace H := Option.bind_eq_some_iff.mp H
      obtain ⟨⟨t152, t153⟩, A160, H⟩ := H
      replace H : (if t153 = true then (if 1 < (t146.length : Int) then (if 3 < (t146.length : Int) then (if 4 < (t146.length : Int) then (catalog_line.j1 kj2 (([(⟨#[108, 111, 99, 107]⟩ : ByteArray), rdOf ByteArray.empty t146 1, rdOf ByteArray.empty t146 3, rdOf ByteArray.empty t146 4] : List ByteArray)) (⟨#[]⟩ : ByteArray) 2 t152 0) else (none)) else (none)) else (none)) else (some ((⟨#[]⟩ : ByteArray), 0, 0, 0, false))) = some (r1, r2, r3, r4, r5) := H
      have A16 := Aside0.mk A160; clear A160
      have HH_ := Aside0.mk H
      clear H
      obtain ⟨Ao21, co21, eo21⟩ := Kd.R_slice HO_4.out
      subst eo21
      have p151 : 0 ≤ (2 : Int) := (by omega)
      have q151 : 2 < (t146.length : Int) := of_decide_eq_true (by first | (with_reducible assumption) | assumption)
      obtain ⟨ad151, e151, hx151_0⟩ := Kd.at_string (Kd.R_reads' HO_4.out).2.2 2 p151 q151
      cases e151
      (try simp only [show (2 : Int).toNat = 2 from rfl, Nat.reduceMul, Nat.reduceEqDiff, Go.Addr.add, ↓reduceIte] at hx151_0)
      have H := HH_.out
      clear HH_
      by_cases c17 : t153 = true
      ·subst c17
       have H1 : (if 1 < (t146.length : Int) then (if 3 < (t146.length : Int) then (if 4 < (t146.length : Int) then (catalog_line.j1 kj2 (([(⟨#[108, 111, 99, 107]⟩ : ByteArray), rdOf ByteArray.empty t146 1, rdOf ByteArray.empty t146 3, rdOf ByteArray.empty t146 4] : List ByteArray)) (⟨#[]⟩ : ByteArray) 2 t152 0) else (none)) else (none)) else (none)) = some (r1, r2, r3, r4, r5) := by rw [if_pos rfl] at H; exact H
       clear H
       have H := H1
       clear H1
       by_cases c18 : 1 < (t146.length : Int)
       ·rw [if_pos c18] at H
        have c18b0 : decide (1 < (t146.length : Int)) = true := decide_eq_true c18
        have c18b1 : decide (1 < t146.length) = true := decide_eq_true (by omega)
        clear c18
        (try simp only [c18b0, c18b1])
        by_cases c19 : 3 < (t146.length : Int)
        ·rw [if_pos c19] at H
         have c19b0 : decide (3 < (t146.length : Int)) = true := decide_eq_true c19
         have c19b1 : decide (3 < t146.length) = true := decide_eq_true (by omega)
         clear c19
         (try simp only [c19b0, c19b1])
         by_cases c20 : 4 < (t146.length : Int)
         ·rw [if_pos c20] at H
          have c20b0 : decide (4 < (t146.length : Int)) = true := decide_eq_true c20
          have c20b1 : decide (4 < t146.length) = true := decide_eq_true (by omega)
          clear c20
          obtain ⟨y157, hy157⟩ : ∃ y_ : List ByteArray, y_ = (([(⟨#[108, 111, 99, 107]⟩ : ByteArray), rdOf ByteArray.empty t146 1, rdOf ByteArray.empty t146 3, rdOf ByteArray.empty t146 4] : List ByteArray)) := ⟨_, rfl⟩
          replace H : (catalog_line.j1 kj2 y157 (⟨#[]⟩ : ByteArray) 2 t152 0) = some (r1, r2, r3, r4, r5) := by first | (rw [hy157]; with_reducible exact H) | (have H2_ := (Option.bind_some _ _).symm.trans H; rw [hy157]; with_reducible exact H2_) | (have H2_ := (Option.bind_some _ _).symm.trans H; with_reducible exact H2_) | with_reducible exact H | (rw [hy157]; exact H) | exact H
          have Ny157 := Aside0.mk hy157
          clear hy157
          have H' := Aside0.mk H
          clear H
          (try simp only [c20b0, c20b1])
          have qi151 : (2 < t146.length) = True := eq_true (by omega)
          (try rw [show ((2 : Int)).toNat = 2 from rfl] at hx151_0)
          replace p151 := eq_true p151
          replace q151 := eq_true q151
          try go_wp2_with (first | ((with_reducible refine gate_callee (f := 66) rfl ?_); refine goesL_ (some 26) rfl rfl Tryd.func66 (by kernel_rfl) rfl #[.string (rdOf ByteArray.empty t146 2)] rfl (by (try simp only [mA]); first | done | rfl) ?_; (with_reducible refine (catalog_digit.calls (rdOf ByteArray.empty t146 2) t152 true _ A16.out).mono ?_); rintro e w' ⟨rfl, ⟨nd, rfl⟩⟩; refine ⟨_, rfl, ?_⟩; (try (rw [drewN_self wc]; generalize hq_ : World.drewN wc _ = wc; have n0_ : Aside0 (Kd.R Kd.string 9 wc w.heap.size (fun _ => True) (.slice (some ad151) t146.length co21) t146) := ⟨by rw [← hq_]; exact (by (with_reducible repeat (first | apply Kd.R_alloc | apply Kd.R_drewN | apply Kd.R_drew)); exact HO_4.out)⟩; have n1_ : Aside0 (wc.heap[gb145]? = some (.cells #[.string (⟨#[]⟩ : ByteArray), .int .i64 0, .int .i64 0, .int .i64 0] 26 (0, 0))) := ⟨by rw [← hq_]; exact (uK BK145)⟩; have n2_ : Aside0 (wc.heap[gb149]? = some (.cells #[.string (⟨#[]⟩ : ByteArray), .int .i64 1, .int .i64 1, .int .i64 0] 26 (0, 0))) := ⟨by rw [← hq_]; exact (uK BK149)⟩; have n3_ : Aside0 (Below w.heap.size w wc) := ⟨by rw [← hq_]; exact (haveI := gI GE145; haveI := gI GE149; uS HB)⟩; clear HO_4 BK145 BK149 HB hq_; have HO_4 := n0_; have BK145 := n1_; have BK149 := n2_; have HB := n3_; clear n0_ n1_ n2_ n3_)); have hnb22 := NB149_145.out; have hnc22 := NB145_149.out; have hcz23_0 : wc.cell? ⟨gb149, 0, none⟩ = some (.string (⟨#[]⟩ : ByteArray)) := bC BK149 0 rfl; have hcz23_1 : wc.cell? ⟨gb149, 1, none⟩ = some (.int .i64 1) := bC BK149 1 rfl; have hcz23_2 : wc.cell? ⟨gb149, 2, none⟩ = some (.int .i64 1) := bC BK149 2 rfl; have hcz23_3 : wc.cell? ⟨gb149, 3, none⟩ = some (.int .i64 0) := bC BK149 3 rfl; have hfz23_0 := bF BK149 0; have hfz23_1 := bF BK149 1; have hfz23_2 := bF BK149 2; have hfz23_3 := bF BK149 3))
          have n0_ : Aside0 (Kd.R Kd.string 9 ((wc.setCell ⟨gb149, 1, none⟩ (.int .i64 2)).setCell ⟨gb149, 2, none⟩ (.int .i64 t152)) w.heap.size (fun _ => True) (.slice (some ad151) t146.length co21) t146) := ⟨by (with_reducible repeat (first | apply Kd.R_alloc | apply Kd.R_drewN | apply Kd.R_drew)); exact Kd.R_mono (Kd.R_far (p := ⟨gb149, 2, none⟩) (Kd.R_far (p := ⟨gb149, 1, none⟩) (Kd.R_types HO_4.out BK149.out (by decide)) (fun _ hk => hk.2) (.int .i64 2)) (fun _ hk => hk.2) (.int .i64 t152)) (fun _ hk => trivial)⟩
          have n1_ : Aside0 (((wc.setCell ⟨gb149, 1, none⟩ (.int .i64 2)).setCell ⟨gb149, 2, none⟩ (.int .i64 t152)).heap[gb145]? = some (.cells #[.string (⟨#[]⟩ : ByteArray), .int .i64 0, .int .i64 0, .int .i64 0] 26 (0, 0))) := ⟨by (with_reducible repeat first | refine bN ?_ _ | refine bD ?_ | refine bA ?_ _); refine blk_far ?_ NB145_149.out _; (with_reducible repeat first | refine bN ?_ _ | refine bD ?_ | refine bA ?_ _); refine blk_far ?_ NB145_149.out _; (with_reducible repeat first | refine bN ?_ _ | refine bD ?_ | refine bA ?_ _); exact BK145.out⟩
          have n2_ : Aside0 (((wc.setCell ⟨gb149, 1, none⟩ (.int .i64 2)).setCell ⟨gb149, 2, none⟩ (.int .i64 t152)).heap[gb149]? = some (.cells #[.string (⟨#[]⟩ : ByteArray), .int .i64 2, .int .i64 t152, .int .i64 0] 26 (0, 0))) := ⟨by (with_reducible repeat first | refine bN ?_ _ | refine bD ?_ | refine bA ?_ _); refine blk_put (cs := #[.string (⟨#[]⟩ : ByteArray), .int .i64 2, .int .i64 1, .int .i64 0]) ?_ 2 _ rfl; (with_reducible repeat first | refine bN ?_ _ | refine bD ?_ | refine bA ?_ _); refine blk_put (cs := #[.string (⟨#[]⟩ : ByteArray), .int .i64 1, .int .i64 1, .int .i64 0]) ?_ 1 _ rfl; (with_reducible repeat first | refine bN ?_ _ | refine bD ?_ | refine bA ?_ _); exact BK149.out⟩
          have n3_ : Aside0 (Below w.heap.size w ((wc.setCell ⟨gb149, 1, none⟩ (.int .i64 2)).setCell ⟨gb149, 2, none⟩ (.int .i64 t152))) := ⟨(haveI := gI GE145; haveI := gI GE149; uS HB)⟩
          (try clear HO_4)
          (try clear BK145)
          (try clear BK149)
          (try clear HB)
          generalize ((wc.setCell ⟨gb149, 1, none⟩ (.int .i64 2)).setCell ⟨gb149, 2, none⟩ (.int .i64 t152)) = w24 at n0_ n1_ n2_ n3_ ⊢
          have HO_4 := n0_
          have BK145 := n1_
          have BK149 := n2_
          have HB := n3_
          clear n0_ n1_ n2_ n3_
          replace HO_4 := Aside0.mk (Kd.R_drew HO_4.out)
          replace BK145 := Aside0.mk (blk_drew BK145.out)
          replace BK149 := Aside0.mk (blk_drew BK149.out)
          replace HB := Aside0.mk (below_drew1 HB.out)
          have p154 : 0 ≤ (1 : Int) := (by omega)
          have q154 : 1 < (t146.length : Int) := of_decide_eq_true (by first | (with_reducible assumption) | assumption)
          obtain ⟨ad154, e154, hx154_0⟩ := Kd.at_string (Kd.R_reads' HO_4.out).2.2 1 p154 q154
          obtain rfl : ad151 = ad154 := (by injection e154)
          (try simp only [show (1 : Int).toNat = 1 from rfl, Nat.reduceMul, Nat.reduceEqDiff, Go.Addr.add, ↓reduceIte] at hx154_0)
          have qi154 : (1 < t146.length) = True := eq_true (by omega)
          (try rw [show ((1 : Int)).toNat = 1 from rfl] at hx154_0)
          replace p154 := eq_true p154
          replace q154 := eq_true q154
          have p155 : 0 ≤ (3 : Int) := (by omega)
          have q155 : 3 < (t146.length : Int) := of_decide_eq_true (by first | (with_reducible assumption) | assumption)
          obtain ⟨ad155, e155, hx155_0⟩ := Kd.at_string (Kd.R_reads' HO_4.out).2.2 3 p155 q155
          obtain rfl : ad151 = ad155 := (by injection e155)
          (try simp only [show (3 : Int).toNat = 3 from rfl, Nat.reduceMul, Nat.reduceEqDiff, Go.Addr.add, ↓reduceIte] at hx155_0)
          have qi155 : (3 < t146.length) = True := eq_true (by omega)
          (try rw [show ((3 : Int)).toNat = 3 from rfl] at hx155_0)
          replace p155 := eq_true p155
          replace q155 := eq_true q155
          have p156 : 0 ≤ (4 : Int) := (by omega)
          have q156 : 4 < (t146.length : Int) := of_decide_eq_true (by first | (with_reducible assumption) | assumption)
          obtain ⟨ad156, e156, hx156_0⟩ := Kd.at_string (Kd.R_reads' HO_4.out).2.2 4 p156 q156
          obtain rfl : ad151 = ad156 := (by injection e156)
          (try simp only [show (4 : Int).toNat = 4 from rfl, Nat.reduceMul, Nat.reduceEqDiff, Go.Addr.add, ↓reduceIte] at hx156_0)
          have qi156 : (4 < t146.length) = True := eq_true (by omega)
          (try rw [show ((4 : Int)).toNat = 4 from rfl] at hx156_0)
          replace p156 := eq_true p156
          replace q156 := eq_true q156
          refine start_ (n := 11) (S := fun w' => w'.cell? ⟨ad151.block, ad151.off + 1, none⟩ = some (.string (rdOf ByteArray.empty t146 1)) ∧ w'.cell? ⟨ad151.block, ad151.off + 3, none⟩ = some (.string (rdOf ByteArray.empty t146 3)) ∧ w'.cell? ⟨ad151.block, ad151.off + 4, none⟩ = some (.string (rdOf ByteArray.empty t146 4))) (ds := []) #[F,F,F,F,F,F,F,F,F,F,F] (by kernel_rfl) rfl rfl ⟨hx154_0, hx155_0, hx156_0⟩ (fun hHeld => ?_); refine with_tabW catalog_line.tab8 catalog_line.bits8 (fun HT_ HW_ => ?_)
          generalize w24.drew = w25 at HO_4 BK145 BK149 HB hx154_0 hx155_0 hx156_0 hHeld ⊢
          refine pu HT_ 0 35 #[T,F,F,F,F,F,F,F,F,F,F] rfl rfl (by kernel_rfl) (fun _ _ _ => id) (.inl ⟨by rfl, by intro w'; go_simp; with_reducible rfl⟩) (by simp only [sP]; rfl) ?_
          refine pu HT_ 1 36 #[T,T,F,F,F,F,F,F,F,F,F] rfl rfl (by kernel_rfl) (fun _ _ _ => id) (.inl ⟨by rfl, by intro w'; go_simp; with_reducible rfl⟩) (by simp only [sP]; rfl) ?_
          refine pu HT_ 3 38 #[T,T,F,T,F,F,F,F,F,F,F] rfl rfl (by kernel_rfl) (fun _ _ _ => id) (.inl ⟨by rfl, by intro w'; go_simp; with_reducible rfl⟩) (by simp only [sP]; rfl) ?_
          refine pu HT_ 4 39 #[T,T,F,T,T,F,F,F,F,F,F] rfl rfl (by kernel_rfl) (fun _ _ _ => id) (.inl ⟨by rfl, by intro w'; go_simp; with_reducible rfl⟩) (by simp only [sP]; rfl) ?_
          refine pu HT_ 6 41 #[T,T,F,T,T,F,T,F,F,F,F] rfl rfl (by kernel_rfl) (fun _ _ _ => id) (.inl ⟨by rfl, by intro w'; go_simp; with_reducible rfl⟩) (by simp only [sP]; rfl) ?_
          refine pu HT_ 7 42 #[T,T,F,T,T,F,T,T,F,F,F] rfl rfl (by kernel_rfl) (fun _ _ _ => id) (.inl ⟨by rfl, by intro w'; go_simp; with_reducible rfl⟩) (by simp only [sP]; rfl) ?_
          refine tk HT_ HW_ 2 37 #[T,T,T,T,T,F,T,T,F,F,F] rfl rfl (by kernel_rfl) (fun _ _ _ => id) (.inl ⟨by rfl, by rintro w' ⟨s0, s1, s2⟩; go_simp; with_reducible rfl⟩) hHeld (by simp only [sP]; rfl) ?_
          refine tk HT_ HW_ 5 40 #[T,T,T,T,T,T,T,T,F,F,F] rfl rfl (by kernel_rfl) (fun _ _ _ => id) (.inl ⟨by rfl, by rintro w' ⟨s0, s1, s2⟩; go_simp; with_reducible rfl⟩) hHeld (by simp only [sP]; rfl) ?_
          refine tk HT_ HW_ 8 43 #[T,T,T,T,T,T,T,T,T,F,F] rfl rfl (by kernel_rfl) (fun _ _ _ => id) (.inl ⟨by rfl, by rintro w' ⟨s0, s1, s2⟩; go_simp; with_reducible rfl⟩) hHeld (by simp only [sP]; rfl) ?_
          refine one_ (i := 9) (N := some 44) #[T,T,T,T,T,T,T,T,T,T,F] rfl rfl (one_of HT_.out (by kernel_rfl)) (by decide) (fun K hK => ?_)
          refine Kd.R_lit_step Kd.string _ 9 ?hg (N := 44) ?hd (xs := ([(⟨#[108, 111, 99, 107]⟩ : ByteArray), rdOf ByteArray.empty t146 1, rdOf ByteArray.empty t146 3, rdOf ByteArray.empty t146 4] : List ByteArray)) (inner := [.string (⟨#[108, 111, 99, 107]⟩ : ByteArray), .string (rdOf ByteArray.empty t146 1), .string (rdOf ByteArray.empty t146 3), .string (rdOf ByteArray.empty t146 4)]) (ok := fun _ => True) (okp := fun _ => True) ?hr ?hp (fun _ hk => hk) trivial (Below.refl _ _) (Nat.le_refl _) (by simp) ?_; (case hd => rfl); (case hg => rfl); (case hr => first | (go_simp; done) | (go_simp; rfl)); (case hp => exact (Reps.one (show Kd.M Kd.string _ _ _ (⟨#[108, 111, 99, 107]⟩ : ByteArray) [.string (⟨#[108, 111, 99, 107]⟩ : ByteArray)] from rfl) (Reps.one (show Kd.M Kd.string _ _ _ (rdOf ByteArray.empty t146 1) [.string (rdOf ByteArray.empty t146 1)] from rfl) (Reps.one (show Kd.M Kd.string _ _ _ (rdOf ByteArray.empty t146 3) [.string (rdOf ByteArray.empty t146 3)] from rfl) (Reps.one (show Kd.M Kd.string _ _ _ (rdOf ByteArray.empty t146 4) [.string (rdOf ByteArray.empty t146 4)] from rfl) (Reps.none _ _))))))
          intro v158 w26 ho27 hb hg_ hnew_
          have HS0_ := (hb.cell (World.block_lt_of_cell? _ _ (hHeld.1))).trans (hHeld.1)
          have HS1_ := (hb.cell (World.block_lt_of_cell? _ _ (hHeld.2.1))).trans (hHeld.2.1)
          have HS2_ := (hb.cell (World.block_lt_of_cell? _ _ (hHeld.2.2))).trans (hHeld.2.2)
          clear hg_ hnew_
          (first | rw [← Ny157.out] at ho27 | (simp only [Int.reduceToNat] at ho27; rw [← Ny157.out] at ho27))
          have HO159 := Aside0.mk (Kd.R_lower (Kd.R_new' ho27 (Kd.R_lt (by (with_reducible repeat (first | apply Kd.R_alloc | apply Kd.R_drewN | apply Kd.R_drew)); exact HO_4.out))) (below_size (haveI := gI GE145; haveI := gI GE149; uS HB)))
          replace HO_4 := Aside0.mk (Kd.R_elder' (by (with_reducible repeat (first | apply Kd.R_alloc | apply Kd.R_drewN | apply Kd.R_drew)); exact HO_4.out) (Kd.R_base ho27) hb)
          replace BK145 := Aside0.mk (blk_below (g := gb145) (o := .cells #[.string (⟨#[]⟩ : ByteArray), .int .i64 0, .int .i64 0, .int .i64 0] 26 (0, 0)) (uK BK145) hb)
          replace BK149 := Aside0.mk (blk_below (g := gb149) (o := .cells #[.string (⟨#[]⟩ : ByteArray), .int .i64 2, .int .i64 t152, .int .i64 0] 26 (0, 0)) (uK BK149) hb)
          replace HB := (haveI := gI GE145; haveI := gI GE149; bT HB hb)
          clear hb ho27
          refine hK.out _ _ ⟨HS0_, HS1_, HS2_⟩ (fun hHeld => ?_)
          clear hK K
          refine norm_ (a' := ?_) ?_ ?_
          rotate_left
          ·show Act.put _ (some 44) _ = _
           simp only [sP]
           rfl
          refine pu HT_ 10 4 #[T,T,T,T,T,T,T,T,T,T,T] rfl rfl (by kernel_rfl) (fun _ _ _ => id) (.inl ⟨by rfl, by intro w'; go_simp; with_reducible rfl⟩) (by simp only [sP]; rfl) ?_
          refine done_ (done_of HT_.out (by kernel_rfl)) ?_
          try go_wp2
          go_meet
          case rel => exact ⟨_, (y157), ((⟨#[]⟩ : ByteArray)), (0), (0), (0), (2), (t152), H', ⟨by have := HJ2.out; first | omega | exact Nat.le_refl _⟩, ⟨by (with_reducible repeat (first | apply Kd.R_alloc | apply Kd.R_drewN | apply Kd.R_drew)); exact Kd.R_mono HO159.out (fun _ hk => trivial)⟩, ⟨uK BK145⟩, ⟨uK BK149⟩, ⟨(haveI := gI GE145; haveI := gI GE149; uS HB)⟩⟩
         ·rw [if_neg c20] at H
          exact absurd H (by simp)
        ·rw [if_neg c19] at H
         exact absurd H (by simp)
       ·rw [if_neg c18] at H
        exact absurd H (by simp)
      ·replace c17 := Bool.eq_false_iff.mpr c17
       subst c17
       have H1 : (some ((⟨#[]⟩ : ByteArray), 0, 0, 0, false)) = some (r1, r2, r3, r4, r5) := by rw [if_neg (show ¬ (false = true) by decide)] at H; exact H
       clear H
       have H := H1
       clear H1
       simp only [Option.some.injEq, Prod.mk.injEq] at H
       obtain ⟨rfl, rfl, rfl, rfl, rfl⟩ := H
       have qi151 : (2 < t146.length) = True := eq_true (by omega)
       (try rw [show ((2 : Int)).toNat = 2 from rfl] at hx151_0)
       replace p151 := eq_true p151
       replace q151 := eq_true q151
       go_wp2_with (first | ((with_reducible refine gate_callee (f := 66) rfl ?_); refine goesL_ (some 26) rfl rfl Tryd.func66 (by kernel_rfl) rfl #[.string (rdOf ByteArray.empty t146 2)] rfl (by (try simp only [mA]); first | done | rfl) ?_; (with_reducible refine (catalog_digit.calls (rdOf ByteArray.empty t146 2) t152 false _ A16.out).mono ?_); rintro e w' ⟨rfl, ⟨nd, rfl⟩⟩; refine ⟨_, rfl, ?_⟩; (try (rw [drewN_self wc]; generalize hq_ : World.drewN wc _ = wc; have n0_ : Aside0 (Kd.R Kd.string 9 wc w.heap.size (fun _ => True) (.slice (some ad151) t146.length co21) t146) := ⟨by rw [← hq_]; exact (by (with_reducible repeat (first | apply Kd.R_alloc | apply Kd.R_drewN | apply Kd.R_drew)); exact HO_4.out)⟩; have n1_ : Aside0 (wc.heap[gb145]? = some (.cells #[.string (⟨#[]⟩ : ByteArray), .int .i64 0, .int .i64 0, .int .i64 0] 26 (0, 0))) := ⟨by rw [← hq_]; exact (uK BK145)⟩; have n2_ : Aside0 (wc.heap[gb149]? = some (.cells #[.string (⟨#[]⟩ : ByteArray), .int .i64 1, .int .i64 1, .int .i64 0] 26 (0, 0))) := ⟨by rw [← hq_]; exact (uK BK149)⟩; have n3_ : Aside0 (Below w.heap.size w wc) := ⟨by rw [← hq_]; exact (haveI := gI GE145; haveI := gI GE149; uS HB)⟩; clear HO_4 BK145 BK149 HB hq_; have HO_4 := n0_; have BK145 := n1_; have BK149 := n2_; have HB := n3_; clear n0_ n1_ n2_ n3_)); have hnb29 := NB145_149.out; have hnc29 := NB149_145.out; have hcz30_0 : wc.cell? ⟨gb145, 0, none⟩ = some (.string (⟨#[]⟩ : ByteArray)) := bC BK145 0 rfl; have hcz30_1 : wc.cell? ⟨gb145, 1, none⟩ = some (.int .i64 0) := bC BK145 1 rfl; have hcz30_2 : wc.cell? ⟨gb145, 2, none⟩ = some (.int .i64 0) := bC BK145 2 rfl; have hcz30_3 : wc.cell? ⟨gb145, 3, none⟩ = some (.int .i64 0) := bC BK145 3 rfl; have hfz30_0 := bF BK145 0; have hfz30_1 := bF BK145 1; have hfz30_2 := bF BK145 2; have hfz30_3 := bF BK145 3))
       refine bodyPost_ret (results_ct rfl _ _ gb145 26 #[.string (⟨#[]⟩ : ByteArray), .int .i64 0, .int .i64 0, .int .i64 0] (0, 0) _ rfl (by (with_reducible repeat first | refine bN ?_ _ | refine bD ?_ | refine bA ?_ _); refine blk_put (cs := #[.string (⟨#[]⟩ : ByteArray), .int .i64 0, .int .i64 0, .int .i64 0]) ?_ 3 _ rfl; (with_reducible repeat first | refine bN ?_ _ | refine bD ?_ | refine bA ?_ _); refine blk_put (cs := #[.string (⟨#[]⟩ : ByteArray), .int .i64 0, .int .i64 0, .int .i64 0]) ?_ 2 _ rfl; (with_reducible repeat first | refine bN ?_ _ | refine bD ?_ | refine bA ?_ _); refine blk_put (cs := #[.string (⟨#[]⟩ : ByteArray), .int .i64 0, .int .i64 0, .int .i64 0]) ?_ 1 _ rfl; (with_reducible repeat first | refine bN ?_ _ | refine bD ?_ | refine bA ?_ _); refine blk_put (cs := #[.string (⟨#[]⟩ : ByteArray), .int .i64 0, .int .i64 0, .int .i64 0]) ?_ 0 _ rfl; (with_reducible repeat first | refine bN ?_ _ | refine bD ?_ | refine bA ?_ _); exact BK145.out) Tryd.underlying26 rfl (by kernel_rfl)) rfl ?_
       exact ⟨by first | rfl | (simp [errW_none, errW_some] <;> rfl) | (simp [*, errW_none, errW_some] <;> rfl), (haveI := gI GE145; haveI := gI GE149; uS HB)⟩
     ·rw [if_neg c15] at H
      exact absurd H (by simp)
    ·replace c14 := Bool.eq_false_iff.mpr c14
     subst c14
     have H1 : (catalog_line.j1 kj2 t146 (⟨#[]⟩ : ByteArray) 1 1 0) = some (r1, r2, r3, r4, r5) := by rw [if_neg (show ¬ (false = true) by decide)] at H; exact H
     clear H
     have H := H1
     clear H1
     have H' := Aside0.mk H
     clear H
     go_wp2
     go_meet
     case rel => exact ⟨_, (t146), ((⟨#[]⟩ : ByteArray)), (0), (0), (0), (1), (1), H', ⟨by have := HJ2.out; first | omega | exact Nat.le_refl _⟩, ⟨by (with_reducible repeat (first | apply Kd.R_alloc | apply Kd.R_drewN | apply Kd.R_drew)); exact HO_4.out⟩, ⟨uK BK145⟩, ⟨uK BK149⟩, ⟨(haveI := gI GE145; haveI := gI GE149; uS HB)⟩⟩
   case rest =>
    clear HC13
    try clear c1
    try clear p1
    try clear q1
    try clear hx1
    try clear qi1
    try clear c2
    try clear p2
    try clear c5
    try clear c6
    try clear c7
    try clear c9
    try clear c9b0
    try clear c9b1
    try clear c10
    try clear c10b0
    try clear c10b1
    try clear c14
    try clear c15
    try clear c15b0
    try clear c15b1
    try clear p15
    try clear q15
    try clear hx15
    try clear qi15
    try clear c17
    try clear c18
    try clear c18b0
    try clear c18b1
    try clear c19
    try clear c19b0
    try clear c19b1
    try clear c20
    try clear c20b0
    try clear c20b1
    try clear c22
    try clear c29
    try clear hcz23_0
    try clear hcz23_1
    try clear hcz23_2
    try clear hcz23_3
    try clear hcz30_0
    try clear hcz30_1
    try clear hcz30_2
    try clear hcz30_3
    try clear hcz8_0
    try clear hcz8_1
    try clear hcz8_2
    try clear hcz8_3
    try clear hfz23_0
    try clear hfz23_1
    try clear hfz23_2
    try clear hfz23_3
    try clear hfz30_0
    try clear hfz30_1
    try clear hfz30_2
    try clear hfz30_3
    try clear hfz8_0
    try clear hfz8_1
    try clear hfz8_2
    try clear hfz8_3
    try clear hx150_0
    try clear hx151_0
    try clear hx154_0
    try clear hx155_0
    try clear hx156_0
    try clear p1
    try clear p150
    try clear p151
    try clear p154
    try clear p155
    try clear p156
    try clear p2
    try clear q1
    try clear q150
    try clear q151
    try clear q154
    try clear q155
    try clear q156
    obtain ⟨kq, x4_12, x146000_12, x146001_12, x146002_12, x146003_12, x150001_12, x150002_12, HA, HJ12, HO_4, BK145, BK149, HB⟩ := hcut
    cases kq with
    | zero => exact absurd HA.out (by simp [catalog_line.j1])
    | succ kj12 =>
     have H := HA.out
     clear HA
     simp only [catalog_line.j1] at H
     have HC31 := Aside0.mk H
     clear H
     go_upto_region 9 with (fail)
     go_cut [59] (fun v59 wc => ∃ (kq : Nat) (x59_30 : Bool), v59 = .bool x59_30 ∧ Aside0 (catalog_line.j2 kq x4_12 x59_30 (⟨#[]⟩ : ByteArray) x150001_12 x150002_12 0 = some (r1, r2, r3, r4, r5)) ∧ Aside0 (kq ≤ kj12) ∧ Aside0 (Kd.R Kd.string 9 wc w.heap.size (fun _ => True) u4 x4_12) ∧ Aside0 (wc.heap[gb145]? = some (.cells #[.string x146000_12, .int .i64 x146001_12, .int .i64 x146002_12, .int .i64 x146003_12] 26 (0, 0))) ∧ Aside0 (wc.heap[gb149]? = some (.cells #[.string (⟨#[]⟩ : ByteArray), .int .i64 x150001_12, .int .i64 x150002_12, .int .i64 0] 26 (0, 0))) ∧ Aside0 (Below w.heap.size w wc))
     case first =>
      have H := HC31.out
      clear HC31
      by_cases c32 : (x4_12.length : Int) = 4
      ·rw [if_pos c32] at H
       have c32b0 : ((x4_12.length : Int) == 4) = true := beq_iff_eq.mpr c32
       have c32b1 : ((x4_12.length : Int) != 4) = false := bne_eq_false_iff_eq.mpr c32
       clear c32
       (first | rw [c32b0] | (simp only [i64_w, i32_w]; rw [c32b0]) | skip)
       have HH_ := Aside0.mk H
       clear H
       obtain ⟨Ao36, co36, eo36⟩ := Kd.R_slice HO_4.out
       subst eo36
       have p160 : 0 ≤ (0 : Int) := (by omega)
       have H := HH_.out
       clear HH_
       by_cases c33 : 0 < (x4_12.length : Int)
       ·rw [if_pos c33] at H
        have c33b0 : decide (0 < (x4_12.length : Int)) = true := decide_eq_true c33
        have c33b1 : decide (0 < x4_12.length) = true := decide_eq_true (by omega)
        clear c33
        (try simp only [c33b0, c33b1])
        have HH_ := Aside0.mk H
        clear H
        have q160 : 0 < (x4_12.length : Int) := of_decide_eq_true (by first | (with_reducible assumption) | assumption)
        obtain ⟨ad160, e160, hx160_0⟩ := Kd.at_string (Kd.R_reads' HO_4.out).2.2 0 p160 q160
        cases e160
        have H := HH_.out
        clear HH_
        by_cases c34 : (rdOf ByteArray.empty x4_12 0).toList = ([108, 111, 99, 107] : List UInt8)
        ·rw [if_pos c34] at H
         have c34b0 : ((rdOf ByteArray.empty x4_12 0).toList == ([108, 111, 99, 107] : List UInt8)) = true := beq_iff_eq.mpr c34
         have c34b1 : ((rdOf ByteArray.empty x4_12 0).toList != ([108, 111, 99, 107] : List UInt8)) = false := bne_eq_false_iff_eq.mpr c34
         clear c34
         (try simp only [c34b0, c34b1])
         by_cases c35 : 2 < (x4_12.length : Int)
         ·rw [if_pos c35] at H
          have c35b0 : decide (2 < (x4_12.length : Int)) = true := decide_eq_true c35
          have c35b1 : decide (2 < x4_12.length) = true := decide_eq_true (by omega)
          clear c35
          have H' := Aside0.mk H
          clear H
          (try simp only [c35b0, c35b1])
          have qi160 : (0 < x4_12.length) = True := eq_true (by omega)
          (try rw [show ((0 : Int)).toNat = 0 from rfl] at hx160_0)
          (try rw [Addr.add_zero'] at hx160_0)
          replace p160 := eq_true p160
          replace q160 := eq_true q160
          have p161 : 0 ≤ (2 : Int) := (by omega)
          have q161 : 2 < (x4_12.length : Int) := of_decide_eq_true (by first | (with_reducible assumption) | assumption)
          obtain ⟨ad161, e161, hx161_0⟩ := Kd.at_string (Kd.R_reads' HO_4.out).2.2 2 p161 q161
          obtain rfl : ad160 = ad161 := (by injection e161)
          (try simp only [show (2 : Int).toNat = 2 from rfl, Nat.reduceMul, Nat.reduceEqDiff, Go.Addr.add, ↓reduceIte] at hx161_0)
          have qi161 : (2 < x4_12.length) = True := eq_true (by omega)
          (try rw [show ((2 : Int)).toNat = 2 from rfl] at hx161_0)
          replace p161 := eq_true p161
          replace q161 := eq_true q161
          go_wp2
          go_meet
          case rel => exact ⟨_, (((rdOf ByteArray.empty x4_12 2).toList != ([97, 116] : List UInt8))), (by first | rfl | (simp; done) | (simp [*]; done)), H', ⟨by have := HJ2.out; have := HJ12.out; first | omega | exact Nat.le_refl _⟩, ⟨by (with_reducible repeat (first | apply Kd.R_alloc | apply Kd.R_drewN | apply Kd.R_drew)); exact HO_4.out⟩, ⟨uK BK145⟩, ⟨uK BK149⟩, ⟨(haveI := gI GE145; haveI := gI GE149; uS HB)⟩⟩
         ·rw [if_neg c35] at H
          exact absurd H (by simp)
        ·rw [if_neg c34] at H
         have c34b0 : ((rdOf ByteArray.empty x4_12 0).toList == ([108, 111, 99, 107] : List UInt8)) = false := beq_eq_false_iff_ne.mpr c34
         have c34b1 : ((rdOf ByteArray.empty x4_12 0).toList != ([108, 111, 99, 107] : List UInt8)) = true := bne_iff_ne.mpr c34
         have H' := Aside0.mk H
         clear H
         (try simp only [c34b0, c34b1])
         have qi160 : (0 < x4_12.length) = True := eq_true (by omega)
         (try rw [show ((0 : Int)).toNat = 0 from rfl] at hx160_0)
         (try rw [Addr.add_zero'] at hx160_0)
         replace p160 := eq_true p160
         replace q160 := eq_true q160
         go_wp2
         go_meet
         case rel => exact ⟨_, (true), (by first | rfl | (simp; done) | (simp [*]; done)), H', ⟨by have := HJ2.out; have := HJ12.out; first | omega | exact Nat.le_refl _⟩, ⟨by (with_reducible repeat (first | apply Kd.R_alloc | apply Kd.R_drewN | apply Kd.R_drew)); exact HO_4.out⟩, ⟨uK BK145⟩, ⟨uK BK149⟩, ⟨(haveI := gI GE145; haveI := gI GE149; uS HB)⟩⟩
       ·rw [if_neg c33] at H
        exact absurd H (by simp)
      ·rw [if_neg c32] at H
       have c32b0 : ((x4_12.length : Int) == 4) = false := beq_eq_false_iff_ne.mpr c32
       have c32b1 : ((x4_12.length : Int) != 4) = true := bne_iff_ne.mpr c32
       (first | rw [c32b0] | (simp only [i64_w, i32_w]; rw [c32b0]) | skip)
       have H' := Aside0.mk H
       clear H
       obtain ⟨Ao38, co38, eo38⟩ := Kd.R_slice HO_4.out
       subst eo38
       go_wp2
       go_meet
       case rel => exact ⟨_, (true), (by first | rfl | (simp; done) | (simp [*]; done)), H', ⟨by have := HJ2.out; have := HJ12.out; first | omega | exact Nat.le_refl _⟩, ⟨by (with_reducible repeat (first | apply Kd.R_alloc | apply Kd.R_drewN | apply Kd.R_drew)); exact HO_4.out⟩, ⟨uK BK145⟩, ⟨uK BK149⟩, ⟨(haveI := gI GE145; haveI := gI GE149; uS HB)⟩⟩
     case rest =>
      clear HC31
      try clear c1
      try clear p1
      try clear q1
      try clear hx1
      try clear qi1
      try clear c2
      try clear p2
      try clear c3
      try clear c5
      try clear c6
      try clear c7
      try clear c9
      try clear c9b0
      try clear c9b1
      try clear c10
      try clear c10b0
      try clear c10b1
      try clear c14
      try clear c15
      try clear c15b0
      try clear c15b1
      try clear p15
      try clear q15
      try clear hx15
      try clear qi15
      try clear p16
      try clear q16
      try clear hx16
      try clear qi16
      try clear c17
      try clear c18
      try clear c18b0
      try clear c18b1
      try clear c19
      try clear c19b0
      try clear c19b1
      try clear c20
      try clear c20b0
      try clear c20b1
      try clear c22
      try clear c29
      try clear c32
      try clear c32b0
      try clear c32b1
      try clear c33
      try clear c33b0
      try clear c33b1
      try clear c34
      try clear c34b0
      try clear c34b1
      try clear c35
      try clear c35b0
      try clear c35b1
      try clear hcz23_0
      try clear hcz23_1
      try clear hcz23_2
      try clear hcz23_3
      try clear hcz30_0
      try clear hcz30_1
      try clear hcz30_2
      try clear hcz30_3
      try clear hcz8_0
      try clear hcz8_1
      try clear hcz8_2
      try clear hcz8_3
      try clear hfz23_0
      try clear hfz23_1
      try clear hfz23_2
      try clear hfz23_3
      try clear hfz30_0
      try clear hfz30_1
      try clear hfz30_2
      try clear hfz30_3
      try clear hfz8_0
      try clear hfz8_1
      try clear hfz8_2
      try clear hfz8_3
      try clear hx150_0
      try clear hx151_0
      try clear hx154_0
      try clear hx155_0
      try clear hx156_0
      try clear hx160_0
      try clear hx161_0
      try clear p1
      try clear p15
      try clear p150
      try clear p151
      try clear p154
      try clear p155
      try clear p156
      try clear p160
      try clear p161
      try clear p2
      try clear q1
      try clear q15
      try clear q150
      try clear q151
      try clear q154
      try clear q155
      try clear q156
      try clear q160
      try clear q161
      obtain ⟨kq, x59_30, rfl, HA, HJ30, HO_4, BK145, BK149, HB⟩ := hcut
      cases kq with
      | zero => exact absurd HA.out (by simp [catalog_line.j2])
      | succ kj30 =>
       have H := HA.out
       clear HA
       simp only [catalog_line.j2] at H
       by_cases c39 : x59_30 = true
       ·subst c39
        have H1 : (some ((⟨#[]⟩ : ByteArray), 0, 0, 0, false)) = some (r1, r2, r3, r4, r5) := by rw [if_pos rfl] at H; exact H
        clear H
        have H := H1
        clear H1
        simp only [Option.some.injEq, Prod.mk.injEq] at H
        obtain ⟨rfl, rfl, rfl, rfl, rfl⟩ := H
        have hnb40 := NB145_149.out
        have hnc40 := NB149_145.out
        obtain ⟨hcz41_0, hcz41_1, hcz41_2, hcz41_3, hfz41_0, hfz41_1, hfz41_2, hfz41_3⟩ := d4 BK145
        go_wp2
        refine bodyPost_ret (results_ct rfl _ _ gb145 26 #[.string (⟨#[]⟩ : ByteArray), .int .i64 0, .int .i64 0, .int .i64 0] (0, 0) _ rfl (by (with_reducible repeat first | refine bN ?_ _ | refine bD ?_ | refine bA ?_ _); refine blk_put (cs := #[.string (⟨#[]⟩ : ByteArray), .int .i64 0, .int .i64 0, .int .i64 x146003_12]) ?_ 3 _ rfl; (with_reducible repeat first | refine bN ?_ _ | refine bD ?_ | refine bA ?_ _); refine blk_put (cs := #[.string (⟨#[]⟩ : ByteArray), .int .i64 0, .int .i64 x146002_12, .int .i64 x146003_12]) ?_ 2 _ rfl; (with_reducible repeat first | refine bN ?_ _ | refine bD ?_ | refine bA ?_ _); refine blk_put (cs := #[.string (⟨#[]⟩ : ByteArray), .int .i64 x146001_12, .int .i64 x146002_12, .int .i64 x146003_12]) ?_ 1 _ rfl; (with_reducible repeat first | refine bN ?_ _ | refine bD ?_ | refine bA ?_ _); refine blk_put (cs := #[.string x146000_12, .int .i64 x146001_12, .int .i64 x146002_12, .int .i64 x146003_12]) ?_ 0 _ rfl; (with_reducible repeat first | refine bN ?_ _ | refine bD ?_ | refine bA ?_ _); exact BK145.out) Tryd.underlying26 rfl (by kernel_rfl)) rfl ?_
        exact ⟨by first | rfl | (simp [errW_none, errW_some] <;> rfl) | (simp [*, errW_none, errW_some] <;> rfl), (haveI := gI GE145; haveI := gI GE149; uS HB)⟩
       ·replace c39 := Bool.eq_false_iff.mpr c39
        subst c39
        have H1 : (if 3 < (x4_12.length : Int) then ((catalog_digit.f (rdOf ByteArray.empty x4_12 3)).bind fun bt163 => (if 1 < (x4_12.length : Int) then (some (rdOf ByteArray.empty x4_12 1, x150001_12, x150002_12, bt163.1, bt163.2)) else (none))) else (none)) = some (r1, r2, r3, r4, r5) := by rw [if_neg (show ¬ (false = true) by decide)] at H; exact H
        clear H
        have H := H1
        clear H1
        have HH_ := Aside0.mk H
        clear H
        obtain ⟨Ao45, co45, eo45⟩ := Kd.R_slice HO_4.out
        subst eo45
        have p162 : 0 ≤ (3 : Int) := (by omega)
        have H := HH_.out
        clear HH_
        by_cases c42 : 3 < (x4_12.length : Int)
        ·rw [if_pos c42] at H
         have c42b0 : decide (3 < (x4_12.length : Int)) = true := decide_eq_true c42
         have c42b1 : decide (3 < x4_12.length) = true := decide_eq_true (by omega)
         clear c42
         replace H := Option.bind_eq_some_iff.mp H
         obtain ⟨⟨t163, t164⟩, A430, H⟩ := H
         replace H : (if 1 < (x4_12.length : Int) then (some (rdOf ByteArray.empty x4_12 1, x150001_12, x150002_12, t163, t164)) else (none)) = some (r1, r2, r3, r4, r5) := H
         have A43 := Aside0.mk A430; clear A430
         (try simp only [c42b0, c42b1])
         have HH_ := Aside0.mk H
         clear H
         have q162 : 3 < (x4_12.length : Int) := of_decide_eq_true (by first | (with_reducible assumption) | assumption)
         obtain ⟨ad162, e162, hx162_0⟩ := Kd.at_string (Kd.R_reads' HO_4.out).2.2 3 p162 q162
         cases e162
         (try simp only [show (3 : Int).toNat = 3 from rfl, Nat.reduceMul, Nat.reduceEqDiff, Go.Addr.add, ↓reduceIte] at hx162_0)
         have H := HH_.out
         clear HH_
         by_cases c44 : 1 < (x4_12.length : Int)
         ·rw [if_pos c44] at H
          have c44b0 : decide (1 < (x4_12.length : Int)) = true := decide_eq_true c44
          have c44b1 : decide (1 < x4_12.length) = true := decide_eq_true (by omega)
          clear c44
          simp only [Option.some.injEq, Prod.mk.injEq] at H
          obtain ⟨rfl, rfl, rfl, rfl, rfl⟩ := H
          (try simp only [c44b0, c44b1])
          have qi162 : (3 < x4_12.length) = True := eq_true (by omega)
          (try rw [show ((3 : Int)).toNat = 3 from rfl] at hx162_0)
          replace p162 := eq_true p162
          replace q162 := eq_true q162
          go_wp2_with (first | ((with_reducible refine gate_callee (f := 66) rfl ?_); refine goesL_ (some 65) rfl rfl Tryd.func66 (by kernel_rfl) rfl #[.string (rdOf ByteArray.empty x4_12 3)] rfl (by (try simp only [mA]); first | done | rfl) ?_; (with_reducible refine (catalog_digit.calls (rdOf ByteArray.empty x4_12 3) t163 t164 _ A43.out).mono ?_); rintro e w' ⟨rfl, ⟨nd, rfl⟩⟩; refine ⟨_, rfl, ?_⟩; (try (rw [drewN_self wc]; generalize hq_ : World.drewN wc _ = wc; have n0_ : Aside0 (Kd.R Kd.string 9 wc w.heap.size (fun _ => True) (.slice (some ad162) x4_12.length co45) x4_12) := ⟨by rw [← hq_]; exact (by (with_reducible repeat (first | apply Kd.R_alloc | apply Kd.R_drewN | apply Kd.R_drew)); exact HO_4.out)⟩; have n1_ : Aside0 (wc.heap[gb145]? = some (.cells #[.string x146000_12, .int .i64 x146001_12, .int .i64 x146002_12, .int .i64 x146003_12] 26 (0, 0))) := ⟨by rw [← hq_]; exact (uK BK145)⟩; have n2_ : Aside0 (wc.heap[gb149]? = some (.cells #[.string (⟨#[]⟩ : ByteArray), .int .i64 x150001_12, .int .i64 x150002_12, .int .i64 0] 26 (0, 0))) := ⟨by rw [← hq_]; exact (uK BK149)⟩; have n3_ : Aside0 (Below w.heap.size w wc) := ⟨by rw [← hq_]; exact (haveI := gI GE145; haveI := gI GE149; uS HB)⟩; clear HO_4 BK145 BK149 HB hq_; have HO_4 := n0_; have BK145 := n1_; have BK149 := n2_; have HB := n3_; clear n0_ n1_ n2_ n3_)); have p165 : 0 ≤ (1 : Int) := (by omega); have q165 : 1 < (x4_12.length : Int) := of_decide_eq_true (by first | (with_reducible assumption) | assumption); obtain ⟨ad165, e165, hx165_0⟩ := Kd.at_string (Kd.R_reads' HO_4.out).2.2 1 p165 q165; obtain rfl : ad162 = ad165 := (by injection e165); (try simp only [show (1 : Int).toNat = 1 from rfl, Nat.reduceMul, Nat.reduceEqDiff, Go.Addr.add, ↓reduceIte] at hx165_0); have qi165 : (1 < x4_12.length) = True := eq_true (by omega); (try rw [show ((1 : Int)).toNat = 1 from rfl] at hx165_0); replace p165 := eq_true p165; replace q165 := eq_true q165; have hnb46 := NB149_145.out; have hnc46 := NB145_149.out; obtain ⟨hcz47_0, hcz47_1, hcz47_2, hcz47_3, hfz47_0, hfz47_1, hfz47_2, hfz47_3⟩ := d4 BK149; have hcz48_0 : wc.cell? ⟨gb145, 0, none⟩ = some (.string x146000_12) := bC BK145 0 rfl; have hcz48_1 : wc.cell? ⟨gb145, 1, none⟩ = some (.int .i64 x146001_12) := bC BK145 1 rfl; have hcz48_2 : wc.cell? ⟨gb145, 2, none⟩ = some (.int .i64 x146002_12) := bC BK145 2 rfl; have hcz48_3 : wc.cell? ⟨gb145, 3, none⟩ = some (.int .i64 x146003_12) := bC BK145 3 rfl; have hfz48_0 := bF BK145 0; have hfz48_1 := bF BK145 1; have hfz48_2 := bF BK145 2; have hfz48_3 := bF BK145 3))
          refine bodyPost_ret (results_ct rfl _ _ gb145 26 #[.string (rdOf ByteArray.empty x4_12 1), .int .i64 x150001_12, .int .i64 x150002_12, .int .i64 t163] (0, 0) _ rfl (by (with_reducible repeat first | refine bN ?_ _ | refine bD ?_ | refine bA ?_ _); refine blk_put (cs := #[.string (rdOf ByteArray.empty x4_12 1), .int .i64 x150001_12, .int .i64 x150002_12, .int .i64 x146003_12]) ?_ 3 _ rfl; (with_reducible repeat first | refine bN ?_ _ | refine bD ?_ | refine bA ?_ _); refine blk_put (cs := #[.string (rdOf ByteArray.empty x4_12 1), .int .i64 x150001_12, .int .i64 x146002_12, .int .i64 x146003_12]) ?_ 2 _ rfl; (with_reducible repeat first | refine bN ?_ _ | refine bD ?_ | refine bA ?_ _); refine blk_put (cs := #[.string (rdOf ByteArray.empty x4_12 1), .int .i64 x146001_12, .int .i64 x146002_12, .int .i64 x146003_12]) ?_ 1 _ rfl; (with_reducible repeat first | refine bN ?_ _ | refine bD ?_ | refine bA ?_ _); refine blk_put (cs := #[.string x146000_12, .int .i64 x146001_12, .int .i64 x146002_12, .int .i64 x146003_12]) ?_ 0 _ rfl; (with_reducible repeat first | refine bN ?_ _ | refine bD ?_ | refine bA ?_ _); refine blk_far ?_ NB145_149.out _; (with_reducible repeat first | refine bN ?_ _ | refine bD ?_ | refine bA ?_ _); refine blk_far ?_ NB145_149.out _; (with_reducible repeat first | refine bN ?_ _ | refine bD ?_ | refine bA ?_ _); exact BK145.out) Tryd.underlying26 rfl (by kernel_rfl)) rfl ?_
          exact ⟨by first | rfl | (simp [errW_none, errW_some] <;> rfl) | (simp [*, errW_none, errW_some] <;> rfl), (haveI := gI GE145; haveI := gI GE149; uS HB)⟩
         ·rw [if_neg c44] at H
          exact absurd H (by simp)
        ·rw [if_neg c42] at H
         exact absurd H (by simp)
end Go.Proofs.YtbiapfjhdggkpaaDoor.PA
namespace Go.Proofs.YtbiapfjhdggkpaaDoor.PA
open Go.RowKit Go.Proofs.YtbiapfjhdggkpaaDoorW.PrintWords Go.Proofs.YtbiapfjhdggkpaaDoorW.PrintLast Go.Proofs.YtbiapfjhdggkpaaDoorW.PrintMore
attribute [local go_sem] max2_int min2_int max_two min_two max_three min_three max_four min_four   -- for this text's walks alone
set_option linter.unusedVariables false
set_option linter.unusedSimpArgs false

attribute [local go_sem high] eqA26
/-! ### catalog_Parse: function 35 -/
def catalog_Parse.l0 : Nat → ByteArray → List (S26) → ByteArray → Option ((List (S26)) × Int)
 | 0, _, _, _ => none
 | k + 1, x0, x4, x5 => if x5.toList = ([] : List UInt8) then ((catalog_Valid.f k x4).bind fun t178 => (if t178 = true then ((catalog_Format.f k x4).bind fun t179 => (if t179.toList = x0.toList then (some (x4, 0)) else (some (([] : List (S26)), 6)))) else (some (([] : List (S26)), 6)))) else ((strings_Cut.f x5 (⟨#[10]⟩ : ByteArray)).bind fun bt166 => ((catalog_line.f k bt166.1).bind fun bt169 => (if bt166.2.2 = true then (if bt169.2.2.2.2 = true then (if (x4.length : Int) = 8 then (some (([] : List (S26)), 6)) else (if x4.length < 3518437208883 then (catalog_Parse.l0 k x0 (x4 ++ [(⟨bt169.1, bt169.2.1, bt169.2.2.1, bt169.2.2.2.1⟩ : S26)]) bt166.2.1) else (none))) else (some (([] : List (S26)), 6))) else (some (([] : List (S26)), 6)))))
def catalog_Parse.f (k : Nat) (a0 : ByteArray) : Option ((List (S26)) × Int) := if (a0.size : Int) > 1024 then (some (([] : List (S26)), 3)) else (catalog_Parse.l0 k a0 ([] : List (S26)) a0)
theorem catalog_Parse.mono_l : ∀ k, (∀ y0 y1 y2, LeO (catalog_Parse.l0 k y0 y1 y2) (catalog_Parse.l0 (k + 1) y0 y1 y2))
 | 0 => fun _ _ _ r h => by simp [catalog_Parse.l0] at h
 | k + 1 => by
  have ih0 := catalog_Parse.mono_l k
  ·intro y0 y1 y2
   unfold catalog_Parse.l0
   repeat' first
   | (with_reducible exact ih0 _ _ _)
   | (with_reducible exact catalog_Format.mono _ _)
   | (with_reducible exact catalog_Valid.mono _ _)
   | (with_reducible exact catalog_line.mono _ _)
   | (with_reducible exact LeO.refl _)
   | (with_reducible exact LeO.none _)
   | (with_reducible refine LeO.ite ?_ ?_)
   | (with_reducible refine LeO.bind ?_ (fun _ => ?_))
   | exact ih0 _ _ _
   | exact catalog_Format.mono _ _
   | exact catalog_Valid.mono _ _
   | exact catalog_line.mono _ _
   | exact LeO.none _
   | refine LeO.ite ?_ ?_
   | refine LeO.bind ?_ (fun _ => ?_)
theorem catalog_Parse.mono : ∀ a0 k, LeO (catalog_Parse.f k a0) (catalog_Parse.f (k + 1) a0) := by
 intro a0 k
 have ih0 := catalog_Parse.mono_l k
 unfold catalog_Parse.f
 repeat' first
   | (with_reducible exact ih0 _ _ _)
   | (with_reducible exact catalog_Format.mono _ _)
   | (with_reducible exact catalog_Valid.mono _ _)
   | (with_reducible exact catalog_line.mono _ _)
   | (with_reducible exact LeO.refl _)
   | (with_reducible exact LeO.none _)
   | (with_reducible refine LeO.ite ?_ ?_)
   | (with_reducible refine LeO.bind ?_ (fun _ => ?_))
   | exact ih0 _ _ _
   | exact catalog_Format.mono _ _
   | exact catalog_Valid.mono _ _
   | exact catalog_line.mono _ _
   | exact LeO.none _
   | refine LeO.ite ?_ ?_
   | refine LeO.bind ?_ (fun _ => ?_)
set_option maxHeartbeats 8000000 in
set_option maxRecDepth 100000 in
theorem catalog_Parse.calls (k : Nat) (a0 : ByteArray) (r1 : List (S26)) (r2 : Int) (w : World) (h : catalog_Parse.f k a0 = some (r1, r2)) :
  Calls Tryd.prog 35 #[.string a0] w fun e w' => ∃ v0_ : Value, e = .returned (.tuple #[v0_, .int .i64 r2]) ∧ Kd.R k26 26 w' w.heap.size (fun _ => True) v0_ r1 ∧ Below w.heap.size w w' := by
 have hu26 := Tryd.underlying26
 have HB := Aside0.mk (Below.refl w.heap.size w)
 have H : (if (a0.size : Int) > 1024 then (some (([] : List (S26)), 3)) else (catalog_Parse.l0 k a0 ([] : List (S26)) a0)) = some (r1, r2) := h
 clear h
 by_cases c2 : (a0.size : Int) > 1024
 ·rw [if_pos c2] at H
  have c2b0 : decide (1024 < (a0.size : Int)) = true := decide_eq_true c2
  have c2b1 : decide (1024 < a0.size) = true := decide_eq_true (by omega)
  clear c2
  simp only [Option.some.injEq, Prod.mk.injEq] at H
  obtain ⟨rfl, rfl⟩ := H
  go_enter Tryd.func35, Tryd.ntmps35
  go_wp2
  go_ret2
  exact ⟨_, by first | rfl | (simp [errW_none, errW_some] <;> rfl) | (simp [*, errW_none, errW_some] <;> rfl), by first | exact Kd.R_nil _ _ _ _ _ | exact Kd.N_nil _ _ _ _ _ | exact Kd.V_nil _ _ _ _ _ | exact Kd.Q_nil _ _ _ _ _ | exact Kd.S_nil _ _ _ _ _, (uS HB)⟩
 ·rw [if_neg c2] at H
  have c2b0 : decide (1024 < (a0.size : Int)) = false := decide_eq_false c2
  have c2b1 : decide (1024 < a0.size) = false := decide_eq_false (by omega)
  clear c2
  have H' := Aside0.mk H
  clear H
  go_enter Tryd.func35, Tryd.ntmps35
  go_wp2
  go_loopg [4, 5] k (fun kq v4 v5 w' => ∃ (x4_1 : List (S26)) (x5_1 : ByteArray), v5 = .string x5_1 ∧ Aside0 (catalog_Parse.l0 kq a0 x4_1 x5_1 = some (r1, r2)) ∧ Aside0 (kq ≤ k) ∧ Aside0 (Kd.R k26 26 w' w.heap.size (fun _ => True) v4 x4_1) ∧ Aside0 (Below w.heap.size w w'))
  case atStart => exact ⟨(([] : List (S26))), (a0), (by first | rfl | (simp; done) | (simp [*]; done)), H', ⟨Nat.le_refl _⟩, ⟨by first | exact Kd.R_nil _ _ _ _ _ | exact Kd.N_nil _ _ _ _ _ | exact Kd.V_nil _ _ _ _ _ | exact Kd.Q_nil _ _ _ _ _ | exact Kd.S_nil _ _ _ _ _⟩, ⟨(uS HB)⟩⟩
  case round =>
   clear H'
   try clear c2
   try clear c2b0
   try clear c2b1
   try clear p2
   obtain ⟨x4_1, x5_1, rfl, HA, HK1, HO_4, HB⟩ := hrel
   cases gk with
   | zero => exact absurd HA.out (by simp [catalog_Parse.l0])
   | succ k1 =>
    have H := HA.out
    clear HA
    simp only [catalog_Parse.l0] at H
    by_cases c3 : x5_1.toList = ([] : List UInt8)
    ·rw [if_pos c3] at H
     have c3b0 : (x5_1.toList == ([] : List UInt8)) = true := beq_iff_eq.mpr c3
     have c3b1 : (x5_1.toList != ([] : List UInt8)) = false := bne_eq_false_iff_eq.mpr c3
     clear c3
     obtain ⟨t178, A40, H⟩ := Option.bind_eq_some_iff.mp H
     have A4 := Aside0.mk A40; clear A40
     by_cases c5 : t178 = true
     ·subst c5
      have H1 : ((catalog_Format.f k1 x4_1).bind fun t179 => (if t179.toList = a0.toList then (some (x4_1, 0)) else (some (([] : List (S26)), 6)))) = some (r1, r2) := by rw [if_pos rfl] at H; exact H
      clear H
      have H := H1
      clear H1
      obtain ⟨t179, A60, H⟩ := Option.bind_eq_some_iff.mp H
      have A6 := Aside0.mk A60; clear A60
      by_cases c7 : t179.toList = a0.toList
      ·rw [if_pos c7] at H
       have c7b0 : (t179.toList == a0.toList) = true := beq_iff_eq.mpr c7
       have c7b1 : (t179.toList != a0.toList) = false := bne_eq_false_iff_eq.mpr c7
       clear c7
       simp only [Option.some.injEq, Prod.mk.injEq] at H
       obtain ⟨rfl, rfl⟩ := H
       obtain ⟨Ao8, co8, eo8⟩ := Kd.R_slice HO_4.out
       subst eo8
       go_wp2_with (first | ((with_reducible refine gate_callee (f := 20) rfl ?_); refine goesL_ (some 45) rfl rfl Tryd.func20 (by kernel_rfl) rfl #[.slice Ao8 x4_1.length co8] rfl (by (try simp only [mA]); first | done | rfl) ?_; (with_reducible refine (catalog_Valid.calls k1 _ _ x4_1 true _ ?side1 ?side2 A4.out).mono ?_); (case side1 => repeat (first | exact (Kd.R_reads' HO_4.out).2.2 | (with_reducible refine Kd.C_alloc ?_ _) | (with_reducible refine Kd.C_drewN ?_ _) | (with_reducible refine Kd.C_drew ?_))); (case side2 => exact (Kd.R_reads' HO_4.out).2.1); rintro e w9 ⟨rfl, hb⟩; refine ⟨_, rfl, ?_⟩; replace HO_4 := Aside0.mk (Kd.R_below (by (with_reducible repeat (first | apply Kd.R_alloc | apply Kd.R_drewN | apply Kd.R_drew)); exact HO_4.out) hb); replace HB := bB HB hb; (try clear hb); (try clear hk)) | (go_at_call 33; (with_reducible refine (catalog_Format.calls k1 _ _ x4_1 t179 _ ?side1 ?side2 A6.out).mono ?_); (case side1 => repeat (first | exact (Kd.R_reads' HO_4.out).2.2 | (with_reducible refine Kd.C_alloc ?_ _) | (with_reducible refine Kd.C_drewN ?_ _) | (with_reducible refine Kd.C_drew ?_))); (case side2 => exact (Kd.R_reads' HO_4.out).2.1); rintro e w10 ⟨rfl, hb⟩; replace HO_4 := Aside0.mk (Kd.R_below (by (with_reducible repeat (first | apply Kd.R_alloc | apply Kd.R_drewN | apply Kd.R_drew)); exact HO_4.out) hb); replace HB := bB HB hb; (try clear hb); (try clear hk)))
       go_ret2
       exact ⟨_, by first | rfl | (simp [errW_none, errW_some] <;> rfl) | (simp [*, errW_none, errW_some] <;> rfl), by (with_reducible repeat (first | apply Kd.R_alloc | apply Kd.R_drewN | apply Kd.R_drew)); exact HO_4.out, (uS HB)⟩
      ·rw [if_neg c7] at H
       have c7b0 : (t179.toList == a0.toList) = false := beq_eq_false_iff_ne.mpr c7
       have c7b1 : (t179.toList != a0.toList) = true := bne_iff_ne.mpr c7
       simp only [Option.some.injEq, Prod.mk.injEq] at H
       obtain ⟨rfl, rfl⟩ := H
       obtain ⟨Ao11, co11, eo11⟩ := Kd.R_slice HO_4.out
       subst eo11
       go_wp2_with (first | ((with_reducible refine gate_callee (f := 20) rfl ?_); refine goesL_ (some 45) rfl rfl Tryd.func20 (by kernel_rfl) rfl #[.slice Ao11 x4_1.length co11] rfl (by (try simp only [mA]); first | done | rfl) ?_; (with_reducible refine (catalog_Valid.calls k1 _ _ x4_1 true _ ?side1 ?side2 A4.out).mono ?_); (case side1 => repeat (first | exact (Kd.R_reads' HO_4.out).2.2 | (with_reducible refine Kd.C_alloc ?_ _) | (with_reducible refine Kd.C_drewN ?_ _) | (with_reducible refine Kd.C_drew ?_))); (case side2 => exact (Kd.R_reads' HO_4.out).2.1); rintro e w12 ⟨rfl, hb⟩; refine ⟨_, rfl, ?_⟩; replace HO_4 := Aside0.mk (Kd.R_below (by (with_reducible repeat (first | apply Kd.R_alloc | apply Kd.R_drewN | apply Kd.R_drew)); exact HO_4.out) hb); replace HB := bB HB hb; (try clear hb); (try clear hk)) | (go_at_call 33; (with_reducible refine (catalog_Format.calls k1 _ _ x4_1 t179 _ ?side1 ?side2 A6.out).mono ?_); (case side1 => repeat (first | exact (Kd.R_reads' HO_4.out).2.2 | (with_reducible refine Kd.C_alloc ?_ _) | (with_reducible refine Kd.C_drewN ?_ _) | (with_reducible refine Kd.C_drew ?_))); (case side2 => exact (Kd.R_reads' HO_4.out).2.1); rintro e w13 ⟨rfl, hb⟩; replace HO_4 := Aside0.mk (Kd.R_below (by (with_reducible repeat (first | apply Kd.R_alloc | apply Kd.R_drewN | apply Kd.R_drew)); exact HO_4.out) hb); replace HB := bB HB hb; (try clear hb); (try clear hk)))
       go_ret2
       exact ⟨_, by first | rfl | (simp [errW_none, errW_some] <;> rfl) | (simp [*, errW_none, errW_some] <;> rfl), by first | exact Kd.R_nil _ _ _ _ _ | exact Kd.N_nil _ _ _ _ _ | exact Kd.V_nil _ _ _ _ _ | exact Kd.Q_nil _ _ _ _ _ | exact Kd.S_nil _ _ _ _ _, (uS HB)⟩
     ·replace c5 := Bool.eq_false_iff.mpr c5
      subst c5
      have H1 : (some (([] : List (S26)), 6)) = some (r1, r2) := by rw [if_neg (show ¬ (false = true) by decide)] at H; exact H
      clear H
      have H := H1
      clear H1
      simp only [Option.some.injEq, Prod.mk.injEq] at H
      obtain ⟨rfl, rfl⟩ := H
      obtain ⟨Ao14, co14, eo14⟩ := Kd.R_slice HO_4.out
      subst eo14
      go_wp2_with (first | ((with_reducible refine gate_callee (f := 20) rfl ?_); refine goesL_ (some 45) rfl rfl Tryd.func20 (by kernel_rfl) rfl #[.slice Ao14 x4_1.length co14] rfl (by (try simp only [mA]); first | done | rfl) ?_; (with_reducible refine (catalog_Valid.calls k1 _ _ x4_1 false _ ?side1 ?side2 A4.out).mono ?_); (case side1 => repeat (first | exact (Kd.R_reads' HO_4.out).2.2 | (with_reducible refine Kd.C_alloc ?_ _) | (with_reducible refine Kd.C_drewN ?_ _) | (with_reducible refine Kd.C_drew ?_))); (case side2 => exact (Kd.R_reads' HO_4.out).2.1); rintro e w15 ⟨rfl, hb⟩; refine ⟨_, rfl, ?_⟩; replace HO_4 := Aside0.mk (Kd.R_below (by (with_reducible repeat (first | apply Kd.R_alloc | apply Kd.R_drewN | apply Kd.R_drew)); exact HO_4.out) hb); replace HB := bB HB hb; (try clear hb); (try clear hk)))
      go_ret2
      exact ⟨_, by first | rfl | (simp [errW_none, errW_some] <;> rfl) | (simp [*, errW_none, errW_some] <;> rfl), by first | exact Kd.R_nil _ _ _ _ _ | exact Kd.N_nil _ _ _ _ _ | exact Kd.V_nil _ _ _ _ _ | exact Kd.Q_nil _ _ _ _ _ | exact Kd.S_nil _ _ _ _ _, (uS HB)⟩
    ·rw [if_neg c3] at H
     have c3b0 : (x5_1.toList == ([] : List UInt8)) = false := beq_eq_false_iff_ne.mpr c3
     have c3b1 : (x5_1.toList != ([] : List UInt8)) = true := bne_iff_ne.mpr c3
     replace H := Option.bind_eq_some_iff.mp H
     obtain ⟨⟨t166, t167, t168⟩, A160, H⟩ := H
     replace H : ((catalog_line.f k1 t166).bind fun bt169 => (if t168 = true then (if bt169.2.2.2.2 = true then (if (x4_1.length : Int) = 8 then (some (([] : List (S26)), 6)) else (if x4_1.length < 3518437208883 then (catalog_Parse.l0 k1 a0 (x4_1 ++ [(⟨bt169.1, bt169.2.1, bt169.2.2.1, bt169.2.2.2.1⟩ : S26)]) t167) else (none))) else (some (([] : List (S26)), 6))) else (some (([] : List (S26)), 6)))) = some (r1, r2) := H
     have A16 := Aside0.mk A160; clear A160
     replace H := Option.bind_eq_some_iff.mp H
     obtain ⟨⟨t169, t170, t171, t172, t173⟩, A170, H⟩ := H
     replace H : (if t168 = true then (if t173 = true then (if (x4_1.length : Int) = 8 then (some (([] : List (S26)), 6)) else (if x4_1.length < 3518437208883 then (catalog_Parse.l0 k1 a0 (x4_1 ++ [(⟨t169, t170, t171, t172⟩ : S26)]) t167) else (none))) else (some (([] : List (S26)), 6))) else (some (([] : List (S26)), 6))) = some (r1, r2) := H
     have A17 := Aside0.mk A170; clear A170
     by_cases c18 : t168 = true
     ·subst c18
      have H1 : (if t173 = true then (if (x4_1.length : Int) = 8 then (some (([] : List (S26)), 6)) else (if x4_1.length < 3518437208883 then (catalog_Parse.l0 k1 a0 (x4_1 ++ [(⟨t169, t170, t171, t172⟩ : S26)]) t167) else (none))) else (some (([] : List (S26)), 6))) = some (r1, r2) := by rw [if_pos rfl] at H; exact H
      clear H
      have H := H1
      clear H1
      by_cases c19 : t173 = true
      ·subst c19
       have H1 : (if (x4_1.length : Int) = 8 then (some (([] : List (S26)), 6)) else (if x4_1.length < 3518437208883 then (catalog_Parse.l0 k1 a0 (x4_1 ++ [(⟨t169, t170, t171, t172⟩ : S26)]) t167) else (none))) = some (r1, r2) := by rw [if_pos rfl] at H; exact H
       clear H
       have H := H1
       clear H1
       by_cases c20 : (x4_1.length : Int) = 8
       ·rw [if_pos c20] at H
        have c20b0 : ((x4_1.length : Int) == 8) = true := beq_iff_eq.mpr c20
        have c20b1 : ((x4_1.length : Int) != 8) = false := bne_eq_false_iff_eq.mpr c20
        clear c20
        simp only [Option.some.injEq, Prod.mk.injEq] at H
        obtain ⟨rfl, rfl⟩ := H
        go_wp2_with (first | ((with_reducible refine gate_callee (f := 51) rfl ?_); refine goesL_ (some 19) rfl rfl Tryd.func51 (by kernel_rfl) rfl #[.string x5_1, .string (⟨#[10]⟩ : ByteArray)] rfl (by (try simp only [mA]); first | done | rfl) ?_; (with_reducible refine (strings_Cut.calls x5_1 (⟨#[10]⟩ : ByteArray) t166 t167 true _ A16.out).mono ?_); rintro e w' ⟨rfl, ⟨nd, rfl⟩⟩; refine ⟨_, rfl, ?_⟩; (try (rw [drewN_self wr]; generalize hq_ : World.drewN wr _ = wr; have n0_ : Aside0 (Kd.R k26 26 wr w.heap.size (fun _ => True) u4 x4_1) := ⟨by rw [← hq_]; exact (by (with_reducible repeat (first | apply Kd.R_alloc | apply Kd.R_drewN | apply Kd.R_drew)); exact HO_4.out)⟩; have n1_ : Aside0 (Below w.heap.size w wr) := ⟨by rw [← hq_]; exact (uB HB)⟩; clear HO_4 HB hq_; have HO_4 := n0_; have HB := n1_; clear n0_ n1_))) | ((with_reducible refine gate_callee (f := 52) rfl ?_); refine goesL_ (some 25) rfl rfl Tryd.func52 (by kernel_rfl) rfl #[.string t166] rfl (by (try simp only [mA]); first | done | rfl) ?_; (with_reducible refine (catalog_line.calls k1 t166 t169 t170 t171 t172 true _ A17.out).mono ?_); rintro e w21 ⟨rfl, hb⟩; refine ⟨_, rfl, ?_⟩; replace HO_4 := Aside0.mk (Kd.R_below (by (with_reducible repeat (first | apply Kd.R_alloc | apply Kd.R_drewN | apply Kd.R_drew)); exact HO_4.out) hb); replace HB := bB HB hb; (try clear hb); (try clear hk)) | ((with_reducible refine gate_dst (N := 9) rfl ?_); (try (refine gate_guard (by rfl) ?_; dsimp only)); refine box_event ?hg (N := 9) ?hd (cs := #[.string (⟨#[]⟩ : ByteArray), .int .i64 0, .int .i64 0, .int .i64 0]) (t := 26) ?hr ?_; (case hd => rfl); (case hg => rfl); (case hr => first | (go_simp; done) | (go_simp; rfl)); intro gb174 hg w22 hbox hb; replace HO_4 := Aside0.mk (Kd.R_below (Kd.R_elderB (by (with_reducible repeat (first | apply Kd.R_alloc | apply Kd.R_drewN | apply Kd.R_drew)); exact HO_4.out) gb174 (Nat.le_of_eq hg.symm)) hb); have BK174 := Aside0.mk hbox; have GW174 := gE HB hg; replace HB := bB HB hb; have GE174 := GW174; clear hb hbox hg; obtain ⟨hcz23_0, hcz23_1, hcz23_2, hcz23_3, hfz23_0, hfz23_1, hfz23_2, hfz23_3⟩ := d4 BK174; obtain ⟨Ao24, co24, eo24⟩ := Kd.R_slice HO_4.out; subst eo24))
        go_ret2
        exact ⟨_, by first | rfl | (simp [errW_none, errW_some] <;> rfl) | (simp [*, errW_none, errW_some] <;> rfl), by first | exact Kd.R_nil _ _ _ _ _ | exact Kd.N_nil _ _ _ _ _ | exact Kd.V_nil _ _ _ _ _ | exact Kd.Q_nil _ _ _ _ _ | exact Kd.S_nil _ _ _ _ _, (haveI := gI GE174; uS HB)⟩
       ·rw [if_neg c20] at H
        have c20b0 : ((x4_1.length : Int) == 8) = false := beq_eq_false_iff_ne.mpr c20
        have c20b1 : ((x4_1.length : Int) != 8) = true := bne_iff_ne.mpr c20
        by_cases c25 : x4_1.length < 3518437208883
        ·rw [if_pos c25] at H
         have LMc25 := Aside0.mk c25
         clear c25
         obtain ⟨y175, hy175⟩ : ∃ y_ : List (S26), y_ = (x4_1 ++ [(⟨t169, t170, t171, t172⟩ : S26)]) := ⟨_, rfl⟩
         replace H : (catalog_Parse.l0 k1 a0 y175 t167) = some (r1, r2) := by first | (rw [hy175]; with_reducible exact H) | (have H2_ := (Option.bind_some _ _).symm.trans H; rw [hy175]; with_reducible exact H2_) | (have H2_ := (Option.bind_some _ _).symm.trans H; with_reducible exact H2_) | with_reducible exact H | (rw [hy175]; exact H) | exact H
         have Ny175 := Aside0.mk hy175
         clear hy175
         have H' := Aside0.mk H
         clear H
         go_wp2_with (first | ((with_reducible refine gate_callee (f := 51) rfl ?_); refine goesL_ (some 19) rfl rfl Tryd.func51 (by kernel_rfl) rfl #[.string x5_1, .string (⟨#[10]⟩ : ByteArray)] rfl (by (try simp only [mA]); first | done | rfl) ?_; (with_reducible refine (strings_Cut.calls x5_1 (⟨#[10]⟩ : ByteArray) t166 t167 true _ A16.out).mono ?_); rintro e w' ⟨rfl, ⟨nd, rfl⟩⟩; refine ⟨_, rfl, ?_⟩; (try (rw [drewN_self wr]; generalize hq_ : World.drewN wr _ = wr; have n0_ : Aside0 (Kd.R k26 26 wr w.heap.size (fun _ => True) u4 x4_1) := ⟨by rw [← hq_]; exact (by (with_reducible repeat (first | apply Kd.R_alloc | apply Kd.R_drewN | apply Kd.R_drew)); exact HO_4.out)⟩; have n1_ : Aside0 (Below w.heap.size w wr) := ⟨by rw [← hq_]; exact (uB HB)⟩; clear HO_4 HB hq_; have HO_4 := n0_; have HB := n1_; clear n0_ n1_))) | ((with_reducible refine gate_callee (f := 52) rfl ?_); refine goesL_ (some 25) rfl rfl Tryd.func52 (by kernel_rfl) rfl #[.string t166] rfl (by (try simp only [mA]); first | done | rfl) ?_; (with_reducible refine (catalog_line.calls k1 t166 t169 t170 t171 t172 true _ A17.out).mono ?_); rintro e w26 ⟨rfl, hb⟩; refine ⟨_, rfl, ?_⟩; replace HO_4 := Aside0.mk (Kd.R_below (by (with_reducible repeat (first | apply Kd.R_alloc | apply Kd.R_drewN | apply Kd.R_drew)); exact HO_4.out) hb); replace HB := bB HB hb; (try clear hb); (try clear hk)) | ((with_reducible refine gate_dst (N := 9) rfl ?_); (try (refine gate_guard (by rfl) ?_; dsimp only)); refine box_event ?hg (N := 9) ?hd (cs := #[.string (⟨#[]⟩ : ByteArray), .int .i64 0, .int .i64 0, .int .i64 0]) (t := 26) ?hr ?_; (case hd => rfl); (case hg => rfl); (case hr => first | (go_simp; done) | (go_simp; rfl)); intro gb174 hg w27 hbox hb; replace HO_4 := Aside0.mk (Kd.R_below (Kd.R_elderB (by (with_reducible repeat (first | apply Kd.R_alloc | apply Kd.R_drewN | apply Kd.R_drew)); exact HO_4.out) gb174 (Nat.le_of_eq hg.symm)) hb); have BK174 := Aside0.mk hbox; have GW174 := gE HB hg; replace HB := bB HB hb; have GE174 := GW174; clear hb hbox hg; obtain ⟨hcz28_0, hcz28_1, hcz28_2, hcz28_3, hfz28_0, hfz28_1, hfz28_2, hfz28_3⟩ := d4 BK174; obtain ⟨Ao29, co29, eo29⟩ := Kd.R_slice HO_4.out; subst eo29) | ((with_reducible refine gate_builtin (b := .append) (xs := #[.tmp 39, .tmp 41]) rfl ?_); (try (refine gate_guard (by rfl) ?_; dsimp only)); at_builtin; refine Kd.R_append k26 (w0 := w) w.heap.size rfl (.tmp 39) (.tmp 41) 24 26 (.agg #[(.string ⟨#[]⟩), (.int .i64 0), (.int .i64 0), (.int .i64 0)]) 40 rfl Tryd.underlying24 info26 rfl (by decide) (by omega) (.slice Ao29 x4_1.length co29) x4_1 (⟨t169, t170, t171, t172⟩ : S26) [.string t169, .int .i64 t170, .int .i64 t171, .int .i64 t172] (fun k_ => k_ ≠ gb174) (fun _ => False) rfl (by first | (go_simp; done) | (go_simp; rfl)) ?aP (fun _ hk => hk.elim) ?aF ?aO ?aB ?aS ?aL ?_; (case aP => exact k26_mkM _ _ _ (⟨t169, t170, t171, t172⟩ : S26)); (case aB => exact (haveI := gI GE174; uS HB)); (case aF => exact (fun k_ hk => Kd.freshB (g := gb174) (o := .cells #[.string t169, .int .i64 t170, .int .i64 t171, .int .i64 t172] 26 (0, 0)) (by (with_reducible repeat first | refine bN ?_ _ | refine bD ?_ | refine bA ?_ _); refine blk_put (cs := #[.string t169, .int .i64 t170, .int .i64 t171, .int .i64 0]) ?_ 3 _ rfl; (with_reducible repeat first | refine bN ?_ _ | refine bD ?_ | refine bA ?_ _); refine blk_put (cs := #[.string t169, .int .i64 t170, .int .i64 0, .int .i64 0]) ?_ 2 _ rfl; (with_reducible repeat first | refine bN ?_ _ | refine bD ?_ | refine bA ?_ _); refine blk_put (cs := #[.string t169, .int .i64 0, .int .i64 0, .int .i64 0]) ?_ 1 _ rfl; (with_reducible repeat first | refine bN ?_ _ | refine bD ?_ | refine bA ?_ _); refine blk_put (cs := #[.string (⟨#[]⟩ : ByteArray), .int .i64 0, .int .i64 0, .int .i64 0]) ?_ 0 _ rfl; (with_reducible repeat first | refine bN ?_ _ | refine bD ?_ | refine bA ?_ _); exact BK174.out) k_ hk)); (case aO => exact (by (with_reducible repeat (first | apply Kd.R_alloc | apply Kd.R_drewN | apply Kd.R_drew)); exact Kd.R_mono (Kd.R_far (p := ⟨gb174, 3, none⟩) (Kd.R_far (p := ⟨gb174, 2, none⟩) (Kd.R_far (p := ⟨gb174, 1, none⟩) (Kd.R_far (p := ⟨gb174, 0, none⟩) (Kd.R_mono HO_4.out (fun k_ hk => (⟨hk, hk.2⟩ : _ ∧ k_ ≠ gb174))) (fun _ hk => hk.2) (.string t169)) (fun _ hk => hk.2) (.int .i64 t170)) (fun _ hk => hk.2) (.int .i64 t171)) (fun _ hk => hk.2) (.int .i64 t172)) (fun _ hk => hk.1.2))); (case aS => exact (below_size (haveI := gI GE174; uS HB))); (case aL => have := LMc25.out; omega); intro v176 w30 ho hb hg hat; rw [← Ny175.out] at ho; replace BK174 := Aside0.mk (blk_grown (g := gb174) (o := .cells #[.string t169, .int .i64 t170, .int .i64 t171, .int .i64 t172] 26 (0, 0)) (by (with_reducible repeat first | refine bN ?_ _ | refine bD ?_ | refine bA ?_ _); refine blk_put (cs := #[.string t169, .int .i64 t170, .int .i64 t171, .int .i64 0]) ?_ 3 _ rfl; (with_reducible repeat first | refine bN ?_ _ | refine bD ?_ | refine bA ?_ _); refine blk_put (cs := #[.string t169, .int .i64 t170, .int .i64 0, .int .i64 0]) ?_ 2 _ rfl; (with_reducible repeat first | refine bN ?_ _ | refine bD ?_ | refine bA ?_ _); refine blk_put (cs := #[.string t169, .int .i64 0, .int .i64 0, .int .i64 0]) ?_ 1 _ rfl; (with_reducible repeat first | refine bN ?_ _ | refine bD ?_ | refine bA ?_ _); refine blk_put (cs := #[.string (⟨#[]⟩ : ByteArray), .int .i64 0, .int .i64 0, .int .i64 0]) ?_ 0 _ rfl; (with_reducible repeat first | refine bN ?_ _ | refine bD ?_ | refine bA ?_ _); exact BK174.out) hg (Kd.R_away HO_4.out (fun _ hk => hk.2))); replace HB := Aside0.mk (hb); have HO177 := Aside0.mk (ho); clear HO_4; clear ho hb hg hat))
         go_roundg k1
         case measure => have := HK1.out; omega
         case rel => exact ⟨(y175), (t167), (by first | rfl | (simp; done) | (simp [*]; done)), H', ⟨by have := HK1.out; omega⟩, ⟨by (with_reducible repeat (first | apply Kd.R_alloc | apply Kd.R_drewN | apply Kd.R_drew)); exact Kd.R_mono HO177.out (fun _ hk => trivial)⟩, ⟨(haveI := gI GE174; uS HB)⟩⟩
        ·rw [if_neg c25] at H
         exact absurd H (by simp)
      ·replace c19 := Bool.eq_false_iff.mpr c19
       subst c19
       have H1 : (some (([] : List (S26)), 6)) = some (r1, r2) := by rw [if_neg (show ¬ (false = true) by decide)] at H; exact H
       clear H
       have H := H1
       clear H1
       simp only [Option.some.injEq, Prod.mk.injEq] at H
       obtain ⟨rfl, rfl⟩ := H
       go_wp2_with (first | ((with_reducible refine gate_callee (f := 51) rfl ?_); refine goesL_ (some 19) rfl rfl Tryd.func51 (by kernel_rfl) rfl #[.string x5_1, .string (⟨#[10]⟩ : ByteArray)] rfl (by (try simp only [mA]); first | done | rfl) ?_; (with_reducible refine (strings_Cut.calls x5_1 (⟨#[10]⟩ : ByteArray) t166 t167 true _ A16.out).mono ?_); rintro e w' ⟨rfl, ⟨nd, rfl⟩⟩; refine ⟨_, rfl, ?_⟩; (try (rw [drewN_self wr]; generalize hq_ : World.drewN wr _ = wr; have n0_ : Aside0 (Kd.R k26 26 wr w.heap.size (fun _ => True) u4 x4_1) := ⟨by rw [← hq_]; exact (by (with_reducible repeat (first | apply Kd.R_alloc | apply Kd.R_drewN | apply Kd.R_drew)); exact HO_4.out)⟩; have n1_ : Aside0 (Below w.heap.size w wr) := ⟨by rw [← hq_]; exact (uB HB)⟩; clear HO_4 HB hq_; have HO_4 := n0_; have HB := n1_; clear n0_ n1_))) | ((with_reducible refine gate_callee (f := 52) rfl ?_); refine goesL_ (some 25) rfl rfl Tryd.func52 (by kernel_rfl) rfl #[.string t166] rfl (by (try simp only [mA]); first | done | rfl) ?_; (with_reducible refine (catalog_line.calls k1 t166 t169 t170 t171 t172 false _ A17.out).mono ?_); rintro e w31 ⟨rfl, hb⟩; refine ⟨_, rfl, ?_⟩; replace HO_4 := Aside0.mk (Kd.R_below (by (with_reducible repeat (first | apply Kd.R_alloc | apply Kd.R_drewN | apply Kd.R_drew)); exact HO_4.out) hb); replace HB := bB HB hb; (try clear hb); (try clear hk)) | ((with_reducible refine gate_dst (N := 9) rfl ?_); (try (refine gate_guard (by rfl) ?_; dsimp only)); refine box_event ?hg (N := 9) ?hd (cs := #[.string (⟨#[]⟩ : ByteArray), .int .i64 0, .int .i64 0, .int .i64 0]) (t := 26) ?hr ?_; (case hd => rfl); (case hg => rfl); (case hr => first | (go_simp; done) | (go_simp; rfl)); intro gb174 hg w32 hbox hb; replace HO_4 := Aside0.mk (Kd.R_below (Kd.R_elderB (by (with_reducible repeat (first | apply Kd.R_alloc | apply Kd.R_drewN | apply Kd.R_drew)); exact HO_4.out) gb174 (Nat.le_of_eq hg.symm)) hb); have BK174 := Aside0.mk hbox; have GW174 := gE HB hg; replace HB := bB HB hb; have GE174 := GW174; clear hb hbox hg; have hcz33_0 : w32.cell? ⟨gb174, 0, none⟩ = some (.string (⟨#[]⟩ : ByteArray)) := bC BK174 0 rfl; have hcz33_1 : w32.cell? ⟨gb174, 1, none⟩ = some (.int .i64 0) := bC BK174 1 rfl; have hcz33_2 : w32.cell? ⟨gb174, 2, none⟩ = some (.int .i64 0) := bC BK174 2 rfl; have hcz33_3 : w32.cell? ⟨gb174, 3, none⟩ = some (.int .i64 0) := bC BK174 3 rfl; have hfz33_0 := bF BK174 0; have hfz33_1 := bF BK174 1; have hfz33_2 := bF BK174 2; have hfz33_3 := bF BK174 3))
       go_ret2
       exact ⟨_, by first | rfl | (simp [errW_none, errW_some] <;> rfl) | (simp [*, errW_none, errW_some] <;> rfl), by first | exact Kd.R_nil _ _ _ _ _ | exact Kd.N_nil _ _ _ _ _ | exact Kd.V_nil _ _ _ _ _ | exact Kd.Q_nil _ _ _ _ _ | exact Kd.S_nil _ _ _ _ _, (haveI := gI GE174; uS HB)⟩
     ·replace c18 := Bool.eq_false_iff.mpr c18
      subst c18
      have H1 : (some (([] : List (S26)), 6)) = some (r1, r2) := by rw [if_neg (show ¬ (false = true) by decide)] at H; exact H
      clear H
      have H := H1
      clear H1
      simp only [Option.some.injEq, Prod.mk.injEq] at H
      obtain ⟨rfl, rfl⟩ := H
      go_wp2_with (first | ((with_reducible refine gate_callee (f := 51) rfl ?_); refine goesL_ (some 19) rfl rfl Tryd.func51 (by kernel_rfl) rfl #[.string x5_1, .string (⟨#[10]⟩ : ByteArray)] rfl (by (try simp only [mA]); first | done | rfl) ?_; (with_reducible refine (strings_Cut.calls x5_1 (⟨#[10]⟩ : ByteArray) t166 t167 false _ A16.out).mono ?_); rintro e w' ⟨rfl, ⟨nd, rfl⟩⟩; refine ⟨_, rfl, ?_⟩; (try (rw [drewN_self wr]; generalize hq_ : World.drewN wr _ = wr; have n0_ : Aside0 (Kd.R k26 26 wr w.heap.size (fun _ => True) u4 x4_1) := ⟨by rw [← hq_]; exact (by (with_reducible repeat (first | apply Kd.R_alloc | apply Kd.R_drewN | apply Kd.R_drew)); exact HO_4.out)⟩; have n1_ : Aside0 (Below w.heap.size w wr) := ⟨by rw [← hq_]; exact (uB HB)⟩; clear HO_4 HB hq_; have HO_4 := n0_; have HB := n1_; clear n0_ n1_))) | ((with_reducible refine gate_callee (f := 52) rfl ?_); refine goesL_ (some 25) rfl rfl Tryd.func52 (by kernel_rfl) rfl #[.string t166] rfl (by (try simp only [mA]); first | done | rfl) ?_; (with_reducible refine (catalog_line.calls k1 t166 t169 t170 t171 t172 t173 _ A17.out).mono ?_); rintro e w34 ⟨rfl, hb⟩; refine ⟨_, rfl, ?_⟩; replace HO_4 := Aside0.mk (Kd.R_below (by (with_reducible repeat (first | apply Kd.R_alloc | apply Kd.R_drewN | apply Kd.R_drew)); exact HO_4.out) hb); replace HB := bB HB hb; (try clear hb); (try clear hk)) | ((with_reducible refine gate_dst (N := 9) rfl ?_); (try (refine gate_guard (by rfl) ?_; dsimp only)); refine box_event ?hg (N := 9) ?hd (cs := #[.string (⟨#[]⟩ : ByteArray), .int .i64 0, .int .i64 0, .int .i64 0]) (t := 26) ?hr ?_; (case hd => rfl); (case hg => rfl); (case hr => first | (go_simp; done) | (go_simp; rfl)); intro gb174 hg w35 hbox hb; replace HO_4 := Aside0.mk (Kd.R_below (Kd.R_elderB (by (with_reducible repeat (first | apply Kd.R_alloc | apply Kd.R_drewN | apply Kd.R_drew)); exact HO_4.out) gb174 (Nat.le_of_eq hg.symm)) hb); have BK174 := Aside0.mk hbox; have GW174 := gE HB hg; replace HB := bB HB hb; have GE174 := GW174; clear hb hbox hg; have hcz36_0 : w35.cell? ⟨gb174, 0, none⟩ = some (.string (⟨#[]⟩ : ByteArray)) := bC BK174 0 rfl; have hcz36_1 : w35.cell? ⟨gb174, 1, none⟩ = some (.int .i64 0) := bC BK174 1 rfl; have hcz36_2 : w35.cell? ⟨gb174, 2, none⟩ = some (.int .i64 0) := bC BK174 2 rfl; have hcz36_3 : w35.cell? ⟨gb174, 3, none⟩ = some (.int .i64 0) := bC BK174 3 rfl; have hfz36_0 := bF BK174 0; have hfz36_1 := bF BK174 1; have hfz36_2 := bF BK174 2; have hfz36_3 := bF BK174 3))
      go_ret2
      exact ⟨_, by first | rfl | (simp [errW_none, errW_some] <;> rfl) | (simp [*, errW_none, errW_some] <;> rfl), by first | exact Kd.R_nil _ _ _ _ _ | exact Kd.N_nil _ _ _ _ _ | exact Kd.V_nil _ _ _ _ _ | exact Kd.Q_nil _ _ _ _ _ | exact Kd.S_nil _ _ _ _ _, (haveI := gI GE174; uS HB)⟩
end Go.Proofs.YtbiapfjhdggkpaaDoor.PA
