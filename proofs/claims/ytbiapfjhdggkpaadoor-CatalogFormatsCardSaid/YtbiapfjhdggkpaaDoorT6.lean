/- sort.Search with the program's function. Conditions: none. -/
import Derived.Test.YtbiapfjhdggkpaaDoorT4
namespace Go.Proofs.YtbiapfjhdggkpaaDoor.PA
open Go.RowKit Go.Lib Go.Proofs.YtbiapfjhdggkpaaDoorW.PrintWords Go.Proofs.YtbiapfjhdggkpaaDoorW.PrintLast Go.Proofs.YtbiapfjhdggkpaaDoorW.PrintMore
attribute [local go_sem] max2_int min2_int max_two min_two max_three min_three max_four min_four
set_option linter.unusedVariables false
set_option linter.unusedSimpArgs false
/-- Whether the name at i is not less than p. -/
def above (l : List S26) (p : ByteArray) (i : Int) : Bool := !(Op.bytesLess (rd_T26 l i).f0.toList p.toList)
def search_l (l : List S26) (p : ByteArray) : Nat → Int → Int → Option Int
 | 0, _, _ => none
 | k + 1, i, j => if i < j then (if above l p ((i + j) / 2) = true then search_l l p k i ((i + j) / 2) else search_l l p k ((i + j) / 2 + 1) j) else some i
set_option maxHeartbeats 4000000 in
set_option maxRecDepth 100000 in
theorem sort_Search.calls (k : Nat) (A : Option Addr) (c : Nat) (l : List S26) (gl gp : Nat) (p : ByteArray) (r : Int) (w : World) (hr : Kd.C k26 w A l.length l) (hg : w.cell? ⟨gl, 0, none⟩ = some (.slice A l.length c)) (hp : w.cell? ⟨gp, 0, none⟩ = some (.string p)) (hl : l.length < 1000000) (h : search_l l p k 0 (l.length : Int) = some r) :
  Calls Tryd.prog 55 #[.int .i64 (l.length : Int), .func (.func 56) #[] #[.pointer (some ⟨gl, 0, none⟩), .pointer (some ⟨gp, 0, none⟩)]] w fun e w' => e = .returned (.int .i64 r) ∧ Below w.heap.size w w' := by
 have HR := Aside0.mk hr
 have HG := Aside0.mk hg
 have HP := Aside0.mk hp
 have HL := Aside0.mk hl
 have H' := Aside0.mk h
 have HB := Aside0.mk (Below.refl w.heap.size w)
 clear hr hg hl h hp
 go_enter Tryd.func55, Tryd.ntmps55
 go_wp2
 go_loopg [5, 6] k (fun kq v5 v6 w' => ∃ (i j : Int), v5 = .int .i64 i ∧ v6 = .int .i64 j ∧ Aside0 (search_l l p kq i j = some r) ∧ Aside0 (kq ≤ k) ∧ Aside0 (0 ≤ i ∧ j ≤ l.length) ∧ Aside0 (Below w.heap.size w w'))
 case atStart => exact ⟨0, (l.length : Int), (by first | rfl | (simp; done) | (simp [*]; done)), (by first | rfl | (simp; done) | (simp [*]; done)), H', ⟨Nat.le_refl _⟩, ⟨by omega⟩, ⟨by repeat (first | (with_reducible first | exact HB.out | apply bL | apply bM | apply bR) | exact HB.out)⟩⟩
 case round =>
  clear H'
  obtain ⟨i, j, rfl, rfl, HA, HK1, HI, HB⟩ := hrel
  cases gk with
  | zero => exact absurd HA.out (by simp [search_l])
  | succ k1 =>
   have H := HA.out
   clear HA
   simp only [search_l] at H
   by_cases c1 : i < j
   ·rw [if_pos c1] at H
    have P0 : Aside0 (0 ≤ (i + j) / 2) := ⟨by have := HI.out; omega⟩
    have P1 : Aside0 ((i + j) / 2 < (l.length : Int)) := ⟨by have := HI.out; omega⟩
    have P2 : Aside0 (i ≤ (i + j) / 2) := ⟨by have := HI.out; omega⟩
    have P3 : Aside0 ((i + j) / 2 < j) := ⟨by have := HI.out; omega⟩
    obtain ⟨ad, ea, _⟩ := at_T26 HR.out _ P0.out P1.out
    subst ea
    have c1a : decide (i < j) = true := decide_eq_true c1
    clear c1
    have hm : wrap64 (IntKind.u64.wrap (wrap64 (i + j)) / 2) = (i + j) / 2 := by
     have e1 : wrap64 (i + j) = i + j := by have := HL.out; have := HI.out; have := P2.out; have := P3.out; unfold wrap64; omega
     have e2 : IntKind.u64.wrap (i + j) = i + j := by have := HL.out; have := HI.out; have := P2.out; have := P3.out; simp [IntKind.wrap, IntKind.bits, IntKind.signed]; omega
     rw [e1, e2]
     have := HL.out; have := HI.out; have := P2.out; have := P3.out; unfold wrap64; omega
    have hm1 : wrap64 ((i + j) / 2 + 1) = (i + j) / 2 + 1 := by have := HL.out; have := P0.out; have := P1.out; unfold wrap64; omega
    unfold above at H
    by_cases c2 : (!(Op.bytesLess (rd_T26 l ((i + j) / 2)).f0.toList p.toList)) = true
    ·rw [if_pos c2] at H
     have H' := Aside0.mk H
     clear H
     go_wp2_with (first | (go_at_call 56; (with_reducible refine (catalog_place1.calls ad c l gl gp ((i + j) / 2) p _ (Kd.C_below HR.out (uB HB)) ((Below.cell (uB HB) (World.block_lt_of_cell? w _ HG.out)).trans HG.out) ((Below.cell (uB HB) (World.block_lt_of_cell? w _ HP.out)).trans HP.out) P0.out P1.out).mono ?_); rintro e w5 ⟨rfl, hb⟩; rw [c2]; have n1_ := bB HB hb; clear HB; have HB := n1_; clear n1_; clear hb))
     go_roundg k1
     case measure => have := HK1.out; omega
     case rel => exact ⟨i, (i + j) / 2, (by first | rfl | (simp; done) | (simp [*]; done)), (by first | rfl | (simp; done) | (simp [*]; done)), H', ⟨by have := HK1.out; omega⟩, ⟨by have := HI.out; have := P1.out; omega⟩, ⟨by repeat (first | (with_reducible first | exact HB.out | apply bL | apply bM | apply bR) | exact HB.out)⟩⟩
    ·rw [if_neg c2] at H
     replace c2 := Bool.eq_false_iff.mpr c2
     have H' := Aside0.mk H
     clear H
     go_wp2_with (first | (go_at_call 56; (with_reducible refine (catalog_place1.calls ad c l gl gp ((i + j) / 2) p _ (Kd.C_below HR.out (uB HB)) ((Below.cell (uB HB) (World.block_lt_of_cell? w _ HG.out)).trans HG.out) ((Below.cell (uB HB) (World.block_lt_of_cell? w _ HP.out)).trans HP.out) P0.out P1.out).mono ?_); rintro e w5 ⟨rfl, hb⟩; rw [c2]; have n1_ := bB HB hb; clear HB; have HB := n1_; clear n1_; clear hb))
     go_roundg k1
     case measure => have := HK1.out; omega
     case rel => exact ⟨wrap64 ((i + j) / 2 + 1), j, (by first | rfl | (simp; done) | (simp [*]; done)), (by first | rfl | (simp; done) | (simp [*]; done)), ⟨by rw [hm1]; exact H'.out⟩, ⟨by have := HK1.out; omega⟩, ⟨by rw [hm1]; have := HI.out; have := P0.out; omega⟩, ⟨by repeat (first | (with_reducible first | exact HB.out | apply bL | apply bM | apply bR) | exact HB.out)⟩⟩
   ·rw [if_neg c1] at H
    obtain rfl := Option.some.inj H
    have c1a : decide (i < j) = false := decide_eq_false c1
    clear c1 H
    go_wp2
    go_ret
    exact ⟨rfl, by repeat (first | (with_reducible first | exact HB.out | apply bL | apply bM | apply bR) | exact HB.out)⟩
end Go.Proofs.YtbiapfjhdggkpaaDoor.PA
