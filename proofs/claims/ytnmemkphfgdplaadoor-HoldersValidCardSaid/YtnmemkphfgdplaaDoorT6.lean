/- sort.Search with the program's function. Conditions: none. -/
import Derived.Test.YtnmemkphfgdplaaDoorT4
import Derived.Test.YtnmemkphfgdplaaDoorT5
namespace Go.Proofs.YtnmemkphfgdplaaDoor.PA
open Go.RowKit Go.Lib Go.Proofs.YtnmemkphfgdplaaDoorW.PrintWords Go.Proofs.YtnmemkphfgdplaaDoorW.PrintLast Go.Proofs.YtnmemkphfgdplaaDoorW.PrintMore
attribute [local go_sem] max2_int min2_int max_two min_two max_three min_three max_four min_four
set_option linter.unusedVariables false
set_option linter.unusedSimpArgs false
/-- Whether the process at i is greater than p. -/
def above (l : List S53) (p0 p1 p2 : Int) (i : Int) : Int := cmp3 (rd_T53 l i).f0.f0 (rd_T53 l i).f0.f1 (rd_T53 l i).f0.f2 p0 p1 p2
def search_l (l : List S53) (p0 p1 p2 : Int) : Nat → Int → Int → Option Int
  | 0, _, _ => none
  | k + 1, i, j => if i < j then (if above l p0 p1 p2 ((i + j) / 2) > 0 then search_l l p0 p1 p2 k i ((i + j) / 2) else search_l l p0 p1 p2 k ((i + j) / 2 + 1) j) else some i
set_option maxHeartbeats 4000000 in
set_option maxRecDepth 100000 in
theorem sort_Search.calls (k : Nat) (A : Option Addr) (c : Nat) (l : List S53) (gl gp : Nat) (p0 p1 p2 r : Int) (w : World) (hr : Kd.C k53 w A l.length l) (hg : w.cell? ⟨gl, 0, none⟩ = some (.slice A l.length c)) (hp0 : w.cell? ⟨gp, 0, none⟩ = some (.int .i64 p0)) (hp1 : w.cell? ⟨gp, 1, none⟩ = some (.int .i64 p1)) (hp2 : w.cell? ⟨gp, 2, none⟩ = some (.int .i64 p2)) (hl : l.length < 1000000) (h : search_l l p0 p1 p2 k 0 (l.length : Int) = some r) :
    Calls Tryd.prog 52 #[.int .i64 (l.length : Int), .func (.func 50) #[] #[.pointer (some ⟨gl, 0, none⟩), .pointer (some ⟨gp, 0, none⟩)]] w fun e w' => e = .returned (.int .i64 r) ∧ Below w.heap.size w w' := by
  have HR := Aside0.mk hr
  have HG := Aside0.mk hg
  have HP0 := Aside0.mk hp0
  have HP1 := Aside0.mk hp1
  have HP2 := Aside0.mk hp2
  have HL := Aside0.mk hl
  have H' := Aside0.mk h
  have HB := Aside0.mk (Below.refl w.heap.size w)
  clear hr hg hl h hp0 hp1 hp2
  go_enter Tryd.func52, Tryd.ntmps52
  go_wp2
  go_loopg [5, 6] k (fun kq v5 v6 w' => ∃ (i j : Int), v5 = .int .i64 i ∧ v6 = .int .i64 j ∧ Aside0 (search_l l p0 p1 p2 kq i j = some r) ∧ Aside0 (kq ≤ k) ∧ Aside0 (0 ≤ i ∧ j ≤ l.length) ∧ Aside0 (Below w.heap.size w w'))
  case atStart => exact ⟨0, (l.length : Int), (by first | rfl | (simp; done) | (simp [*]; done)), (by first | rfl | (simp; done) | (simp [*]; done)), H', ⟨Nat.le_refl _⟩, ⟨by omega⟩, ⟨by repeat (first | (with_reducible first | exact HB.out | apply below_alloc | apply pw_below_drewN | apply below_drew1) | exact HB.out)⟩⟩
  case round =>
    clear H'
    obtain ⟨i, j, rfl, rfl, HA, HK1, HI, HB⟩ := hrel
    cases gk with
    | zero => exact absurd HA.out (by simp [search_l])
    | succ k1 =>
      have H := HA.out
      clear HA
      simp only [search_l] at H
      by_cases c1 : i < j
      · rw [if_pos c1] at H
        have P0 : Aside0 (0 ≤ (i + j) / 2) := ⟨by have := HI.out; omega⟩
        have P1 : Aside0 ((i + j) / 2 < (l.length : Int)) := ⟨by have := HI.out; omega⟩
        have P2 : Aside0 (i ≤ (i + j) / 2) := ⟨by have := HI.out; omega⟩
        have P3 : Aside0 ((i + j) / 2 < j) := ⟨by have := HI.out; omega⟩
        obtain ⟨ad, ea, _⟩ := at_T53 HR.out _ P0.out P1.out
        subst ea
        have c1a : decide (i < j) = true := decide_eq_true c1
        clear c1
        have hm : wrap64 (IntKind.u64.wrap (wrap64 (i + j)) / 2) = (i + j) / 2 := by
          have e1 : wrap64 (i + j) = i + j := by have := HL.out; have := HI.out; have := P2.out; have := P3.out; unfold wrap64; omega
          have e2 : IntKind.u64.wrap (i + j) = i + j := by have := HL.out; have := HI.out; have := P2.out; have := P3.out; simp [IntKind.wrap, IntKind.bits, IntKind.signed]; omega
          rw [e1, e2]
          have := HL.out; have := HI.out; have := P2.out; have := P3.out; unfold wrap64; omega
        have hm1 : wrap64 ((i + j) / 2 + 1) = (i + j) / 2 + 1 := by have := HL.out; have := P0.out; have := P1.out; unfold wrap64; omega
        unfold above at H
        by_cases c2 : cmp3 (rd_T53 l ((i + j) / 2)).f0.f0 (rd_T53 l ((i + j) / 2)).f0.f1 (rd_T53 l ((i + j) / 2)).f0.f2 p0 p1 p2 > 0
        · rw [if_pos c2] at H
          have c2a : decide (cmp3 (rd_T53 l ((i + j) / 2)).f0.f0 (rd_T53 l ((i + j) / 2)).f0.f1 (rd_T53 l ((i + j) / 2)).f0.f2 p0 p1 p2 > 0) = true := decide_eq_true c2
          have c2b : decide (0 < cmp3 (rd_T53 l ((i + j) / 2)).f0.f0 (rd_T53 l ((i + j) / 2)).f0.f1 (rd_T53 l ((i + j) / 2)).f0.f2 p0 p1 p2) = true := decide_eq_true c2
          clear c2
          have H' := Aside0.mk H
          clear H
          go_wp2_with (first | (go_at_call 50; (with_reducible refine (holders_place1.calls ad c l gl gp ((i + j) / 2) p0 p1 p2 _ (Kd.C_below HR.out (by repeat (first | (with_reducible first | exact HB.out | apply below_alloc | apply pw_below_drewN | apply below_drew1) | exact HB.out))) ((Below.cell (by repeat (first | (with_reducible first | exact HB.out | apply below_alloc | apply pw_below_drewN | apply below_drew1) | exact HB.out)) (World.block_lt_of_cell? w _ HG.out)).trans HG.out) ((Below.cell (by repeat (first | (with_reducible first | exact HB.out | apply below_alloc | apply pw_below_drewN | apply below_drew1) | exact HB.out)) (World.block_lt_of_cell? w _ HP0.out)).trans HP0.out) ((Below.cell (by repeat (first | (with_reducible first | exact HB.out | apply below_alloc | apply pw_below_drewN | apply below_drew1) | exact HB.out)) (World.block_lt_of_cell? w _ HP1.out)).trans HP1.out) ((Below.cell (by repeat (first | (with_reducible first | exact HB.out | apply below_alloc | apply pw_below_drewN | apply below_drew1) | exact HB.out)) (World.block_lt_of_cell? w _ HP2.out)).trans HP2.out) P0.out P1.out).mono ?_); rintro e w5 ⟨rfl, hb⟩; have n1_ := Aside0.mk (below_step (by repeat (first | (with_reducible first | exact HB.out | apply below_alloc | apply pw_below_drewN | apply below_drew1) | exact HB.out)) hb); clear HB; have HB := n1_; clear n1_; clear hb))
          go_roundg k1
          case measure => have := HK1.out; omega
          case rel => exact ⟨i, (i + j) / 2, (by first | rfl | (simp; done) | (simp [*]; done)), (by first | rfl | (simp; done) | (simp [*]; done)), H', ⟨by have := HK1.out; omega⟩, ⟨by have := HI.out; have := P1.out; omega⟩, ⟨by repeat (first | (with_reducible first | exact HB.out | apply below_alloc | apply pw_below_drewN | apply below_drew1) | exact HB.out)⟩⟩
        · rw [if_neg c2] at H
          have c2a : decide (cmp3 (rd_T53 l ((i + j) / 2)).f0.f0 (rd_T53 l ((i + j) / 2)).f0.f1 (rd_T53 l ((i + j) / 2)).f0.f2 p0 p1 p2 > 0) = false := decide_eq_false c2
          have c2b : decide (0 < cmp3 (rd_T53 l ((i + j) / 2)).f0.f0 (rd_T53 l ((i + j) / 2)).f0.f1 (rd_T53 l ((i + j) / 2)).f0.f2 p0 p1 p2) = false := decide_eq_false c2
          clear c2
          have H' := Aside0.mk H
          clear H
          go_wp2_with (first | (go_at_call 50; (with_reducible refine (holders_place1.calls ad c l gl gp ((i + j) / 2) p0 p1 p2 _ (Kd.C_below HR.out (by repeat (first | (with_reducible first | exact HB.out | apply below_alloc | apply pw_below_drewN | apply below_drew1) | exact HB.out))) ((Below.cell (by repeat (first | (with_reducible first | exact HB.out | apply below_alloc | apply pw_below_drewN | apply below_drew1) | exact HB.out)) (World.block_lt_of_cell? w _ HG.out)).trans HG.out) ((Below.cell (by repeat (first | (with_reducible first | exact HB.out | apply below_alloc | apply pw_below_drewN | apply below_drew1) | exact HB.out)) (World.block_lt_of_cell? w _ HP0.out)).trans HP0.out) ((Below.cell (by repeat (first | (with_reducible first | exact HB.out | apply below_alloc | apply pw_below_drewN | apply below_drew1) | exact HB.out)) (World.block_lt_of_cell? w _ HP1.out)).trans HP1.out) ((Below.cell (by repeat (first | (with_reducible first | exact HB.out | apply below_alloc | apply pw_below_drewN | apply below_drew1) | exact HB.out)) (World.block_lt_of_cell? w _ HP2.out)).trans HP2.out) P0.out P1.out).mono ?_); rintro e w5 ⟨rfl, hb⟩; have n1_ := Aside0.mk (below_step (by repeat (first | (with_reducible first | exact HB.out | apply below_alloc | apply pw_below_drewN | apply below_drew1) | exact HB.out)) hb); clear HB; have HB := n1_; clear n1_; clear hb))
          go_roundg k1
          case measure => have := HK1.out; omega
          case rel => exact ⟨wrap64 ((i + j) / 2 + 1), j, (by first | rfl | (simp; done) | (simp [*]; done)), (by first | rfl | (simp; done) | (simp [*]; done)), ⟨by rw [hm1]; exact H'.out⟩, ⟨by have := HK1.out; omega⟩, ⟨by rw [hm1]; have := HI.out; have := P0.out; omega⟩, ⟨by repeat (first | (with_reducible first | exact HB.out | apply below_alloc | apply pw_below_drewN | apply below_drew1) | exact HB.out)⟩⟩
      · rw [if_neg c1] at H
        obtain rfl := Option.some.inj H
        have c1a : decide (i < j) = false := decide_eq_false c1
        clear c1 H
        go_wp2
        go_ret
        exact ⟨rfl, by repeat (first | (with_reducible first | exact HB.out | apply below_alloc | apply pw_below_drewN | apply below_drew1) | exact HB.out)⟩
end Go.Proofs.YtnmemkphfgdplaaDoor.PA
