/- holders.place. Conditions: none. -/
import Derived.Test.YtnmemkphfgdplaaDoorT6
namespace Go.Proofs.YtnmemkphfgdplaaDoor.PA
open Go.RowKit Go.Lib Go.Proofs.YtnmemkphfgdplaaDoorW.PrintWords Go.Proofs.YtnmemkphfgdplaaDoorW.PrintLast Go.Proofs.YtnmemkphfgdplaaDoorW.PrintMore
attribute [local go_sem] max2_int min2_int max_two min_two max_three min_three max_four min_four
set_option linter.unusedVariables false
set_option linter.unusedSimpArgs false
def linear_l (l : List S53) (p0 p1 p2 : Int) : Nat → Int → Option Int
  | 0, _ => none
  | k + 1, i => if i < l.length then (if above l p0 p1 p2 i > 0 then some i else linear_l l p0 p1 p2 k (i + 1)) else some i
def place_f (k : Nat) (l : List S53) (p0 p1 p2 : Int) : Option Int := (sorted_l l k ((l.length : Int) - 1)).bind fun b => if b = true then search_l l p0 p1 p2 k 0 (l.length : Int) else linear_l l p0 p1 p2 k 0
set_option maxHeartbeats 4000000 in
set_option maxRecDepth 100000 in
theorem holders_place.callsK (k : Nat) (A : Option Addr) (c : Nat) (l : List S53) (p0 p1 p2 r : Int) (w : World) (hr : Kd.C k53 w A l.length l) (hl : l.length < 1000000) (h : place_f k l p0 p1 p2 = some r) :
    Calls Tryd.prog 33 #[.slice A l.length c, .agg #[.int .i64 p0, .int .i64 p1, .int .i64 p2]] w fun e w' => e = .returned (.int .i64 r) ∧ Below w.heap.size w w' := by
  have hmf : ∀ (fn : Fn) (first cap : Array Value) (w : World), (Instr.makeFunc fn first cap).run Tryd.prog w = .ok (.func fn first cap) w := fun _ _ _ _ => rfl
  have hu22 := Tryd.underlying22
  have hu24 := Tryd.underlying24
  have HR := Aside0.mk hr
  have HL := Aside0.mk hl
  unfold place_f at h
  obtain ⟨b, hs, h⟩ := Option.bind_eq_some_iff.mp h
  have HS := Aside0.mk hs
  have HB := Aside0.mk (Below.refl w.heap.size w)
  clear hr hl hs
  by_cases hb0 : b = true
  · subst hb0
    have H' : Aside0 (search_l l p0 p1 p2 k 0 (l.length : Int) = some r) := ⟨by rw [if_pos rfl] at h; exact h⟩
    clear h
    go_enter Tryd.func33, Tryd.ntmps33
    go_wp2_with (first | ((with_reducible refine gate_dst (N := 2) rfl ?_); refine box_event ?hg (N := 2) ?hd (cs := #[.slice A l.length c]) (t := 22) ?hr ?_; (case hd => rfl); (case hg => rfl); (case hr => first | (go_simp; done) | (go_simp; rfl)); intro gb1 hg w3 hbox hb; have n0_ := Aside0.mk (below_step (by repeat (first | (with_reducible first | exact HB.out | apply below_alloc | apply pw_below_drewN | apply below_drew1) | exact HB.out)) hb); have n1_ := Aside0.mk hbox; clear HB ; have HB := n0_; have BK1 := n1_; clear n0_ n1_; clear hb hbox hg) | ((with_reducible refine gate_dst (N := 3) rfl ?_); refine box_event ?hg (N := 3) ?hd (cs := #[.int .i64 p0, .int .i64 p1, .int .i64 p2]) (t := 24) ?hr ?_; (case hd => rfl); (case hg => rfl); (case hr => first | (go_simp; done) | (go_simp; rfl)); intro gb2 hg w4 hbox hb; have n0_ := blkB BK1 (by (with_reducible repeat first | refine bN ?_ _ | refine bD ?_ | refine bA ?_ _); exact BK1.out) hb; have n1_ := Aside0.mk (below_step (by repeat (first | (with_reducible first | exact HB.out | apply below_alloc | apply pw_below_drewN | apply below_drew1) | exact HB.out)) hb); have n2_ := Aside0.mk hbox; clear HB BK1; have BK1 := n0_; have HB := n1_; have BK2 := n2_; clear n0_ n1_ n2_; clear hb hbox hg; have hc0 : w4.cell? ⟨gb1, 0, none⟩ = some (.slice A l.length c) := (blk_cell BK1.out 0).trans rfl) | (go_at_call 51; (with_reducible refine (holders_rising.callsK k A c l true _ (Kd.C_below HR.out (by repeat (first | (with_reducible first | exact HB.out | apply below_alloc | apply pw_below_drewN | apply below_drew1) | exact HB.out))) HL.out HS.out).mono ?_); rintro e w5 ⟨rfl, hb⟩; have n0_ := blkB BK1 (by (with_reducible repeat first | refine bN ?_ _ | refine bD ?_ | refine bA ?_ _); exact BK1.out) hb; have n1_ := blkB BK2 (by (with_reducible repeat first | refine bN ?_ _ | refine bD ?_ | refine bA ?_ _); exact BK2.out) hb; have n9_ := Aside0.mk (below_step (by repeat (first | (with_reducible first | exact HB.out | apply below_alloc | apply pw_below_drewN | apply below_drew1) | exact HB.out)) hb); clear BK1 BK2 HB; have BK1 := n0_; have BK2 := n1_; have HB := n9_; clear n0_ n1_ n9_; clear hb; have hc0 : w5.cell? ⟨gb1, 0, none⟩ = some (.slice A l.length c) := (blk_cell BK1.out 0).trans rfl) | (go_at_call 52; (with_reducible refine (sort_Search.calls k A c l gb1 gb2 p0 p1 p2 r _ (Kd.C_below HR.out (by repeat (first | (with_reducible first | exact HB.out | apply below_alloc | apply pw_below_drewN | apply below_drew1) | exact HB.out))) ((blk_cell (by (with_reducible repeat first | refine bN ?_ _ | refine bD ?_ | refine bA ?_ _); exact BK1.out) 0).trans rfl) ((blk_cell (by (with_reducible repeat first | refine bN ?_ _ | refine bD ?_ | refine bA ?_ _); exact BK2.out) 0).trans rfl) ((blk_cell (by (with_reducible repeat first | refine bN ?_ _ | refine bD ?_ | refine bA ?_ _); exact BK2.out) 1).trans rfl) ((blk_cell (by (with_reducible repeat first | refine bN ?_ _ | refine bD ?_ | refine bA ?_ _); exact BK2.out) 2).trans rfl) HL.out H'.out).mono ?_); rintro e w6 ⟨rfl, hb⟩; have n0_ := blkB BK1 (by (with_reducible repeat first | refine bN ?_ _ | refine bD ?_ | refine bA ?_ _); exact BK1.out) hb; have n1_ := blkB BK2 (by (with_reducible repeat first | refine bN ?_ _ | refine bD ?_ | refine bA ?_ _); exact BK2.out) hb; have n9_ := Aside0.mk (below_step (by repeat (first | (with_reducible first | exact HB.out | apply below_alloc | apply pw_below_drewN | apply below_drew1) | exact HB.out)) hb); clear BK1 BK2 HB; have BK1 := n0_; have BK2 := n1_; have HB := n9_; clear n0_ n1_ n9_; clear hb))
    go_ret
    exact ⟨rfl, by repeat (first | (with_reducible first | exact HB.out | apply below_alloc | apply pw_below_drewN | apply below_drew1) | exact HB.out)⟩
  · replace hb0 := Bool.eq_false_iff.mpr hb0
    subst hb0
    have H' : Aside0 (linear_l l p0 p1 p2 k 0 = some r) := ⟨by rw [if_neg (by decide)] at h; exact h⟩
    clear h
    go_enter Tryd.func33, Tryd.ntmps33
    go_wp2_with (first | ((with_reducible refine gate_dst (N := 2) rfl ?_); refine box_event ?hg (N := 2) ?hd (cs := #[.slice A l.length c]) (t := 22) ?hr ?_; (case hd => rfl); (case hg => rfl); (case hr => first | (go_simp; done) | (go_simp; rfl)); intro gb1 hg w3 hbox hb; have n0_ := Aside0.mk (below_step (by repeat (first | (with_reducible first | exact HB.out | apply below_alloc | apply pw_below_drewN | apply below_drew1) | exact HB.out)) hb); have n1_ := Aside0.mk hbox; clear HB ; have HB := n0_; have BK1 := n1_; clear n0_ n1_; clear hb hbox hg) | ((with_reducible refine gate_dst (N := 3) rfl ?_); refine box_event ?hg (N := 3) ?hd (cs := #[.int .i64 p0, .int .i64 p1, .int .i64 p2]) (t := 24) ?hr ?_; (case hd => rfl); (case hg => rfl); (case hr => first | (go_simp; done) | (go_simp; rfl)); intro gb2 hg w4 hbox hb; have n0_ := blkB BK1 (by (with_reducible repeat first | refine bN ?_ _ | refine bD ?_ | refine bA ?_ _); exact BK1.out) hb; have n1_ := Aside0.mk (below_step (by repeat (first | (with_reducible first | exact HB.out | apply below_alloc | apply pw_below_drewN | apply below_drew1) | exact HB.out)) hb); have n2_ := Aside0.mk hbox; clear HB BK1; have BK1 := n0_; have HB := n1_; have BK2 := n2_; clear n0_ n1_ n2_; clear hb hbox hg; have hc0 : w4.cell? ⟨gb1, 0, none⟩ = some (.slice A l.length c) := (blk_cell BK1.out 0).trans rfl) | (go_at_call 51; (with_reducible refine (holders_rising.callsK k A c l false _ (Kd.C_below HR.out (by repeat (first | (with_reducible first | exact HB.out | apply below_alloc | apply pw_below_drewN | apply below_drew1) | exact HB.out))) HL.out HS.out).mono ?_); rintro e w5 ⟨rfl, hb⟩; have n0_ := blkB BK1 (by (with_reducible repeat first | refine bN ?_ _ | refine bD ?_ | refine bA ?_ _); exact BK1.out) hb; have n1_ := blkB BK2 (by (with_reducible repeat first | refine bN ?_ _ | refine bD ?_ | refine bA ?_ _); exact BK2.out) hb; have n9_ := Aside0.mk (below_step (by repeat (first | (with_reducible first | exact HB.out | apply below_alloc | apply pw_below_drewN | apply below_drew1) | exact HB.out)) hb); clear BK1 BK2 HB; have BK1 := n0_; have BK2 := n1_; have HB := n9_; clear n0_ n1_ n9_; clear hb; have hc0 : w5.cell? ⟨gb1, 0, none⟩ = some (.slice A l.length c) := (blk_cell BK1.out 0).trans rfl))
    go_loopg [6] k (fun kq v6 w' => ∃ (i : Int), v6 = .int .i64 i ∧ Aside0 (linear_l l p0 p1 p2 kq i = some r) ∧ Aside0 (kq ≤ k) ∧ Aside0 (0 ≤ i ∧ i ≤ l.length) ∧ Aside0 (w'.heap[gb1]? = some (.cells #[.slice A l.length c] 22 (0, 0))) ∧ Aside0 (w'.heap[gb2]? = some (.cells #[.int .i64 p0, .int .i64 p1, .int .i64 p2] 24 (0, 0))) ∧ Aside0 (Below w.heap.size w w'))
    case atStart => exact ⟨0, (by first | rfl | (simp; done) | (simp [*]; done)), H', ⟨Nat.le_refl _⟩, ⟨by omega⟩, ⟨by (with_reducible repeat first | refine bN ?_ _ | refine bD ?_ | refine bA ?_ _); exact BK1.out⟩, ⟨by (with_reducible repeat first | refine bN ?_ _ | refine bD ?_ | refine bA ?_ _); exact BK2.out⟩, ⟨by repeat (first | (with_reducible first | exact HB.out | apply below_alloc | apply pw_below_drewN | apply below_drew1) | exact HB.out)⟩⟩
    case round =>
      clear H'
      obtain ⟨i, rfl, HA, HK1, HI, BK1, BK2, HB⟩ := hrel
      have hcr : wr.cell? ⟨gb1, 0, none⟩ = some (.slice A l.length c) := (blk_cell BK1.out 0).trans rfl
      cases gk with
      | zero => exact absurd HA.out (by simp [linear_l])
      | succ k1 =>
        have H := HA.out
        clear HA
        simp only [linear_l] at H
        by_cases c1 : i < l.length
        · rw [if_pos c1] at H
          have P0 : Aside0 (0 ≤ i) := ⟨HI.out.1⟩
          have P1 : Aside0 (i < (l.length : Int)) := ⟨c1⟩
          obtain ⟨ad, ea, _⟩ := at_T53 HR.out _ P0.out P1.out
          subst ea
          have c1a : decide (i < (l.length : Int)) = true := decide_eq_true c1
          have hm1 : Aside0 (wrap64 (i + 1) = i + 1) := ⟨by have := HL.out; have := P0.out; unfold wrap64; omega⟩
          clear c1
          unfold above at H
          by_cases c2 : cmp3 (rd_T53 l i).f0.f0 (rd_T53 l i).f0.f1 (rd_T53 l i).f0.f2 p0 p1 p2 > 0
          · rw [if_pos c2] at H
            obtain rfl := Option.some.inj H
            have c2a : decide (cmp3 (rd_T53 l i).f0.f0 (rd_T53 l i).f0.f1 (rd_T53 l i).f0.f2 p0 p1 p2 > 0) = true := decide_eq_true c2
            have c2b : decide (0 < cmp3 (rd_T53 l i).f0.f0 (rd_T53 l i).f0.f1 (rd_T53 l i).f0.f2 p0 p1 p2) = true := decide_eq_true c2
            clear c2 H
            go_wp2_with (first | (go_at_call 50; (with_reducible refine (holders_place1.calls ad c l gb1 gb2 i p0 p1 p2 _ (Kd.C_below HR.out (by repeat (first | (with_reducible first | exact HB.out | apply below_alloc | apply pw_below_drewN | apply below_drew1) | exact HB.out))) ((blk_cell (by (with_reducible repeat first | refine bN ?_ _ | refine bD ?_ | refine bA ?_ _); exact BK1.out) 0).trans rfl) ((blk_cell (by (with_reducible repeat first | refine bN ?_ _ | refine bD ?_ | refine bA ?_ _); exact BK2.out) 0).trans rfl) ((blk_cell (by (with_reducible repeat first | refine bN ?_ _ | refine bD ?_ | refine bA ?_ _); exact BK2.out) 1).trans rfl) ((blk_cell (by (with_reducible repeat first | refine bN ?_ _ | refine bD ?_ | refine bA ?_ _); exact BK2.out) 2).trans rfl) P0.out P1.out).mono ?_); rintro e w6 ⟨rfl, hb⟩; have n0_ := blkB BK1 (by (with_reducible repeat first | refine bN ?_ _ | refine bD ?_ | refine bA ?_ _); exact BK1.out) hb; have n1_ := blkB BK2 (by (with_reducible repeat first | refine bN ?_ _ | refine bD ?_ | refine bA ?_ _); exact BK2.out) hb; have n9_ := Aside0.mk (below_step (by repeat (first | (with_reducible first | exact HB.out | apply below_alloc | apply pw_below_drewN | apply below_drew1) | exact HB.out)) hb); clear BK1 BK2 HB; have BK1 := n0_; have BK2 := n1_; have HB := n9_; clear n0_ n1_ n9_; clear hb))
            go_ret
            exact ⟨rfl, by repeat (first | (with_reducible first | exact HB.out | apply below_alloc | apply pw_below_drewN | apply below_drew1) | exact HB.out)⟩
          · rw [if_neg c2] at H
            have c2a : decide (cmp3 (rd_T53 l i).f0.f0 (rd_T53 l i).f0.f1 (rd_T53 l i).f0.f2 p0 p1 p2 > 0) = false := decide_eq_false c2
            have c2b : decide (0 < cmp3 (rd_T53 l i).f0.f0 (rd_T53 l i).f0.f1 (rd_T53 l i).f0.f2 p0 p1 p2) = false := decide_eq_false c2
            clear c2
            have H' := Aside0.mk H
            clear H
            go_wp2_with (first | (go_at_call 50; (with_reducible refine (holders_place1.calls ad c l gb1 gb2 i p0 p1 p2 _ (Kd.C_below HR.out (by repeat (first | (with_reducible first | exact HB.out | apply below_alloc | apply pw_below_drewN | apply below_drew1) | exact HB.out))) ((blk_cell (by (with_reducible repeat first | refine bN ?_ _ | refine bD ?_ | refine bA ?_ _); exact BK1.out) 0).trans rfl) ((blk_cell (by (with_reducible repeat first | refine bN ?_ _ | refine bD ?_ | refine bA ?_ _); exact BK2.out) 0).trans rfl) ((blk_cell (by (with_reducible repeat first | refine bN ?_ _ | refine bD ?_ | refine bA ?_ _); exact BK2.out) 1).trans rfl) ((blk_cell (by (with_reducible repeat first | refine bN ?_ _ | refine bD ?_ | refine bA ?_ _); exact BK2.out) 2).trans rfl) P0.out P1.out).mono ?_); rintro e w6 ⟨rfl, hb⟩; have n0_ := blkB BK1 (by (with_reducible repeat first | refine bN ?_ _ | refine bD ?_ | refine bA ?_ _); exact BK1.out) hb; have n1_ := blkB BK2 (by (with_reducible repeat first | refine bN ?_ _ | refine bD ?_ | refine bA ?_ _); exact BK2.out) hb; have n9_ := Aside0.mk (below_step (by repeat (first | (with_reducible first | exact HB.out | apply below_alloc | apply pw_below_drewN | apply below_drew1) | exact HB.out)) hb); clear BK1 BK2 HB; have BK1 := n0_; have BK2 := n1_; have HB := n9_; clear n0_ n1_ n9_; clear hb))
            go_roundg k1
            case measure => have := HK1.out; omega
            case rel => exact ⟨wrap64 (i + 1), (by first | rfl | (simp; done) | (simp [*]; done)), ⟨by rw [hm1.out]; exact H'.out⟩, ⟨by have := HK1.out; omega⟩, ⟨by rw [hm1.out]; have := P0.out; have := P1.out; omega⟩, ⟨by (with_reducible repeat first | refine bN ?_ _ | refine bD ?_ | refine bA ?_ _); exact BK1.out⟩, ⟨by (with_reducible repeat first | refine bN ?_ _ | refine bD ?_ | refine bA ?_ _); exact BK2.out⟩, ⟨by repeat (first | (with_reducible first | exact HB.out | apply below_alloc | apply pw_below_drewN | apply below_drew1) | exact HB.out)⟩⟩
        · rw [if_neg c1] at H
          obtain rfl := Option.some.inj H
          have c1a : decide (i < (l.length : Int)) = false := decide_eq_false c1
          clear c1 H
          go_wp2
          go_ret
          exact ⟨rfl, by repeat (first | (with_reducible first | exact HB.out | apply below_alloc | apply pw_below_drewN | apply below_drew1) | exact HB.out)⟩
end Go.Proofs.YtnmemkphfgdplaaDoor.PA
