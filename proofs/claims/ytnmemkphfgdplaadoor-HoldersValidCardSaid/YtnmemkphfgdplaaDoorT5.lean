/- sort.SliceIsSorted with the program's function, and holders.rising. Conditions: none. -/
import Derived.Test.YtnmemkphfgdplaaDoorT3
import Derived.Lib.ReflectliteSlice
import Derived.Laws.Externs
namespace Go.Proofs.YtnmemkphfgdplaaDoor.PA
open Go.RowKit Go.Lib Go.Proofs.YtnmemkphfgdplaaDoorW.PrintWords Go.Proofs.YtnmemkphfgdplaaDoorW.PrintLast Go.Proofs.YtnmemkphfgdplaaDoorW.PrintMore
attribute [local go_sem] max2_int min2_int max_two min_two max_three min_three max_four min_four
set_option linter.unusedVariables false
set_option linter.unusedSimpArgs false
/-- Whether the processes ascend, from place i down. -/
def sorted_l (l : List S53) : Nat → Int → Option Bool
  | 0, _ => none
  | k + 1, i => if i > 0 then (if cmp3 (rd_T53 l i).f0.f0 (rd_T53 l i).f0.f1 (rd_T53 l i).f0.f2 (rd_T53 l (i - 1)).f0.f0 (rd_T53 l (i - 1)).f0.f1 (rd_T53 l (i - 1)).f0.f2 < 0 then some false else sorted_l l k (i - 1)) else some true
set_option maxHeartbeats 4000000 in
set_option maxRecDepth 100000 in
theorem sort_SliceIsSorted.calls (k : Nat) (A : Option Addr) (c : Nat) (l : List S53) (gb : Nat) (r : Bool) (w : World) (hr : Kd.C k53 w A l.length l) (hg : w.cell? ⟨gb, 0, none⟩ = some (.slice A l.length c)) (hl : l.length < 1000000) (h : sorted_l l k ((l.length : Int) - 1) = some r) :
    Calls Tryd.prog 63 #[.iface 22 (.slice A l.length c), .func (.func 64) #[] #[.pointer (some ⟨gb, 0, none⟩)]] w fun e w' => e = .returned (.bool r) ∧ Below w.heap.size w w' := by
  obtain ⟨i22, hi22, hd22⟩ : ∃ i, Tryd.prog.info? 22 = some i ∧ i.desc = .slice 53 := ⟨_, rfl, rfl⟩
  have hv := run_valueOf_slice (P := Tryd.prog) 22 53 i22 hi22 hd22 A l.length c w
  have hlen := fun a w ha => run_valueLen_slice (P := Tryd.prog) 22 53 i22 hi22 hd22 (by kernel_rfl) a A l.length c w ha
  simp only [typeHandle] at hv hlen
  have hu83 := Tryd.underlying83
  have HR := Aside0.mk hr
  have HG := Aside0.mk hg
  have HL := Aside0.mk hl
  have H' := Aside0.mk h
  clear hr hg hl h
  go_enter Tryd.func63, Tryd.ntmps63
  go_wp2
  rw [run_callFunc_extern Tryd.func65 (by kernel_rfl) (by kernel_rfl) (by kernel_rfl) (e := fun args => Extern.ReflectliteValue.unpack (args.getD 0 (.tuple #[]))) (by kernel_rfl),
    show Sem.run Tryd.prog ((fun args : Array Value => Extern.ReflectliteValue.unpack (args.getD 0 (.tuple #[]))) #[.iface 22 (.slice A l.length c)]) w = _ from hv]
  simp only [Result.andThen]
  rw [Oper.upon_value]
  have hbox0 := heap_alloc_new w (.cells #[.slice A l.length c] 22)
  have hb0 : Below w.heap.size w (w.alloc (.cells #[.slice A l.length c] 22)) := below_alloc (Below.refl _ _) _
  generalize w.alloc (.cells #[.slice A l.length c] 22) = w1 at hbox0 hb0 ⊢
  have BKv := Aside0.mk hbox0
  have HB := Aside0.mk hb0
  clear hbox0 hb0 hv
  go_wp2_with (first | ((with_reducible refine gate_dst (N := 5) rfl ?_); refine box_event ?hg (N := 5) ?hd (cs := #[.pointer none, .pointer none, .int .u64 0]) (t := 83) ?hr ?_; (case hd => rfl); (case hg => rfl); (case hr => first | (go_simp; done) | (go_simp; rfl)); intro gb5 hg w2 hbox hb; have n0_ := blkB BKv (by (with_reducible repeat first | refine bN ?_ _ | refine bD ?_ | refine bA ?_ _); exact BKv.out) hb; have n1_ := Aside0.mk (below_step (by repeat (first | (with_reducible first | exact HB.out | apply below_alloc | apply pw_below_drewN | apply below_drew1) | exact HB.out)) hb); have n2_ := Aside0.mk hbox; have n3_ := Aside0.mk ((by rw [hg]; exact (below_size (by repeat (first | (with_reducible first | exact HB.out | apply below_alloc | apply pw_below_drewN | apply below_drew1) | exact HB.out))) : w.heap.size ≤ gb5)); have n4_ := Aside0.mk ((by rw [hg]; exact Nat.ne_of_lt (blkLt BKv (by (with_reducible repeat first | refine bN ?_ _ | refine bD ?_ | refine bA ?_ _); exact BKv.out)) : w.heap.size ≠ gb5)); clear BKv HB; have BKv := n0_; have HB := n1_; have BK5 := n2_; have GE5 := n3_; have NE5 := n4_; clear n0_ n1_ n2_ n3_ n4_; clear hb hbox hg; have hc0 : w2.cell? ⟨gb5, 0, none⟩ = some (.pointer none) := (blk_cell BK5.out 0).trans rfl; have hc1 : w2.cell? ⟨gb5, 1, none⟩ = some (.pointer none) := (blk_cell BK5.out 1).trans rfl; have hc2 : w2.cell? ⟨gb5, 2, none⟩ = some (.int .u64 0) := (blk_cell BK5.out 2).trans rfl; have hf0 := blk_frozen BK5.out 0; have hf1 := blk_frozen BK5.out 1; have hf2 := blk_frozen BK5.out 2))
  have e5 : (((w2.setCell ⟨gb5, 0, none⟩ (Value.pointer (some { block := 1, off := 22 }))).setCell ⟨gb5, 1, none⟩ (Value.pointer (some { block := w.heap.size, off := 0 }))).setCell ⟨gb5, 2, none⟩ (Value.int IntKind.u64 151)).heap[w.heap.size]? = some (.cells #[.slice A l.length c] 22 (0, 0)) := blk_far (blk_far (blk_far BKv.out NE5.out _) NE5.out _) NE5.out _
  have b5 : Below w.heap.size w (((w2.setCell ⟨gb5, 0, none⟩ (Value.pointer (some { block := 1, off := 22 }))).setCell ⟨gb5, 1, none⟩ (Value.pointer (some { block := w.heap.size, off := 0 }))).setCell ⟨gb5, 2, none⟩ (Value.int IntKind.u64 151)) := below_set (below_set (below_set HB.out GE5.out) GE5.out) GE5.out
  generalize ((w2.setCell ⟨gb5, 0, none⟩ (Value.pointer (some { block := 1, off := 22 }))).setCell ⟨gb5, 1, none⟩ (Value.pointer (some { block := w.heap.size, off := 0 }))).setCell ⟨gb5, 2, none⟩ (Value.int IntKind.u64 151) = w3 at e5 b5 ⊢
  have hgs : Tryd.prog.globals.size = 1 := by kernel_rfl
  rw [hgs] at hlen
  rw [run_callFunc_extern Tryd.func66 (by kernel_rfl) (by kernel_rfl) (by kernel_rfl) (e := Extern.ReflectliteValue.method (Extern.ReflectliteValue.valueError "reflectlite.Value.Len" 0) Extern.ReflectliteValue.len) (by kernel_rfl), hlen _ _ ((blk_cell e5 0).trans rfl)]
  simp only [Result.andThen]
  rw [Oper.upon_value]
  clear HB
  have HB := Aside0.mk b5
  clear b5 e5 BKv BK5 GE5 NE5 hc0 hc1 hc2 hf0 hf1 hf2 hlen hgs
  have hw0 : Aside0 (wrap64 ((l.length : Int) - 1) = (l.length : Int) - 1) := ⟨by have := HL.out; unfold wrap64; omega⟩
  go_wp2
  go_loopg [7] k (fun kq v7 w' => ∃ (i : Int), v7 = .int .i64 i ∧ Aside0 (sorted_l l kq i = some r) ∧ Aside0 (kq ≤ k) ∧ Aside0 (i < l.length) ∧ Aside0 (Below w.heap.size w w'))
  case atStart => exact ⟨wrap64 ((l.length : Int) - 1), (by first | rfl | (simp; done) | (simp [*]; done)), ⟨by rw [hw0.out]; exact H'.out⟩, ⟨Nat.le_refl _⟩, ⟨by rw [hw0.out]; omega⟩, ⟨by repeat (first | (with_reducible first | exact HB.out | apply below_alloc | apply pw_below_drewN | apply below_drew1) | exact HB.out)⟩⟩
  case round =>
    clear H'
    obtain ⟨i, rfl, HA, HK1, HI, HB⟩ := hrel
    cases gk with
    | zero => exact absurd HA.out (by simp [sorted_l])
    | succ k1 =>
      have H := HA.out
      clear HA
      simp only [sorted_l] at H
      by_cases c1 : i > 0
      · rw [if_pos c1] at H
        have P0 : Aside0 (0 ≤ i) := ⟨by omega⟩
        have P1 : Aside0 (i < (l.length : Int)) := HI
        have P2 : Aside0 (0 ≤ i - 1) := ⟨by omega⟩
        have P3 : Aside0 (i - 1 < (l.length : Int)) := ⟨by have := HI.out; omega⟩
        obtain ⟨ad, ea, _⟩ := at_T53 HR.out i P0.out P1.out
        subst ea
        have hw1 : wrap64 (i - 1) = i - 1 := by have := HL.out; have := HI.out; unfold wrap64; omega
        have c1a : decide (0 < i) = true := decide_eq_true c1
        have c1b : decide (i > 0) = true := decide_eq_true c1
        clear c1
        by_cases c2 : cmp3 (rd_T53 l i).f0.f0 (rd_T53 l i).f0.f1 (rd_T53 l i).f0.f2 (rd_T53 l (i - 1)).f0.f0 (rd_T53 l (i - 1)).f0.f1 (rd_T53 l (i - 1)).f0.f2 < 0
        · rw [if_pos c2] at H
          obtain rfl := Option.some.inj H
          have c2a : decide (cmp3 (rd_T53 l i).f0.f0 (rd_T53 l i).f0.f1 (rd_T53 l i).f0.f2 (rd_T53 l (i - 1)).f0.f0 (rd_T53 l (i - 1)).f0.f1 (rd_T53 l (i - 1)).f0.f2 < 0) = true := decide_eq_true c2
          clear c2 H
          go_wp2_with (first | (go_at_call 64; (with_reducible refine (holders_rising1.calls ad c l gb i (i - 1) _ (Kd.C_below HR.out (by repeat (first | (with_reducible first | exact HB.out | apply below_alloc | apply pw_below_drewN | apply below_drew1) | exact HB.out))) ((Below.cell (by repeat (first | (with_reducible first | exact HB.out | apply below_alloc | apply pw_below_drewN | apply below_drew1) | exact HB.out)) (World.block_lt_of_cell? w _ HG.out)).trans HG.out) P0.out P1.out P2.out P3.out).mono ?_); rintro e w5 ⟨rfl, hb⟩; have n1_ := Aside0.mk (below_step (by repeat (first | (with_reducible first | exact HB.out | apply below_alloc | apply pw_below_drewN | apply below_drew1) | exact HB.out)) hb); clear HB; have HB := n1_; clear n1_; clear hb))
          go_ret
          exact ⟨rfl, by repeat (first | (with_reducible first | exact HB.out | apply below_alloc | apply pw_below_drewN | apply below_drew1) | exact HB.out)⟩
        · rw [if_neg c2] at H
          have c2a : decide (cmp3 (rd_T53 l i).f0.f0 (rd_T53 l i).f0.f1 (rd_T53 l i).f0.f2 (rd_T53 l (i - 1)).f0.f0 (rd_T53 l (i - 1)).f0.f1 (rd_T53 l (i - 1)).f0.f2 < 0) = false := decide_eq_false c2
          clear c2
          have H' := Aside0.mk H
          clear H
          go_wp2_with (first | (go_at_call 64; (with_reducible refine (holders_rising1.calls ad c l gb i (i - 1) _ (Kd.C_below HR.out (by repeat (first | (with_reducible first | exact HB.out | apply below_alloc | apply pw_below_drewN | apply below_drew1) | exact HB.out))) ((Below.cell (by repeat (first | (with_reducible first | exact HB.out | apply below_alloc | apply pw_below_drewN | apply below_drew1) | exact HB.out)) (World.block_lt_of_cell? w _ HG.out)).trans HG.out) P0.out P1.out P2.out P3.out).mono ?_); rintro e w5 ⟨rfl, hb⟩; have n1_ := Aside0.mk (below_step (by repeat (first | (with_reducible first | exact HB.out | apply below_alloc | apply pw_below_drewN | apply below_drew1) | exact HB.out)) hb); clear HB; have HB := n1_; clear n1_; clear hb))
          go_roundg k1
          case measure => have := HK1.out; omega
          case rel => exact ⟨wrap64 (i - 1), (by first | rfl | (simp; done) | (simp [*]; done)), ⟨by rw [hw1]; exact H'.out⟩, ⟨by have := HK1.out; omega⟩, ⟨by rw [hw1]; exact P3.out⟩, ⟨by repeat (first | (with_reducible first | exact HB.out | apply below_alloc | apply pw_below_drewN | apply below_drew1) | exact HB.out)⟩⟩
      · rw [if_neg c1] at H
        obtain rfl := Option.some.inj H
        have c1a : decide (0 < i) = false := decide_eq_false c1
        have c1b : decide (i > 0) = false := decide_eq_false c1
        clear c1 H
        go_wp2
        go_ret
        exact ⟨rfl, by repeat (first | (with_reducible first | exact HB.out | apply below_alloc | apply pw_below_drewN | apply below_drew1) | exact HB.out)⟩
set_option maxHeartbeats 4000000 in
set_option maxRecDepth 100000 in
theorem holders_rising.callsK (k : Nat) (A : Option Addr) (c : Nat) (l : List S53) (r : Bool) (w : World) (hr : Kd.C k53 w A l.length l) (hl : l.length < 1000000) (h : sorted_l l k ((l.length : Int) - 1) = some r) :
    Calls Tryd.prog 51 #[.slice A l.length c] w fun e w' => e = .returned (.bool r) ∧ Below w.heap.size w w' := by
  have hmf : ∀ (fn : Fn) (first cap : Array Value) (w : World), (Instr.makeFunc fn first cap).run Tryd.prog w = .ok (.func fn first cap) w := fun _ _ _ _ => rfl
  have hu22 := Tryd.underlying22
  have HR := Aside0.mk hr
  have HL := Aside0.mk hl
  have H' := Aside0.mk h
  have HB := Aside0.mk (Below.refl w.heap.size w)
  clear hr hl h
  go_enter Tryd.func51, Tryd.ntmps51
  go_wp2_with (first | ((with_reducible refine gate_dst (N := 1) rfl ?_); refine box_event ?hg (N := 1) ?hd (cs := #[.slice A l.length c]) (t := 22) ?hr ?_; (case hd => rfl); (case hg => rfl); (case hr => first | (go_simp; done) | (go_simp; rfl)); intro gb1 hg w3 hbox hb; have n0_ := Aside0.mk (below_step HB.out hb); have n1_ := Aside0.mk (hbox); clear HB; have HB := n0_; have BK1 := n1_; clear n0_ n1_; clear hb hbox hg; have hc0 : w3.cell? ⟨gb1, 0, none⟩ = some (.slice A l.length c) := (blk_cell BK1.out 0).trans rfl) | (go_at_call 63; (with_reducible refine (sort_SliceIsSorted.calls k A c l gb1 r _ (Kd.C_below HR.out (by repeat (first | (with_reducible first | exact HB.out | apply below_alloc | apply pw_below_drewN | apply below_drew1) | exact HB.out))) ((blk_cell (by (with_reducible repeat first | refine bN ?_ _ | refine bD ?_ | refine bA ?_ _); exact BK1.out) 0).trans rfl) HL.out H'.out).mono ?_); rintro e w5 ⟨rfl, hb⟩; have n1_ := Aside0.mk (below_step (by repeat (first | (with_reducible first | exact HB.out | apply below_alloc | apply pw_below_drewN | apply below_drew1) | exact HB.out)) hb); clear HB; have HB := n1_; clear n1_; clear hb))
  go_ret
  exact ⟨rfl, by repeat (first | (with_reducible first | exact HB.out | apply below_alloc | apply pw_below_drewN | apply below_drew1) | exact HB.out)⟩
end Go.Proofs.YtnmemkphfgdplaaDoor.PA
