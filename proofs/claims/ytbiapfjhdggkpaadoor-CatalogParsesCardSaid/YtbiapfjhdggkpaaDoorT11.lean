/- slices.Insert at a slice of resources that the call owns. Conditions: as the theorem states. -/
import Derived.Test.YtbiapfjhdggkpaaDoorT10
namespace Go.Proofs.YtbiapfjhdggkpaaDoor.PA
open Go.RowKit Go.Lib Go.Proofs.YtbiapfjhdggkpaaDoorW.PrintWords Go.Proofs.YtbiapfjhdggkpaaDoorW.PrintLast Go.Proofs.YtbiapfjhdggkpaaDoorW.PrintMore
attribute [local go_sem] max2_int min2_int max_two min_two max_three min_three max_four min_four
set_option linter.unusedVariables false
set_option linter.unusedSimpArgs false
set_option maxHeartbeats 8000000 in
set_option maxRecDepth 100000 in
theorem slices_Insert.end_ (base : Nat) (A0 : Option Addr) (n c : Nat) (cs vs : List Value) (gv c2 : Nat) (curv : Array Value) (w : World) (hbase : base ≤ w.heap.size) (hO : w.ownsRow base 26 4 (.slice A0 n c) n cs) (hV : w.heap[gv]? = some (.cells curv 26 (0, 0))) (hvs : ∀ (j : Nat) (u : Value), vs[j]? = some u → curv[j]? = some u) (hvl : vs.length = 4) (h1v : ∀ u ∈ vs, u.oneCell' = true) (hn : n < 1000000) :
  Calls Tryd.prog 42 #[.slice A0 n c, .int .i64 (n : Int), .slice (some ⟨gv, 0, none⟩) 1 c2] w fun e w' => ∃ v, e = .returned v ∧ w'.ownsRow base 26 4 v (n + 1) (cs ++ vs) ∧ Below base w w' := by
 have hu24 := Tryd.underlying24
 have hu26 := Tryd.underlying26
 have hu3 := Tryd.underlying3
 have mixed : Tryd.prog.follows Departure.mixedOrders = true := by kernel_rfl
 obtain ⟨i0, hi, hz0, hz1, hz2⟩ := info_parts info26
 have HO := Aside0.mk hO
 have HN := Aside0.mk hn
 have hnc : n ≤ c := ownsRow_le hO
 have hc63 : c ≤ 9223372036854775807 := by
  rcases hO.2 with ⟨he, hn⟩ | ⟨g, cap, cur, he, _, _, _, hm, _⟩
  ·injection he; omega
  ·injection he; unfold maxLen at hm; omega
 have hsrc : ∀ (j : Nat) (u : Value), vs[j]? = some u → w.cell? ((⟨gv, 0, none⟩ : Addr).add j) = some u := fun j u hj => by
  rw [add_at, Nat.zero_add, cell_of_row w gv j curv 26 (0, 0) hV]; exact hvs j u hj
 have HS := Aside0.mk hsrc
 clear hO hn hsrc hV hvs
 cases A0 with
 | none =>
  go_enter Tryd.func42, Tryd.ntmps42
  go_wp2_with (at_builtin; refine wpList_append_own _ rfl _ _ 24 rfl base 26 i0 _ 4 40 Tryd.underlying24 hi hz0 hz1 hz2 (by rfl) (by decide) _ _ _ rfl HO.out ⟨gv, 0, none⟩ 1 c2 vs rfl ?_ ?_ ?_ ?_ ?_ ?_ ?_)
  all_goals first | exact hvl | exact HS.out | exact h1v | exact hbase | (have := HN.out; unfold maxLen; omega) | (have := HN.out; omega) | (intro v' w1 hown hgrow _; go_wp2; go_ret; exact ⟨_, rfl, hown, Below.grown (Below.refl _ _) hgrow hbase (fun k hk => own_base HO.out k (by first | exact hk | (simp [Value.ownBlock] at hk; done)))⟩)
 | some ad =>
  obtain ⟨g, rfl⟩ : ∃ g, ad = ⟨g, 0, none⟩ := by
   rcases HO.out.2 with ⟨he, _⟩ | ⟨g, cap, cur, he, _⟩
   ·cases he
   ·injection he with h _ _; injection h with h; exact ⟨g, h⟩
  by_cases hcn : c = n
  ·subst hcn
   go_enter Tryd.func42, Tryd.ntmps42
   go_wp2_with (at_builtin; refine wpList_append_own _ rfl _ _ 24 rfl base 26 i0 _ 4 40 Tryd.underlying24 hi hz0 hz1 hz2 (by rfl) (by decide) _ _ _ rfl HO.out ⟨gv, 0, none⟩ 1 c2 vs rfl ?_ ?_ ?_ ?_ ?_ ?_ ?_)
   all_goals first | exact hvl | exact HS.out | exact h1v | exact hbase | (have := HN.out; unfold maxLen; omega) | (have := HN.out; omega) | (intro v' w1 hown hgrow _; go_wp2; go_ret; exact ⟨_, rfl, hown, Below.grown (Below.refl _ _) hgrow hbase (fun k hk => own_base HO.out k (by first | exact hk | (simp [Value.ownBlock] at hk; done)))⟩)
  ·have hcn' : ¬ (n = c) := fun h => hcn h.symm
   go_enter Tryd.func42, Tryd.ntmps42
   go_wp2_with (at_builtin; refine wpList_append_own _ rfl _ _ 24 rfl base 26 i0 _ 4 40 Tryd.underlying24 hi hz0 hz1 hz2 (by rfl) (by decide) _ _ _ rfl HO.out ⟨gv, 0, none⟩ 1 c2 vs rfl ?_ ?_ ?_ ?_ ?_ ?_ ?_)
   all_goals first | exact hvl | exact HS.out | exact h1v | exact hbase | (have := HN.out; unfold maxLen; omega) | (have := HN.out; omega) | (intro v' w1 hown hgrow _; go_wp2; go_ret; exact ⟨_, rfl, hown, Below.grown (Below.refl _ _) hgrow hbase (fun k hk => own_base HO.out k (by first | exact hk | (simp [Value.ownBlock] at hk; done)))⟩)
set_option maxHeartbeats 8000000 in
set_option maxRecDepth 100000 in
theorem slices_Insert.grow_ (base g n c i : Nat) (cs vs : List Value) (gv c2 : Nat) (curv cur : Array Value) (w : World) (hbase : base ≤ w.heap.size) (hg : w.heap[g]? = some (.cells cur 26 (0, 0))) (hcl : cs.length = n * 4) (hcs : cur.toList.take (n * 4) = cs) (hV : w.heap[gv]? = some (.cells curv 26 (0, 0))) (hvs : ∀ (j : Nat) (u : Value), vs[j]? = some u → curv[j]? = some u) (hvl : vs.length = 4) (h1v : ∀ u ∈ vs, u.oneCell' = true) (h1c : ∀ u ∈ cs, u.oneCell' = true) (hn : n < 1000000) (hi : i < n) (hnc : n ≤ c) (hroom : c < n + 1) :
  Calls Tryd.prog 42 #[.slice (some ⟨g, 0, none⟩) n c, .int .i64 (i : Int), .slice (some ⟨gv, 0, none⟩) 1 c2] w fun e w' => ∃ v, e = .returned v ∧ w'.ownsRow base 26 4 v (n + 1) (cs.take (i * 4) ++ vs ++ cs.drop (i * 4)) ∧ Below base w w' := by
 have hu24 := Tryd.underlying24
 have hu26 := Tryd.underlying26
 have hu3 := Tryd.underlying3
 have mixed : Tryd.prog.follows Departure.mixedOrders = true := by kernel_rfl
 obtain ⟨i0, hi0, hz0, hzs, hzb⟩ := info_parts info26
 have hz2 : ¬ ((i : Int) = (n : Int)) := by omega
 have hz3 : (c : Int) < (n : Int) + 1 := by omega
 have hsz : (Tryd.prog.info? 26).map (·.size) = some 4 := by rw [hi0]; simp [hzs]
 have hkk : (n : Int) + 1 - (i : Int) = ((n + 1 - i : Nat) : Int) := by omega
 have hik : i + (n + 1 - i) = n + 1 := by omega
 have hgl : g < w.heap.size := (Array.getElem?_eq_some_iff.1 hg).1
 have hvw : gv < w.heap.size := (Array.getElem?_eq_some_iff.1 hV).1
 have hcell : ∀ (j : Nat) (u : Value), cs[j]? = some u → w.cell? ⟨g, j, none⟩ = some u := fun j u hj => by
  rw [cell_of_row w g j cur 26 (0, 0) hg, ← Array.getElem?_toList]
  rw [← hcs, List.getElem?_take] at hj
  split at hj
  ·exact hj
  ·cases hj
 have hvcell : ∀ (j : Nat) (u : Value), vs[j]? = some u → w.cell? ⟨gv, j, none⟩ = some u := fun j u hj => by
  rw [cell_of_row w gv j curv 26 (0, 0) hV]; exact hvs j u hj
 have hold : (Builtin.firstCells i0.size i (.slice (some ⟨g, 0, none⟩) i c)).run Tryd.prog w.drew = .ok (cs.take (i * 4)).toArray w.drew := by
  rw [hzs]
  exact run_firstCells_some w.drew 4 i ⟨g, 0, none⟩ i c (cs.take (i * 4)) (by rw [List.length_take, hcl]; omega) (fun j v hj => by
   rw [add_at, Nat.zero_add]
   rw [List.getElem?_take] at hj
   split at hj
   ·exact hcell j v hj
   ·cases hj)
 obtain ⟨z, hz⟩ : ∃ z : Array Value, z = (Value.agg #[(.string ⟨#[]⟩), (.int .i64 0), (.int .i64 0), (.int .i64 0)]).cells := ⟨_, rfl⟩
 have hzl : z.size = 4 := by rw [hz]; rfl
 have hrz : ∀ ty, (Builtin.append_ #[24, 3] ty #[.slice (some ⟨g, 0, none⟩) i c, .int .i64 ((n : Int) + 1 - (i : Int))]).run Tryd.prog w =
   .ok (.slice (some ⟨w.heap.size, 0, none⟩) (n + 1) (grownCap w (n + 1) c 26)) (w.drew.alloc (.cells ((cs.take (i * 4)).toArray ++ Builtin.zeroCells z (n + 1 - i) ++ Builtin.zeroCells z (grownCap w (n + 1) c 26 - (n + 1))) 26)) := fun ty => by
  have h := Lib.run_append_grow_zeros w 24 3 ty 26 i0 _ .i64 .i64 Tryd.underlying24 Tryd.underlying3 hi0 hz0 (some ⟨g, 0, none⟩) i c (cs.take (i * 4)) hold (n + 1 - i) (by omega) (by omega) (by omega) (by omega) (by rw [hzb]; omega) (by rw [hzb, hik]; exact growslice_fits hroom (by omega))
  rw [hik] at h
  rw [hkk, hz]
  exact h
 obtain ⟨G, hG⟩ : ∃ G, G = grownCap w (n + 1) c 26 := ⟨_, rfl⟩
 obtain ⟨ROW, hROW⟩ : ∃ ROW : Array Value, ROW = (cs.take (i * 4)).toArray ++ Builtin.zeroCells z (n + 1 - i) ++ Builtin.zeroCells z (G - (n + 1)) := ⟨_, rfl⟩
 rw [← hG] at hrz
 rw [← hROW] at hrz
 have hGn : n + 1 ≤ G := by rw [hG]; exact grownCap_ge w _ _ _
 have hGm : G ≤ maxLen := by rw [hG]; exact grownCap_le_maxLen w (n + 1) c 26 (by unfold maxLen; omega)
 have hG63 : G ≤ 9223372036854775807 := by unfold maxLen at hGm; omega
 have hRl : ROW.size = G * 4 := by
  rw [hROW]
  simp only [Array.size_append, List.size_toArray, size_zeroCells, hzl, List.length_take, hcl]
  omega
 have hGi : ¬ (G = i) := by omega
 have hGim : ¬ (G = i + 1) := by omega
 have hci : ¬ (c = i) := by omega
 have hw1 : IntKind.i64.wrap ((i : Int) + 1) = (i : Int) + 1 := by rw [IntKind.wrap_i64]; omega
 have hw2 : IntKind.i64.wrap ((n : Int) + 1) = (n : Int) + 1 := by rw [IntKind.wrap_i64]; omega
 have hw3 : IntKind.i64.wrap ((n : Int) + 1 - (i : Int)) = (n : Int) + 1 - (i : Int) := by rw [IntKind.wrap_i64]; omega
 have hb1 : (0 : Int) ≤ (i : Int) + 1 := by omega
 have hin : i ≤ n := by omega
 have hin1 : i ≤ n + 1 := by omega
 have htn : ((i : Int) + 1).toNat = i + 1 := by omega
 have hb3 : (i : Int) ≤ (n : Int) := by omega
 have hW1h : (w.drew.alloc (.cells ROW 26)).heap[w.heap.size]? = some (.cells ROW 26 (0, 0)) := heap_alloc_new w.drew _
 obtain ⟨RA, hRA⟩ : ∃ RA : Array Value, RA = (ROW.toList.take (i * 4) ++ vs ++ ROW.toList.drop (i * 4 + vs.length)).toArray := ⟨_, rfl⟩
 have hRAl : RA.size = G * 4 := by
  rw [hRA]
  simp only [List.size_toArray, List.length_append, List.length_take, List.length_drop, Array.length_toList, hRl, hvl]
  have : i * 4 + 4 ≤ G * 4 := by omega
  omega
 have hcpA : ∀ (W : World), (∀ k, k < w.heap.size → W.heap[k]? = w.heap[k]?) → W.heap[w.heap.size]? = some (.cells ROW 26 (0, 0)) → ∀ ty dc, (Builtin.copy_ #[24, 24] ty #[.slice (some ⟨w.heap.size, i * 4, none⟩) (n + 1 - i) dc, .slice (some ⟨gv, 0, none⟩) 1 c2]).run Tryd.prog W = .ok (goInt 1) (W.setRow w.heap.size RA) := fun W hWo hWh ty dc => by
  have hm : Nat.min 1 (n + 1 - i) = 1 := Nat.min_eq_left (by omega)
  have h := run_copy_rowS (P := Tryd.prog) W 24 24 ty 26 4 w.heap.size (i * 4) (n + 1 - i) dc ⟨gv, 0, none⟩ 1 c2 ROW 26 vs Tryd.underlying24 hsz hWh (by rw [hm, hvl]) (fun j u hj => by
   rw [add_at, Nat.zero_add, cell_of_row W gv j curv 26 (0, 0) ((hWo gv hvw).trans hV)]; exact hvs j u hj) (by rw [hvl, hRl]; omega) h1v
  rw [hm, ← hRA] at h
  exact h
 obtain ⟨RB, hRB⟩ : ∃ RB : Array Value, RB = (RA.toList.take ((i + 1) * 4) ++ cs.drop (i * 4) ++ RA.toList.drop ((i + 1) * 4 + (cs.drop (i * 4)).length)).toArray := ⟨_, rfl⟩
 have hdl : (cs.drop (i * 4)).length = (n - i) * 4 := by rw [List.length_drop, hcl]; omega
 have hcpB : ∀ (W : World), (∀ k, k < w.heap.size → W.heap[k]? = w.heap[k]?) → W.heap[w.heap.size]? = some (.cells RA 26 (0, 0)) → ∀ ty dc sc, (Builtin.copy_ #[24, 24] ty #[.slice (some ⟨w.heap.size, (i + 1) * 4, none⟩) (n + 1 - (i + 1)) dc, .slice (some ⟨g, i * 4, none⟩) (n - i) sc]).run Tryd.prog W = .ok (goInt ((n - i : Nat) : Int)) (W.setRow w.heap.size RB) := fun W hWo hWh ty dc sc => by
  have hm : Nat.min (n - i) (n + 1 - (i + 1)) = n - i := Nat.min_eq_left (by omega)
  have h := run_copy_rowS (P := Tryd.prog) W 24 24 ty 26 4 w.heap.size ((i + 1) * 4) (n + 1 - (i + 1)) dc ⟨g, i * 4, none⟩ (n - i) sc RA 26 (cs.drop (i * 4)) Tryd.underlying24 hsz hWh (by rw [hm, hdl]) (fun j u hj => by
   rw [add_at]
   rw [List.getElem?_drop] at hj
   have h1 := hcell _ u hj
   rw [cell_of_row w g _ cur 26 (0, 0) hg] at h1
   rw [cell_of_row W g _ cur 26 (0, 0) ((hWo g hgl).trans hg)]
   exact h1) (by rw [hdl, hRAl]; omega) (fun u hu => h1c u (List.mem_of_mem_drop hu))
  rw [hm, ← hRB] at h
  exact h
 have hfin : ∀ W : World, W.heap[w.heap.size]? = some (.cells RB 26 (0, 0)) → W.ownsRow base 26 4 (.slice (some ⟨w.heap.size, 0, none⟩) (n + 1) G) (n + 1) (cs.take (i * 4) ++ vs ++ cs.drop (i * 4)) := fun W hWh => by
  have hRt : ROW.toList.take (i * 4) = cs.take (i * 4) := by
   rw [hROW]
   simp only [Array.toList_append, List.append_assoc]
   exact List.take_left' (by rw [List.length_take, hcl]; omega)
  have hRAt : RA.toList.take ((i + 1) * 4) = cs.take (i * 4) ++ vs := by
   rw [hRA, List.toList_toArray, hRt]
   exact List.take_left' (by rw [List.length_append, List.length_take, hcl, hvl]; omega)
  refine ⟨?_, .inr ⟨w.heap.size, G, RB, rfl, hbase, hWh, hGn, hGm, ?_, ?_⟩⟩
  ·rw [List.length_append, List.length_append, List.length_take, hdl, hcl, hvl]; omega
  ·rw [hRB]
   simp only [List.size_toArray, List.length_append, List.length_take, List.length_drop, Array.length_toList, hRAl, hcl]
   omega
  ·rw [hRB, List.toList_toArray, hRAt]
   exact List.take_left' (by rw [List.length_append, List.length_append, List.length_take, hdl, hcl, hvl]; omega)
 obtain ⟨W1, hW1⟩ : ∃ W1, W1 = (w.alloc (.cells ROW 26)).drew := ⟨_, rfl⟩
 have hW1o : ∀ k, k < w.heap.size → W1.heap[k]? = w.heap[k]? := fun k hk => by rw [hW1]; exact heap_alloc_old w.drew _ hk
 have hW1n : W1.heap[w.heap.size]? = some (.cells ROW 26 (0, 0)) := by rw [hW1]; exact hW1h
 have hA := hcpA W1 hW1o hW1n
 obtain ⟨W2, hW2⟩ : ∃ W2, W2 = (W1.setRow w.heap.size RA).drew := ⟨_, rfl⟩
 have hW2o : ∀ k, k < w.heap.size → W2.heap[k]? = w.heap[k]? := fun k hk => by rw [hW2]; exact (setRow_other W1 w.heap.size k RA (by omega)).trans (hW1o k hk)
 have hW2n : W2.heap[w.heap.size]? = some (.cells RA 26 (0, 0)) := by rw [hW2]; exact setRow_heap W1 w.heap.size ROW RA 26 (0, 0) hW1n
 have hB := hcpB W2 hW2o hW2n
 have hF := hfin (W2.setRow w.heap.size RB) (setRow_heap W2 w.heap.size RA RB 26 (0, 0) hW2n)
 have hBel : Below base w (W2.setRow w.heap.size RB) := by
  refine ⟨?_, ?_, ?_, ?_, ?_⟩
  ·rw [hW2, hW1]; rfl
  ·rw [hW2, hW1]; rfl
  ·rw [hW2, hW1]; rfl
  ·rw [hW2, hW1]; simp [World.setRow]
  ·intro k hk
   exact (setRow_other W2 w.heap.size k RB (by omega)).trans (hW2o k (by omega))
 clear hkk hik hold hROW hG hRA hRB hcpA hcpB hfin hW1h hW1o hW1n hW2o hW2n hcell hvcell
 subst hW2
 subst hW1
 go_enter Tryd.func42, Tryd.ntmps42
 go_wp2_with (first
    | (at_builtin; refine Lib.wpList_append_run _ rfl _ _ _ _ rfl _ _ rfl rfl _ _ (hrz _) ?_)
    | (at_builtin; refine wpList_copy_runI _ rfl _ _ 24 24 rfl _ _ rfl rfl (hA _ _) ?_))
 go_region_law_o (refine step_copy_runI rfl _ _ 24 24 rfl (.slice (some ⟨w.heap.size, (i + 1) * 4, none⟩) (n + 1 - (i + 1)) (G - (i + 1))) (.slice (some ⟨g, i * 4, none⟩) (n - i) (c - i)) (by simp [Act.eval, Act.put]) (by simp [Act.eval, Act.put]) (hB 3 (G - (i + 1)) (c - i)) ?_)
 go_wp2
 go_ret
 exact ⟨_, rfl, hF, hBel⟩
end Go.Proofs.YtbiapfjhdggkpaaDoor.PA
