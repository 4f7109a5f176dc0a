/- slices.Insert at a slice of resources that the call owns, within its capacity; and all roads together. Conditions: as the theorems state. -/
import Derived.Test.YtbiapfjhdggkpaaDoorT11
namespace Go.Proofs.YtbiapfjhdggkpaaDoor.PA
open Go.RowKit Go.Lib Go.Proofs.YtbiapfjhdggkpaaDoorW.PrintWords Go.Proofs.YtbiapfjhdggkpaaDoorW.PrintLast Go.Proofs.YtbiapfjhdggkpaaDoorW.PrintMore
attribute [local go_sem] max2_int min2_int max_two min_two max_three min_three max_four min_four
set_option linter.unusedVariables false
set_option linter.unusedSimpArgs false
set_option maxHeartbeats 8000000 in
set_option maxRecDepth 100000 in
theorem slices_Insert.shift_ (base g n c i : Nat) (cs vs : List Value) (gv c2 : Nat) (curv cur : Array Value) (w : World) (hbase : base ≤ g) (hg : w.heap[g]? = some (.cells cur 26 (0, 0))) (hcl : cs.length = n * 4) (hcs : cur.toList.take (n * 4) = cs) (hcur : cur.size = c * 4) (hcm : c ≤ maxLen) (hV : w.heap[gv]? = some (.cells curv 26 (0, 0))) (hvn : curv.size ≠ 0) (hne : gv ≠ g) (hvs : ∀ (j : Nat) (u : Value), vs[j]? = some u → curv[j]? = some u) (hvl : vs.length = 4) (h1v : ∀ u ∈ vs, u.oneCell' = true) (h1c : ∀ u ∈ cs, u.oneCell' = true) (hn : n < 1000000) (hi : i < n) (hroom : n + 1 ≤ c) :
  Calls Tryd.prog 42 #[.slice (some ⟨g, 0, none⟩) n c, .int .i64 (i : Int), .slice (some ⟨gv, 0, none⟩) 1 c2] w fun e w' => ∃ v, e = .returned v ∧ w'.ownsRow base 26 4 v (n + 1) (cs.take (i * 4) ++ vs ++ cs.drop (i * 4)) ∧ Below base w w' := by
 have hu24 := Tryd.underlying24
 have hu26 := Tryd.underlying26
 have hu3 := Tryd.underlying3
 have mixed : Tryd.prog.follows Departure.mixedOrders = true := by kernel_rfl
 obtain ⟨i0, hi0, hz0, hzs, hzb⟩ := info_parts info26
 have hc63 : c ≤ 9223372036854775807 := by unfold maxLen at hcm; omega
 have hz2 : ¬ ((i : Int) = (n : Int)) := by omega
 have hz3 : ¬ ((c : Int) < (n : Int) + 1) := by omega
 have hsz : (Tryd.prog.info? 26).map (·.size) = some 4 := by rw [hi0]; simp [hzs]
 have hdl : (cs.drop (i * 4)).length = (n - i) * 4 := by rw [List.length_drop, hcl]; omega
 have hcell : ∀ (j : Nat) (u : Value), cs[j]? = some u → cur[j]? = some u := fun j u hj => by
  rw [← Array.getElem?_toList]
  rw [← hcs, List.getElem?_take] at hj
  split at hj
  ·exact hj
  ·cases hj
 have hov : ∀ lb cb, (callFunc 57 #[.slice (some ⟨gv, 0, none⟩) 1 c2, .slice (some ⟨g, (i + 1) * 4, none⟩) lb cb]).run Tryd.prog w = .ok (.value (.bool false)) w := fun lb cb => by
  rw [run_callFunc_extern Tryd.func57 (by kernel_rfl) (by kernel_rfl) (by kernel_rfl) (e := Extern.SlicesOverlaps.overlaps #[24, 24] #[4]) (by kernel_rfl),
   Lib.run_overlaps_apart w 24 4 26 Tryd.underlying24 4 Tryd.sizeOf26 ⟨gv, 0, none⟩ ⟨g, (i + 1) * 4, none⟩ 1 c2 lb cb hne 26 26 curv.size cur.size (by simp [World.shape?, hV]) (by simp [World.shape?, hg]) (by omega) (by simp [World.frozen?, hV]) (by simp [World.frozen?, hV])]
  rfl
 obtain ⟨RA, hRA⟩ : ∃ RA : Array Value, RA = (cur.toList.take ((i + 1) * 4) ++ cs.drop (i * 4) ++ cur.toList.drop ((i + 1) * 4 + (cs.drop (i * 4)).length)).toArray := ⟨_, rfl⟩
 have hRAl : RA.size = c * 4 := by
  rw [hRA]
  simp only [List.size_toArray, List.length_append, List.length_take, List.length_drop, Array.length_toList, hcur, hcl]
  omega
 obtain ⟨W1, hW1⟩ : ∃ W1, W1 = w.drew := ⟨_, rfl⟩
 have hW1g : W1.heap[g]? = some (.cells cur 26 (0, 0)) := by rw [hW1]; exact hg
 have hA : ∀ ty dc sc, (Builtin.copy_ #[24, 24] ty #[.slice (some ⟨g, (i + 1) * 4, none⟩) (n - i) dc, .slice (some ⟨g, i * 4, none⟩) (n + 1 - i) sc]).run Tryd.prog W1 = .ok (goInt ((n - i : Nat) : Int)) (W1.setRow g RA) := fun ty dc sc => by
  have hm : Nat.min (n + 1 - i) (n - i) = n - i := Nat.min_eq_right (by omega)
  have h := run_copy_rowS (P := Tryd.prog) W1 24 24 ty 26 4 g ((i + 1) * 4) (n - i) dc ⟨g, i * 4, none⟩ (n + 1 - i) sc cur 26 (cs.drop (i * 4)) Tryd.underlying24 hsz hW1g (by rw [hm, hdl]) (fun j u hj => by
   rw [add_at, cell_of_row W1 g _ cur 26 (0, 0) hW1g]
   rw [List.getElem?_drop] at hj
   exact hcell _ u hj) (by rw [hdl, hcur]; omega) (fun u hu => h1c u (List.mem_of_mem_drop hu))
  rw [hm, ← hRA] at h
  exact h
 obtain ⟨W2, hW2⟩ : ∃ W2, W2 = W1.setRow g RA := ⟨_, rfl⟩
 have hW2g : W2.heap[g]? = some (.cells RA 26 (0, 0)) := by rw [hW2]; exact setRow_heap W1 g cur RA 26 (0, 0) hW1g
 have hW2o : ∀ k, k ≠ g → W2.heap[k]? = w.heap[k]? := fun k hk => by rw [hW2]; exact (setRow_other W1 g k RA hk).trans (by rw [hW1]; rfl)
 obtain ⟨RB, hRB⟩ : ∃ RB : Array Value, RB = (RA.toList.take (i * 4) ++ vs ++ RA.toList.drop (i * 4 + vs.length)).toArray := ⟨_, rfl⟩
 have hB : ∀ ty dc, (Builtin.copy_ #[24, 24] ty #[.slice (some ⟨g, i * 4, none⟩) (n + 1 - i) dc, .slice (some ⟨gv, 0, none⟩) 1 c2]).run Tryd.prog W2 = .ok (goInt 1) (W2.setRow g RB) := fun ty dc => by
  have hm : Nat.min 1 (n + 1 - i) = 1 := Nat.min_eq_left (by omega)
  have h := run_copy_rowS (P := Tryd.prog) W2 24 24 ty 26 4 g (i * 4) (n + 1 - i) dc ⟨gv, 0, none⟩ 1 c2 RA 26 vs Tryd.underlying24 hsz hW2g (by rw [hm, hvl]) (fun j u hj => by
   rw [add_at, Nat.zero_add, cell_of_row W2 gv j curv 26 (0, 0) ((hW2o gv hne).trans hV)]; exact hvs j u hj) (by rw [hvl, hRAl]; omega) h1v
  rw [hm, ← hRB] at h
  exact h
 have hF : (W2.setRow g RB).ownsRow base 26 4 (.slice (some ⟨g, 0, none⟩) (n + 1) c) (n + 1) (cs.take (i * 4) ++ vs ++ cs.drop (i * 4)) := by
  have hct : cur.toList.take (i * 4) = cs.take (i * 4) := by rw [← hcs, List.take_take, Nat.min_eq_left (by omega)]
  have hl1 : (cur.toList.take ((i + 1) * 4)).length = (i + 1) * 4 := by rw [List.length_take, Array.length_toList, hcur]; omega
  have hRAt : RA.toList.take (i * 4) = cs.take (i * 4) := by
   rw [hRA, List.toList_toArray, List.append_assoc, List.take_append_of_le_length (by rw [hl1]; omega), List.take_take, Nat.min_eq_left (by omega), hct]
  have hRAd : RA.toList.drop (i * 4 + 4) = cs.drop (i * 4) ++ cur.toList.drop ((i + 1) * 4 + (cs.drop (i * 4)).length) := by
   rw [hRA, List.toList_toArray, List.append_assoc]
   exact List.drop_left' (by rw [hl1]; omega)
  refine ⟨?_, .inr ⟨g, c, RB, rfl, hbase, setRow_heap W2 g RA RB 26 (0, 0) hW2g, hroom, hcm, ?_, ?_⟩⟩
  ·rw [List.length_append, List.length_append, List.length_take, hdl, hcl, hvl]; omega
  ·rw [hRB]
   simp only [List.size_toArray, List.length_append, List.length_take, List.length_drop, Array.length_toList, hRAl, hvl]
   omega
  ·rw [hRB, List.toList_toArray, hRAt, hvl, hRAd, ← List.append_assoc]
   exact List.take_left' (by rw [List.length_append, List.length_append, List.length_take, hdl, hcl, hvl]; omega)
 have hBel : Below base w (W2.setRow g RB) := by
  refine ⟨?_, ?_, ?_, ?_, ?_⟩
  ·rw [hW2, hW1]; rfl
  ·rw [hW2, hW1]; rfl
  ·rw [hW2, hW1]; rfl
  ·rw [hW2, hW1]; simp [World.setRow]
  ·intro k hk
   exact (setRow_other W2 g k RB (by omega)).trans (hW2o k (by omega))
 have hGi : ¬ (c = i) := by omega
 have hGim : ¬ (c = i + 1) := by omega
 have hw1 : IntKind.i64.wrap ((i : Int) + 1) = (i : Int) + 1 := by rw [IntKind.wrap_i64]; omega
 have hw2 : IntKind.i64.wrap ((n : Int) + 1) = (n : Int) + 1 := by rw [IntKind.wrap_i64]; omega
 have hb1 : (0 : Int) ≤ (i : Int) + 1 := by omega
 have hb1n : (0 : Int) ≤ (n : Int) + 1 := by omega
 have hb2 : (n : Int) + 1 ≤ (c : Int) := by omega
 have hin : i ≤ n := by omega
 have hin1 : i ≤ n + 1 := by omega
 have hin2 : (i : Int) ≤ (n : Int) + 1 := by omega
 have htn : ((i : Int) + 1).toNat = i + 1 := by omega
 have htm : ((n : Int) + 1).toNat = n + 1 := by omega
 clear hW1g hW2g hW2o hRA hRB hcell hRAl
 subst hW2
 subst hW1
 go_enter Tryd.func42, Tryd.ntmps42
 go_wp2_with (simp only [hov])
 go_region_law_o (refine step_copy_runI rfl _ _ 24 24 rfl _ _ (by simp [Act.eval, Act.put]) (by simp [Act.eval, Act.put]) (hA _ _ _) ?_)
 go_wp2_with (at_builtin; refine wpList_copy_runI _ rfl _ _ 24 24 rfl _ _ rfl rfl (hB _ _) ?_)
 go_ret
 exact ⟨_, rfl, hF, hBel⟩
/-- slices.Insert(l, i, x), l owned, the literal in a block of its own. -/
theorem slices_Insert.calls (base base2 : Nat) (v1 v2 : Value) (l : List S26) (x : S26) (i : Int) (ok1 ok2 : Nat → Prop) (w : World) (hbase : base ≤ w.heap.size) (h1 : Kd.R k26 26 w base ok1 v1 l) (h2 : Kd.R k26 26 w base2 ok2 v2 [x]) (hne : ∀ g, v1.ownBlock = some g → v2.ownBlock ≠ some g) (hi0 : 0 ≤ i) (hi1 : i ≤ l.length) (hn : l.length < 1000000) :
  Calls Tryd.prog 42 #[v1, .int .i64 i, v2] w fun e w' => ∃ v, e = .returned v ∧ Kd.R k26 26 w' base (fun _ => True) v (l.take i.toNat ++ [x] ++ l.drop i.toNat) ∧ Below base w w' := by
 obtain ⟨j, rfl⟩ : ∃ j : Nat, i = (j : Int) := ⟨i.toNat, by omega⟩
 rw [Int.toNat_natCast]
 have o1 := R26_own h1
 have o2 := R26_own h2
 have hf : ∀ w' v, w'.ownsRow base 26 4 v (l.length + 1) ((flat26 l).take (j * 4) ++ flat26 [x] ++ (flat26 l).drop (j * 4)) → Kd.R k26 26 w' base (fun _ => True) v (l.take j ++ [x] ++ l.drop j) := fun w' v h => by
  refine R26_of (fun _ _ => trivial) ?_
  rw [flat26_take l j (by omega), flat26_drop l j (by omega), ← flat26_append, ← flat26_append] at h
  rw [show (l.take j ++ [x] ++ l.drop j).length = l.length + 1 by rw [List.length_append, List.length_append, List.length_take, List.length_drop]; simp only [List.length_singleton]; omega]
  exact h
 rcases o2.2 with ⟨_, h0⟩ | ⟨gv, c2, curv, rfl, _, hV, hc1, _, hcv, htv⟩
 ·exact absurd h0 (by simp)
 have hvs : ∀ (q : Nat) (u : Value), (flat26 [x])[q]? = some u → curv[q]? = some u := fun q u hq => by
  rw [← htv, List.getElem?_take] at hq
  split at hq
  ·rwa [← Array.getElem?_toList]
  ·cases hq
 have hvl : (flat26 [x]).length = 4 := rfl
 have h1c : ([x] : List S26).length ≤ c2 := hc1
 have hvn : curv.size ≠ 0 := by rw [hcv]; simp at h1c; omega
 by_cases hjn : j = l.length
 ·rcases o1.2 with ⟨rfl, h0⟩ | ⟨g, c, cur, rfl, hbg, hg, hnc, hcm, hcs, htk⟩
  ·have e := slices_Insert.end_ base none 0 0 (flat26 l) (flat26 [x]) gv c2 curv w hbase (by rw [h0] at o1; exact o1) hV hvs hvl (flat26_one _) (by omega)
   rw [hjn, h0]
   refine e.mono ?_
   rintro e w' ⟨v, rfl, ho, hb⟩
   refine ⟨v, rfl, ?_, hb⟩
   have := hf w' v (by rw [hjn, List.take_of_length_le (by rw [flat26_length]; exact Nat.le_refl _), List.drop_of_length_le (by rw [flat26_length]; exact Nat.le_refl _), List.append_nil, h0]; exact ho)
   rwa [hjn, h0] at this
  ·have e := slices_Insert.end_ base (some ⟨g, 0, none⟩) l.length c (flat26 l) (flat26 [x]) gv c2 curv w hbase o1 hV hvs hvl (flat26_one _) hn
   rw [hjn]
   refine e.mono ?_
   rintro e w' ⟨v, rfl, ho, hb⟩
   refine ⟨v, rfl, ?_, hb⟩
   have := hf w' v (by rw [hjn, List.take_of_length_le (by rw [flat26_length]; exact Nat.le_refl _), List.drop_of_length_le (by rw [flat26_length]; exact Nat.le_refl _), List.append_nil]; exact ho)
   rwa [hjn] at this
 ·rcases o1.2 with ⟨rfl, h0⟩ | ⟨g, c, cur, rfl, hbg, hg, hnc, hcm, hcs, htk⟩
  ·exact absurd h0 (by omega)
  have hgv : gv ≠ g := fun e => hne g rfl (by rw [e]; rfl)
  by_cases hroom : l.length + 1 ≤ c
  ·refine (slices_Insert.shift_ base g l.length c j (flat26 l) (flat26 [x]) gv c2 curv cur w hbg hg (flat26_length l) htk hcs hcm hV hvn hgv hvs hvl (flat26_one _) (flat26_one _) hn (by omega) hroom).mono ?_
   rintro e w' ⟨v, rfl, ho, hb⟩
   exact ⟨v, rfl, hf w' v ho, hb⟩
  ·refine (slices_Insert.grow_ base g l.length c j (flat26 l) (flat26 [x]) gv c2 curv cur w hbase hg (flat26_length l) htk hV hvs hvl (flat26_one _) (flat26_one _) hn (by omega) hnc (by omega)).mono ?_
   rintro e w' ⟨v, rfl, ho, hb⟩
   exact ⟨v, rfl, hf w' v ho, hb⟩
end Go.Proofs.YtbiapfjhdggkpaaDoor.PA
