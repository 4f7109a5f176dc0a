/- slices.Delete of one element, at a slice of resources that the call owns. Conditions: as the theorem states. -/
import Derived.Test.YtbiapfjhdggkpaaDoorT10
namespace Go.Proofs.YtbiapfjhdggkpaaDoor.PA
open Go.RowKit Go.Lib Go.Proofs.YtbiapfjhdggkpaaDoorW.PrintWords Go.Proofs.YtbiapfjhdggkpaaDoorW.PrintLast Go.Proofs.YtbiapfjhdggkpaaDoorW.PrintMore
attribute [local go_sem] max2_int min2_int max_two min_two max_three min_three max_four min_four
set_option linter.unusedVariables false
set_option linter.unusedSimpArgs false
theorem step_append_runI {P : Program} {ops : Array Oper} {o : Oper} {a : Act} {w : World} {K : Act → World → Prop} {Q : Exit → Act → World → Prop} {E : Prop}
  (hg : o.guard = none) (d x : Operand) (dT sT : TypeId) (hop : o.op = Op.call { callee := Callee.builtin Builtin.append, args := #[d, x], argTypes := #[dT, sT] })
  (v u : Value) (hd : a.eval d = v) (hx : a.eval x = u) {v' : Value} {w' : World} (hr : (Builtin.append_ #[dT, sT] o.type #[v, u]).run P w = .ok v' w') (hK : K (a.put o.dst v') w') :
  if Region.wanted o (yielded ops a.tmps) = true then Oper.wp P o a w K Q else E := by
 have hw : Region.wanted o (yielded ops a.tmps) = true := by simp [Region.wanted, hg]
 rw [if_pos hw]
 unfold Oper.wp
 simp [execOp, hop, resolve, invoke, builtin, hd, hx, hr, Result.andThen]
 exact hK
theorem wpList_clear_runI {P : Program} (w : World) {ops : Array Oper} {rest : List Oper} {o : Oper} {a : Act} {Q : Exit → Act → World → Prop} (hgd : o.guard = none) (d : Operand) (t : TypeId)
  (ho : o.op = .call { callee := .builtin .clear, args := #[d], argTypes := #[t] }) (v : Value) (hd : a.eval d = v) {v' : Value} {w' : World}
  (hr : (Builtin.clear_ #[t] o.type #[v]).run P w = .ok v' w') (h : wpList P ops Q rest (a.put o.dst v') w') : wpList P ops Q (o :: rest) a w :=
 wpList_plain hgd fun K hK => by
  unfold Oper.wp execOp
  simp only [ho, resolve, invoke, builtin, Sem.run_bind, Sem.run_pure, Result.andThen_ok, List.map_toArray, List.map_cons, List.map_nil, hd, hr]
  exact hK _ _ h
def zero26 : S26 := ⟨⟨#[]⟩, 0, 0, 0⟩
theorem run_clear26 (w : World) (ty : TypeId) (g o c : Nat) (cur : Array Value) (hg : w.heap[g]? = some (.cells cur 26 (0, 0))) (hfit : o + 4 ≤ cur.size) :
  (Builtin.clear_ #[24] ty #[.slice (some ⟨g, o, none⟩) 1 c]).run Tryd.prog w = .ok (.tuple #[]) (w.setRow g (cur.toList.take o ++ cs26 zero26 ++ cur.toList.drop (o + (cs26 zero26).length)).toArray) := by
 have hst := run_storeCells_at Tryd.prog g o 26 (cs26 zero26) 0 cur w hg (by simpa [cs26] using hfit) (by intro u hu; exact flat26_one [zero26] u (by rw [flat26, flat26, List.append_nil]; exact hu))
 simp only [Nat.add_zero] at hst
 have hz : (Builtin.zeroCells (Value.agg #[(.string ⟨#[]⟩), (.int .i64 0), (.int .i64 0), (.int .i64 0)]).cells 1).toList = cs26 zero26 := by simp [Builtin.zeroCells, Value.cells, cs26, zero26]; rfl
 have hv := Tryd.zeroValue26
 simp [Builtin.clear_, run_underlying Tryd.underlying24, hv, hz, hst]
set_option maxHeartbeats 8000000 in
set_option maxRecDepth 100000 in
theorem slices_Delete.row_ (base g n c i : Nat) (cs : List Value) (cur : Array Value) (w : World) (hbase : base ≤ g) (hg : w.heap[g]? = some (.cells cur 26 (0, 0))) (hcl : cs.length = n * 4) (hcs : cur.toList.take (n * 4) = cs) (hcur : cur.size = c * 4) (hcm : c ≤ maxLen) (h1c : ∀ u ∈ cs, u.oneCell' = true) (hn : n < 1000000) (hi : i < n) (hnc : n ≤ c) :
  Calls Tryd.prog 44 #[.slice (some ⟨g, 0, none⟩) n c, .int .i64 (i : Int), .int .i64 ((i : Int) + 1)] w fun e w' => ∃ v, e = .returned v ∧ v.ownBlock = some g ∧ w'.ownsRow base 26 4 v (n - 1) (cs.take (i * 4) ++ cs.drop ((i + 1) * 4)) ∧ Below base w w' := by
 have hu24 := Tryd.underlying24
 have hu26 := Tryd.underlying26
 have hu3 := Tryd.underlying3
 have mixed : Tryd.prog.follows Departure.mixedOrders = true := by kernel_rfl
 obtain ⟨i0, hi0, hz0, hzs, hzb⟩ := info_parts info26
 have hc63 : c ≤ 9223372036854775807 := by unfold maxLen at hcm; omega
 have hdl : (cs.drop ((i + 1) * 4)).length = (n - (i + 1)) * 4 := by rw [List.length_drop, hcl]; omega
 have hcell : ∀ (j : Nat) (u : Value), cs[j]? = some u → cur[j]? = some u := fun j u hj => by
  rw [← Array.getElem?_toList]
  rw [← hcs, List.getElem?_take] at hj
  split at hj
  ·exact hj
  ·cases hj
 obtain ⟨W1, hW1⟩ : ∃ W1, W1 = w.drew := ⟨_, rfl⟩
 have hW1g : W1.heap[g]? = some (.cells cur 26 (0, 0)) := by rw [hW1]; exact hg
 obtain ⟨RA, hRA⟩ : ∃ RA : Array Value, RA = (cur.toList.take (i * 4) ++ cs.drop ((i + 1) * 4) ++ cur.toList.drop (i * 4 + (cs.drop ((i + 1) * 4)).length)).toArray := ⟨_, rfl⟩
 have hRAl : RA.size = c * 4 := by
  rw [hRA]
  simp only [List.size_toArray, List.length_append, List.length_take, List.length_drop, Array.length_toList, hcur, hcl]
  omega
 have hA : ∀ (A : Addr), (A = if c = i + 1 then ⟨g, 0, none⟩ else ⟨g, (i + 1) * 4, none⟩) → ∀ ty sc, (Builtin.append_ #[24, 24] ty #[.slice (some ⟨g, 0, none⟩) i c, .slice (some A) (n - (i + 1)) sc]).run Tryd.prog W1 = .ok (.slice (some ⟨g, 0, none⟩) (i + (n - (i + 1))) c) (W1.setRow g RA) := fun A hA ty sc => by
  have h := run_append_room (P := Tryd.prog) W1 24 ty 26 i0 Tryd.underlying24 hi0 g i c cur hW1g A (n - (i + 1)) sc (cs.drop ((i + 1) * 4)) (by rw [hdl, hzs]) (fun j u hj => by
   by_cases hcc : c = i + 1
   ·exfalso
    have hl := (List.getElem?_eq_some_iff.1 hj).1
    rw [hdl] at hl
    omega
   ·rw [hA, if_neg hcc, add_at, cell_of_row W1 g _ cur 26 (0, 0) hW1g]
    rw [List.getElem?_drop] at hj
    exact hcell _ u hj) (fun u hu => h1c u (List.mem_of_mem_drop hu)) (by omega) (by rw [hdl, hzs, hcur]; omega)
  rw [hzs, ← hRA] at h
  exact h
 obtain ⟨W2, hW2⟩ : ∃ W2, W2 = W1.setRow g RA := ⟨_, rfl⟩
 have hW2g : W2.heap[g]? = some (.cells RA 26 (0, 0)) := by rw [hW2]; exact setRow_heap W1 g cur RA 26 (0, 0) hW1g
 have hW2o : ∀ k, k ≠ g → W2.heap[k]? = w.heap[k]? := fun k hk => by rw [hW2]; exact (setRow_other W1 g k RA hk).trans (by rw [hW1]; rfl)
 obtain ⟨RB, hRB⟩ : ∃ RB : Array Value, RB = (RA.toList.take ((n - 1) * 4) ++ cs26 zero26 ++ RA.toList.drop ((n - 1) * 4 + (cs26 zero26).length)).toArray := ⟨_, rfl⟩
 have hB : ∀ ty cc, (Builtin.clear_ #[24] ty #[.slice (some ⟨g, (n - 1) * 4, none⟩) 1 cc]).run Tryd.prog W2 = .ok (.tuple #[]) (W2.setRow g RB) := fun ty cc => by
  rw [hRB]
  exact run_clear26 W2 ty g ((n - 1) * 4) cc RA hW2g (by rw [hRAl]; omega)
 have hF : (W2.setRow g RB).ownsRow base 26 4 (.slice (some ⟨g, 0, none⟩) (n - 1) c) (n - 1) (cs.take (i * 4) ++ cs.drop ((i + 1) * 4)) := by
  have hct : cur.toList.take (i * 4) = cs.take (i * 4) := by rw [← hcs, List.take_take, Nat.min_eq_left (by omega)]
  have hRAt : RA.toList.take ((n - 1) * 4) = cs.take (i * 4) ++ cs.drop ((i + 1) * 4) := by
   rw [hRA, List.toList_toArray, hct]
   exact List.take_left' (by rw [List.length_append, List.length_take, hdl, hcl]; omega)
  have hlen : (cs.take (i * 4) ++ cs.drop ((i + 1) * 4)).length = (n - 1) * 4 := by rw [List.length_append, List.length_take, hdl, hcl]; omega
  refine ⟨hlen, .inr ⟨g, c, RB, rfl, hbase, setRow_heap W2 g RA RB 26 (0, 0) hW2g, by omega, hcm, ?_, ?_⟩⟩
  ·rw [hRB]
   simp only [List.size_toArray, List.length_append, List.length_take, List.length_drop, Array.length_toList, hRAl]
   show min ((n - 1) * 4) (c * 4) + 4 + (c * 4 - ((n - 1) * 4 + 4)) = c * 4
   omega
  ·rw [hRB, List.toList_toArray, hRAt, List.append_assoc]
   exact List.take_left' hlen
 have hBel : Below base w (W2.setRow g RB) := by
  refine ⟨?_, ?_, ?_, ?_, ?_⟩
  ·rw [hW2, hW1]; rfl
  ·rw [hW2, hW1]; rfl
  ·rw [hW2, hW1]; rfl
  ·rw [hW2, hW1]; simp [World.setRow]
  ·intro k hk
   exact (setRow_other W2 g k RB (by omega)).trans (hW2o k (by omega))
 have hw1 : IntKind.i64.wrap ((i : Int) + 1) = (i : Int) + 1 := by rw [IntKind.wrap_i64]; omega
 have hb1 : (0 : Int) ≤ (i : Int) + 1 := by omega
 have hin : i ≤ n := by omega
 have hic : i ≤ c := by omega
 have hin1 : i + 1 ≤ n := hi
 have hin2 : (i : Int) + 1 ≤ (n : Int) := by omega
 have hin3 : (i : Int) + 1 ≤ (c : Int) := by omega
 have hii : (i : Int) ≤ (i : Int) + 1 := by omega
 have htn : ((i : Int) + 1).toNat = i + 1 := by omega
 have hz2 : ¬ ((i : Int) = (i : Int) + 1) := by omega
 have hsum : i + (n - (i + 1)) = n - 1 := by omega
 have hlast : n - (n - 1) = 1 := by omega
 have hn1 : n - 1 ≤ n := by omega
 have hcn : ¬ (c = n - 1) := by omega
 clear hW1g hW2g hW2o hRA hRB hcell hRAl
 subst hW2
 subst hW1
 by_cases hcc : c = i + 1
 ·subst hcc
  obtain rfl : n = i + 1 := by omega
  have hA' := hA ⟨g, 0, none⟩ (by rw [if_pos rfl])
  simp only [Nat.sub_self, Nat.add_zero, Nat.add_sub_cancel] at hA' hB hF
  clear hA
  go_enter Tryd.func44, Tryd.ntmps44
  go_wp2_with fail
  go_region_law_o (refine step_append_runI rfl (.tmp 22) (.tmp 25) 24 24 rfl (.slice (some ⟨g, 0, none⟩) i (i + 1)) (.slice (some ⟨g, 0, none⟩) 0 0) (by simp [Act.eval, Act.put]) (by simp [Act.eval, Act.put]) (hA' 24 0) ?_)
  go_wp2_with (at_builtin; refine wpList_clear_runI _ rfl _ 24 rfl _ rfl (hB _ _) ?_)
  go_ret
  exact ⟨_, rfl, rfl, hF, hBel⟩
 ·have hA' := hA ⟨g, (i + 1) * 4, none⟩ (by rw [if_neg hcc])
  clear hA
  go_enter Tryd.func44, Tryd.ntmps44
  go_wp2_with fail
  go_region_law_o (refine step_append_runI rfl (.tmp 22) (.tmp 25) 24 24 rfl (.slice (some ⟨g, 0, none⟩) i c) (.slice (some ⟨g, (i + 1) * 4, none⟩) (n - (i + 1)) (c - (i + 1))) (by simp [Act.eval, Act.put]) (by simp [Act.eval, Act.put]) (hA' 24 (c - (i + 1))) ?_)
  go_wp2_with (at_builtin; refine wpList_clear_runI _ rfl _ 24 rfl _ rfl (hB _ _) ?_)
  go_ret
  exact ⟨_, rfl, rfl, hF, hBel⟩
/-- slices.Delete(l, i, i+1), l owned. -/
theorem slices_Delete.calls (base : Nat) (v1 : Value) (l : List S26) (i : Int) (ok1 : Nat → Prop) (w : World) (h1 : Kd.R k26 26 w base ok1 v1 l) (hi0 : 0 ≤ i) (hi1 : i < l.length) (hn : l.length < 1000000) :
  Calls Tryd.prog 44 #[v1, .int .i64 i, .int .i64 (i + 1)] w fun e w' => ∃ v, e = .returned v ∧ Kd.R k26 26 w' base (fun _ => True) v (l.take i.toNat ++ l.drop (i + 1).toNat) ∧ Below base w w' := by
 obtain ⟨j, rfl⟩ : ∃ j : Nat, i = (j : Int) := ⟨i.toNat, by omega⟩
 rw [Int.toNat_natCast, show ((j : Int) + 1).toNat = j + 1 by omega]
 have o1 := R26_own h1
 rcases o1.2 with ⟨rfl, h0⟩ | ⟨g, c, cur, rfl, hbg, hg, hnc, hcm, hcs, htk⟩
 ·exact absurd h0 (by omega)
 refine (slices_Delete.row_ base g l.length c j (flat26 l) cur w hbg hg (flat26_length l) htk hcs hcm (flat26_one _) hn (by omega) hnc).mono ?_
 rintro e w' ⟨v, rfl, _, ho, hb⟩
 refine ⟨v, rfl, R26_of (fun _ _ => trivial) ?_, hb⟩
 rw [flat26_take l j (by omega), flat26_drop l (j + 1) (by omega), ← flat26_append] at ho
 rw [show (l.take j ++ l.drop (j + 1)).length = l.length - 1 by rw [List.length_append, List.length_take, List.length_drop]; omega]
 exact ho
end Go.Proofs.YtbiapfjhdggkpaaDoor.PA
