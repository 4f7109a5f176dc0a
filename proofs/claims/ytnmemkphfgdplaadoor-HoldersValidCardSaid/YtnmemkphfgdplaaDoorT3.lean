/- The functions that the program hands to sort: what they answer. Conditions: none. -/
import Derived.Test.YtnmemkphfgdplaaDoorT2
namespace Go.Proofs.YtnmemkphfgdplaaDoor.PA
open Go.RowKit Go.Proofs.YtnmemkphfgdplaaDoorW.PrintWords Go.Proofs.YtnmemkphfgdplaaDoorW.PrintLast Go.Proofs.YtnmemkphfgdplaaDoorW.PrintMore
attribute [local go_sem] max2_int min2_int max_two min_two max_three min_three max_four min_four
set_option linter.unusedVariables false
set_option linter.unusedSimpArgs false
/-- How two triples compare. -/
def cmp3 (a0 a1 a2 b0 b1 b2 : Int) : Int := if a0 < b0 then -1 else if a0 > b0 then 1 else if a1 < b1 then -1 else if a1 > b1 then 1 else if a2 < b2 then -1 else if a2 > b2 then 1 else 0
theorem order_cmp3 (a0 a1 a2 b0 b1 b2 : Int) : order_l 4 a0 a1 a2 b0 b1 b2 0 = some (cmp3 a0 a1 a2 b0 b1 b2) := by
  simp only [order_l, cmp3]
  simp
  repeat' split
  all_goals rfl
theorem ident_CompareProc.calls3 (a0 a1 a2 b0 b1 b2 : Int) (w : World) :
    Calls Tryd.prog 46 #[.agg #[.int .i64 a0, .int .i64 a1, .int .i64 a2], .agg #[.int .i64 b0, .int .i64 b1, .int .i64 b2]] w fun e w' => e = .returned (.int .i64 (cmp3 a0 a1 a2 b0 b1 b2)) ∧ Below w.heap.size w w' := ident_CompareProc.callsK 4 a0 a1 a2 b0 b1 b2 _ w (order_cmp3 a0 a1 a2 b0 b1 b2)
set_option maxHeartbeats 4000000 in
set_option maxRecDepth 100000 in
theorem holders_rising1.calls (ad : Addr) (c : Nat) (l : List S53) (gb : Nat) (i j : Int) (w : World) (hr : Kd.C k53 w (some ad) l.length l) (hg : w.cell? ⟨gb, 0, none⟩ = some (.slice (some ad) l.length c)) (hi0 : 0 ≤ i) (hi1 : i < l.length) (hj0 : 0 ≤ j) (hj1 : j < l.length) :
    Calls Tryd.prog 64 #[.int .i64 i, .int .i64 j, .pointer (some ⟨gb, 0, none⟩)] w fun e w' => e = .returned (.bool (decide (cmp3 (rd_T53 l i).f0.f0 (rd_T53 l i).f0.f1 (rd_T53 l i).f0.f2 (rd_T53 l j).f0.f0 (rd_T53 l j).f0.f1 (rd_T53 l j).f0.f2 < 0))) ∧ Below w.heap.size w w' := by
  have hu22 := Tryd.underlying22
  have hu24 := Tryd.underlying24
  have hu53 := Tryd.underlying53
  obtain ⟨adi, ei, hxi0, hxi1, hxi2, _, _⟩ := at_T53 hr i hi0 hi1
  cases ei
  obtain ⟨adj, ej, hxj0, hxj1, hxj2, _, _⟩ := at_T53 hr j hj0 hj1
  cases ej
  replace hi0 := eq_true hi0
  replace hi1 := eq_true hi1
  replace hj0 := eq_true hj0
  replace hj1 := eq_true hj1
  go_enter Tryd.func64, Tryd.ntmps64
  try go_wp2
  refine start_ (n := 13) (S := fun w' => w'.cell? ⟨gb, 0, none⟩ = some (.slice (some ad) l.length c) ∧ w'.cell? (ad.add (i.toNat * 5)) = some (.int .i64 (rd_T53 l i).f0.f0) ∧ w'.cell? ⟨(ad.add (i.toNat * 5)).block, (ad.add (i.toNat * 5)).off + 1, none⟩ = some (.int .i64 (rd_T53 l i).f0.f1) ∧ w'.cell? ⟨(ad.add (i.toNat * 5)).block, (ad.add (i.toNat * 5)).off + 2, none⟩ = some (.int .i64 (rd_T53 l i).f0.f2) ∧ w'.cell? (ad.add (j.toNat * 5)) = some (.int .i64 (rd_T53 l j).f0.f0) ∧ w'.cell? ⟨(ad.add (j.toNat * 5)).block, (ad.add (j.toNat * 5)).off + 1, none⟩ = some (.int .i64 (rd_T53 l j).f0.f1) ∧ w'.cell? ⟨(ad.add (j.toNat * 5)).block, (ad.add (j.toNat * 5)).off + 2, none⟩ = some (.int .i64 (rd_T53 l j).f0.f2)) (ds := []) #[false, false, false, false, false, false, false, false, false, false, false, false, false] (by kernel_rfl) rfl rfl ⟨hg, hxi0, hxi1, hxi2, hxj0, hxj1, hxj2⟩ (fun hHeld => ?_)
  refine take_ (i := 0) (N := some 6) (v := ?_) (a' := ?_) #[true, false, false, false, false, false, false, false, false, false, false, false, false] rfl rfl (by kernel_rfl) (fun _ _ _ h => h) (Or.inl ⟨by rfl, ?_⟩) hHeld ?_ ?_
  rotate_left
  · rintro w' ⟨s0, s1, s2, s3, s4, s5, s6⟩
    go_simp
    with_reducible rfl
  rotate_left
  · simp only [Act.put, List.setIfInBounds_toArray, List.set_cons_zero, List.set_cons_succ, i64_w, i32_w]
    rfl
  refine pure_ (i := 1) (N := some 7) (v := ?_) (a' := ?_) #[true, true, false, false, false, false, false, false, false, false, false, false, false] rfl rfl (by kernel_rfl) (fun _ _ _ h => h) (Or.inl ⟨by rfl, ?_⟩) ?_ ?_
  rotate_left
  · intro w'
    go_simp
    with_reducible rfl
  rotate_left
  · simp only [Act.put, List.setIfInBounds_toArray, List.set_cons_zero, List.set_cons_succ, i64_w, i32_w]
    rfl
  refine pure_ (i := 2) (N := some 8) (v := ?_) (a' := ?_) #[true, true, true, false, false, false, false, false, false, false, false, false, false] rfl rfl (by kernel_rfl) (fun _ _ _ h => h) (Or.inl ⟨by rfl, ?_⟩) ?_ ?_
  rotate_left
  · intro w'
    go_simp
    with_reducible rfl
  rotate_left
  · simp only [Act.put, List.setIfInBounds_toArray, List.set_cons_zero, List.set_cons_succ, i64_w, i32_w]
    rfl
  refine pure_ (i := 3) (N := some 9) (v := ?_) (a' := ?_) #[true, true, true, true, false, false, false, false, false, false, false, false, false] rfl rfl (by kernel_rfl) (fun _ _ _ h => h) (Or.inl ⟨by rfl, ?_⟩) ?_ ?_
  rotate_left
  · intro w'
    go_simp
    with_reducible rfl
  rotate_left
  · simp only [Act.put, List.setIfInBounds_toArray, List.set_cons_zero, List.set_cons_succ, i64_w, i32_w]
    rfl
  refine take_ (i := 4) (N := some 10) (v := ?_) (a' := ?_) #[true, true, true, true, true, false, false, false, false, false, false, false, false] rfl rfl (by kernel_rfl) (fun _ _ _ h => h) (Or.inl ⟨by rfl, ?_⟩) hHeld ?_ ?_
  rotate_left
  · rintro w' ⟨s0, s1, s2, s3, s4, s5, s6⟩
    go_simp
    with_reducible rfl
  rotate_left
  · simp only [Act.put, List.setIfInBounds_toArray, List.set_cons_zero, List.set_cons_succ, i64_w, i32_w]
    rfl
  refine take_ (i := 5) (N := some 11) (v := ?_) (a' := ?_) #[true, true, true, true, true, true, false, false, false, false, false, false, false] rfl rfl (by kernel_rfl) (fun _ _ _ h => h) (Or.inl ⟨by rfl, ?_⟩) hHeld ?_ ?_
  rotate_left
  · rintro w' ⟨s0, s1, s2, s3, s4, s5, s6⟩
    go_simp
    with_reducible rfl
  rotate_left
  · simp only [Act.put, List.setIfInBounds_toArray, List.set_cons_zero, List.set_cons_succ, i64_w, i32_w]
    rfl
  refine pure_ (i := 6) (N := some 12) (v := ?_) (a' := ?_) #[true, true, true, true, true, true, true, false, false, false, false, false, false] rfl rfl (by kernel_rfl) (fun _ _ _ h => h) (Or.inl ⟨by rfl, ?_⟩) ?_ ?_
  rotate_left
  · intro w'
    go_simp
    with_reducible rfl
  rotate_left
  · simp only [Act.put, List.setIfInBounds_toArray, List.set_cons_zero, List.set_cons_succ, i64_w, i32_w]
    rfl
  refine pure_ (i := 7) (N := some 13) (v := ?_) (a' := ?_) #[true, true, true, true, true, true, true, true, false, false, false, false, false] rfl rfl (by kernel_rfl) (fun _ _ _ h => h) (Or.inl ⟨by rfl, ?_⟩) ?_ ?_
  rotate_left
  · intro w'
    go_simp
    with_reducible rfl
  rotate_left
  · simp only [Act.put, List.setIfInBounds_toArray, List.set_cons_zero, List.set_cons_succ, i64_w, i32_w]
    rfl
  refine pure_ (i := 8) (N := some 14) (v := ?_) (a' := ?_) #[true, true, true, true, true, true, true, true, true, false, false, false, false] rfl rfl (by kernel_rfl) (fun _ _ _ h => h) (Or.inl ⟨by rfl, ?_⟩) ?_ ?_
  rotate_left
  · intro w'
    go_simp
    with_reducible rfl
  rotate_left
  · simp only [Act.put, List.setIfInBounds_toArray, List.set_cons_zero, List.set_cons_succ, i64_w, i32_w]
    rfl
  refine take_ (i := 9) (N := some 15) (v := ?_) (a' := ?_) #[true, true, true, true, true, true, true, true, true, true, false, false, false] rfl rfl (by kernel_rfl) (fun _ _ _ h => h) (Or.inl ⟨by rfl, ?_⟩) hHeld ?_ ?_
  rotate_left
  · rintro w' ⟨s0, s1, s2, s3, s4, s5, s6⟩
    go_simp
    with_reducible rfl
  rotate_left
  · simp only [Act.put, List.setIfInBounds_toArray, List.set_cons_zero, List.set_cons_succ, i64_w, i32_w]
    rfl
  refine one_ (i := 10) (N := some 16) #[true, true, true, true, true, true, true, true, true, true, true, false, false] rfl rfl (by kernel_rfl) (by decide) (fun K hK => ?_)
  refine goes_ Tryd.func46 (by kernel_rfl) rfl #[.agg #[.int .i64 (rd_T53 l i).f0.f0, .int .i64 (rd_T53 l i).f0.f1, .int .i64 (rd_T53 l i).f0.f2], .agg #[.int .i64 (rd_T53 l j).f0.f0, .int .i64 (rd_T53 l j).f0.f1, .int .i64 (rd_T53 l j).f0.f2]] (by rfl) rfl rfl (by (try simp only [List.map_toArray, List.map_cons, List.map_nil]); first | done | rfl) ?_
  with_reducible refine (ident_CompareProc.calls3 _ _ _ _ _ _ _).mono ?_
  rintro e w5 ⟨rfl, hb⟩
  refine ⟨_, rfl, ?_⟩
  have HB := below_step (below_drew1 (Below.refl w.heap.size w)) hb
  refine hK.out _ _ ⟨(HB.cell (World.block_lt_of_cell? w _ hg)).trans hg, (HB.cell (World.block_lt_of_cell? w _ hxi0)).trans hxi0, (HB.cell (World.block_lt_of_cell? w _ hxi1)).trans hxi1, (HB.cell (World.block_lt_of_cell? w _ hxi2)).trans hxi2, (HB.cell (World.block_lt_of_cell? w _ hxj0)).trans hxj0, (HB.cell (World.block_lt_of_cell? w _ hxj1)).trans hxj1, (HB.cell (World.block_lt_of_cell? w _ hxj2)).trans hxj2⟩ (fun hHeld => ?_)
  clear hK K
  refine norm_ (a' := ?_) ?_ ?_
  rotate_left
  · show Act.put _ (some 16) _ = _
    simp only [Act.put, List.setIfInBounds_toArray, List.set_cons_zero, List.set_cons_succ, i64_w, i32_w]
    rfl
  refine pure_ (i := 11) (N := some 17) (v := ?_) (a' := ?_) #[true, true, true, true, true, true, true, true, true, true, true, true, false] rfl rfl (by kernel_rfl) (fun _ _ _ h => h) (Or.inl ⟨by rfl, ?_⟩) ?_ ?_
  rotate_left
  · intro w'
    go_simp
    with_reducible rfl
  rotate_left
  · simp only [Act.put, List.setIfInBounds_toArray, List.set_cons_zero, List.set_cons_succ, i64_w, i32_w]
    rfl
  refine pure_ (i := 12) (N := some 5) (v := ?_) (a' := ?_) #[true, true, true, true, true, true, true, true, true, true, true, true, true] rfl rfl (by kernel_rfl) (fun _ _ _ h => h) (Or.inl ⟨by rfl, ?_⟩) ?_ ?_
  rotate_left
  · intro w'
    go_simp
    with_reducible rfl
  rotate_left
  · simp only [Act.put, List.setIfInBounds_toArray, List.set_cons_zero, List.set_cons_succ, i64_w, i32_w]
    rfl
  refine done_ (by kernel_rfl) ?_
  try go_wp2
  go_ret
  exact ⟨rfl, HB⟩
end Go.Proofs.YtnmemkphfgdplaaDoor.PA
