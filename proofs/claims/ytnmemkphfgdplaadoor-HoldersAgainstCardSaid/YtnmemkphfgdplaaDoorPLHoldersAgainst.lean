-- Printed by wip/tool/myprint.py for this claim; Lean checks it.
import Derived.Test.YtnmemkphfgdplaaDoorPAx0
import Derived.Test.YtnmemkphfgdplaaDoorSlim
import Derived.Test.YtnmemkphfgdplaaDoorPAx8
import Derived.Test.YtnmemkphfgdplaaDoorPAx9
import Derived.Test.YtnmemkphfgdplaaDoorPAx17
import Derived.Test.YtnmemkphfgdplaaDoorPAx18
namespace Go.Proofs.YtnmemkphfgdplaaDoor.PA
open Go.RowKit Go.Proofs.YtnmemkphfgdplaaDoorW.PrintWords Go.Proofs.YtnmemkphfgdplaaDoorW.PrintLast Go.Proofs.YtnmemkphfgdplaaDoorW.PrintMore
attribute [local go_sem] max2_int min2_int max_two min_two max_three min_three max_four min_four   -- for this text's walks alone
set_option linter.unusedVariables false
set_option linter.unusedSimpArgs false

attribute [local go_sem high] eqA24
/-! ### clusterlockslaw10_HoldersAgainst: function 5 -/
def clusterlockslaw10_HoldersAgainst.f (k : Nat) (a0_0 : ByteArray) (a0_1 : Int) (a0_2 : Int) (a0_3 : Int) (l1 : List (S53)) (a2_0 : Int) (a2_1 : Int) (a2_2 : Int) (a3_0 : Int) (a3_1 : Int) : Option (Bool) := if (l1.length : Int) > 100 then ((clusterlockslaw10_awake.f k).bind fun t346 => (some t346)) else ((clusterlockslaw10_awake.f k).bind fun t347 => (if t347 = true then ((holders_Against.f k a0_0 a0_1 a0_2 a0_3 l1 a2_0 a2_1 a2_2 a3_0 a3_1).bind fun t348 => ((clusterlocksref10_Against.f k a0_0 a0_1 a0_2 a0_3 l1 a2_0 a2_1 a2_2 a3_0 a3_1).bind fun t351 => ((clusterlocksref02_SameProcs.f k t348 t351).bind fun t354 => (some t354)))) else (some false)))
theorem clusterlockslaw10_HoldersAgainst.mono : ∀ a0 a1 a2 a3 a4 a5 a6 a7 a8 a9 k, LeO (clusterlockslaw10_HoldersAgainst.f k a0 a1 a2 a3 a4 a5 a6 a7 a8 a9) (clusterlockslaw10_HoldersAgainst.f (k + 1) a0 a1 a2 a3 a4 a5 a6 a7 a8 a9) := by
 intro a0 a1 a2 a3 a4 a5 a6 a7 a8 a9 k
 unfold clusterlockslaw10_HoldersAgainst.f
 repeat' first
   | (with_reducible exact clusterlockslaw10_awake.mono _)
   | (with_reducible exact clusterlocksref02_SameProcs.mono _ _ _)
   | (with_reducible exact clusterlocksref10_Against.mono _ _ _ _ _ _ _ _ _ _ _)
   | (with_reducible exact holders_Against.mono _ _ _ _ _ _ _ _ _ _ _)
   | (with_reducible exact LeO.refl _)
   | (with_reducible exact LeO.none _)
   | (with_reducible refine LeO.ite ?_ ?_)
   | (with_reducible refine LeO.bind ?_ (fun _ => ?_))
   | exact clusterlockslaw10_awake.mono _
   | exact clusterlocksref02_SameProcs.mono _ _ _
   | exact clusterlocksref10_Against.mono _ _ _ _ _ _ _ _ _ _ _
   | exact holders_Against.mono _ _ _ _ _ _ _ _ _ _ _
   | exact LeO.none _
   | refine LeO.ite ?_ ?_
   | refine LeO.bind ?_ (fun _ => ?_)
def clusterlockslaw10_HoldersAgainst.T3 : Bool × List (List Nat × List Nat) := (true, [([], []), ([0, 0], [0]), ([1], [1]), ([1], [1]), ([1], [1]), ([1], [1]), ([2, 3, 4, 5, 1, 1], [1, 2, 3, 4, 5]), ([1], [1]), ([1], [1]), ([1], [1]), ([1], [1]), ([7, 8, 9, 10, 6, 1], [1, 7, 8, 9, 10]), ([6, 11, 11, 1], [1, 6, 11]), ([1, 12], [1, 12]), ([13, 12, 0, 1, 2, 3, 4, 5, 6, 7, 8, 9, 10, 11, 12, 13], [13])])
def clusterlockslaw10_HoldersAgainst.B3 : List Nat := [0, 1, 3, 3, 3, 3, 63, 3, 3, 3, 3, 2047, 4095, 8191, 16383]
theorem clusterlockslaw10_HoldersAgainst.tab3 : rtab .any (opsOf Tryd.f5 3) = clusterlockslaw10_HoldersAgainst.T3 := by kernel_rfl
theorem clusterlockslaw10_HoldersAgainst.bits3 : waitsOk clusterlockslaw10_HoldersAgainst.T3.2 clusterlockslaw10_HoldersAgainst.B3 = true := by kernel_rfl
set_option maxHeartbeats 8000000 in
set_option maxRecDepth 100000 in
theorem clusterlockslaw10_HoldersAgainst.calls (k : Nat) (a0_0 : ByteArray) (a0_1 : Int) (a0_2 : Int) (a0_3 : Int) (A1 : Option Addr) (c1 : Nat) (l1 : List (S53)) (a2_0 : Int) (a2_1 : Int) (a2_2 : Int) (a3_0 : Int) (a3_1 : Int) (r : Bool) (w : World) (hr1 : Kd.C k53 w A1 l1.length l1) (hc1 : l1.length ≤ c1) (hG : GL w) (h : clusterlockslaw10_HoldersAgainst.f k a0_0 a0_1 a0_2 a0_3 l1 a2_0 a2_1 a2_2 a3_0 a3_1 = some r) :
  Calls Tryd.prog 5 #[.agg #[.string a0_0, .int .i64 a0_1, .int .i64 a0_2, .int .i64 a0_3], .slice A1 l1.length c1, .agg #[.int .i64 a2_0, .int .i64 a2_1, .int .i64 a2_2], .agg #[.int .i64 a3_0, .int .i64 a3_1]] w fun e w' => e = .returned (.bool r) ∧ Below w.heap.size w w' := by
 have hu32 := Tryd.underlying32
 have hu24 := Tryd.underlying24
 have hu26 := Tryd.underlying26
 have HG := Aside0.mk hG
 clear hG
 have HR1 := Aside0.mk hr1
 have HC1 := Aside0.mk hc1
 clear hr1 hc1
 have HB := Aside0.mk (Below.refl w.heap.size w)
 have H : (if (l1.length : Int) > 100 then ((clusterlockslaw10_awake.f k).bind fun t346 => (some t346)) else ((clusterlockslaw10_awake.f k).bind fun t347 => (if t347 = true then ((holders_Against.f k a0_0 a0_1 a0_2 a0_3 l1 a2_0 a2_1 a2_2 a3_0 a3_1).bind fun t348 => ((clusterlocksref10_Against.f k a0_0 a0_1 a0_2 a0_3 l1 a2_0 a2_1 a2_2 a3_0 a3_1).bind fun t351 => ((clusterlocksref02_SameProcs.f k t348 t351).bind fun t354 => (some t354)))) else (some false)))) = some r := h
 clear h
 by_cases c5 : (l1.length : Int) > 100
 ·rw [if_pos c5] at H
  have c5b0 : decide (100 < (l1.length : Int)) = true := decide_eq_true c5
  have c5b1 : decide (100 < l1.length) = true := decide_eq_true (by omega)
  clear c5
  obtain ⟨t346, A60, H⟩ := Option.bind_eq_some_iff.mp H
  have A6 := Aside0.mk A60; clear A60
  obtain rfl := Option.some.inj H
  go_enter Tryd.func5, Tryd.ntmps5
  go_wp2_with (first | ((with_reducible refine gate_dst (N := 4) rfl ?_); refine box_event ?hg (N := 4) ?hd (cs := #[.string a0_0, .int .i64 a0_1, .int .i64 a0_2, .int .i64 a0_3]) (t := 32) ?hr ?_; (case hd => rfl); (case hg => rfl); (case hr => first | (go_simp; done) | (go_simp; rfl)); intro gb343 hg w7 hbox hb; have BK343 := Aside0.mk hbox; have GW343 := gE HB hg; replace HB := bB HB hb; have GE343 := GW343; clear hb hbox hg) | ((with_reducible refine gate_dst (N := 6) rfl ?_); refine box_event ?hg (N := 6) ?hd (cs := #[.int .i64 a2_0, .int .i64 a2_1, .int .i64 a2_2]) (t := 24) ?hr ?_; (case hd => rfl); (case hg => rfl); (case hr => first | (go_simp; done) | (go_simp; rfl)); intro gb344 hg w8 hbox hb; have BK344 := Aside0.mk hbox; have GW344 := gE HB hg; replace HB := bB HB hb; have GE344 := GW344; have NB343_344 := gN BK343 hg; replace BK343 := bK BK343 hb; have NB344_343 := Aside0.mk NB343_344.out.symm; clear hb hbox hg) | ((with_reducible refine gate_dst (N := 7) rfl ?_); refine box_event ?hg (N := 7) ?hd (cs := #[.int .i64 a3_0, .int .i64 a3_1]) (t := 26) ?hr ?_; (case hd => rfl); (case hg => rfl); (case hr => first | (go_simp; done) | (go_simp; rfl)); intro gb345 hg w9 hbox hb; have BK345 := Aside0.mk hbox; have GW345 := gE HB hg; replace HB := bB HB hb; have GE345 := GW345; have NB343_345 := gN BK343 hg; replace BK343 := bK BK343 hb; have NB345_343 := Aside0.mk NB343_345.out.symm; have NB344_345 := gN BK344 hg; replace BK344 := bK BK344 hb; have NB345_344 := Aside0.mk NB344_345.out.symm; clear hb hbox hg) | ((with_reducible refine gate_callee (f := 11) rfl ?_); refine goesL_ (some 12) rfl rfl Tryd.func11 (by kernel_rfl) rfl #[] rfl (by (try simp only [mA]); first | done | rfl) ?_; (with_reducible refine (clusterlockslaw10_awake.calls k  t346 _ ?side1 A6.out).mono ?_); (case side1 => exact GL.below HG.out (uB HB)); rintro e w10 ⟨rfl, hb⟩; refine ⟨_, rfl, ?_⟩; replace BK343 := bK BK343 hb; replace BK344 := bK BK344 hb; replace BK345 := bK BK345 hb; replace HB := bB HB hb; (try clear hb); (try clear hk)))
  go_ret
  exact ⟨by first | rfl | (simp [errW_none, errW_some] <;> rfl) | (simp [*, errW_none, errW_some] <;> rfl), by repeat (first | (with_reducible first | exact HB.out | apply bL | apply bM | apply bR) | exact HB.out)⟩
 ·rw [if_neg c5] at H
  have c5b0 : decide (100 < (l1.length : Int)) = false := decide_eq_false c5
  have c5b1 : decide (100 < l1.length) = false := decide_eq_false (by omega)
  clear c5
  obtain ⟨t347, A110, H⟩ := Option.bind_eq_some_iff.mp H
  have A11 := Aside0.mk A110; clear A110
  have HH_ := Aside0.mk H
  clear H
  go_enter Tryd.func5, Tryd.ntmps5
  try go_wp2_with (first | ((with_reducible refine gate_dst (N := 4) rfl ?_); refine box_event ?hg (N := 4) ?hd (cs := #[.string a0_0, .int .i64 a0_1, .int .i64 a0_2, .int .i64 a0_3]) (t := 32) ?hr ?_; (case hd => rfl); (case hg => rfl); (case hr => first | (go_simp; done) | (go_simp; rfl)); intro gb343 hg w16 hbox hb; have BK343 := Aside0.mk hbox; have GW343 := gE HB hg; replace HB := bB HB hb; have GE343 := GW343; clear hb hbox hg) | ((with_reducible refine gate_dst (N := 6) rfl ?_); refine box_event ?hg (N := 6) ?hd (cs := #[.int .i64 a2_0, .int .i64 a2_1, .int .i64 a2_2]) (t := 24) ?hr ?_; (case hd => rfl); (case hg => rfl); (case hr => first | (go_simp; done) | (go_simp; rfl)); intro gb344 hg w17 hbox hb; have BK344 := Aside0.mk hbox; have GW344 := gE HB hg; replace HB := bB HB hb; have GE344 := GW344; have NB343_344 := gN BK343 hg; replace BK343 := bK BK343 hb; have NB344_343 := Aside0.mk NB343_344.out.symm; clear hb hbox hg) | ((with_reducible refine gate_dst (N := 7) rfl ?_); refine box_event ?hg (N := 7) ?hd (cs := #[.int .i64 a3_0, .int .i64 a3_1]) (t := 26) ?hr ?_; (case hd => rfl); (case hg => rfl); (case hr => first | (go_simp; done) | (go_simp; rfl)); intro gb345 hg w18 hbox hb; have BK345 := Aside0.mk hbox; have GW345 := gE HB hg; replace HB := bB HB hb; have GE345 := GW345; have NB343_345 := gN BK343 hg; replace BK343 := bK BK343 hb; have NB345_343 := Aside0.mk NB343_345.out.symm; have NB344_345 := gN BK344 hg; replace BK344 := bK BK344 hb; have NB345_344 := Aside0.mk NB344_345.out.symm; clear hb hbox hg))
  replace BK343 := Aside0.mk (blk_drew BK343.out)
  replace BK344 := Aside0.mk (blk_drew BK344.out)
  replace BK345 := Aside0.mk (blk_drew BK345.out)
  replace HB := Aside0.mk (below_drew1 HB.out)
  have H := HH_.out
  clear HH_
  by_cases c12 : t347 = true
  ·subst c12
   rw [if_pos rfl] at H
   obtain ⟨t348, A130, H⟩ := Option.bind_eq_some_iff.mp H
   have A13 := Aside0.mk A130; clear A130
   obtain ⟨t351, A140, H⟩ := Option.bind_eq_some_iff.mp H
   have A14 := Aside0.mk A140; clear A140
   obtain ⟨t354, A150, H⟩ := Option.bind_eq_some_iff.mp H
   have A15 := Aside0.mk A150; clear A150
   obtain rfl := Option.some.inj H
   refine start_ (n := 15) (S := fun w' => w'.cell? ⟨gb343, 0, none⟩ = some (.string a0_0) ∧ w'.cell? ⟨gb343, 1, none⟩ = some (.int .i64 a0_1) ∧ w'.cell? ⟨gb343, 2, none⟩ = some (.int .i64 a0_2) ∧ w'.cell? ⟨gb343, 3, none⟩ = some (.int .i64 a0_3) ∧ w'.cell? ⟨gb344, 0, none⟩ = some (.int .i64 a2_0) ∧ w'.cell? ⟨gb344, 1, none⟩ = some (.int .i64 a2_1) ∧ w'.cell? ⟨gb344, 2, none⟩ = some (.int .i64 a2_2) ∧ w'.cell? ⟨gb345, 0, none⟩ = some (.int .i64 a3_0) ∧ w'.cell? ⟨gb345, 1, none⟩ = some (.int .i64 a3_1)) (ds := []) #[F,F,F,F,F,F,F,F,F,F,F,F,F,F,F] (by kernel_rfl) rfl rfl ⟨bC BK343 0 rfl, bC BK343 1 rfl, bC BK343 2 rfl, bC BK343 3 rfl, bC BK344 0 rfl, bC BK344 1 rfl, bC BK344 2 rfl, bC BK345 0 rfl, bC BK345 1 rfl⟩ (fun hHeld => ?_); refine with_tabW clusterlockslaw10_HoldersAgainst.tab3 clusterlockslaw10_HoldersAgainst.bits3 (fun HT_ HW_ => ?_)
   generalize w18.drew = w19 at BK343 BK344 BK345 HB hHeld ⊢
   refine one_ (i := 0) (N := some 13) #[T,F,F,F,F,F,F,F,F,F,F,F,F,F,F] rfl rfl (one_of HT_.out (by kernel_rfl)) (by decide) (fun K hK => ?_)
   refine goes_ Tryd.func11 (by kernel_rfl) rfl #[] (by rfl) rfl rfl (by (try simp only [mA]); first | done | rfl) ?_
   with_reducible refine (clusterlockslaw10_awake.calls k  true _ ?side1 A11.out).mono ?_
   (case side1 => exact GL.below HG.out (uB HB))
   rintro e w20 ⟨rfl, hb⟩
   refine ⟨_, rfl, ?_⟩
   replace BK343 := bK BK343 hb
   replace BK344 := bK BK344 hb
   replace BK345 := bK BK345 hb
   replace HB := bB HB hb
   (try clear hb)
   (try clear hk)
   refine hK.out _ _ ⟨bC BK343 0 rfl, bC BK343 1 rfl, bC BK343 2 rfl, bC BK343 3 rfl, bC BK344 0 rfl, bC BK344 1 rfl, bC BK344 2 rfl, bC BK345 0 rfl, bC BK345 1 rfl⟩ (fun hHeld => ?_)
   clear hK K
   refine norm_ (a' := ?_) ?_ ?_
   rotate_left
   ·show Act.put _ (some 13) _ = _
    simp only [sP]
    rfl
   refine pu HT_ 1 14 #[T,T,F,F,F,F,F,F,F,F,F,F,F,F,F] rfl rfl (by kernel_rfl) (fun _ _ _ => id) (.inl ⟨by rfl, by intro w'; go_simp; with_reducible rfl⟩) (by simp only [sP]; rfl) ?_
   refine pu HT_ 3 16 #[T,T,F,T,F,F,F,F,F,F,F,F,F,F,F] rfl rfl (by kernel_rfl) (fun _ _ _ => id) (.inl ⟨by rfl, by intro w'; go_simp; with_reducible rfl⟩) (by simp only [sP]; rfl) ?_
   refine pu HT_ 8 21 #[T,T,F,T,F,F,F,F,T,F,F,F,F,F,F] rfl rfl (by kernel_rfl) (fun _ _ _ => id) (.inl ⟨by rfl, by intro w'; go_simp; with_reducible rfl⟩) (by simp only [sP]; rfl) ?_
   refine tk HT_ HW_ 2 15 #[T,T,T,T,F,F,F,F,T,F,F,F,F,F,F] rfl rfl (by kernel_rfl) (fun _ _ _ => id) (.inl ⟨by rfl, by rintro w' ⟨s0, s1, s2, s3, s4, s5, s6, s7, s8⟩; go_simp; with_reducible rfl⟩) hHeld (by simp only [sP]; rfl) ?_
   refine tk HT_ HW_ 4 17 #[T,T,T,T,T,F,F,F,T,F,F,F,F,F,F] rfl rfl (by kernel_rfl) (fun _ _ _ => id) (.inl ⟨by rfl, by rintro w' ⟨s0, s1, s2, s3, s4, s5, s6, s7, s8⟩; go_simp; with_reducible rfl⟩) hHeld (by simp only [sP]; rfl) ?_
   refine tk HT_ HW_ 5 18 #[T,T,T,T,T,T,F,F,T,F,F,F,F,F,F] rfl rfl (by kernel_rfl) (fun _ _ _ => id) (.inl ⟨by rfl, by rintro w' ⟨s0, s1, s2, s3, s4, s5, s6, s7, s8⟩; go_simp; with_reducible rfl⟩) hHeld (by simp only [sP]; rfl) ?_
   refine tk HT_ HW_ 7 20 #[T,T,T,T,T,T,F,T,T,F,F,F,F,F,F] rfl rfl (by kernel_rfl) (fun _ _ _ => id) (.inl ⟨by rfl, by rintro w' ⟨s0, s1, s2, s3, s4, s5, s6, s7, s8⟩; go_simp; with_reducible rfl⟩) hHeld (by simp only [sP]; rfl) ?_
   refine tk HT_ HW_ 9 22 #[T,T,T,T,T,T,F,T,T,T,F,F,F,F,F] rfl rfl (by kernel_rfl) (fun _ _ _ => id) (.inl ⟨by rfl, by rintro w' ⟨s0, s1, s2, s3, s4, s5, s6, s7, s8⟩; go_simp; with_reducible rfl⟩) hHeld (by simp only [sP]; rfl) ?_
   refine tk HT_ HW_ 10 23 #[T,T,T,T,T,T,F,T,T,T,T,F,F,F,F] rfl rfl (by kernel_rfl) (fun _ _ _ => id) (.inl ⟨by rfl, by rintro w' ⟨s0, s1, s2, s3, s4, s5, s6, s7, s8⟩; go_simp; with_reducible rfl⟩) hHeld (by simp only [sP]; rfl) ?_
   refine one_ (i := 6) (N := some 19) #[T,T,T,T,T,T,T,T,T,T,T,F,F,F,F] rfl rfl (one_of HT_.out (by kernel_rfl)) (by decide) (fun K hK => ?_)
   refine goes_ Tryd.func18 (by kernel_rfl) rfl #[.agg #[.string a0_0, .int .i64 a0_1, .int .i64 a0_2, .int .i64 a0_3], .slice A1 l1.length c1, .agg #[.int .i64 a2_0, .int .i64 a2_1, .int .i64 a2_2], .agg #[.int .i64 a3_0, .int .i64 a3_1]] (by rfl) rfl rfl (by (try simp only [mA]); first | done | rfl) ?_
   with_reducible refine (holders_Against.calls k a0_0 a0_1 a0_2 a0_3 _ _ l1 a2_0 a2_1 a2_2 a3_0 a3_1 t348 _ ?side1 ?side2 ?side3 A13.out).mono ?_
   (case side1 => repeat (first | exact (Kd.C_below HR1.out HB.out) | (with_reducible refine Kd.C_alloc ?_ _) | (with_reducible refine Kd.C_drewN ?_ _) | (with_reducible refine Kd.C_drew ?_)))
   (case side2 => exact HC1.out)
   (case side3 => exact GL.below HG.out (uB HB))
   rintro e w21 ⟨v349, rfl, ho0, hb⟩
   refine ⟨_, rfl, ?_⟩
   have HO350 := Aside0.mk (Kd.R_lower (Kd.R_newB ho0 (g := gb344) (o := .cells #[.int .i64 a2_0, .int .i64 a2_1, .int .i64 a2_2] 24 (0, 0)) (uK BK344)) (below_size (uB HB)))
   replace BK343 := bK BK343 hb
   replace BK344 := bK BK344 hb
   replace BK345 := bK BK345 hb
   replace HB := bB HB hb
   (try clear hb)
   (try clear hk)
   (try clear ho0)
   refine hK.out _ _ ⟨bC BK343 0 rfl, bC BK343 1 rfl, bC BK343 2 rfl, bC BK343 3 rfl, bC BK344 0 rfl, bC BK344 1 rfl, bC BK344 2 rfl, bC BK345 0 rfl, bC BK345 1 rfl⟩ (fun hHeld => ?_)
   clear hK K
   refine norm_ (a' := ?_) ?_ ?_
   rotate_left
   ·show Act.put _ (some 19) _ = _
    simp only [sP]
    rfl
   refine one_ (i := 11) (N := some 24) #[T,T,T,T,T,T,T,T,T,T,T,T,F,F,F] rfl rfl (one_of HT_.out (by kernel_rfl)) (by decide) (fun K hK => ?_)
   refine goes_ Tryd.func19 (by kernel_rfl) rfl #[.agg #[.string a0_0, .int .i64 a0_1, .int .i64 a0_2, .int .i64 a0_3], .slice A1 l1.length c1, .agg #[.int .i64 a2_0, .int .i64 a2_1, .int .i64 a2_2], .agg #[.int .i64 a3_0, .int .i64 a3_1]] (by rfl) rfl rfl (by (try simp only [mA]); first | done | rfl) ?_
   with_reducible refine (clusterlocksref10_Against.calls k a0_0 a0_1 a0_2 a0_3 _ _ l1 a2_0 a2_1 a2_2 a3_0 a3_1 t351 _ ?side1 ?side2 A14.out).mono ?_
   (case side1 => repeat (first | exact (Kd.C_below HR1.out HB.out) | (with_reducible refine Kd.C_alloc ?_ _) | (with_reducible refine Kd.C_drewN ?_ _) | (with_reducible refine Kd.C_drew ?_)))
   (case side2 => exact HC1.out)
   rintro e w22 ⟨v352, rfl, ho0, hb⟩
   refine ⟨_, rfl, ?_⟩
   have HO353 := Aside0.mk (Kd.R_lower (Kd.R_newB (Kd.R_new' ho0 (Kd.R_lt (by (with_reducible repeat (first | apply Kd.R_alloc | apply Kd.R_drewN | apply Kd.R_drew)); exact HO350.out))) (g := gb344) (o := .cells #[.int .i64 a2_0, .int .i64 a2_1, .int .i64 a2_2] 24 (0, 0)) (uK BK344)) (below_size (uB HB)))
   replace HO350 := Aside0.mk (Kd.R_elder' (by (with_reducible repeat (first | apply Kd.R_alloc | apply Kd.R_drewN | apply Kd.R_drew)); exact HO350.out) (Kd.R_base ho0) hb)
   replace BK343 := bK BK343 hb
   replace BK344 := bK BK344 hb
   replace BK345 := bK BK345 hb
   replace HB := bB HB hb
   (try clear hb)
   (try clear hk)
   (try clear ho0)
   obtain ⟨Ao23, co23, eo23⟩ := Kd.R_slice HO350.out
   (first | subst eo23 | (injection eo23 with f1_ f2_ f3_; have f4_ := f1_.symm; have f5_ := f3_.symm; clear f1_ f2_ f3_; subst f4_; subst f5_))
   obtain ⟨Ao24, co24, eo24⟩ := Kd.R_slice HO353.out
   (first | subst eo24 | (injection eo24 with f1_ f2_ f3_; have f4_ := f1_.symm; have f5_ := f3_.symm; clear f1_ f2_ f3_; subst f4_; subst f5_))
   refine hK.out _ _ ⟨bC BK343 0 rfl, bC BK343 1 rfl, bC BK343 2 rfl, bC BK343 3 rfl, bC BK344 0 rfl, bC BK344 1 rfl, bC BK344 2 rfl, bC BK345 0 rfl, bC BK345 1 rfl⟩ (fun hHeld => ?_)
   clear hK K
   refine norm_ (a' := ?_) ?_ ?_
   rotate_left
   ·show Act.put _ (some 24) _ = _
    simp only [sP]
    rfl
   refine one_ (i := 12) (N := some 25) #[T,T,T,T,T,T,T,T,T,T,T,T,T,F,F] rfl rfl (one_of HT_.out (by kernel_rfl)) (by decide) (fun K hK => ?_)
   refine goes_ Tryd.func17 (by kernel_rfl) rfl #[.slice Ao23 t348.length co23, .slice Ao24 t351.length co24] (by rfl) rfl rfl (by (try simp only [mA]); first | done | rfl) ?_
   with_reducible refine (clusterlocksref02_SameProcs.calls k _ _ t348 _ _ t351 t354 _ ?side1 ?side2 ?side3 ?side4 A15.out).mono ?_
   (case side1 => repeat (first | exact (Kd.R_reads' HO350.out).2.2 | (with_reducible refine Kd.C_alloc ?_ _) | (with_reducible refine Kd.C_drewN ?_ _) | (with_reducible refine Kd.C_drew ?_)))
   (case side2 => exact (Kd.R_reads' HO350.out).2.1)
   (case side3 => repeat (first | exact (Kd.R_reads' HO353.out).2.2 | (with_reducible refine Kd.C_alloc ?_ _) | (with_reducible refine Kd.C_drewN ?_ _) | (with_reducible refine Kd.C_drew ?_)))
   (case side4 => exact (Kd.R_reads' HO353.out).2.1)
   rintro e w' ⟨rfl, ⟨nd, rfl⟩⟩
   refine ⟨_, rfl, ?_⟩
   refine hK.out _ _ ⟨bC BK343 0 rfl, bC BK343 1 rfl, bC BK343 2 rfl, bC BK343 3 rfl, bC BK344 0 rfl, bC BK344 1 rfl, bC BK344 2 rfl, bC BK345 0 rfl, bC BK345 1 rfl⟩ (fun hHeld => ?_)
   clear hK K
   refine norm_ (a' := ?_) ?_ ?_
   rotate_left
   ·show Act.put _ (some 25) _ = _
    simp only [sP]
    rfl
   refine pu HT_ 13 26 #[T,T,T,T,T,T,T,T,T,T,T,T,T,T,F] rfl rfl (by kernel_rfl) (fun _ _ _ => id) (.inl ⟨by rfl, by intro w'; go_simp; with_reducible rfl⟩) (by simp only [sP]; rfl) ?_
   refine pu HT_ 14 8 #[T,T,T,T,T,T,T,T,T,T,T,T,T,T,T] rfl rfl (by kernel_rfl) (fun _ _ _ => id) (.inl ⟨by rfl, by intro w'; go_simp; with_reducible rfl⟩) (by simp only [sP]; rfl) ?_
   refine done_ (done_of HT_.out (by kernel_rfl)) ?_
   try go_wp2
   go_ret
   exact ⟨by first | rfl | (simp [errW_none, errW_some] <;> rfl) | (simp [*, errW_none, errW_some] <;> rfl), by repeat (first | (with_reducible first | exact HB.out | apply bL | apply bM | apply bR) | exact HB.out)⟩
  ·replace c12 := Bool.eq_false_iff.mpr c12
   subst c12
   rw [if_neg (show ¬ (false = true) by decide)] at H
   obtain rfl := Option.some.inj H
   refine start_ (n := 15) (S := fun w' => True) (ds := []) #[F,F,F,F,F,F,F,F,F,F,F,F,F,F,F] (by kernel_rfl) rfl rfl trivial (fun hHeld => ?_); refine with_tabW clusterlockslaw10_HoldersAgainst.tab3 clusterlockslaw10_HoldersAgainst.bits3 (fun HT_ HW_ => ?_)
   generalize w18.drew = w28 at BK343 BK344 BK345 HB hHeld ⊢
   refine one_ (i := 0) (N := some 13) #[T,F,F,F,F,F,F,F,F,F,F,F,F,F,F] rfl rfl (one_of HT_.out (by kernel_rfl)) (by decide) (fun K hK => ?_)
   refine goes_ Tryd.func11 (by kernel_rfl) rfl #[] (by rfl) rfl rfl (by (try simp only [mA]); first | done | rfl) ?_
   with_reducible refine (clusterlockslaw10_awake.calls k  false _ ?side1 A11.out).mono ?_
   (case side1 => exact GL.below HG.out (uB HB))
   rintro e w29 ⟨rfl, hb⟩
   refine ⟨_, rfl, ?_⟩
   replace BK343 := bK BK343 hb
   replace BK344 := bK BK344 hb
   replace BK345 := bK BK345 hb
   replace HB := bB HB hb
   (try clear hb)
   (try clear hk)
   refine hK.out _ _ trivial (fun hHeld => ?_)
   clear hK K
   refine norm_ (a' := ?_) ?_ ?_
   rotate_left
   ·show Act.put _ (some 13) _ = _
    simp only [sP]
    rfl
   refine pu HT_ 1 14 #[T,T,F,F,F,F,F,F,F,F,F,F,F,F,F] rfl rfl (by kernel_rfl) (fun _ _ _ => id) (.inl ⟨by rfl, by intro w'; go_simp; with_reducible rfl⟩) (by simp only [sP]; rfl) ?_
   refine pu HT_ 2 15 #[T,T,T,F,F,F,F,F,F,F,F,F,F,F,F] rfl rfl (by kernel_rfl) (fun _ _ _ => id) (.inr ⟨by rfl, rfl⟩) (by simp only [sP]; rfl) ?_
   refine pu HT_ 3 16 #[T,T,T,T,F,F,F,F,F,F,F,F,F,F,F] rfl rfl (by kernel_rfl) (fun _ _ _ => id) (.inr ⟨by rfl, rfl⟩) (by simp only [sP]; rfl) ?_
   refine pu HT_ 4 17 #[T,T,T,T,T,F,F,F,F,F,F,F,F,F,F] rfl rfl (by kernel_rfl) (fun _ _ _ => id) (.inr ⟨by rfl, rfl⟩) (by simp only [sP]; rfl) ?_
   refine pu HT_ 5 18 #[T,T,T,T,T,T,F,F,F,F,F,F,F,F,F] rfl rfl (by kernel_rfl) (fun _ _ _ => id) (.inr ⟨by rfl, rfl⟩) (by simp only [sP]; rfl) ?_
   refine pu HT_ 6 19 #[T,T,T,T,T,T,T,F,F,F,F,F,F,F,F] rfl rfl (by kernel_rfl) (fun _ _ _ => id) (.inr ⟨by rfl, rfl⟩) (by simp only [sP]; rfl) ?_
   refine pu HT_ 7 20 #[T,T,T,T,T,T,T,T,F,F,F,F,F,F,F] rfl rfl (by kernel_rfl) (fun _ _ _ => id) (.inr ⟨by rfl, rfl⟩) (by simp only [sP]; rfl) ?_
   refine pu HT_ 8 21 #[T,T,T,T,T,T,T,T,T,F,F,F,F,F,F] rfl rfl (by kernel_rfl) (fun _ _ _ => id) (.inr ⟨by rfl, rfl⟩) (by simp only [sP]; rfl) ?_
   refine pu HT_ 9 22 #[T,T,T,T,T,T,T,T,T,T,F,F,F,F,F] rfl rfl (by kernel_rfl) (fun _ _ _ => id) (.inr ⟨by rfl, rfl⟩) (by simp only [sP]; rfl) ?_
   refine pu HT_ 10 23 #[T,T,T,T,T,T,T,T,T,T,T,F,F,F,F] rfl rfl (by kernel_rfl) (fun _ _ _ => id) (.inr ⟨by rfl, rfl⟩) (by simp only [sP]; rfl) ?_
   refine pu HT_ 11 24 #[T,T,T,T,T,T,T,T,T,T,T,T,F,F,F] rfl rfl (by kernel_rfl) (fun _ _ _ => id) (.inr ⟨by rfl, rfl⟩) (by simp only [sP]; rfl) ?_
   refine pu HT_ 12 25 #[T,T,T,T,T,T,T,T,T,T,T,T,T,F,F] rfl rfl (by kernel_rfl) (fun _ _ _ => id) (.inr ⟨by rfl, rfl⟩) (by simp only [sP]; rfl) ?_
   refine pu HT_ 13 26 #[T,T,T,T,T,T,T,T,T,T,T,T,T,T,F] rfl rfl (by kernel_rfl) (fun _ _ _ => id) (.inl ⟨by rfl, by intro w'; go_simp; with_reducible rfl⟩) (by simp only [sP]; rfl) ?_
   refine pu HT_ 14 8 #[T,T,T,T,T,T,T,T,T,T,T,T,T,T,T] rfl rfl (by kernel_rfl) (fun _ _ _ => id) (.inl ⟨by rfl, by intro w'; go_simp; with_reducible rfl⟩) (by simp only [sP]; rfl) ?_
   refine done_ (done_of HT_.out (by kernel_rfl)) ?_
   try go_wp2
   go_ret
   exact ⟨by first | rfl | (simp [errW_none, errW_some] <;> rfl) | (simp [*, errW_none, errW_some] <;> rfl), by repeat (first | (with_reducible first | exact HB.out | apply bL | apply bM | apply bR) | exact HB.out)⟩
end Go.Proofs.YtnmemkphfgdplaaDoor.PA
