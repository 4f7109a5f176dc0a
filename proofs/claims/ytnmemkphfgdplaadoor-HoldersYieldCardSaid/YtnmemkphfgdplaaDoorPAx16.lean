-- Printed by wip/tool/myprint.py for this claim; Lean checks it.
import Derived.Test.YtnmemkphfgdplaaDoorPAx0
import Derived.Test.YtnmemkphfgdplaaDoorSlim
import Derived.Test.YtnmemkphfgdplaaDoorPAx11
import Derived.Test.YtnmemkphfgdplaaDoorPAx12
import Derived.Test.YtnmemkphfgdplaaDoorPAx14
namespace Go.Proofs.YtnmemkphfgdplaaDoor.PA
open Go.RowKit Go.Proofs.YtnmemkphfgdplaaDoorW.PrintWords Go.Proofs.YtnmemkphfgdplaaDoorW.PrintLast Go.Proofs.YtnmemkphfgdplaaDoorW.PrintMore
attribute [local go_sem] max2_int min2_int max_two min_two max_three min_three max_four min_four   -- for this text's walks alone
set_option linter.unusedVariables false
set_option linter.unusedSimpArgs false
abbrev q16_0 : Array Bool := #[F,F,F,F,F,F,F,F,F,F,F,F,F,F,F,F,F,F,F,F,F]
abbrev q16_1 : Array Bool := #[F,T,F,F,F,F,F,F,F,F,F,F,F,F,F,F,F,F,F,F,F]
abbrev q16_2 : Array Bool := #[T,T,F,F,F,F,F,F,F,F,F,F,F,F,F,F,F,F,F,F,F]
abbrev q16_3 : Array Bool := #[T,T,T,F,F,F,F,F,F,F,F,F,F,F,F,F,F,F,F,F,F]
abbrev q16_4 : Array Bool := #[T,T,T,T,F,F,F,F,F,F,F,F,F,F,F,F,F,F,F,F,F]
abbrev q16_5 : Array Bool := #[T,T,T,T,T,F,F,F,F,F,F,F,F,F,F,F,F,F,F,F,F]
abbrev q16_6 : Array Bool := #[T,T,T,T,T,T,F,F,F,F,F,F,F,F,F,F,F,F,F,F,F]
abbrev q16_7 : Array Bool := #[T,T,T,T,T,T,T,F,F,F,F,F,F,F,F,F,F,F,F,F,F]
abbrev q16_8 : Array Bool := #[T,T,T,T,T,T,T,T,F,F,F,F,F,F,F,F,F,F,F,F,F]
abbrev q16_9 : Array Bool := #[T,T,T,T,T,T,T,T,T,F,F,F,F,F,F,F,F,F,F,F,F]
abbrev q16_10 : Array Bool := #[T,T,T,T,T,T,T,T,T,T,F,F,F,F,F,F,F,F,F,F,F]
abbrev q16_11 : Array Bool := #[T,T,T,T,T,T,T,T,T,T,T,F,F,F,F,F,F,F,F,F,F]
abbrev q16_12 : Array Bool := #[T,T,T,T,T,T,T,T,T,T,T,T,F,F,F,F,F,F,F,F,F]
abbrev q16_13 : Array Bool := #[T,T,T,T,T,T,T,T,T,T,T,T,T,F,F,F,F,F,F,F,F]
abbrev q16_14 : Array Bool := #[T,T,T,T,T,T,T,T,T,T,T,T,T,T,T,F,F,F,F,F,F]
abbrev q16_15 : Array Bool := #[T,T,T,T,T,T,T,T,T,T,T,T,T,T,T,T,F,F,F,F,F]
abbrev q16_16 : Array Bool := #[T,T,T,T,T,T,T,T,T,T,T,T,T,T,T,T,T,F,F,F,F]
abbrev q16_17 : Array Bool := #[T,T,T,T,T,T,T,T,T,T,T,T,T,T,T,T,T,T,F,F,F]
abbrev q16_18 : Array Bool := #[T,T,T,T,T,T,T,T,T,T,T,T,T,T,T,T,T,T,T,F,F]
abbrev q16_19 : Array Bool := #[T,T,T,T,T,T,T,T,T,T,T,T,T,T,T,T,T,T,T,T,F]
abbrev q16_20 : Array Bool := #[T,T,T,T,T,T,T,T,T,T,T,T,T,T,T,T,T,T,T,T,T]
abbrev q16_21 : Array Bool := #[T,T,T,T,T,T,T,T,T,T,T,T,T,T,F,F,F,F,F,F,F]

/-! ### clusterlocksref10_Room: function 16 -/
def clusterlocksref10_Room.f (k : Nat) (a0_0 : ByteArray) (a0_1 : Int) (a0_2 : Int) (a0_3 : Int) (l1 : List (S53)) (a2_0 : Int) (a2_1 : Int) (a2_2 : Int) (a3_0 : Int) (a3_1 : Int) : Option (Bool) := (clusterlocksref10_Valid.f k a0_0 a0_1 a0_2 a0_3 l1).bind fun t306 => (if t306 = true then ((clusterlocksref02_ValidProc.f a2_0 a2_1 a2_2).bind fun t307 => (if t307 = true then ((clusterlocksref04_Fits.f a0_0 a0_1 a0_2 a0_3 a3_0 a3_1).bind fun t308 => (if t308 = true then ((clusterlocksref10_Set.f k l1 a2_0 a2_1 a2_2 a3_0 a3_1).bind fun t309 => ((clusterlocksref10_Valid.f k a0_0 a0_1 a0_2 a0_3 t309).bind fun t312 => (some t312))) else (some false))) else (some false))) else (some false))
theorem clusterlocksref10_Room.mono : ∀ a0 a1 a2 a3 a4 a5 a6 a7 a8 a9 k, LeO (clusterlocksref10_Room.f k a0 a1 a2 a3 a4 a5 a6 a7 a8 a9) (clusterlocksref10_Room.f (k + 1) a0 a1 a2 a3 a4 a5 a6 a7 a8 a9) := by
 intro a0 a1 a2 a3 a4 a5 a6 a7 a8 a9 k
 unfold clusterlocksref10_Room.f
 repeat' first
   | (with_reducible exact clusterlocksref10_Set.mono _ _ _ _ _ _ _)
   | (with_reducible exact clusterlocksref10_Valid.mono _ _ _ _ _ _)
   | (with_reducible exact LeO.refl _)
   | (with_reducible exact LeO.none _)
   | (with_reducible refine LeO.ite ?_ ?_)
   | (with_reducible refine LeO.bind ?_ (fun _ => ?_))
   | exact clusterlocksref10_Set.mono _ _ _ _ _ _ _
   | exact clusterlocksref10_Valid.mono _ _ _ _ _ _
   | exact LeO.none _
   | refine LeO.ite ?_ ?_
   | refine LeO.bind ?_ (fun _ => ?_)
def clusterlocksref10_Room.T1 : Bool × List (List Nat × List Nat) := (true, [([], []), ([], []), ([0, 1], [0, 1]), ([2, 2], [2]), ([3], [3]), ([4, 3, 3], [3, 4]), ([3, 5], [3, 5]), ([6, 5], [6]), ([7], [7]), ([7], [7]), ([8, 9, 7, 7], [7, 8, 9]), ([7, 10], [7, 10]), ([11, 10], [11]), ([12], [12]), ([12], [12]), ([12], [12]), ([12], [12]), ([14, 15, 16, 12, 12], [12, 14, 15, 16]), ([13, 17, 17, 12], [12, 13, 17]), ([12, 18], [12, 18]), ([19, 18, 0, 1, 2, 3, 4, 5, 6, 7, 8, 9, 10, 11, 12, 13, 14, 15, 16, 17, 18, 19], [19])])
def clusterlocksref10_Room.B1 : List Nat := [0, 0, 3, 7, 15, 31, 63, 127, 255, 255, 1023, 2047, 4095, 8191, 8191, 8191, 8191, 122879, 262143, 524287, 1048575]
theorem clusterlocksref10_Room.tab1 : rtab .any (opsOf Tryd.f16 1) = clusterlocksref10_Room.T1 := by kernel_rfl
theorem clusterlocksref10_Room.bits1 : waitsOk clusterlocksref10_Room.T1.2 clusterlocksref10_Room.B1 = true := by kernel_rfl
set_option maxHeartbeats 8000000 in
set_option maxRecDepth 100000 in
theorem clusterlocksref10_Room.calls (k : Nat) (a0_0 : ByteArray) (a0_1 : Int) (a0_2 : Int) (a0_3 : Int) (A1 : Option Addr) (c1 : Nat) (l1 : List (S53)) (a2_0 : Int) (a2_1 : Int) (a2_2 : Int) (a3_0 : Int) (a3_1 : Int) (r : Bool) (w : World) (hr1 : Kd.C k53 w A1 l1.length l1) (hc1 : l1.length ≤ c1) (h : clusterlocksref10_Room.f k a0_0 a0_1 a0_2 a0_3 l1 a2_0 a2_1 a2_2 a3_0 a3_1 = some r) :
  Calls Tryd.prog 16 #[.agg #[.string a0_0, .int .i64 a0_1, .int .i64 a0_2, .int .i64 a0_3], .slice A1 l1.length c1, .agg #[.int .i64 a2_0, .int .i64 a2_1, .int .i64 a2_2], .agg #[.int .i64 a3_0, .int .i64 a3_1]] w fun e w' => e = .returned (.bool r) ∧ Below w.heap.size w w' := by
 have hu32 := Tryd.underlying32
 have hu24 := Tryd.underlying24
 have hu26 := Tryd.underlying26
 have HR1 := Aside0.mk hr1
 have HC1 := Aside0.mk hc1
 clear hr1 hc1
 have HB := Aside0.mk (Below.refl w.heap.size w)
 have H : ((clusterlocksref10_Valid.f k a0_0 a0_1 a0_2 a0_3 l1).bind fun t306 => (if t306 = true then ((clusterlocksref02_ValidProc.f a2_0 a2_1 a2_2).bind fun t307 => (if t307 = true then ((clusterlocksref04_Fits.f a0_0 a0_1 a0_2 a0_3 a3_0 a3_1).bind fun t308 => (if t308 = true then ((clusterlocksref10_Set.f k l1 a2_0 a2_1 a2_2 a3_0 a3_1).bind fun t309 => ((clusterlocksref10_Valid.f k a0_0 a0_1 a0_2 a0_3 t309).bind fun t312 => (some t312))) else (some false))) else (some false))) else (some false))) = some r := h
 clear h
 obtain ⟨t306, A50, H⟩ := Option.bind_eq_some_iff.mp H
 have A5 := Aside0.mk A50; clear A50
 have HH_ := Aside0.mk H
 clear H
 go_enter Tryd.func16, Tryd.ntmps16
 try go_wp2_with (first | ((with_reducible refine gate_dst (N := 4) rfl ?_); refine box_event ?hg (N := 4) ?hd (cs := #[.string a0_0, .int .i64 a0_1, .int .i64 a0_2, .int .i64 a0_3]) (t := 32) ?hr ?_; (case hd => rfl); (case hg => rfl); (case hr => first | (go_simp; done) | (go_simp; rfl)); intro gb303 hg w13 hbox hb; have BK303 := Aside0.mk hbox; have GW303 := gE HB hg; replace HB := bB HB hb; have GE303 := GW303; clear hb hbox hg) | ((with_reducible refine gate_dst (N := 6) rfl ?_); refine box_event ?hg (N := 6) ?hd (cs := #[.int .i64 a2_0, .int .i64 a2_1, .int .i64 a2_2]) (t := 24) ?hr ?_; (case hd => rfl); (case hg => rfl); (case hr => first | (go_simp; done) | (go_simp; rfl)); intro gb304 hg w14 hbox hb; have BK304 := Aside0.mk hbox; have GW304 := gE HB hg; replace HB := bB HB hb; have GE304 := GW304; have NB303_304 := gN BK303 hg; replace BK303 := bK BK303 hb; have NB304_303 := Aside0.mk NB303_304.out.symm; clear hb hbox hg) | ((with_reducible refine gate_dst (N := 7) rfl ?_); refine box_event ?hg (N := 7) ?hd (cs := #[.int .i64 a3_0, .int .i64 a3_1]) (t := 26) ?hr ?_; (case hd => rfl); (case hg => rfl); (case hr => first | (go_simp; done) | (go_simp; rfl)); intro gb305 hg w15 hbox hb; have BK305 := Aside0.mk hbox; have GW305 := gE HB hg; replace HB := bB HB hb; have GE305 := GW305; have NB303_305 := gN BK303 hg; replace BK303 := bK BK303 hb; have NB305_303 := Aside0.mk NB303_305.out.symm; have NB304_305 := gN BK304 hg; replace BK304 := bK BK304 hb; have NB305_304 := Aside0.mk NB304_305.out.symm; clear hb hbox hg))
 replace BK303 := Aside0.mk (blk_drew BK303.out)
 replace BK304 := Aside0.mk (blk_drew BK304.out)
 replace BK305 := Aside0.mk (blk_drew BK305.out)
 replace HB := Aside0.mk (below_drew1 HB.out)
 have H := HH_.out
 clear HH_
 by_cases c6 : t306 = true
 ·subst c6
  rw [if_pos rfl] at H
  obtain ⟨t307, A70, H⟩ := Option.bind_eq_some_iff.mp H
  have A7 := Aside0.mk A70; clear A70
  by_cases c8 : t307 = true
  ·subst c8
   rw [if_pos rfl] at H
   obtain ⟨t308, A90, H⟩ := Option.bind_eq_some_iff.mp H
   have A9 := Aside0.mk A90; clear A90
   have HH_ := Aside0.mk H
   clear H
   refine start_ (n := 21) (S := fun w' => w'.cell? ⟨gb303, 0, none⟩ = some (.string a0_0) ∧ w'.cell? ⟨gb303, 1, none⟩ = some (.int .i64 a0_1) ∧ w'.cell? ⟨gb303, 2, none⟩ = some (.int .i64 a0_2) ∧ w'.cell? ⟨gb303, 3, none⟩ = some (.int .i64 a0_3) ∧ w'.cell? ⟨gb304, 0, none⟩ = some (.int .i64 a2_0) ∧ w'.cell? ⟨gb304, 1, none⟩ = some (.int .i64 a2_1) ∧ w'.cell? ⟨gb304, 2, none⟩ = some (.int .i64 a2_2) ∧ w'.cell? ⟨gb305, 0, none⟩ = some (.int .i64 a3_0) ∧ w'.cell? ⟨gb305, 1, none⟩ = some (.int .i64 a3_1)) (ds := []) q16_0 (by kernel_rfl) rfl rfl ⟨bC BK303 0 rfl, bC BK303 1 rfl, bC BK303 2 rfl, bC BK303 3 rfl, bC BK304 0 rfl, bC BK304 1 rfl, bC BK304 2 rfl, bC BK305 0 rfl, bC BK305 1 rfl⟩ (fun hHeld => ?_); refine with_tabW clusterlocksref10_Room.tab1 clusterlocksref10_Room.bits1 (fun HT_ HW_ => ?_)
   generalize w15.drew = w16 at BK303 BK304 BK305 HB hHeld ⊢
   refine pu HT_ 1 10 q16_1 rfl rfl (by kernel_rfl) (fun _ _ _ => id) (.inl ⟨by rfl, by intro w'; go_simp; with_reducible rfl⟩) (by simp only [sP]; rfl) ?_
   refine tk HT_ HW_ 0 9 q16_2 rfl rfl (by kernel_rfl) (fun _ _ _ => id) (.inl ⟨by rfl, by rintro w' ⟨s0, s1, s2, s3, s4, s5, s6, s7, s8⟩; go_simp; with_reducible rfl⟩) hHeld (by simp only [sP]; rfl) ?_
   refine one_ (i := 2) (N := some 11) q16_3 rfl rfl (one_of HT_.out (by kernel_rfl)) (by decide) (fun K hK => ?_)
   refine goes_ Tryd.func26 (by kernel_rfl) rfl #[.agg #[.string a0_0, .int .i64 a0_1, .int .i64 a0_2, .int .i64 a0_3], .slice A1 l1.length c1] (by rfl) rfl rfl (by (try simp only [mA]); first | done | rfl) ?_
   with_reducible refine (clusterlocksref10_Valid.calls k a0_0 a0_1 a0_2 a0_3 _ _ l1 true _ ?side1 ?side2 A5.out).mono ?_
   (case side1 => repeat (first | exact (Kd.C_below HR1.out HB.out) | (with_reducible refine Kd.C_alloc ?_ _) | (with_reducible refine Kd.C_drewN ?_ _) | (with_reducible refine Kd.C_drew ?_)))
   (case side2 => exact HC1.out)
   rintro e w17 ⟨rfl, hb⟩
   refine ⟨_, rfl, ?_⟩
   replace BK303 := bK BK303 hb
   replace BK304 := bK BK304 hb
   replace BK305 := bK BK305 hb
   replace HB := bB HB hb
   (try clear hb)
   refine hK.out _ _ ⟨bC BK303 0 rfl, bC BK303 1 rfl, bC BK303 2 rfl, bC BK303 3 rfl, bC BK304 0 rfl, bC BK304 1 rfl, bC BK304 2 rfl, bC BK305 0 rfl, bC BK305 1 rfl⟩ (fun hHeld => ?_)
   clear hK K
   refine norm_ (a' := ?_) ?_ ?_
   rotate_left
   ·show Act.put _ (some 11) _ = _
    simp only [sP]
    rfl
   refine pu HT_ 3 12 q16_4 rfl rfl (by kernel_rfl) (fun _ _ _ => id) (.inl ⟨by rfl, by intro w'; go_simp; with_reducible rfl⟩) (by simp only [sP]; rfl) ?_
   refine tk HT_ HW_ 4 13 q16_5 rfl rfl (by kernel_rfl) (fun _ _ _ => id) (.inl ⟨by rfl, by rintro w' ⟨s0, s1, s2, s3, s4, s5, s6, s7, s8⟩; go_simp; with_reducible rfl⟩) hHeld (by simp only [sP]; rfl) ?_
   refine one_ (i := 5) (N := some 14) q16_6 rfl rfl (one_of HT_.out (by kernel_rfl)) (by decide) (fun K hK => ?_)
   refine goes_ Tryd.func36 (by kernel_rfl) rfl #[.agg #[.int .i64 a2_0, .int .i64 a2_1, .int .i64 a2_2]] (by rfl) rfl rfl (by (try simp only [mA]); first | done | rfl) ?_
   with_reducible refine (clusterlocksref02_ValidProc.calls a2_0 a2_1 a2_2 true _ A7.out).mono ?_
   rintro e w18 ⟨rfl, hb⟩
   refine ⟨_, rfl, ?_⟩
   replace BK303 := bK BK303 hb
   replace BK304 := bK BK304 hb
   replace BK305 := bK BK305 hb
   replace HB := bB HB hb
   (try clear hb)
   refine hK.out _ _ ⟨bC BK303 0 rfl, bC BK303 1 rfl, bC BK303 2 rfl, bC BK303 3 rfl, bC BK304 0 rfl, bC BK304 1 rfl, bC BK304 2 rfl, bC BK305 0 rfl, bC BK305 1 rfl⟩ (fun hHeld => ?_)
   clear hK K
   refine norm_ (a' := ?_) ?_ ?_
   rotate_left
   ·show Act.put _ (some 14) _ = _
    simp only [sP]
    rfl
   refine pu HT_ 6 15 q16_7 rfl rfl (by kernel_rfl) (fun _ _ _ => id) (.inl ⟨by rfl, by intro w'; go_simp; with_reducible rfl⟩) (by simp only [sP]; rfl) ?_
   refine pu HT_ 7 16 q16_8 rfl rfl (by kernel_rfl) (fun _ _ _ => id) (.inl ⟨by rfl, by intro w'; go_simp; with_reducible rfl⟩) (by simp only [sP]; rfl) ?_
   refine tk HT_ HW_ 8 17 q16_9 rfl rfl (by kernel_rfl) (fun _ _ _ => id) (.inl ⟨by rfl, by rintro w' ⟨s0, s1, s2, s3, s4, s5, s6, s7, s8⟩; go_simp; with_reducible rfl⟩) hHeld (by simp only [sP]; rfl) ?_
   refine tk HT_ HW_ 9 18 q16_10 rfl rfl (by kernel_rfl) (fun _ _ _ => id) (.inl ⟨by rfl, by rintro w' ⟨s0, s1, s2, s3, s4, s5, s6, s7, s8⟩; go_simp; with_reducible rfl⟩) hHeld (by simp only [sP]; rfl) ?_
   refine one_ (i := 10) (N := some 19) q16_11 rfl rfl (one_of HT_.out (by kernel_rfl)) (by decide) (fun K hK => ?_)
   refine goes_ Tryd.func37 (by kernel_rfl) rfl #[.agg #[.string a0_0, .int .i64 a0_1, .int .i64 a0_2, .int .i64 a0_3], .agg #[.int .i64 a3_0, .int .i64 a3_1]] (by rfl) rfl rfl (by (try simp only [mA]); first | done | rfl) ?_
   have H := HH_.out
   clear HH_
   by_cases c10 : t308 = true
   ·subst c10
    rw [if_pos rfl] at H
    obtain ⟨t309, A110, H⟩ := Option.bind_eq_some_iff.mp H
    have A11 := Aside0.mk A110; clear A110
    obtain ⟨t312, A120, H⟩ := Option.bind_eq_some_iff.mp H
    have A12 := Aside0.mk A120; clear A120
    obtain rfl := Option.some.inj H
    with_reducible refine (clusterlocksref04_Fits.calls a0_0 a0_1 a0_2 a0_3 a3_0 a3_1 true _ A9.out).mono ?_
    rintro e w19 ⟨rfl, hb⟩
    refine ⟨_, rfl, ?_⟩
    replace BK303 := bK BK303 hb
    replace BK304 := bK BK304 hb
    replace BK305 := bK BK305 hb
    replace HB := bB HB hb
    (try clear hb)
    refine hK.out _ _ ⟨bC BK303 0 rfl, bC BK303 1 rfl, bC BK303 2 rfl, bC BK303 3 rfl, bC BK304 0 rfl, bC BK304 1 rfl, bC BK304 2 rfl, bC BK305 0 rfl, bC BK305 1 rfl⟩ (fun hHeld => ?_)
    clear hK K
    refine norm_ (a' := ?_) ?_ ?_
    rotate_left
    ·show Act.put _ (some 19) _ = _
     simp only [sP]
     rfl
    refine pu HT_ 11 20 q16_12 rfl rfl (by kernel_rfl) (fun _ _ _ => id) (.inl ⟨by rfl, by intro w'; go_simp; with_reducible rfl⟩) (by simp only [sP]; rfl) ?_
    refine pu HT_ 12 21 q16_13 rfl rfl (by kernel_rfl) (fun _ _ _ => id) (.inl ⟨by rfl, by intro w'; go_simp; with_reducible rfl⟩) (by simp only [sP]; rfl) ?_
    refine pu HT_ 14 23 #[T,T,T,T,T,T,T,T,T,T,T,T,T,F,T,F,F,F,F,F,F] rfl rfl (by kernel_rfl) (fun _ _ _ => id) (.inl ⟨by rfl, by intro w'; go_simp; with_reducible rfl⟩) (by simp only [sP]; rfl) ?_
    refine tk HT_ HW_ 13 22 q16_14 rfl rfl (by kernel_rfl) (fun _ _ _ => id) (.inl ⟨by rfl, by rintro w' ⟨s0, s1, s2, s3, s4, s5, s6, s7, s8⟩; go_simp; with_reducible rfl⟩) hHeld (by simp only [sP]; rfl) ?_
    refine tk HT_ HW_ 15 24 q16_15 rfl rfl (by kernel_rfl) (fun _ _ _ => id) (.inl ⟨by rfl, by rintro w' ⟨s0, s1, s2, s3, s4, s5, s6, s7, s8⟩; go_simp; with_reducible rfl⟩) hHeld (by simp only [sP]; rfl) ?_
    refine tk HT_ HW_ 16 25 q16_16 rfl rfl (by kernel_rfl) (fun _ _ _ => id) (.inl ⟨by rfl, by rintro w' ⟨s0, s1, s2, s3, s4, s5, s6, s7, s8⟩; go_simp; with_reducible rfl⟩) hHeld (by simp only [sP]; rfl) ?_
    refine one_ (i := 17) (N := some 26) q16_17 rfl rfl (one_of HT_.out (by kernel_rfl)) (by decide) (fun K hK => ?_)
    refine goes_ Tryd.func14 (by kernel_rfl) rfl #[.slice A1 l1.length c1, .agg #[.int .i64 a2_0, .int .i64 a2_1, .int .i64 a2_2], .agg #[.int .i64 a3_0, .int .i64 a3_1]] (by rfl) rfl rfl (by (try simp only [mA]); first | done | rfl) ?_
    with_reducible refine (clusterlocksref10_Set.calls k _ _ l1 a2_0 a2_1 a2_2 a3_0 a3_1 t309 _ ?side1 ?side2 A11.out).mono ?_
    (case side1 => repeat (first | exact (Kd.C_below HR1.out HB.out) | (with_reducible refine Kd.C_alloc ?_ _) | (with_reducible refine Kd.C_drewN ?_ _) | (with_reducible refine Kd.C_drew ?_)))
    (case side2 => exact HC1.out)
    rintro e w20 ⟨v310, rfl, ho0, hb⟩
    refine ⟨_, rfl, ?_⟩
    have HO311 := Aside0.mk (Kd.R_lower ho0 (below_size (uB HB)))
    replace BK303 := bK BK303 hb
    replace BK304 := bK BK304 hb
    replace BK305 := bK BK305 hb
    replace HB := bB HB hb
    (try clear hb)
    (try clear ho0)
    obtain ⟨Ao21, co21, eo21⟩ := Kd.R_slice HO311.out
    (first | subst eo21 | (injection eo21 with f1_ f2_ f3_; have f4_ := f1_.symm; have f5_ := f3_.symm; clear f1_ f2_ f3_; subst f4_; subst f5_))
    refine hK.out _ _ ⟨bC BK303 0 rfl, bC BK303 1 rfl, bC BK303 2 rfl, bC BK303 3 rfl, bC BK304 0 rfl, bC BK304 1 rfl, bC BK304 2 rfl, bC BK305 0 rfl, bC BK305 1 rfl⟩ (fun hHeld => ?_)
    clear hK K
    refine norm_ (a' := ?_) ?_ ?_
    rotate_left
    ·show Act.put _ (some 26) _ = _
     simp only [sP]
     rfl
    refine one_ (i := 18) (N := some 27) q16_18 rfl rfl (one_of HT_.out (by kernel_rfl)) (by decide) (fun K hK => ?_)
    refine goes_ Tryd.func26 (by kernel_rfl) rfl #[.agg #[.string a0_0, .int .i64 a0_1, .int .i64 a0_2, .int .i64 a0_3], .slice Ao21 t309.length co21] (by rfl) rfl rfl (by (try simp only [mA]); first | done | rfl) ?_
    with_reducible refine (clusterlocksref10_Valid.calls k a0_0 a0_1 a0_2 a0_3 _ _ t309 t312 _ ?side1 ?side2 A12.out).mono ?_
    (case side1 => repeat (first | exact (Kd.R_reads' HO311.out).2.2 | (with_reducible refine Kd.C_alloc ?_ _) | (with_reducible refine Kd.C_drewN ?_ _) | (with_reducible refine Kd.C_drew ?_)))
    (case side2 => exact (Kd.R_reads' HO311.out).2.1)
    rintro e w22 ⟨rfl, hb⟩
    refine ⟨_, rfl, ?_⟩
    replace HO311 := Aside0.mk (Kd.R_below (by (with_reducible repeat (first | apply Kd.R_alloc | apply Kd.R_drewN | apply Kd.R_drew)); exact HO311.out) hb)
    replace BK303 := bK BK303 hb
    replace BK304 := bK BK304 hb
    replace BK305 := bK BK305 hb
    replace HB := bB HB hb
    (try clear hb)
    refine hK.out _ _ ⟨bC BK303 0 rfl, bC BK303 1 rfl, bC BK303 2 rfl, bC BK303 3 rfl, bC BK304 0 rfl, bC BK304 1 rfl, bC BK304 2 rfl, bC BK305 0 rfl, bC BK305 1 rfl⟩ (fun hHeld => ?_)
    clear hK K
    refine norm_ (a' := ?_) ?_ ?_
    rotate_left
    ·show Act.put _ (some 27) _ = _
     simp only [sP]
     rfl
    refine pu HT_ 19 28 q16_19 rfl rfl (by kernel_rfl) (fun _ _ _ => id) (.inl ⟨by rfl, by intro w'; go_simp; with_reducible rfl⟩) (by simp only [sP]; rfl) ?_
    refine pu HT_ 20 8 q16_20 rfl rfl (by kernel_rfl) (fun _ _ _ => id) (.inl ⟨by rfl, by intro w'; go_simp; with_reducible rfl⟩) (by simp only [sP]; rfl) ?_
    refine done_ (done_of HT_.out (by kernel_rfl)) ?_
    try go_wp2
    go_ret
    exact ⟨by first | rfl | (simp [errW_none, errW_some] <;> rfl) | (simp [*, errW_none, errW_some] <;> rfl), by repeat (first | (with_reducible first | exact HB.out | apply bL | apply bM | apply bR) | exact HB.out)⟩
   ·replace c10 := Bool.eq_false_iff.mpr c10
    subst c10
    rw [if_neg (show ¬ (false = true) by decide)] at H
    obtain rfl := Option.some.inj H
    with_reducible refine (clusterlocksref04_Fits.calls a0_0 a0_1 a0_2 a0_3 a3_0 a3_1 false _ A9.out).mono ?_
    rintro e w29 ⟨rfl, hb⟩
    refine ⟨_, rfl, ?_⟩
    replace BK303 := bK BK303 hb
    replace BK304 := bK BK304 hb
    replace BK305 := bK BK305 hb
    replace HB := bB HB hb
    (try clear hb)
    refine hK.out _ _ ⟨bC BK303 0 rfl, bC BK303 1 rfl, bC BK303 2 rfl, bC BK303 3 rfl, bC BK304 0 rfl, bC BK304 1 rfl, bC BK304 2 rfl, bC BK305 0 rfl, bC BK305 1 rfl⟩ (fun hHeld => ?_)
    clear hK K
    refine norm_ (a' := ?_) ?_ ?_
    rotate_left
    ·show Act.put _ (some 19) _ = _
     simp only [sP]
     rfl
    refine pu HT_ 11 20 q16_12 rfl rfl (by kernel_rfl) (fun _ _ _ => id) (.inl ⟨by rfl, by intro w'; go_simp; with_reducible rfl⟩) (by simp only [sP]; rfl) ?_
    refine pu HT_ 12 21 q16_13 rfl rfl (by kernel_rfl) (fun _ _ _ => id) (.inl ⟨by rfl, by intro w'; go_simp; with_reducible rfl⟩) (by simp only [sP]; rfl) ?_
    refine pu HT_ 13 22 q16_21 rfl rfl (by kernel_rfl) (fun _ _ _ => id) (.inr ⟨by rfl, rfl⟩) (by simp only [sP]; rfl) ?_
    refine pu HT_ 14 23 q16_14 rfl rfl (by kernel_rfl) (fun _ _ _ => id) (.inr ⟨by rfl, rfl⟩) (by simp only [sP]; rfl) ?_
    refine pu HT_ 15 24 q16_15 rfl rfl (by kernel_rfl) (fun _ _ _ => id) (.inr ⟨by rfl, rfl⟩) (by simp only [sP]; rfl) ?_
    refine pu HT_ 16 25 q16_16 rfl rfl (by kernel_rfl) (fun _ _ _ => id) (.inr ⟨by rfl, rfl⟩) (by simp only [sP]; rfl) ?_
    refine pu HT_ 17 26 q16_17 rfl rfl (by kernel_rfl) (fun _ _ _ => id) (.inr ⟨by rfl, rfl⟩) (by simp only [sP]; rfl) ?_
    refine pu HT_ 18 27 q16_18 rfl rfl (by kernel_rfl) (fun _ _ _ => id) (.inr ⟨by rfl, rfl⟩) (by simp only [sP]; rfl) ?_
    refine pu HT_ 19 28 q16_19 rfl rfl (by kernel_rfl) (fun _ _ _ => id) (.inl ⟨by rfl, by intro w'; go_simp; with_reducible rfl⟩) (by simp only [sP]; rfl) ?_
    refine pu HT_ 20 8 q16_20 rfl rfl (by kernel_rfl) (fun _ _ _ => id) (.inl ⟨by rfl, by intro w'; go_simp; with_reducible rfl⟩) (by simp only [sP]; rfl) ?_
    refine done_ (done_of HT_.out (by kernel_rfl)) ?_
    try go_wp2
    go_ret
    exact ⟨by first | rfl | (simp [errW_none, errW_some] <;> rfl) | (simp [*, errW_none, errW_some] <;> rfl), by repeat (first | (with_reducible first | exact HB.out | apply bL | apply bM | apply bR) | exact HB.out)⟩
  ·replace c8 := Bool.eq_false_iff.mpr c8
   subst c8
   rw [if_neg (show ¬ (false = true) by decide)] at H
   obtain rfl := Option.some.inj H
   refine start_ (n := 21) (S := fun w' => w'.cell? ⟨gb303, 0, none⟩ = some (.string a0_0) ∧ w'.cell? ⟨gb303, 1, none⟩ = some (.int .i64 a0_1) ∧ w'.cell? ⟨gb303, 2, none⟩ = some (.int .i64 a0_2) ∧ w'.cell? ⟨gb303, 3, none⟩ = some (.int .i64 a0_3) ∧ w'.cell? ⟨gb304, 0, none⟩ = some (.int .i64 a2_0) ∧ w'.cell? ⟨gb304, 1, none⟩ = some (.int .i64 a2_1) ∧ w'.cell? ⟨gb304, 2, none⟩ = some (.int .i64 a2_2)) (ds := []) q16_0 (by kernel_rfl) rfl rfl ⟨bC BK303 0 rfl, bC BK303 1 rfl, bC BK303 2 rfl, bC BK303 3 rfl, bC BK304 0 rfl, bC BK304 1 rfl, bC BK304 2 rfl⟩ (fun hHeld => ?_); refine with_tabW clusterlocksref10_Room.tab1 clusterlocksref10_Room.bits1 (fun HT_ HW_ => ?_)
   generalize w15.drew = w33 at BK303 BK304 BK305 HB hHeld ⊢
   refine pu HT_ 1 10 q16_1 rfl rfl (by kernel_rfl) (fun _ _ _ => id) (.inl ⟨by rfl, by intro w'; go_simp; with_reducible rfl⟩) (by simp only [sP]; rfl) ?_
   refine tk HT_ HW_ 0 9 q16_2 rfl rfl (by kernel_rfl) (fun _ _ _ => id) (.inl ⟨by rfl, by rintro w' ⟨s0, s1, s2, s3, s4, s5, s6⟩; go_simp; with_reducible rfl⟩) hHeld (by simp only [sP]; rfl) ?_
   refine one_ (i := 2) (N := some 11) q16_3 rfl rfl (one_of HT_.out (by kernel_rfl)) (by decide) (fun K hK => ?_)
   refine goes_ Tryd.func26 (by kernel_rfl) rfl #[.agg #[.string a0_0, .int .i64 a0_1, .int .i64 a0_2, .int .i64 a0_3], .slice A1 l1.length c1] (by rfl) rfl rfl (by (try simp only [mA]); first | done | rfl) ?_
   with_reducible refine (clusterlocksref10_Valid.calls k a0_0 a0_1 a0_2 a0_3 _ _ l1 true _ ?side1 ?side2 A5.out).mono ?_
   (case side1 => repeat (first | exact (Kd.C_below HR1.out HB.out) | (with_reducible refine Kd.C_alloc ?_ _) | (with_reducible refine Kd.C_drewN ?_ _) | (with_reducible refine Kd.C_drew ?_)))
   (case side2 => exact HC1.out)
   rintro e w34 ⟨rfl, hb⟩
   refine ⟨_, rfl, ?_⟩
   replace BK303 := bK BK303 hb
   replace BK304 := bK BK304 hb
   replace BK305 := bK BK305 hb
   replace HB := bB HB hb
   (try clear hb)
   refine hK.out _ _ ⟨bC BK303 0 rfl, bC BK303 1 rfl, bC BK303 2 rfl, bC BK303 3 rfl, bC BK304 0 rfl, bC BK304 1 rfl, bC BK304 2 rfl⟩ (fun hHeld => ?_)
   clear hK K
   refine norm_ (a' := ?_) ?_ ?_
   rotate_left
   ·show Act.put _ (some 11) _ = _
    simp only [sP]
    rfl
   refine pu HT_ 3 12 q16_4 rfl rfl (by kernel_rfl) (fun _ _ _ => id) (.inl ⟨by rfl, by intro w'; go_simp; with_reducible rfl⟩) (by simp only [sP]; rfl) ?_
   refine tk HT_ HW_ 4 13 q16_5 rfl rfl (by kernel_rfl) (fun _ _ _ => id) (.inl ⟨by rfl, by rintro w' ⟨s0, s1, s2, s3, s4, s5, s6⟩; go_simp; with_reducible rfl⟩) hHeld (by simp only [sP]; rfl) ?_
   refine one_ (i := 5) (N := some 14) q16_6 rfl rfl (one_of HT_.out (by kernel_rfl)) (by decide) (fun K hK => ?_)
   refine goes_ Tryd.func36 (by kernel_rfl) rfl #[.agg #[.int .i64 a2_0, .int .i64 a2_1, .int .i64 a2_2]] (by rfl) rfl rfl (by (try simp only [mA]); first | done | rfl) ?_
   with_reducible refine (clusterlocksref02_ValidProc.calls a2_0 a2_1 a2_2 false _ A7.out).mono ?_
   rintro e w35 ⟨rfl, hb⟩
   refine ⟨_, rfl, ?_⟩
   replace BK303 := bK BK303 hb
   replace BK304 := bK BK304 hb
   replace BK305 := bK BK305 hb
   replace HB := bB HB hb
   (try clear hb)
   refine hK.out _ _ ⟨bC BK303 0 rfl, bC BK303 1 rfl, bC BK303 2 rfl, bC BK303 3 rfl, bC BK304 0 rfl, bC BK304 1 rfl, bC BK304 2 rfl⟩ (fun hHeld => ?_)
   clear hK K
   refine norm_ (a' := ?_) ?_ ?_
   rotate_left
   ·show Act.put _ (some 14) _ = _
    simp only [sP]
    rfl
   refine pu HT_ 6 15 q16_7 rfl rfl (by kernel_rfl) (fun _ _ _ => id) (.inl ⟨by rfl, by intro w'; go_simp; with_reducible rfl⟩) (by simp only [sP]; rfl) ?_
   refine pu HT_ 7 16 q16_8 rfl rfl (by kernel_rfl) (fun _ _ _ => id) (.inl ⟨by rfl, by intro w'; go_simp; with_reducible rfl⟩) (by simp only [sP]; rfl) ?_
   refine pu HT_ 8 17 q16_9 rfl rfl (by kernel_rfl) (fun _ _ _ => id) (.inr ⟨by rfl, rfl⟩) (by simp only [sP]; rfl) ?_
   refine pu HT_ 9 18 q16_10 rfl rfl (by kernel_rfl) (fun _ _ _ => id) (.inr ⟨by rfl, rfl⟩) (by simp only [sP]; rfl) ?_
   refine pu HT_ 10 19 q16_11 rfl rfl (by kernel_rfl) (fun _ _ _ => id) (.inr ⟨by rfl, rfl⟩) (by simp only [sP]; rfl) ?_
   refine pu HT_ 11 20 q16_12 rfl rfl (by kernel_rfl) (fun _ _ _ => id) (.inl ⟨by rfl, by intro w'; go_simp; with_reducible rfl⟩) (by simp only [sP]; rfl) ?_
   refine pu HT_ 12 21 q16_13 rfl rfl (by kernel_rfl) (fun _ _ _ => id) (.inl ⟨by rfl, by intro w'; go_simp; with_reducible rfl⟩) (by simp only [sP]; rfl) ?_
   refine pu HT_ 13 22 q16_21 rfl rfl (by kernel_rfl) (fun _ _ _ => id) (.inr ⟨by rfl, rfl⟩) (by simp only [sP]; rfl) ?_
   refine pu HT_ 14 23 q16_14 rfl rfl (by kernel_rfl) (fun _ _ _ => id) (.inr ⟨by rfl, rfl⟩) (by simp only [sP]; rfl) ?_
   refine pu HT_ 15 24 q16_15 rfl rfl (by kernel_rfl) (fun _ _ _ => id) (.inr ⟨by rfl, rfl⟩) (by simp only [sP]; rfl) ?_
   refine pu HT_ 16 25 q16_16 rfl rfl (by kernel_rfl) (fun _ _ _ => id) (.inr ⟨by rfl, rfl⟩) (by simp only [sP]; rfl) ?_
   refine pu HT_ 17 26 q16_17 rfl rfl (by kernel_rfl) (fun _ _ _ => id) (.inr ⟨by rfl, rfl⟩) (by simp only [sP]; rfl) ?_
   refine pu HT_ 18 27 q16_18 rfl rfl (by kernel_rfl) (fun _ _ _ => id) (.inr ⟨by rfl, rfl⟩) (by simp only [sP]; rfl) ?_
   refine pu HT_ 19 28 q16_19 rfl rfl (by kernel_rfl) (fun _ _ _ => id) (.inl ⟨by rfl, by intro w'; go_simp; with_reducible rfl⟩) (by simp only [sP]; rfl) ?_
   refine pu HT_ 20 8 q16_20 rfl rfl (by kernel_rfl) (fun _ _ _ => id) (.inl ⟨by rfl, by intro w'; go_simp; with_reducible rfl⟩) (by simp only [sP]; rfl) ?_
   refine done_ (done_of HT_.out (by kernel_rfl)) ?_
   try go_wp2
   go_ret
   exact ⟨by first | rfl | (simp [errW_none, errW_some] <;> rfl) | (simp [*, errW_none, errW_some] <;> rfl), by repeat (first | (with_reducible first | exact HB.out | apply bL | apply bM | apply bR) | exact HB.out)⟩
 ·replace c6 := Bool.eq_false_iff.mpr c6
  subst c6
  rw [if_neg (show ¬ (false = true) by decide)] at H
  obtain rfl := Option.some.inj H
  refine start_ (n := 21) (S := fun w' => w'.cell? ⟨gb303, 0, none⟩ = some (.string a0_0) ∧ w'.cell? ⟨gb303, 1, none⟩ = some (.int .i64 a0_1) ∧ w'.cell? ⟨gb303, 2, none⟩ = some (.int .i64 a0_2) ∧ w'.cell? ⟨gb303, 3, none⟩ = some (.int .i64 a0_3)) (ds := []) q16_0 (by kernel_rfl) rfl rfl ⟨bC BK303 0 rfl, bC BK303 1 rfl, bC BK303 2 rfl, bC BK303 3 rfl⟩ (fun hHeld => ?_); refine with_tabW clusterlocksref10_Room.tab1 clusterlocksref10_Room.bits1 (fun HT_ HW_ => ?_)
  generalize w15.drew = w39 at BK303 BK304 BK305 HB hHeld ⊢
  refine pu HT_ 1 10 q16_1 rfl rfl (by kernel_rfl) (fun _ _ _ => id) (.inl ⟨by rfl, by intro w'; go_simp; with_reducible rfl⟩) (by simp only [sP]; rfl) ?_
  refine tk HT_ HW_ 0 9 q16_2 rfl rfl (by kernel_rfl) (fun _ _ _ => id) (.inl ⟨by rfl, by rintro w' ⟨s0, s1, s2, s3⟩; go_simp; with_reducible rfl⟩) hHeld (by simp only [sP]; rfl) ?_
  refine one_ (i := 2) (N := some 11) q16_3 rfl rfl (one_of HT_.out (by kernel_rfl)) (by decide) (fun K hK => ?_)
  refine goes_ Tryd.func26 (by kernel_rfl) rfl #[.agg #[.string a0_0, .int .i64 a0_1, .int .i64 a0_2, .int .i64 a0_3], .slice A1 l1.length c1] (by rfl) rfl rfl (by (try simp only [mA]); first | done | rfl) ?_
  with_reducible refine (clusterlocksref10_Valid.calls k a0_0 a0_1 a0_2 a0_3 _ _ l1 false _ ?side1 ?side2 A5.out).mono ?_
  (case side1 => repeat (first | exact (Kd.C_below HR1.out HB.out) | (with_reducible refine Kd.C_alloc ?_ _) | (with_reducible refine Kd.C_drewN ?_ _) | (with_reducible refine Kd.C_drew ?_)))
  (case side2 => exact HC1.out)
  rintro e w40 ⟨rfl, hb⟩
  refine ⟨_, rfl, ?_⟩
  replace BK303 := bK BK303 hb
  replace BK304 := bK BK304 hb
  replace BK305 := bK BK305 hb
  replace HB := bB HB hb
  (try clear hb)
  refine hK.out _ _ ⟨bC BK303 0 rfl, bC BK303 1 rfl, bC BK303 2 rfl, bC BK303 3 rfl⟩ (fun hHeld => ?_)
  clear hK K
  refine norm_ (a' := ?_) ?_ ?_
  rotate_left
  ·show Act.put _ (some 11) _ = _
   simp only [sP]
   rfl
  refine pu HT_ 3 12 q16_4 rfl rfl (by kernel_rfl) (fun _ _ _ => id) (.inl ⟨by rfl, by intro w'; go_simp; with_reducible rfl⟩) (by simp only [sP]; rfl) ?_
  refine pu HT_ 4 13 q16_5 rfl rfl (by kernel_rfl) (fun _ _ _ => id) (.inr ⟨by rfl, rfl⟩) (by simp only [sP]; rfl) ?_
  refine pu HT_ 5 14 q16_6 rfl rfl (by kernel_rfl) (fun _ _ _ => id) (.inr ⟨by rfl, rfl⟩) (by simp only [sP]; rfl) ?_
  refine pu HT_ 6 15 q16_7 rfl rfl (by kernel_rfl) (fun _ _ _ => id) (.inl ⟨by rfl, by intro w'; go_simp; with_reducible rfl⟩) (by simp only [sP]; rfl) ?_
  refine pu HT_ 7 16 q16_8 rfl rfl (by kernel_rfl) (fun _ _ _ => id) (.inl ⟨by rfl, by intro w'; go_simp; with_reducible rfl⟩) (by simp only [sP]; rfl) ?_
  refine pu HT_ 8 17 q16_9 rfl rfl (by kernel_rfl) (fun _ _ _ => id) (.inr ⟨by rfl, rfl⟩) (by simp only [sP]; rfl) ?_
  refine pu HT_ 9 18 q16_10 rfl rfl (by kernel_rfl) (fun _ _ _ => id) (.inr ⟨by rfl, rfl⟩) (by simp only [sP]; rfl) ?_
  refine pu HT_ 10 19 q16_11 rfl rfl (by kernel_rfl) (fun _ _ _ => id) (.inr ⟨by rfl, rfl⟩) (by simp only [sP]; rfl) ?_
  refine pu HT_ 11 20 q16_12 rfl rfl (by kernel_rfl) (fun _ _ _ => id) (.inl ⟨by rfl, by intro w'; go_simp; with_reducible rfl⟩) (by simp only [sP]; rfl) ?_
  refine pu HT_ 12 21 q16_13 rfl rfl (by kernel_rfl) (fun _ _ _ => id) (.inl ⟨by rfl, by intro w'; go_simp; with_reducible rfl⟩) (by simp only [sP]; rfl) ?_
  refine pu HT_ 13 22 q16_21 rfl rfl (by kernel_rfl) (fun _ _ _ => id) (.inr ⟨by rfl, rfl⟩) (by simp only [sP]; rfl) ?_
  refine pu HT_ 14 23 q16_14 rfl rfl (by kernel_rfl) (fun _ _ _ => id) (.inr ⟨by rfl, rfl⟩) (by simp only [sP]; rfl) ?_
  refine pu HT_ 15 24 q16_15 rfl rfl (by kernel_rfl) (fun _ _ _ => id) (.inr ⟨by rfl, rfl⟩) (by simp only [sP]; rfl) ?_
  refine pu HT_ 16 25 q16_16 rfl rfl (by kernel_rfl) (fun _ _ _ => id) (.inr ⟨by rfl, rfl⟩) (by simp only [sP]; rfl) ?_
  refine pu HT_ 17 26 q16_17 rfl rfl (by kernel_rfl) (fun _ _ _ => id) (.inr ⟨by rfl, rfl⟩) (by simp only [sP]; rfl) ?_
  refine pu HT_ 18 27 q16_18 rfl rfl (by kernel_rfl) (fun _ _ _ => id) (.inr ⟨by rfl, rfl⟩) (by simp only [sP]; rfl) ?_
  refine pu HT_ 19 28 q16_19 rfl rfl (by kernel_rfl) (fun _ _ _ => id) (.inl ⟨by rfl, by intro w'; go_simp; with_reducible rfl⟩) (by simp only [sP]; rfl) ?_
  refine pu HT_ 20 8 q16_20 rfl rfl (by kernel_rfl) (fun _ _ _ => id) (.inl ⟨by rfl, by intro w'; go_simp; with_reducible rfl⟩) (by simp only [sP]; rfl) ?_
  refine done_ (done_of HT_.out (by kernel_rfl)) ?_
  try go_wp2
  go_ret
  exact ⟨by first | rfl | (simp [errW_none, errW_some] <;> rfl) | (simp [*, errW_none, errW_some] <;> rfl), by repeat (first | (with_reducible first | exact HB.out | apply bL | apply bM | apply bR) | exact HB.out)⟩
end Go.Proofs.YtnmemkphfgdplaaDoor.PA
