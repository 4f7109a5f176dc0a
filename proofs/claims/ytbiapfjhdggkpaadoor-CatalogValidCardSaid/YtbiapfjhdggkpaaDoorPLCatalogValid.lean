-- Printed by wip/tool/myprint.py for this claim; Lean checks it.
import Derived.Test.YtbiapfjhdggkpaaDoorPAx0
import Derived.Test.YtbiapfjhdggkpaaDoorPAx2
import Derived.Test.YtbiapfjhdggkpaaDoorPAx3
import Derived.Test.YtbiapfjhdggkpaaDoorPAx4
import Derived.Test.YtbiapfjhdggkpaaDoorPAx5
import Derived.Test.YtbiapfjhdggkpaaDoorSlim
namespace Go.Proofs.YtbiapfjhdggkpaaDoor.PA
open Go.RowKit Go.Proofs.YtbiapfjhdggkpaaDoorW.PrintWords Go.Proofs.YtbiapfjhdggkpaaDoorW.PrintLast Go.Proofs.YtbiapfjhdggkpaaDoorW.PrintMore
attribute [local go_sem] max2_int min2_int max_two min_two max_three min_three max_four min_four   -- for this text's walks alone
set_option linter.unusedVariables false
set_option linter.unusedSimpArgs false

/-! ### clusterlockslaw05_CatalogValid: function 4 -/
def clusterlockslaw05_CatalogValid.f (k : Nat) (l0 : List (S26)) (a1_0 : ByteArray) (a1_1 : Int) (a1_2 : Int) (a1_3 : Int) : Option (Bool) := (clusterlockslaw05_awake.f k).bind fun t135 => (if t135 = true then ((catalog_ValidResource.f k a1_0 a1_1 a1_2 a1_3).bind fun t136 => ((clusterlocksref05_ValidResource.f k a1_0 a1_1 a1_2 a1_3).bind fun t137 => (if (t136 == t137) = true then ((catalog_Valid.f k l0).bind fun t138 => ((clusterlocksref05_Valid.f k l0).bind fun t139 => (some (t138 == t139)))) else (some false)))) else (some false))
theorem clusterlockslaw05_CatalogValid.mono : ∀ a0 a1 a2 a3 a4 k, LeO (clusterlockslaw05_CatalogValid.f k a0 a1 a2 a3 a4) (clusterlockslaw05_CatalogValid.f (k + 1) a0 a1 a2 a3 a4) := by
 intro a0 a1 a2 a3 a4 k
 unfold clusterlockslaw05_CatalogValid.f
 repeat' first
   | (with_reducible exact catalog_Valid.mono _ _)
   | (with_reducible exact catalog_ValidResource.mono _ _ _ _ _)
   | (with_reducible exact clusterlockslaw05_awake.mono _)
   | (with_reducible exact clusterlocksref05_Valid.mono _ _)
   | (with_reducible exact clusterlocksref05_ValidResource.mono _ _ _ _ _)
   | (with_reducible exact LeO.refl _)
   | (with_reducible exact LeO.none _)
   | (with_reducible refine LeO.ite ?_ ?_)
   | (with_reducible refine LeO.bind ?_ (fun _ => ?_))
   | exact catalog_Valid.mono _ _
   | exact catalog_ValidResource.mono _ _ _ _ _
   | exact clusterlockslaw05_awake.mono _
   | exact clusterlocksref05_Valid.mono _ _
   | exact clusterlocksref05_ValidResource.mono _ _ _ _ _
   | exact LeO.none _
   | refine LeO.ite ?_ ?_
   | refine LeO.bind ?_ (fun _ => ?_)
def clusterlockslaw05_CatalogValid.T1 : Bool × List (List Nat × List Nat) := (true, [([], []), ([0, 0], [0]), ([1], [1]), ([2, 1, 1], [1, 2]), ([1], [1]), ([4, 3, 1], [1, 4]), ([3, 5, 1], [1, 3, 5]), ([1, 6], [1, 6]), ([7, 5], [7]), ([8], [8]), ([9, 8, 8], [8, 9]), ([8], [8]), ([11, 10, 8], [8, 11]), ([10, 12, 8], [8, 10, 12]), ([8, 13], [8, 13]), ([14, 12, 0, 1, 2, 3, 4, 5, 6, 7, 8, 9, 10, 11, 12, 13, 14], [14])])
def clusterlockslaw05_CatalogValid.B1 : List Nat := [0, 1, 3, 7, 3, 31, 63, 127, 255, 511, 1023, 511, 4095, 8191, 16383, 32767]
theorem clusterlockslaw05_CatalogValid.tab1 : rtab .any (opsOf Tryd.f4 1) = clusterlockslaw05_CatalogValid.T1 := by kernel_rfl
theorem clusterlockslaw05_CatalogValid.bits1 : waitsOk clusterlockslaw05_CatalogValid.T1.2 clusterlockslaw05_CatalogValid.B1 = true := by kernel_rfl
set_option maxHeartbeats 8000000 in
set_option maxRecDepth 100000 in
theorem clusterlockslaw05_CatalogValid.calls (k : Nat) (A0 : Option Addr) (c0 : Nat) (l0 : List (S26)) (a1_0 : ByteArray) (a1_1 : Int) (a1_2 : Int) (a1_3 : Int) (r : Bool) (w : World) (hr0 : Kd.C k26 w A0 l0.length l0) (hc0 : l0.length ≤ c0) (h : clusterlockslaw05_CatalogValid.f k l0 a1_0 a1_1 a1_2 a1_3 = some r) (hT : r = true) :
  Calls Tryd.prog 4 #[.slice A0 l0.length c0, .agg #[.string a1_0, .int .i64 a1_1, .int .i64 a1_2, .int .i64 a1_3]] w fun e w' => e = .returned (.bool r) ∧ Below w.heap.size w w' := by
 have hu26 := Tryd.underlying26
 have HR0 := Aside0.mk hr0
 have HC0 := Aside0.mk hc0
 clear hr0 hc0
 have HB := Aside0.mk (Below.refl w.heap.size w)
 have H : ((clusterlockslaw05_awake.f k).bind fun t135 => (if t135 = true then ((catalog_ValidResource.f k a1_0 a1_1 a1_2 a1_3).bind fun t136 => ((clusterlocksref05_ValidResource.f k a1_0 a1_1 a1_2 a1_3).bind fun t137 => (if (t136 == t137) = true then ((catalog_Valid.f k l0).bind fun t138 => ((clusterlocksref05_Valid.f k l0).bind fun t139 => (some (t138 == t139)))) else (some false)))) else (some false))) = some r := h
 have HRT := Aside0.mk hT
 clear h
 obtain ⟨t135, A30, H⟩ := Option.bind_eq_some_iff.mp H
 have A3 := Aside0.mk A30; clear A30
 have HH_ := Aside0.mk H
 clear H
 go_enter Tryd.func4, Tryd.ntmps4
 try go_wp2_with (first | ((with_reducible refine gate_dst (N := 3) rfl ?_); refine box_event ?hg (N := 3) ?hd (cs := #[.string a1_0, .int .i64 a1_1, .int .i64 a1_2, .int .i64 a1_3]) (t := 26) ?hr ?_; (case hd => rfl); (case hg => rfl); (case hr => first | (go_simp; done) | (go_simp; rfl)); intro gb134 hg w10 hbox hb; have BK134 := Aside0.mk hbox; have GW134 := gE HB hg; replace HB := bB HB hb; have GE134 := GW134; clear hb hbox hg))
 replace BK134 := Aside0.mk (blk_drew BK134.out)
 replace HB := Aside0.mk (below_drew1 HB.out)
 have H := HH_.out
 clear HH_
 by_cases c4 : t135 = true
 ·subst c4
  rw [if_pos rfl] at H
  obtain ⟨t136, A50, H⟩ := Option.bind_eq_some_iff.mp H
  have A5 := Aside0.mk A50; clear A50
  obtain ⟨t137, A60, H⟩ := Option.bind_eq_some_iff.mp H
  have A6 := Aside0.mk A60; clear A60
  by_cases c7 : (t136 == t137) = true
  ·rw [if_pos c7] at H
   have c7b0 : (t136 == t137) = true := c7
   (try (have c7b1 : decide (t136 = t137) = true := by simpa using c7))
   (try (have c7b2 : (t136 == t137) = true := by simpa using c7))
   clear c7
   obtain ⟨t138, A80, H⟩ := Option.bind_eq_some_iff.mp H
   have A8 := Aside0.mk A80; clear A80
   obtain ⟨t139, A90, H⟩ := Option.bind_eq_some_iff.mp H
   have A9 := Aside0.mk A90; clear A90
   obtain rfl := Option.some.inj H
   (try simp only [c7b0, c7b1, c7b2])
   refine start_ (n := 16) (S := fun w' => w'.cell? ⟨gb134, 0, none⟩ = some (.string a1_0) ∧ w'.cell? ⟨gb134, 1, none⟩ = some (.int .i64 a1_1) ∧ w'.cell? ⟨gb134, 2, none⟩ = some (.int .i64 a1_2) ∧ w'.cell? ⟨gb134, 3, none⟩ = some (.int .i64 a1_3)) (ds := []) #[F,F,F,F,F,F,F,F,F,F,F,F,F,F,F,F] (by kernel_rfl) rfl rfl ⟨bC BK134 0 rfl, bC BK134 1 rfl, bC BK134 2 rfl, bC BK134 3 rfl⟩ (fun hHeld => ?_); refine with_tabW clusterlockslaw05_CatalogValid.tab1 clusterlockslaw05_CatalogValid.bits1 (fun HT_ HW_ => ?_)
   generalize w10.drew = w11 at BK134 HB hHeld ⊢
   refine one_ (i := 0) (N := some 5) #[T,F,F,F,F,F,F,F,F,F,F,F,F,F,F,F] rfl rfl (one_of HT_.out (by kernel_rfl)) (by decide) (fun K hK => ?_)
   refine goes_ Tryd.func13 (by kernel_rfl) rfl #[] (by rfl) rfl rfl (by (try simp only [mA]); first | done | rfl) ?_
   with_reducible refine (clusterlockslaw05_awake.calls k  true _ A3.out).mono ?_
   rintro e w12 ⟨rfl, hb⟩
   refine ⟨_, rfl, ?_⟩
   replace BK134 := bK BK134 hb
   replace HB := bB HB hb
   (try clear hb)
   refine hK.out _ _ ⟨bC BK134 0 rfl, bC BK134 1 rfl, bC BK134 2 rfl, bC BK134 3 rfl⟩ (fun hHeld => ?_)
   clear hK K
   refine norm_ (a' := ?_) ?_ ?_
   rotate_left
   ·show Act.put _ (some 5) _ = _
    simp only [sP]
    rfl
   refine pu HT_ 1 6 #[T,T,F,F,F,F,F,F,F,F,F,F,F,F,F,F] rfl rfl (by kernel_rfl) (fun _ _ _ => id) (.inl ⟨by rfl, by intro w'; go_simp; with_reducible rfl⟩) (by simp only [sP]; rfl) ?_
   refine tk HT_ HW_ 2 7 #[T,T,T,F,F,F,F,F,F,F,F,F,F,F,F,F] rfl rfl (by kernel_rfl) (fun _ _ _ => id) (.inl ⟨by rfl, by rintro w' ⟨s0, s1, s2, s3⟩; go_simp; with_reducible rfl⟩) hHeld (by simp only [sP]; rfl) ?_
   refine tk HT_ HW_ 4 9 #[T,T,T,F,T,F,F,F,F,F,F,F,F,F,F,F] rfl rfl (by kernel_rfl) (fun _ _ _ => id) (.inl ⟨by rfl, by rintro w' ⟨s0, s1, s2, s3⟩; go_simp; with_reducible rfl⟩) hHeld (by simp only [sP]; rfl) ?_
   refine one_ (i := 3) (N := some 8) #[T,T,T,T,T,F,F,F,F,F,F,F,F,F,F,F] rfl rfl (one_of HT_.out (by kernel_rfl)) (by decide) (fun K hK => ?_)
   refine goes_ Tryd.func18 (by kernel_rfl) rfl #[.agg #[.string a1_0, .int .i64 a1_1, .int .i64 a1_2, .int .i64 a1_3]] (by rfl) rfl rfl (by (try simp only [mA]); first | done | rfl) ?_
   with_reducible refine (catalog_ValidResource.calls k a1_0 a1_1 a1_2 a1_3 t136 _ A5.out).mono ?_
   rintro e w13 ⟨rfl, hb⟩
   refine ⟨_, rfl, ?_⟩
   replace BK134 := bK BK134 hb
   replace HB := bB HB hb
   (try clear hb)
   refine hK.out _ _ ⟨bC BK134 0 rfl, bC BK134 1 rfl, bC BK134 2 rfl, bC BK134 3 rfl⟩ (fun hHeld => ?_)
   clear hK K
   refine norm_ (a' := ?_) ?_ ?_
   rotate_left
   ·show Act.put _ (some 8) _ = _
    simp only [sP]
    rfl
   refine one_ (i := 5) (N := some 10) #[T,T,T,T,T,T,F,F,F,F,F,F,F,F,F,F] rfl rfl (one_of HT_.out (by kernel_rfl)) (by decide) (fun K hK => ?_)
   refine goes_ Tryd.func19 (by kernel_rfl) rfl #[.agg #[.string a1_0, .int .i64 a1_1, .int .i64 a1_2, .int .i64 a1_3]] (by rfl) rfl rfl (by (try simp only [mA]); first | done | rfl) ?_
   with_reducible refine (clusterlocksref05_ValidResource.calls k a1_0 a1_1 a1_2 a1_3 t137 _ A6.out).mono ?_
   rintro e w14 ⟨rfl, hb⟩
   refine ⟨_, rfl, ?_⟩
   replace BK134 := bK BK134 hb
   replace HB := bB HB hb
   (try clear hb)
   refine hK.out _ _ ⟨bC BK134 0 rfl, bC BK134 1 rfl, bC BK134 2 rfl, bC BK134 3 rfl⟩ (fun hHeld => ?_)
   clear hK K
   refine norm_ (a' := ?_) ?_ ?_
   rotate_left
   ·show Act.put _ (some 10) _ = _
    simp only [sP]
    rfl
   refine pu HT_ 6 11 #[T,T,T,T,T,T,T,F,F,F,F,F,F,F,F,F] rfl rfl (by kernel_rfl) (fun _ _ _ => id) (.inl ⟨by rfl, by intro w'; go_simp; with_reducible rfl⟩) (by simp only [sP]; rfl) ?_
   refine pu HT_ 7 12 #[T,T,T,T,T,T,T,T,F,F,F,F,F,F,F,F] rfl rfl (by kernel_rfl) (fun _ _ _ => id) (.inl ⟨by rfl, by intro w'; go_simp; with_reducible rfl⟩) (by simp only [sP]; rfl) ?_
   refine pu HT_ 8 13 #[T,T,T,T,T,T,T,T,T,F,F,F,F,F,F,F] rfl rfl (by kernel_rfl) (fun _ _ _ => id) (.inl ⟨by rfl, by intro w'; go_simp; with_reducible rfl⟩) (by simp only [sP]; rfl) ?_
   refine pu HT_ 9 14 #[T,T,T,T,T,T,T,T,T,T,F,F,F,F,F,F] rfl rfl (by kernel_rfl) (fun _ _ _ => id) (.inl ⟨by rfl, by intro w'; go_simp; with_reducible rfl⟩) (by simp only [sP]; rfl) ?_
   refine pu HT_ 11 16 #[T,T,T,T,T,T,T,T,T,T,F,T,F,F,F,F] rfl rfl (by kernel_rfl) (fun _ _ _ => id) (.inl ⟨by rfl, by intro w'; go_simp; with_reducible rfl⟩) (by simp only [sP]; rfl) ?_
   refine one_ (i := 10) (N := some 15) #[T,T,T,T,T,T,T,T,T,T,T,T,F,F,F,F] rfl rfl (one_of HT_.out (by kernel_rfl)) (by decide) (fun K hK => ?_)
   refine goes_ Tryd.func20 (by kernel_rfl) rfl #[.slice A0 l0.length c0] (by rfl) rfl rfl (by (try simp only [mA]); first | done | rfl) ?_
   with_reducible refine (catalog_Valid.calls k _ _ l0 t138 _ ?side1 ?side2 A8.out).mono ?_
   (case side1 => repeat (first | exact (Kd.C_below HR0.out HB.out) | (with_reducible refine Kd.C_alloc ?_ _) | (with_reducible refine Kd.C_drewN ?_ _) | (with_reducible refine Kd.C_drew ?_)))
   (case side2 => exact HC0.out)
   rintro e w15 ⟨rfl, hb⟩
   refine ⟨_, rfl, ?_⟩
   replace BK134 := bK BK134 hb
   replace HB := bB HB hb
   (try clear hb)
   refine hK.out _ _ ⟨bC BK134 0 rfl, bC BK134 1 rfl, bC BK134 2 rfl, bC BK134 3 rfl⟩ (fun hHeld => ?_)
   clear hK K
   refine norm_ (a' := ?_) ?_ ?_
   rotate_left
   ·show Act.put _ (some 15) _ = _
    simp only [sP]
    rfl
   refine one_ (i := 12) (N := some 17) #[T,T,T,T,T,T,T,T,T,T,T,T,T,F,F,F] rfl rfl (one_of HT_.out (by kernel_rfl)) (by decide) (fun K hK => ?_)
   refine goes_ Tryd.func21 (by kernel_rfl) rfl #[.slice A0 l0.length c0] (by rfl) rfl rfl (by (try simp only [mA]); first | done | rfl) ?_
   with_reducible refine (clusterlocksref05_Valid.calls k _ _ l0 t139 _ ?side1 ?side2 A9.out).mono ?_
   (case side1 => repeat (first | exact (Kd.C_below HR0.out HB.out) | (with_reducible refine Kd.C_alloc ?_ _) | (with_reducible refine Kd.C_drewN ?_ _) | (with_reducible refine Kd.C_drew ?_)))
   (case side2 => exact HC0.out)
   rintro e w16 ⟨rfl, hb⟩
   refine ⟨_, rfl, ?_⟩
   replace BK134 := bK BK134 hb
   replace HB := bB HB hb
   (try clear hb)
   refine hK.out _ _ ⟨bC BK134 0 rfl, bC BK134 1 rfl, bC BK134 2 rfl, bC BK134 3 rfl⟩ (fun hHeld => ?_)
   clear hK K
   refine norm_ (a' := ?_) ?_ ?_
   rotate_left
   ·show Act.put _ (some 17) _ = _
    simp only [sP]
    rfl
   refine pu HT_ 13 18 #[T,T,T,T,T,T,T,T,T,T,T,T,T,T,F,F] rfl rfl (by kernel_rfl) (fun _ _ _ => id) (.inl ⟨by rfl, by intro w'; go_simp; with_reducible rfl⟩) (by simp only [sP]; rfl) ?_
   refine pu HT_ 14 19 #[T,T,T,T,T,T,T,T,T,T,T,T,T,T,T,F] rfl rfl (by kernel_rfl) (fun _ _ _ => id) (.inl ⟨by rfl, by intro w'; go_simp; with_reducible rfl⟩) (by simp only [sP]; rfl) ?_
   refine pu HT_ 15 4 #[T,T,T,T,T,T,T,T,T,T,T,T,T,T,T,T] rfl rfl (by kernel_rfl) (fun _ _ _ => id) (.inl ⟨by rfl, by intro w'; go_simp; with_reducible rfl⟩) (by simp only [sP]; rfl) ?_
   refine done_ (done_of HT_.out (by kernel_rfl)) ?_
   try go_wp2
   go_ret
   exact ⟨by first | rfl | (simp [errW_none, errW_some] <;> rfl) | (simp [*, errW_none, errW_some] <;> rfl), (uS HB)⟩
  ·rw [if_neg c7] at H
   have c7b0 : (t136 == t137) = false := by simpa using c7
   (try (have c7b1 : decide (t136 = t137) = false := by simpa using c7))
   (try (have c7b2 : (t136 == t137) = false := by simpa using c7))
   (try (have c7b3 : ¬ (t136 = t137) := by simpa using c7))
   clear c7
   exact absurd (Option.some.inj H) (by rw [HRT.out]; decide)
 ·replace c4 := Bool.eq_false_iff.mpr c4
  subst c4
  rw [if_neg (show ¬ (false = true) by decide)] at H
  exact absurd (Option.some.inj H) (by rw [HRT.out]; decide)
end Go.Proofs.YtbiapfjhdggkpaaDoor.PA
