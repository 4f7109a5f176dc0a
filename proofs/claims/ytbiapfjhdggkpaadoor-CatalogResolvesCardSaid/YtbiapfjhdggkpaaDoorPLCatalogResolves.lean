-- Printed by wip/tool/myprint.py for this claim; Lean checks it.
import Derived.Test.YtbiapfjhdggkpaaDoorPAx0
import Derived.Test.YtbiapfjhdggkpaaDoorPAx4
import Derived.Test.YtbiapfjhdggkpaaDoorPAx7
import Derived.Test.YtbiapfjhdggkpaaDoorPAx10
import Derived.Test.YtbiapfjhdggkpaaDoorSlim
namespace Go.Proofs.YtbiapfjhdggkpaaDoor.PA
open Go.RowKit Go.Proofs.YtbiapfjhdggkpaaDoorW.PrintWords Go.Proofs.YtbiapfjhdggkpaaDoorW.PrintLast Go.Proofs.YtbiapfjhdggkpaaDoorW.PrintMore
attribute [local go_sem] max2_int min2_int max_two min_two max_three min_three max_four min_four   -- for this text's walks alone
set_option linter.unusedVariables false
set_option linter.unusedSimpArgs false

/-! ### clusterlockslaw05_CatalogResolves: function 10 -/
def clusterlockslaw05_CatalogResolves.f (k : Nat) (l0 : List (S26)) (a1_0 : ByteArray) (a1_1 : Int) (a1_2 : Int) (a2 : Int) : Option (Bool) := (clusterlockslaw05_awake.f k).bind fun t315 => (if t315 = true then ((catalog_Resolve.f k l0 a1_0 a1_1 a1_2).bind fun t316 => ((clusterlocksref05_Resolve.f k l0 a1_0 a1_1 a1_2).bind fun t317 => (if t316 = t317 then ((catalog_At.f k l0 a2).bind fun t318 => ((clusterlocksref05_At.f k l0 a2).bind fun t321 => ((clusterlocksref05_Same.f k t318 t321).bind fun t324 => (some t324)))) else (some false)))) else (some false))
theorem clusterlockslaw05_CatalogResolves.mono : ∀ a0 a1 a2 a3 a4 k, LeO (clusterlockslaw05_CatalogResolves.f k a0 a1 a2 a3 a4) (clusterlockslaw05_CatalogResolves.f (k + 1) a0 a1 a2 a3 a4) := by
 intro a0 a1 a2 a3 a4 k
 unfold clusterlockslaw05_CatalogResolves.f
 repeat' first
   | (with_reducible exact catalog_At.mono _ _ _)
   | (with_reducible exact catalog_Resolve.mono _ _ _ _ _)
   | (with_reducible exact clusterlockslaw05_awake.mono _)
   | (with_reducible exact clusterlocksref05_At.mono _ _ _)
   | (with_reducible exact clusterlocksref05_Resolve.mono _ _ _ _ _)
   | (with_reducible exact clusterlocksref05_Same.mono _ _ _)
   | (with_reducible exact LeO.refl _)
   | (with_reducible exact LeO.none _)
   | (with_reducible refine LeO.ite ?_ ?_)
   | (with_reducible refine LeO.bind ?_ (fun _ => ?_))
   | exact catalog_At.mono _ _ _
   | exact catalog_Resolve.mono _ _ _ _ _
   | exact clusterlockslaw05_awake.mono _
   | exact clusterlocksref05_At.mono _ _ _
   | exact clusterlocksref05_Resolve.mono _ _ _ _ _
   | exact clusterlocksref05_Same.mono _ _ _
   | exact LeO.none _
   | refine LeO.ite ?_ ?_
   | refine LeO.bind ?_ (fun _ => ?_)
def clusterlockslaw05_CatalogResolves.T1 : Bool × List (List Nat × List Nat) := (true, [([], []), ([0, 0], [0]), ([1], [1]), ([1], [1]), ([2, 3, 1, 1], [1, 2, 3]), ([1], [1]), ([1], [1]), ([5, 6, 4, 1], [1, 5, 6]), ([4, 7, 1], [1, 4, 7]), ([1, 8], [1, 8]), ([9, 7], [9]), ([10], [10]), ([10], [10]), ([11, 12, 10, 10], [10, 11, 12]), ([10], [10]), ([10], [10]), ([14, 15, 13, 10], [10, 14, 15]), ([13, 16, 16, 10], [10, 13, 16]), ([10, 17], [10, 17]), ([18, 17, 0, 1, 2, 3, 4, 5, 6, 7, 8, 9, 10, 11, 12, 13, 14, 15, 16, 17, 18], [18])])
def clusterlockslaw05_CatalogResolves.B1 : List Nat := [0, 1, 3, 3, 15, 3, 3, 127, 255, 511, 1023, 2047, 2047, 8191, 2047, 2047, 65535, 131071, 262143, 524287]
theorem clusterlockslaw05_CatalogResolves.tab1 : rtab .any (opsOf Tryd.f10 1) = clusterlockslaw05_CatalogResolves.T1 := by kernel_rfl
theorem clusterlockslaw05_CatalogResolves.bits1 : waitsOk clusterlockslaw05_CatalogResolves.T1.2 clusterlockslaw05_CatalogResolves.B1 = true := by kernel_rfl
set_option maxHeartbeats 8000000 in
set_option maxRecDepth 100000 in
theorem clusterlockslaw05_CatalogResolves.calls (k : Nat) (A0 : Option Addr) (c0 : Nat) (l0 : List (S26)) (a1_0 : ByteArray) (a1_1 : Int) (a1_2 : Int) (a2 : Int) (r : Bool) (w : World) (hr0 : Kd.C k26 w A0 l0.length l0) (hc0 : l0.length ≤ c0) (h : clusterlockslaw05_CatalogResolves.f k l0 a1_0 a1_1 a1_2 a2 = some r) (hT : r = true) :
  Calls Tryd.prog 10 #[.slice A0 l0.length c0, .agg #[.string a1_0, .int .i64 a1_1, .int .i64 a1_2], .int .i64 a2] w fun e w' => e = .returned (.bool r) ∧ Below w.heap.size w w' := by
 have hu44 := Tryd.underlying44
 have HR0 := Aside0.mk hr0
 have HC0 := Aside0.mk hc0
 clear hr0 hc0
 have HB := Aside0.mk (Below.refl w.heap.size w)
 have H : ((clusterlockslaw05_awake.f k).bind fun t315 => (if t315 = true then ((catalog_Resolve.f k l0 a1_0 a1_1 a1_2).bind fun t316 => ((clusterlocksref05_Resolve.f k l0 a1_0 a1_1 a1_2).bind fun t317 => (if t316 = t317 then ((catalog_At.f k l0 a2).bind fun t318 => ((clusterlocksref05_At.f k l0 a2).bind fun t321 => ((clusterlocksref05_Same.f k t318 t321).bind fun t324 => (some t324)))) else (some false)))) else (some false))) = some r := h
 have HRT := Aside0.mk hT
 clear h
 obtain ⟨t315, A40, H⟩ := Option.bind_eq_some_iff.mp H
 have A4 := Aside0.mk A40; clear A40
 have HH_ := Aside0.mk H
 clear H
 go_enter Tryd.func10, Tryd.ntmps10
 try go_wp2_with (first | ((with_reducible refine gate_dst (N := 4) rfl ?_); refine box_event ?hg (N := 4) ?hd (cs := #[.string a1_0, .int .i64 a1_1, .int .i64 a1_2]) (t := 44) ?hr ?_; (case hd => rfl); (case hg => rfl); (case hr => first | (go_simp; done) | (go_simp; rfl)); intro gb314 hg w12 hbox hb; have BK314 := Aside0.mk hbox; have GW314 := gE HB hg; replace HB := bB HB hb; have GE314 := GW314; clear hb hbox hg))
 replace BK314 := Aside0.mk (blk_drew BK314.out)
 replace HB := Aside0.mk (below_drew1 HB.out)
 have H := HH_.out
 clear HH_
 by_cases c5 : t315 = true
 ·subst c5
  rw [if_pos rfl] at H
  obtain ⟨t316, A60, H⟩ := Option.bind_eq_some_iff.mp H
  have A6 := Aside0.mk A60; clear A60
  obtain ⟨t317, A70, H⟩ := Option.bind_eq_some_iff.mp H
  have A7 := Aside0.mk A70; clear A70
  by_cases c8 : t316 = t317
  ·rw [if_pos c8] at H
   have c8b0 : (t316 == t317) = true := beq_iff_eq.mpr c8
   have c8b1 : (t316 != t317) = false := bne_eq_false_iff_eq.mpr c8
   clear c8
   obtain ⟨t318, A90, H⟩ := Option.bind_eq_some_iff.mp H
   have A9 := Aside0.mk A90; clear A90
   obtain ⟨t321, A100, H⟩ := Option.bind_eq_some_iff.mp H
   have A10 := Aside0.mk A100; clear A100
   obtain ⟨t324, A110, H⟩ := Option.bind_eq_some_iff.mp H
   have A11 := Aside0.mk A110; clear A110
   obtain rfl := Option.some.inj H
   (try simp only [c8b0, c8b1])
   refine start_ (n := 20) (S := fun w' => w'.cell? ⟨gb314, 0, none⟩ = some (.string a1_0) ∧ w'.cell? ⟨gb314, 1, none⟩ = some (.int .i64 a1_1) ∧ w'.cell? ⟨gb314, 2, none⟩ = some (.int .i64 a1_2)) (ds := []) #[F,F,F,F,F,F,F,F,F,F,F,F,F,F,F,F,F,F,F,F] (by kernel_rfl) rfl rfl ⟨bC BK314 0 rfl, bC BK314 1 rfl, bC BK314 2 rfl⟩ (fun hHeld => ?_); refine with_tabW clusterlockslaw05_CatalogResolves.tab1 clusterlockslaw05_CatalogResolves.bits1 (fun HT_ HW_ => ?_)
   generalize w12.drew = w13 at BK314 HB hHeld ⊢
   refine one_ (i := 0) (N := some 7) #[T,F,F,F,F,F,F,F,F,F,F,F,F,F,F,F,F,F,F,F] rfl rfl (one_of HT_.out (by kernel_rfl)) (by decide) (fun K hK => ?_)
   refine goes_ Tryd.func13 (by kernel_rfl) rfl #[] (by rfl) rfl rfl (by (try simp only [mA]); first | done | rfl) ?_
   with_reducible refine (clusterlockslaw05_awake.calls k  true _ A4.out).mono ?_
   rintro e w14 ⟨rfl, hb⟩
   refine ⟨_, rfl, ?_⟩
   replace BK314 := bK BK314 hb
   replace HB := bB HB hb
   (try clear hb)
   refine hK.out _ _ ⟨bC BK314 0 rfl, bC BK314 1 rfl, bC BK314 2 rfl⟩ (fun hHeld => ?_)
   clear hK K
   refine norm_ (a' := ?_) ?_ ?_
   rotate_left
   ·show Act.put _ (some 7) _ = _
    simp only [sP]
    rfl
   refine pu HT_ 1 8 #[T,T,F,F,F,F,F,F,F,F,F,F,F,F,F,F,F,F,F,F] rfl rfl (by kernel_rfl) (fun _ _ _ => id) (.inl ⟨by rfl, by intro w'; go_simp; with_reducible rfl⟩) (by simp only [sP]; rfl) ?_
   refine pu HT_ 2 9 #[T,T,T,F,F,F,F,F,F,F,F,F,F,F,F,F,F,F,F,F] rfl rfl (by kernel_rfl) (fun _ _ _ => id) (.inl ⟨by rfl, by intro w'; go_simp; with_reducible rfl⟩) (by simp only [sP]; rfl) ?_
   refine pu HT_ 5 12 #[T,T,T,F,F,T,F,F,F,F,F,F,F,F,F,F,F,F,F,F] rfl rfl (by kernel_rfl) (fun _ _ _ => id) (.inl ⟨by rfl, by intro w'; go_simp; with_reducible rfl⟩) (by simp only [sP]; rfl) ?_
   refine tk HT_ HW_ 3 10 #[T,T,T,T,F,T,F,F,F,F,F,F,F,F,F,F,F,F,F,F] rfl rfl (by kernel_rfl) (fun _ _ _ => id) (.inl ⟨by rfl, by rintro w' ⟨s0, s1, s2⟩; go_simp; with_reducible rfl⟩) hHeld (by simp only [sP]; rfl) ?_
   refine tk HT_ HW_ 6 13 #[T,T,T,T,F,T,T,F,F,F,F,F,F,F,F,F,F,F,F,F] rfl rfl (by kernel_rfl) (fun _ _ _ => id) (.inl ⟨by rfl, by rintro w' ⟨s0, s1, s2⟩; go_simp; with_reducible rfl⟩) hHeld (by simp only [sP]; rfl) ?_
   refine one_ (i := 4) (N := some 11) #[T,T,T,T,T,T,T,F,F,F,F,F,F,F,F,F,F,F,F,F] rfl rfl (one_of HT_.out (by kernel_rfl)) (by decide) (fun K hK => ?_)
   refine goes_ Tryd.func30 (by kernel_rfl) rfl #[.slice A0 l0.length c0, .agg #[.string a1_0, .int .i64 a1_1, .int .i64 a1_2]] (by rfl) rfl rfl (by (try simp only [mA]); first | done | rfl) ?_
   with_reducible refine (catalog_Resolve.calls k _ _ l0 a1_0 a1_1 a1_2 t316 _ ?side1 ?side2 A6.out).mono ?_
   (case side1 => repeat (first | exact (Kd.C_below HR0.out HB.out) | (with_reducible refine Kd.C_alloc ?_ _) | (with_reducible refine Kd.C_drewN ?_ _) | (with_reducible refine Kd.C_drew ?_)))
   (case side2 => exact HC0.out)
   rintro e w15 ⟨rfl, hb⟩
   refine ⟨_, rfl, ?_⟩
   replace BK314 := bK BK314 hb
   replace HB := bB HB hb
   (try clear hb)
   refine hK.out _ _ ⟨bC BK314 0 rfl, bC BK314 1 rfl, bC BK314 2 rfl⟩ (fun hHeld => ?_)
   clear hK K
   refine norm_ (a' := ?_) ?_ ?_
   rotate_left
   ·show Act.put _ (some 11) _ = _
    simp only [sP]
    rfl
   refine one_ (i := 7) (N := some 14) #[T,T,T,T,T,T,T,T,F,F,F,F,F,F,F,F,F,F,F,F] rfl rfl (one_of HT_.out (by kernel_rfl)) (by decide) (fun K hK => ?_)
   refine goes_ Tryd.func31 (by kernel_rfl) rfl #[.slice A0 l0.length c0, .agg #[.string a1_0, .int .i64 a1_1, .int .i64 a1_2]] (by rfl) rfl rfl (by (try simp only [mA]); first | done | rfl) ?_
   with_reducible refine (clusterlocksref05_Resolve.calls k _ _ l0 a1_0 a1_1 a1_2 t317 _ ?side1 ?side2 A7.out).mono ?_
   (case side1 => repeat (first | exact (Kd.C_below HR0.out HB.out) | (with_reducible refine Kd.C_alloc ?_ _) | (with_reducible refine Kd.C_drewN ?_ _) | (with_reducible refine Kd.C_drew ?_)))
   (case side2 => exact HC0.out)
   rintro e w16 ⟨rfl, hb⟩
   refine ⟨_, rfl, ?_⟩
   replace BK314 := bK BK314 hb
   replace HB := bB HB hb
   (try clear hb)
   refine hK.out _ _ ⟨bC BK314 0 rfl, bC BK314 1 rfl, bC BK314 2 rfl⟩ (fun hHeld => ?_)
   clear hK K
   refine norm_ (a' := ?_) ?_ ?_
   rotate_left
   ·show Act.put _ (some 14) _ = _
    simp only [sP]
    rfl
   refine pu HT_ 8 15 #[T,T,T,T,T,T,T,T,T,F,F,F,F,F,F,F,F,F,F,F] rfl rfl (by kernel_rfl) (fun _ _ _ => id) (.inl ⟨by rfl, by intro w'; go_simp; with_reducible rfl⟩) (by simp only [sP]; rfl) ?_
   refine pu HT_ 9 16 #[T,T,T,T,T,T,T,T,T,T,F,F,F,F,F,F,F,F,F,F] rfl rfl (by kernel_rfl) (fun _ _ _ => id) (.inl ⟨by rfl, by intro w'; go_simp; with_reducible rfl⟩) (by simp only [sP]; rfl) ?_
   refine pu HT_ 10 17 #[T,T,T,T,T,T,T,T,T,T,T,F,F,F,F,F,F,F,F,F] rfl rfl (by kernel_rfl) (fun _ _ _ => id) (.inl ⟨by rfl, by intro w'; go_simp; with_reducible rfl⟩) (by simp only [sP]; rfl) ?_
   refine pu HT_ 11 18 #[T,T,T,T,T,T,T,T,T,T,T,T,F,F,F,F,F,F,F,F] rfl rfl (by kernel_rfl) (fun _ _ _ => id) (.inl ⟨by rfl, by intro w'; go_simp; with_reducible rfl⟩) (by simp only [sP]; rfl) ?_
   refine pu HT_ 12 19 #[T,T,T,T,T,T,T,T,T,T,T,T,T,F,F,F,F,F,F,F] rfl rfl (by kernel_rfl) (fun _ _ _ => id) (.inl ⟨by rfl, by intro w'; go_simp; with_reducible rfl⟩) (by simp only [sP]; rfl) ?_
   refine pu HT_ 14 21 #[T,T,T,T,T,T,T,T,T,T,T,T,T,F,T,F,F,F,F,F] rfl rfl (by kernel_rfl) (fun _ _ _ => id) (.inl ⟨by rfl, by intro w'; go_simp; with_reducible rfl⟩) (by simp only [sP]; rfl) ?_
   refine pu HT_ 15 22 #[T,T,T,T,T,T,T,T,T,T,T,T,T,F,T,T,F,F,F,F] rfl rfl (by kernel_rfl) (fun _ _ _ => id) (.inl ⟨by rfl, by intro w'; go_simp; with_reducible rfl⟩) (by simp only [sP]; rfl) ?_
   refine one_ (i := 13) (N := some 20) #[T,T,T,T,T,T,T,T,T,T,T,T,T,T,T,T,F,F,F,F] rfl rfl (one_of HT_.out (by kernel_rfl)) (by decide) (fun K hK => ?_)
   refine goes_ Tryd.func25 (by kernel_rfl) rfl #[.slice A0 l0.length c0, .int .i64 a2] (by rfl) rfl rfl (by (try simp only [mA]); first | done | rfl) ?_
   with_reducible refine (catalog_At.calls k _ _ l0 a2 t318 _ ?side1 ?side2 A9.out).mono ?_
   (case side1 => repeat (first | exact (Kd.C_below HR0.out HB.out) | (with_reducible refine Kd.C_alloc ?_ _) | (with_reducible refine Kd.C_drewN ?_ _) | (with_reducible refine Kd.C_drew ?_)))
   (case side2 => exact HC0.out)
   rintro e w17 ⟨v319, rfl, ho0, hb⟩
   refine ⟨_, rfl, ?_⟩
   have HO320 := Aside0.mk (Kd.R_lower ho0 (below_size (uB HB)))
   replace BK314 := bK BK314 hb
   replace HB := bB HB hb
   (try clear hb)
   (try clear ho0)
   refine hK.out _ _ ⟨bC BK314 0 rfl, bC BK314 1 rfl, bC BK314 2 rfl⟩ (fun hHeld => ?_)
   clear hK K
   refine norm_ (a' := ?_) ?_ ?_
   rotate_left
   ·show Act.put _ (some 20) _ = _
    simp only [sP]
    rfl
   refine one_ (i := 16) (N := some 23) #[T,T,T,T,T,T,T,T,T,T,T,T,T,T,T,T,T,F,F,F] rfl rfl (one_of HT_.out (by kernel_rfl)) (by decide) (fun K hK => ?_)
   refine goes_ Tryd.func32 (by kernel_rfl) rfl #[.slice A0 l0.length c0, .int .i64 a2] (by rfl) rfl rfl (by (try simp only [mA]); first | done | rfl) ?_
   with_reducible refine (clusterlocksref05_At.calls k _ _ l0 a2 t321 _ ?side1 ?side2 A10.out).mono ?_
   (case side1 => repeat (first | exact (Kd.C_below HR0.out HB.out) | (with_reducible refine Kd.C_alloc ?_ _) | (with_reducible refine Kd.C_drewN ?_ _) | (with_reducible refine Kd.C_drew ?_)))
   (case side2 => exact HC0.out)
   rintro e w18 ⟨v322, rfl, ho0, hb⟩
   refine ⟨_, rfl, ?_⟩
   have HO323 := Aside0.mk (Kd.R_lower (Kd.R_new' ho0 (Kd.R_lt (by (with_reducible repeat (first | apply Kd.R_alloc | apply Kd.R_drewN | apply Kd.R_drew)); exact HO320.out))) (below_size (uB HB)))
   replace HO320 := Aside0.mk (Kd.R_elder' (by (with_reducible repeat (first | apply Kd.R_alloc | apply Kd.R_drewN | apply Kd.R_drew)); exact HO320.out) (Kd.R_base ho0) hb)
   replace BK314 := bK BK314 hb
   replace HB := bB HB hb
   (try clear hb)
   (try clear ho0)
   obtain ⟨Ao19, co19, eo19⟩ := Kd.R_slice HO320.out
   (first | subst eo19 | (injection eo19 with f1_ f2_ f3_; have f4_ := f1_.symm; have f5_ := f3_.symm; clear f1_ f2_ f3_; subst f4_; subst f5_))
   obtain ⟨Ao20, co20, eo20⟩ := Kd.R_slice HO323.out
   (first | subst eo20 | (injection eo20 with f1_ f2_ f3_; have f4_ := f1_.symm; have f5_ := f3_.symm; clear f1_ f2_ f3_; subst f4_; subst f5_))
   refine hK.out _ _ ⟨bC BK314 0 rfl, bC BK314 1 rfl, bC BK314 2 rfl⟩ (fun hHeld => ?_)
   clear hK K
   refine norm_ (a' := ?_) ?_ ?_
   rotate_left
   ·show Act.put _ (some 23) _ = _
    simp only [sP]
    rfl
   refine one_ (i := 17) (N := some 24) #[T,T,T,T,T,T,T,T,T,T,T,T,T,T,T,T,T,T,F,F] rfl rfl (one_of HT_.out (by kernel_rfl)) (by decide) (fun K hK => ?_)
   refine goes_ Tryd.func24 (by kernel_rfl) rfl #[.slice Ao19 t318.length co19, .slice Ao20 t321.length co20] (by rfl) rfl rfl (by (try simp only [mA]); first | done | rfl) ?_
   with_reducible refine (clusterlocksref05_Same.calls k _ _ t318 _ _ t321 t324 _ ?side1 ?side2 ?side3 ?side4 A11.out).mono ?_
   (case side1 => repeat (first | exact (Kd.R_reads' HO320.out).2.2 | (with_reducible refine Kd.C_alloc ?_ _) | (with_reducible refine Kd.C_drewN ?_ _) | (with_reducible refine Kd.C_drew ?_)))
   (case side2 => exact (Kd.R_reads' HO320.out).2.1)
   (case side3 => repeat (first | exact (Kd.R_reads' HO323.out).2.2 | (with_reducible refine Kd.C_alloc ?_ _) | (with_reducible refine Kd.C_drewN ?_ _) | (with_reducible refine Kd.C_drew ?_)))
   (case side4 => exact (Kd.R_reads' HO323.out).2.1)
   rintro e w' ⟨rfl, ⟨nd, rfl⟩⟩
   refine ⟨_, rfl, ?_⟩
   refine hK.out _ _ ⟨bC BK314 0 rfl, bC BK314 1 rfl, bC BK314 2 rfl⟩ (fun hHeld => ?_)
   clear hK K
   refine norm_ (a' := ?_) ?_ ?_
   rotate_left
   ·show Act.put _ (some 24) _ = _
    simp only [sP]
    rfl
   refine pu HT_ 18 25 #[T,T,T,T,T,T,T,T,T,T,T,T,T,T,T,T,T,T,T,F] rfl rfl (by kernel_rfl) (fun _ _ _ => id) (.inl ⟨by rfl, by intro w'; go_simp; with_reducible rfl⟩) (by simp only [sP]; rfl) ?_
   refine pu HT_ 19 6 #[T,T,T,T,T,T,T,T,T,T,T,T,T,T,T,T,T,T,T,T] rfl rfl (by kernel_rfl) (fun _ _ _ => id) (.inl ⟨by rfl, by intro w'; go_simp; with_reducible rfl⟩) (by simp only [sP]; rfl) ?_
   refine done_ (done_of HT_.out (by kernel_rfl)) ?_
   try go_wp2
   go_ret
   exact ⟨by first | rfl | (simp [errW_none, errW_some] <;> rfl) | (simp [*, errW_none, errW_some] <;> rfl), (uS HB)⟩
  ·rw [if_neg c8] at H
   have c8b0 : (t316 == t317) = false := beq_eq_false_iff_ne.mpr c8
   have c8b1 : (t316 != t317) = true := bne_iff_ne.mpr c8
   exact absurd (Option.some.inj H) (by rw [HRT.out]; decide)
 ·replace c5 := Bool.eq_false_iff.mpr c5
  subst c5
  rw [if_neg (show ¬ (false = true) by decide)] at H
  exact absurd (Option.some.inj H) (by rw [HRT.out]; decide)
end Go.Proofs.YtbiapfjhdggkpaaDoor.PA
