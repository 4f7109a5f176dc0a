-- Printed by wip/tool/myprint.py for this claim; Lean checks it.
import Derived.Test.YtbiapfjhdggkpaaDoorPAx0
import Derived.Test.YtbiapfjhdggkpaaDoorPAx1
import Derived.Test.YtbiapfjhdggkpaaDoorSlim
import Derived.Test.YtbiapfjhdggkpaaDoorPAx5
namespace Go.Proofs.YtbiapfjhdggkpaaDoor.PA
open Go.RowKit Go.Proofs.YtbiapfjhdggkpaaDoorW.PrintWords Go.Proofs.YtbiapfjhdggkpaaDoorW.PrintLast Go.Proofs.YtbiapfjhdggkpaaDoorW.PrintMore
attribute [local go_sem] max2_int min2_int max_two min_two max_three min_three max_four min_four   -- for this text's walks alone
set_option linter.unusedVariables false
set_option linter.unusedSimpArgs false

attribute [local go_sem high] eqA26
theorem info5 : (Tryd.prog.info? 5).map (fun i => (i.zero, i.size, i.bytes)) = some (some (.int .u8 0), 1, 1) := by kernel_rfl
theorem info9 : (Tryd.prog.info? 9).map (fun i => (i.zero, i.size, i.bytes)) = some (some (.string ⟨#[]⟩), 1, 16) := by kernel_rfl
/-! ### clusterlocksref02_Decimal: function 63 -/
def clusterlocksref02_Decimal.f : Nat → Int → Option (ByteArray)
 | 0, _ => none
 | k + 1, a0 => if a0 < 10 then (some (strOfNums (([(wrap64 (48 + a0)) % 256] : List Int)))) else ((clusterlocksref02_Decimal.f k (wrap64 (Int.tdiv a0 10))).bind fun t134 => ((some (([(wrap64 (48 + (Int.tmod a0 10))) % 256] : List Int) : List Int)).bind fun y135 => (if t134.size + (strOfNums y135).size ≤ 9223372036854775807 then (some (t134 ++ (strOfNums y135))) else (none))))
theorem clusterlocksref02_Decimal.mono_l : ∀ k, (∀ y0, LeO (clusterlocksref02_Decimal.f k y0) (clusterlocksref02_Decimal.f (k + 1) y0))
 | 0 => fun _ r h => by simp [clusterlocksref02_Decimal.f] at h
 | k + 1 => by
  have ih0 := clusterlocksref02_Decimal.mono_l k
  ·intro y0
   unfold clusterlocksref02_Decimal.f
   repeat' first
   | (with_reducible exact ih0 _)
   | (with_reducible exact LeO.refl _)
   | (with_reducible exact LeO.none _)
   | (with_reducible refine LeO.ite ?_ ?_)
   | (with_reducible refine LeO.bind ?_ (fun _ => ?_))
   | exact ih0 _
   | exact LeO.none _
   | refine LeO.ite ?_ ?_
   | refine LeO.bind ?_ (fun _ => ?_)
theorem clusterlocksref02_Decimal.mono : ∀ a0 k, LeO (clusterlocksref02_Decimal.f k a0) (clusterlocksref02_Decimal.f (k + 1) a0) := by
 intro a0 k
 have ih0 := clusterlocksref02_Decimal.mono_l k
 exact ih0 a0
def clusterlocksref02_Decimal.T3 : Bool × List (List Nat × List Nat) := (true, [([], []), ([0], [0]), ([1], [1]), ([], []), ([3], [3]), ([4], [4]), ([5], [5]), ([6], [6]), ([7], [7]), ([2, 8], [2, 8]), ([9, 2, 0, 1, 2, 3, 4, 5, 6, 7, 8, 9], [9])])
def clusterlocksref02_Decimal.B3 : List Nat := [0, 1, 3, 0, 8, 24, 56, 120, 248, 511, 1023]
theorem clusterlocksref02_Decimal.tab3 : rtab .any (opsOf Tryd.f63 3) = clusterlocksref02_Decimal.T3 := by kernel_rfl
theorem clusterlocksref02_Decimal.bits3 : waitsOk clusterlocksref02_Decimal.T3.2 clusterlocksref02_Decimal.B3 = true := by kernel_rfl
set_option maxHeartbeats 8000000 in
set_option maxRecDepth 100000 in
theorem clusterlocksref02_Decimal.calls (k : Nat) : ∀ (a0 : Int) (r : ByteArray) (w : World) (h : clusterlocksref02_Decimal.f k a0 = some r),
  Calls Tryd.prog 63 #[.int .i64 a0] w fun e w' => e = .returned (.string r) ∧ Below w.heap.size w w' := by
 induction k using Nat.strongRecOn with
 | _ k ih =>
 intro a0 r w h
 cases k with
 | zero => exact absurd h (by simp [clusterlocksref02_Decimal.f])
 | succ k =>
 simp only [clusterlocksref02_Decimal.f] at h
 have HB := Aside0.mk (Below.refl w.heap.size w)
 have H : (if a0 < 10 then (some (strOfNums (([(wrap64 (48 + a0)) % 256] : List Int)))) else ((clusterlocksref02_Decimal.f k (wrap64 (Int.tdiv a0 10))).bind fun t134 => ((some (([(wrap64 (48 + (Int.tmod a0 10))) % 256] : List Int) : List Int)).bind fun y135 => (if t134.size + (strOfNums y135).size ≤ 9223372036854775807 then (some (t134 ++ (strOfNums y135))) else (none))))) = some r := h
 clear h
 by_cases c2 : a0 < 10
 ·rw [if_pos c2] at H
  have c2b0 : decide (a0 < 10) = true := decide_eq_true c2
  clear c2
  obtain ⟨y131, hy131⟩ : ∃ y_ : List Int, y_ = (([(wrap64 (48 + a0)) % 256] : List Int)) := ⟨_, rfl⟩
  replace H : (some (strOfNums y131)) = some r := by first | (rw [hy131]; with_reducible exact H) | (have H2_ := (Option.bind_some _ _).symm.trans H; rw [hy131]; with_reducible exact H2_) | (have H2_ := (Option.bind_some _ _).symm.trans H; with_reducible exact H2_) | with_reducible exact H | (rw [hy131]; exact H) | exact H
  have Ny131 := Aside0.mk hy131
  clear hy131
  obtain rfl := Option.some.inj H
  go_enter Tryd.func63, Tryd.ntmps63
  go_wp2_with (first | ((with_reducible refine gate_dst (N := 8) rfl ?_); refine Kd.R_lit (Kd.int .u8) _ 5 ?hg (N := 8) ?hd (xs := ([(wrap64 (48 + a0)) % 256] : List Int)) (inner := [.int .u8 ((wrap64 (48 + a0)) % 256)]) (ok := fun _ => True) (okp := fun _ => True) ?hr ?hp (fun _ hk => hk) trivial (Below.refl _ _) (Nat.le_refl _) (by simp) ?_; (case hd => rfl); (case hg => rfl); (case hr => first | (go_simp; done) | (go_simp; rfl)); (case hp => exact (Reps.one (show Kd.M (Kd.int .u8) _ _ _ ((wrap64 (48 + a0)) % 256) [.int .u8 ((wrap64 (48 + a0)) % 256)] from rfl) (Reps.none _ _))); intro v132 w3 ho4 hb hg_ hnew_; clear hg_ hnew_; (first | rw [← Ny131.out] at ho4 | (simp only [Int.reduceToNat] at ho4; rw [← Ny131.out] at ho4)); have HO133 := Aside0.mk (Kd.R_lower ho4 (below_size (uB HB))); replace HB := bB HB hb; clear hb ho4; have hcv5 := own_string (P := Tryd.prog) Tryd.underlying56 Tryd.underlying5 Tryd.underlying9 (Kd.own_of_R HO133.out)))
  go_ret
  exact ⟨by first | rfl | (simp [errW_none, errW_some] <;> rfl) | (simp [*, errW_none, errW_some] <;> rfl), (uS HB)⟩
 ·rw [if_neg c2] at H
  have c2b0 : decide (a0 < 10) = false := decide_eq_false c2
  clear c2
  obtain ⟨t134, A60, H⟩ := Option.bind_eq_some_iff.mp H
  have A6 := Aside0.mk A60; clear A60
  obtain ⟨y135, hy135⟩ : ∃ y_ : List Int, y_ = (([(wrap64 (48 + (Int.tmod a0 10))) % 256] : List Int)) := ⟨_, rfl⟩
  replace H : (if t134.size + (strOfNums y135).size ≤ 9223372036854775807 then (some (t134 ++ (strOfNums y135))) else (none)) = some r := by first | (rw [hy135]; with_reducible exact H) | (have H2_ := (Option.bind_some _ _).symm.trans H; rw [hy135]; with_reducible exact H2_) | (have H2_ := (Option.bind_some _ _).symm.trans H; with_reducible exact H2_) | with_reducible exact H | (rw [hy135]; exact H) | exact H
  have Ny135 := Aside0.mk hy135
  clear hy135
  by_cases c7 : t134.size + (strOfNums y135).size ≤ 9223372036854775807
  ·rw [if_pos c7] at H
   have c7b0 := eq_true c7
   have c7b1 : decide (t134.size + (strOfNums y135).size ≤ 9223372036854775807) = true := decide_eq_true c7
   try have c7b2 : (9223372036854775807 < t134.size + (strOfNums y135).size) = False := eq_false (Nat.not_lt.2 c7)
   obtain rfl := Option.some.inj H
   go_enter Tryd.func63, Tryd.ntmps63
   try go_wp2
   replace HB := Aside0.mk (below_drew1 HB.out)
   refine start_ (n := 11) (S := fun w' => True) (ds := []) #[F,F,F,F,F,F,F,F,F,F,F] (by kernel_rfl) rfl rfl trivial (fun hHeld => ?_); refine with_tabW clusterlocksref02_Decimal.tab3 clusterlocksref02_Decimal.bits3 (fun HT_ HW_ => ?_)
   generalize w.drew = w8 at HB hHeld ⊢
   refine pu HT_ 0 10 #[T,F,F,F,F,F,F,F,F,F,F] rfl rfl (by kernel_rfl) (fun _ _ _ => id) (.inl ⟨by rfl, by intro w'; go_simp; with_reducible rfl⟩) (by simp only [sP]; rfl) ?_
   refine pu HT_ 1 11 #[T,T,F,F,F,F,F,F,F,F,F] rfl rfl (by kernel_rfl) (fun _ _ _ => id) (.inl ⟨by rfl, by intro w'; go_simp; with_reducible rfl⟩) (by simp only [sP]; rfl) ?_
   refine pu HT_ 3 13 #[T,T,F,T,F,F,F,F,F,F,F] rfl rfl (by kernel_rfl) (fun _ _ _ => id) (.inl ⟨by rfl, by intro w'; go_simp; with_reducible rfl⟩) (by simp only [sP]; rfl) ?_
   refine pu HT_ 4 14 #[T,T,F,T,T,F,F,F,F,F,F] rfl rfl (by kernel_rfl) (fun _ _ _ => id) (.inl ⟨by rfl, by intro w'; go_simp; with_reducible rfl⟩) (by simp only [sP]; rfl) ?_
   refine pu HT_ 5 15 #[T,T,F,T,T,T,F,F,F,F,F] rfl rfl (by kernel_rfl) (fun _ _ _ => id) (.inl ⟨by rfl, by intro w'; go_simp; with_reducible rfl⟩) (by simp only [sP]; rfl) ?_
   refine pu HT_ 6 16 #[T,T,F,T,T,T,T,F,F,F,F] rfl rfl (by kernel_rfl) (fun _ _ _ => id) (.inl ⟨by rfl, by intro w'; go_simp; with_reducible rfl⟩) (by simp only [sP]; rfl) ?_
   refine join_ (σ := Value) 2 #[T,T,T,T,T,T,T,T,T,F,F] (fun s_ => [(12, .string t134), (17, s_), (18, .string (strOfNums y135))]) (fun s_ w' => (Kd.R (Kd.int .u8) 5 w' w.heap.size (fun _ => True) s_ y135) ∧ (Below w.heap.size w w')) ?_ ?_
   rotate_left
   ·intro hCont
    refine two_ (i := 2) (j := 7) (Ni := some 12) (Nj := some 17) #[T,T,T,T,T,T,T,F,F,F,F] #[T,T,F,T,T,T,T,T,F,F,F] rfl rfl rfl rfl (two_of HT_.out (by kernel_rfl)) (by decide) (by decide) (fun K hK => ?_) (fun K hK => ?_)
    ·skip
     refine goes_ Tryd.func63 (by kernel_rfl) rfl #[.int .i64 (wrap64 (Int.tdiv a0 10))] (by rfl) rfl rfl (by (try simp only [mA]); first | done | rfl) ?_
     with_reducible refine (ih k (by omega) (wrap64 (Int.tdiv a0 10)) t134 _ A6.out).mono ?_
     rintro e w9 ⟨rfl, hb⟩
     refine ⟨_, rfl, ?_⟩
     replace HB := bB HB hb
     (try clear hb)
     (try clear hk)
     refine hK.out _ _ trivial (fun hHeld => ?_)
     clear hK K
     refine norm_ (a' := ?_) ?_ ?_
     rotate_left
     ·show Act.put _ (some 12) _ = _
      simp only [sP]
      rfl
     refine one_ (i := 7) (N := some 17) #[T,T,T,T,T,T,T,T,F,F,F] rfl rfl (one_of HT_.out (by kernel_rfl)) (by decide) (fun K hK => ?_)
     refine Kd.R_lit_step (Kd.int .u8) _ 5 ?hg (N := 17) ?hd (xs := ([(wrap64 (48 + (Int.tmod a0 10))) % 256] : List Int)) (inner := [.int .u8 ((wrap64 (48 + (Int.tmod a0 10))) % 256)]) (ok := fun _ => True) (okp := fun _ => True) ?hr ?hp (fun _ hk => hk) trivial (Below.refl _ _) (Nat.le_refl _) (by simp) ?_; (case hd => rfl); (case hg => rfl); (case hr => first | (go_simp; done) | (go_simp; rfl)); (case hp => exact (Reps.one (show Kd.M (Kd.int .u8) _ _ _ ((wrap64 (48 + (Int.tmod a0 10))) % 256) [.int .u8 ((wrap64 (48 + (Int.tmod a0 10))) % 256)] from rfl) (Reps.none _ _)))
     intro v136 w10 ho11 hb hg_ hnew_
     clear hg_ hnew_
     (first | rw [← Ny135.out] at ho11 | (simp only [Int.reduceToNat] at ho11; rw [← Ny135.out] at ho11))
     have HO137 := Aside0.mk (Kd.R_lower ho11 (below_size (uB HB)))
     replace HB := bB HB hb
     clear hb ho11
     refine hK.out _ _ trivial (fun hHeld => ?_)
     clear hK K
     refine norm_ (a' := ?_) ?_ ?_
     rotate_left
     ·show Act.put _ (some 17) _ = _
      simp only [sP]
      rfl
     refine one_ (i := 8) (N := some 18) #[T,T,T,T,T,T,T,T,T,F,F] rfl rfl (one_of HT_.out (by kernel_rfl)) (by decide) (fun K hK => ?_)
     have hcv12 := own_string (P := Tryd.prog) Tryd.underlying56 Tryd.underlying5 Tryd.underlying9 (Kd.own_of_R HO137.out)
     refine value_ (w1 := ?_) (v := ?_) (by rfl) rfl ?_ ?_
     rotate_left 2
     ·go_simp
      constructor
      ·rfl
      ·rfl
     clear hcv12
     refine hK.out _ _ trivial (fun hHeld => ?_)
     clear hK K
     refine norm_ (a' := ?_) ?_ ?_
     rotate_left
     ·show Act.put _ (some 18) _ = _
      simp only [sP]
      rfl
     exact norm_ (by simp only [putAll, sP]) (hCont (v136) _ ⟨(by (with_reducible repeat (first | apply Kd.R_alloc | apply Kd.R_drewN | apply Kd.R_drew)); exact HO137.out), (uB HB)⟩)
    ·skip
     refine Kd.R_lit_step (Kd.int .u8) _ 5 ?hg (N := 17) ?hd (xs := ([(wrap64 (48 + (Int.tmod a0 10))) % 256] : List Int)) (inner := [.int .u8 ((wrap64 (48 + (Int.tmod a0 10))) % 256)]) (ok := fun _ => True) (okp := fun _ => True) ?hr ?hp (fun _ hk => hk) trivial (Below.refl _ _) (Nat.le_refl _) (by simp) ?_; (case hd => rfl); (case hg => rfl); (case hr => first | (go_simp; done) | (go_simp; rfl)); (case hp => exact (Reps.one (show Kd.M (Kd.int .u8) _ _ _ ((wrap64 (48 + (Int.tmod a0 10))) % 256) [.int .u8 ((wrap64 (48 + (Int.tmod a0 10))) % 256)] from rfl) (Reps.none _ _)))
     intro v136 w9 ho10 hb hg_ hnew_
     clear hg_ hnew_
     (first | rw [← Ny135.out] at ho10 | (simp only [Int.reduceToNat] at ho10; rw [← Ny135.out] at ho10))
     have HO137 := Aside0.mk (Kd.R_lower ho10 (below_size (uB HB)))
     replace HB := bB HB hb
     clear hb ho10
     refine hK.out _ _ trivial (fun hHeld => ?_)
     clear hK K
     refine norm_ (a' := ?_) ?_ ?_
     rotate_left
     ·show Act.put _ (some 17) _ = _
      simp only [sP]
      rfl
     refine two_ (i := 2) (j := 8) (Ni := some 12) (Nj := some 18) #[T,T,T,T,T,T,T,T,F,F,F] #[T,T,F,T,T,T,T,T,T,F,F] rfl rfl rfl rfl (two_of HT_.out (by kernel_rfl)) (by decide) (by decide) (fun K hK => ?_) (fun K hK => ?_)
     ·skip
      refine goes_ Tryd.func63 (by kernel_rfl) rfl #[.int .i64 (wrap64 (Int.tdiv a0 10))] (by rfl) rfl rfl (by (try simp only [mA]); first | done | rfl) ?_
      with_reducible refine (ih k (by omega) (wrap64 (Int.tdiv a0 10)) t134 _ A6.out).mono ?_
      rintro e w11 ⟨rfl, hb⟩
      refine ⟨_, rfl, ?_⟩
      replace HO137 := Aside0.mk (Kd.R_below (by (with_reducible repeat (first | apply Kd.R_alloc | apply Kd.R_drewN | apply Kd.R_drew)); exact HO137.out) hb)
      replace HB := bB HB hb
      (try clear hb)
      (try clear hk)
      refine hK.out _ _ trivial (fun hHeld => ?_)
      clear hK K
      refine norm_ (a' := ?_) ?_ ?_
      rotate_left
      ·show Act.put _ (some 12) _ = _
       simp only [sP]
       rfl
      refine one_ (i := 8) (N := some 18) #[T,T,T,T,T,T,T,T,T,F,F] rfl rfl (one_of HT_.out (by kernel_rfl)) (by decide) (fun K hK => ?_)
      have hcv12 := own_string (P := Tryd.prog) Tryd.underlying56 Tryd.underlying5 Tryd.underlying9 (Kd.own_of_R HO137.out)
      refine value_ (w1 := ?_) (v := ?_) (by rfl) rfl ?_ ?_
      rotate_left 2
      ·go_simp
       constructor
       ·rfl
       ·rfl
      clear hcv12
      refine hK.out _ _ trivial (fun hHeld => ?_)
      clear hK K
      refine norm_ (a' := ?_) ?_ ?_
      rotate_left
      ·show Act.put _ (some 18) _ = _
       simp only [sP]
       rfl
      exact norm_ (by simp only [putAll, sP]) (hCont (v136) _ ⟨(by (with_reducible repeat (first | apply Kd.R_alloc | apply Kd.R_drewN | apply Kd.R_drew)); exact HO137.out), (uB HB)⟩)
     ·skip
      have hcv11 := own_string (P := Tryd.prog) Tryd.underlying56 Tryd.underlying5 Tryd.underlying9 (Kd.own_of_R HO137.out)
      refine value_ (w1 := ?_) (v := ?_) (by rfl) rfl ?_ ?_
      rotate_left 2
      ·go_simp
       constructor
       ·rfl
       ·rfl
      clear hcv11
      refine hK.out _ _ trivial (fun hHeld => ?_)
      clear hK K
      refine norm_ (a' := ?_) ?_ ?_
      rotate_left
      ·show Act.put _ (some 18) _ = _
       simp only [sP]
       rfl
      refine one_ (i := 2) (N := some 12) #[T,T,T,T,T,T,T,T,T,F,F] rfl rfl (one_of HT_.out (by kernel_rfl)) (by decide) (fun K hK => ?_)
      refine goes_ Tryd.func63 (by kernel_rfl) rfl #[.int .i64 (wrap64 (Int.tdiv a0 10))] (by rfl) rfl rfl (by (try simp only [mA]); first | done | rfl) ?_
      with_reducible refine (ih k (by omega) (wrap64 (Int.tdiv a0 10)) t134 _ A6.out).mono ?_
      rintro e w12 ⟨rfl, hb⟩
      refine ⟨_, rfl, ?_⟩
      replace HO137 := Aside0.mk (Kd.R_below (by (with_reducible repeat (first | apply Kd.R_alloc | apply Kd.R_drewN | apply Kd.R_drew)); exact HO137.out) hb)
      replace HB := bB HB hb
      (try clear hb)
      (try clear hk)
      refine hK.out _ _ trivial (fun hHeld => ?_)
      clear hK K
      refine norm_ (a' := ?_) ?_ ?_
      rotate_left
      ·show Act.put _ (some 12) _ = _
       simp only [sP]
       rfl
      exact norm_ (by simp only [putAll, sP]) (hCont (v136) _ ⟨(by (with_reducible repeat (first | apply Kd.R_alloc | apply Kd.R_drewN | apply Kd.R_drew)); exact HO137.out), (uB HB)⟩)
   rintro v136 w13 ⟨h0_, h1_⟩
   have n0_ : Aside0 (Kd.R (Kd.int .u8) 5 w13 w.heap.size (fun _ => True) v136 y135) := ⟨h0_⟩
   have n1_ : Aside0 (Below w.heap.size w w13) := ⟨h1_⟩
   clear HB
   clear h0_ h1_
   have HO137 := n0_
   have HB := n1_
   clear n0_ n1_
   have hHeld := trivial
   refine norm_ (a' := ?_) ?_ ?_
   rotate_left
   ·simp only [putAll, sP]
    rfl
   refine pu HT_ 9 19 #[T,T,T,T,T,T,T,T,T,T,F] rfl rfl (by kernel_rfl) (fun _ _ _ => id) (.inl ⟨by rfl, by intro w'; go_simp; with_reducible rfl⟩) (by simp only [sP]; rfl) ?_
   refine pu HT_ 10 2 #[T,T,T,T,T,T,T,T,T,T,T] rfl rfl (by kernel_rfl) (fun _ _ _ => id) (.inl ⟨by rfl, by intro w'; go_simp; with_reducible rfl⟩) (by simp only [sP]; rfl) ?_
   refine done_ (done_of HT_.out (by kernel_rfl)) ?_
   try go_wp2
   go_ret
   exact ⟨by first | rfl | (simp [errW_none, errW_some] <;> rfl) | (simp [*, errW_none, errW_some] <;> rfl), (uS HB)⟩
  ·rw [if_neg c7] at H
   exact absurd H (by simp)
/-! ### clusterlocksref05_Line: function 50 -/
def clusterlocksref05_Line.f (k : Nat) (a0_0 : ByteArray) (a0_1 : Int) (a0_2 : Int) (a0_3 : Int) : Option (ByteArray) := if a0_1 = 1 then (if 5 + a0_0.size ≤ 9223372036854775807 then (if ((⟨#[108, 111, 99, 107, 32]⟩ : ByteArray) ++ a0_0).size + 4 ≤ 9223372036854775807 then ((clusterlocksref02_Decimal.f k a0_3).bind fun t139 => (if (((⟨#[108, 111, 99, 107, 32]⟩ : ByteArray) ++ a0_0) ++ (⟨#[32, 97, 116, 32]⟩ : ByteArray)).size + t139.size ≤ 9223372036854775807 then (if ((((⟨#[108, 111, 99, 107, 32]⟩ : ByteArray) ++ a0_0) ++ (⟨#[32, 97, 116, 32]⟩ : ByteArray)) ++ t139).size + 1 ≤ 9223372036854775807 then (some (((((⟨#[108, 111, 99, 107, 32]⟩ : ByteArray) ++ a0_0) ++ (⟨#[32, 97, 116, 32]⟩ : ByteArray)) ++ t139) ++ (⟨#[10]⟩ : ByteArray))) else (none)) else (none))) else (none)) else (none)) else (if 5 + a0_0.size ≤ 9223372036854775807 then (if ((⟨#[112, 111, 111, 108, 32]⟩ : ByteArray) ++ a0_0).size + 1 ≤ 9223372036854775807 then ((clusterlocksref02_Decimal.f k a0_2).bind fun t140 => (if (((⟨#[112, 111, 111, 108, 32]⟩ : ByteArray) ++ a0_0) ++ (⟨#[32]⟩ : ByteArray)).size + t140.size ≤ 9223372036854775807 then (if ((((⟨#[112, 111, 111, 108, 32]⟩ : ByteArray) ++ a0_0) ++ (⟨#[32]⟩ : ByteArray)) ++ t140).size + 4 ≤ 9223372036854775807 then ((clusterlocksref02_Decimal.f k a0_3).bind fun t141 => (if (((((⟨#[112, 111, 111, 108, 32]⟩ : ByteArray) ++ a0_0) ++ (⟨#[32]⟩ : ByteArray)) ++ t140) ++ (⟨#[32, 97, 116, 32]⟩ : ByteArray)).size + t141.size ≤ 9223372036854775807 then (if ((((((⟨#[112, 111, 111, 108, 32]⟩ : ByteArray) ++ a0_0) ++ (⟨#[32]⟩ : ByteArray)) ++ t140) ++ (⟨#[32, 97, 116, 32]⟩ : ByteArray)) ++ t141).size + 1 ≤ 9223372036854775807 then (some (((((((⟨#[112, 111, 111, 108, 32]⟩ : ByteArray) ++ a0_0) ++ (⟨#[32]⟩ : ByteArray)) ++ t140) ++ (⟨#[32, 97, 116, 32]⟩ : ByteArray)) ++ t141) ++ (⟨#[10]⟩ : ByteArray))) else (none)) else (none))) else (none)) else (none))) else (none)) else (none))
theorem clusterlocksref05_Line.mono : ∀ a0 a1 a2 a3 k, LeO (clusterlocksref05_Line.f k a0 a1 a2 a3) (clusterlocksref05_Line.f (k + 1) a0 a1 a2 a3) := by
 intro a0 a1 a2 a3 k
 unfold clusterlocksref05_Line.f
 repeat' first
   | (with_reducible exact clusterlocksref02_Decimal.mono _ _)
   | (with_reducible exact LeO.refl _)
   | (with_reducible exact LeO.none _)
   | (with_reducible refine LeO.ite ?_ ?_)
   | (with_reducible refine LeO.bind ?_ (fun _ => ?_))
   | exact clusterlocksref02_Decimal.mono _ _
   | exact LeO.none _
   | refine LeO.ite ?_ ?_
   | refine LeO.bind ?_ (fun _ => ?_)
def clusterlocksref05_Line.T2 : Bool × List (List Nat × List Nat) := (true, [([], []), ([0], [0]), ([1], [1]), ([2], [2]), ([], []), ([4], [4]), ([5], [5]), ([3, 6], [3, 6]), ([7], [7]), ([8, 6, 0, 1, 2, 3, 4, 5, 6, 7, 8], [8])])
def clusterlocksref05_Line.B2 : List Nat := [0, 1, 3, 7, 0, 16, 48, 127, 255, 511]
theorem clusterlocksref05_Line.tab2 : rtab .any (opsOf Tryd.f50 2) = clusterlocksref05_Line.T2 := by kernel_rfl
theorem clusterlocksref05_Line.bits2 : waitsOk clusterlocksref05_Line.T2.2 clusterlocksref05_Line.B2 = true := by kernel_rfl
def clusterlocksref05_Line.T3 : Bool × List (List Nat × List Nat) := (true, [([], []), ([0], [0]), ([1], [1]), ([2], [2]), ([], []), ([4], [4]), ([5], [5]), ([3, 6], [3, 6]), ([7], [7]), ([], []), ([9], [9]), ([10, 6], [10]), ([8, 11], [8, 11]), ([12], [12]), ([13, 11, 0, 1, 2, 3, 4, 5, 6, 7, 8, 9, 10, 11, 12, 13], [13])])
def clusterlocksref05_Line.B3 : List Nat := [0, 1, 3, 7, 0, 16, 48, 127, 255, 0, 512, 1648, 4095, 8191, 16383]
theorem clusterlocksref05_Line.tab3 : rtab .any (opsOf Tryd.f50 3) = clusterlocksref05_Line.T3 := by kernel_rfl
theorem clusterlocksref05_Line.bits3 : waitsOk clusterlocksref05_Line.T3.2 clusterlocksref05_Line.B3 = true := by kernel_rfl
set_option maxHeartbeats 8000000 in
set_option maxRecDepth 100000 in
theorem clusterlocksref05_Line.calls (k : Nat) (a0_0 : ByteArray) (a0_1 : Int) (a0_2 : Int) (a0_3 : Int) (r : ByteArray) (w : World) (h : clusterlocksref05_Line.f k a0_0 a0_1 a0_2 a0_3 = some r) :
  Calls Tryd.prog 50 #[.agg #[.string a0_0, .int .i64 a0_1, .int .i64 a0_2, .int .i64 a0_3]] w fun e w' => e = .returned (.string r) ∧ Below w.heap.size w w' := by
 have hu26 := Tryd.underlying26
 have HB := Aside0.mk (Below.refl w.heap.size w)
 have H : (if a0_1 = 1 then (if 5 + a0_0.size ≤ 9223372036854775807 then (if ((⟨#[108, 111, 99, 107, 32]⟩ : ByteArray) ++ a0_0).size + 4 ≤ 9223372036854775807 then ((clusterlocksref02_Decimal.f k a0_3).bind fun t139 => (if (((⟨#[108, 111, 99, 107, 32]⟩ : ByteArray) ++ a0_0) ++ (⟨#[32, 97, 116, 32]⟩ : ByteArray)).size + t139.size ≤ 9223372036854775807 then (if ((((⟨#[108, 111, 99, 107, 32]⟩ : ByteArray) ++ a0_0) ++ (⟨#[32, 97, 116, 32]⟩ : ByteArray)) ++ t139).size + 1 ≤ 9223372036854775807 then (some (((((⟨#[108, 111, 99, 107, 32]⟩ : ByteArray) ++ a0_0) ++ (⟨#[32, 97, 116, 32]⟩ : ByteArray)) ++ t139) ++ (⟨#[10]⟩ : ByteArray))) else (none)) else (none))) else (none)) else (none)) else (if 5 + a0_0.size ≤ 9223372036854775807 then (if ((⟨#[112, 111, 111, 108, 32]⟩ : ByteArray) ++ a0_0).size + 1 ≤ 9223372036854775807 then ((clusterlocksref02_Decimal.f k a0_2).bind fun t140 => (if (((⟨#[112, 111, 111, 108, 32]⟩ : ByteArray) ++ a0_0) ++ (⟨#[32]⟩ : ByteArray)).size + t140.size ≤ 9223372036854775807 then (if ((((⟨#[112, 111, 111, 108, 32]⟩ : ByteArray) ++ a0_0) ++ (⟨#[32]⟩ : ByteArray)) ++ t140).size + 4 ≤ 9223372036854775807 then ((clusterlocksref02_Decimal.f k a0_3).bind fun t141 => (if (((((⟨#[112, 111, 111, 108, 32]⟩ : ByteArray) ++ a0_0) ++ (⟨#[32]⟩ : ByteArray)) ++ t140) ++ (⟨#[32, 97, 116, 32]⟩ : ByteArray)).size + t141.size ≤ 9223372036854775807 then (if ((((((⟨#[112, 111, 111, 108, 32]⟩ : ByteArray) ++ a0_0) ++ (⟨#[32]⟩ : ByteArray)) ++ t140) ++ (⟨#[32, 97, 116, 32]⟩ : ByteArray)) ++ t141).size + 1 ≤ 9223372036854775807 then (some (((((((⟨#[112, 111, 111, 108, 32]⟩ : ByteArray) ++ a0_0) ++ (⟨#[32]⟩ : ByteArray)) ++ t140) ++ (⟨#[32, 97, 116, 32]⟩ : ByteArray)) ++ t141) ++ (⟨#[10]⟩ : ByteArray))) else (none)) else (none))) else (none)) else (none))) else (none)) else (none))) = some r := h
 clear h
 by_cases c2 : a0_1 = 1
 ·rw [if_pos c2] at H
  have c2b0 : (a0_1 == 1) = true := beq_iff_eq.mpr c2
  have c2b1 : (a0_1 != 1) = false := bne_eq_false_iff_eq.mpr c2
  clear c2
  by_cases c3 : 5 + a0_0.size ≤ 9223372036854775807
  ·rw [if_pos c3] at H
   have c3b0 := eq_true c3
   have c3b1 : decide (5 + a0_0.size ≤ 9223372036854775807) = true := decide_eq_true c3
   try have c3b2 : (9223372036854775807 < 5 + a0_0.size) = False := eq_false (Nat.not_lt.2 c3)
   by_cases c4 : ((⟨#[108, 111, 99, 107, 32]⟩ : ByteArray) ++ a0_0).size + 4 ≤ 9223372036854775807
   ·rw [if_pos c4] at H
    have c4b0 := eq_true c4
    have c4b1 : decide (((⟨#[108, 111, 99, 107, 32]⟩ : ByteArray) ++ a0_0).size + 4 ≤ 9223372036854775807) = true := decide_eq_true c4
    try have c4b2 : (9223372036854775807 < ((⟨#[108, 111, 99, 107, 32]⟩ : ByteArray) ++ a0_0).size + 4) = False := eq_false (Nat.not_lt.2 c4)
    have c4b3 : (9223372036854775807 < 5 + a0_0.size + 4) = False := by rw [← c4b2]; simp only [ByteArray.size_append]; rfl
    obtain ⟨t139, A50, H⟩ := Option.bind_eq_some_iff.mp H
    have A5 := Aside0.mk A50; clear A50
    by_cases c6 : (((⟨#[108, 111, 99, 107, 32]⟩ : ByteArray) ++ a0_0) ++ (⟨#[32, 97, 116, 32]⟩ : ByteArray)).size + t139.size ≤ 9223372036854775807
    ·rw [if_pos c6] at H
     have c6b0 := eq_true c6
     have c6b1 : decide ((((⟨#[108, 111, 99, 107, 32]⟩ : ByteArray) ++ a0_0) ++ (⟨#[32, 97, 116, 32]⟩ : ByteArray)).size + t139.size ≤ 9223372036854775807) = true := decide_eq_true c6
     try have c6b2 : (9223372036854775807 < (((⟨#[108, 111, 99, 107, 32]⟩ : ByteArray) ++ a0_0) ++ (⟨#[32, 97, 116, 32]⟩ : ByteArray)).size + t139.size) = False := eq_false (Nat.not_lt.2 c6)
     have c6b3 : (9223372036854775807 < 5 + a0_0.size + 4 + t139.size) = False := by rw [← c6b2]; simp only [ByteArray.size_append]; rfl
     by_cases c7 : ((((⟨#[108, 111, 99, 107, 32]⟩ : ByteArray) ++ a0_0) ++ (⟨#[32, 97, 116, 32]⟩ : ByteArray)) ++ t139).size + 1 ≤ 9223372036854775807
     ·rw [if_pos c7] at H
      have c7b0 := eq_true c7
      have c7b1 : decide (((((⟨#[108, 111, 99, 107, 32]⟩ : ByteArray) ++ a0_0) ++ (⟨#[32, 97, 116, 32]⟩ : ByteArray)) ++ t139).size + 1 ≤ 9223372036854775807) = true := decide_eq_true c7
      try have c7b2 : (9223372036854775807 < ((((⟨#[108, 111, 99, 107, 32]⟩ : ByteArray) ++ a0_0) ++ (⟨#[32, 97, 116, 32]⟩ : ByteArray)) ++ t139).size + 1) = False := eq_false (Nat.not_lt.2 c7)
      have c7b3 : (9223372036854775807 < 5 + a0_0.size + 4 + t139.size + 1) = False := by rw [← c7b2]; simp only [ByteArray.size_append]; rfl
      obtain rfl := Option.some.inj H
      go_enter Tryd.func50, Tryd.ntmps50
      try go_wp2_with (first | ((with_reducible refine gate_dst (N := 1) rfl ?_); refine box_event ?hg (N := 1) ?hd (cs := #[.string a0_0, .int .i64 a0_1, .int .i64 a0_2, .int .i64 a0_3]) (t := 26) ?hr ?_; (case hd => rfl); (case hg => rfl); (case hr => first | (go_simp; done) | (go_simp; rfl)); intro gb138 hg w8 hbox hb; have BK138 := Aside0.mk hbox; have GW138 := gE HB hg; replace HB := bB HB hb; have GE138 := GW138; clear hb hbox hg; have hcz9_0 : w8.cell? ⟨gb138, 0, none⟩ = some (.string a0_0) := bC BK138 0 rfl; have hcz9_1 : w8.cell? ⟨gb138, 1, none⟩ = some (.int .i64 a0_1) := bC BK138 1 rfl; have hcz9_2 : w8.cell? ⟨gb138, 2, none⟩ = some (.int .i64 a0_2) := bC BK138 2 rfl; have hcz9_3 : w8.cell? ⟨gb138, 3, none⟩ = some (.int .i64 a0_3) := bC BK138 3 rfl; have hfz9_0 := bF BK138 0; have hfz9_1 := bF BK138 1; have hfz9_2 := bF BK138 2; have hfz9_3 := bF BK138 3))
      replace BK138 := Aside0.mk (blk_drew BK138.out)
      replace HB := Aside0.mk (below_drew1 HB.out)
      refine start_ (n := 10) (S := fun w' => w'.cell? ⟨gb138, 0, none⟩ = some (.string a0_0) ∧ w'.cell? ⟨gb138, 1, none⟩ = some (.int .i64 a0_1) ∧ w'.cell? ⟨gb138, 2, none⟩ = some (.int .i64 a0_2) ∧ w'.cell? ⟨gb138, 3, none⟩ = some (.int .i64 a0_3)) (ds := []) #[F,F,F,F,F,F,F,F,F,F] (by kernel_rfl) rfl rfl ⟨bC BK138 0 rfl, bC BK138 1 rfl, bC BK138 2 rfl, bC BK138 3 rfl⟩ (fun hHeld => ?_); refine with_tabW clusterlocksref05_Line.tab2 clusterlocksref05_Line.bits2 (fun HT_ HW_ => ?_)
      generalize w8.drew = w10 at BK138 HB hHeld ⊢
      refine pu HT_ 0 6 #[T,F,F,F,F,F,F,F,F,F] rfl rfl (by kernel_rfl) (fun _ _ _ => id) (.inl ⟨by rfl, by intro w'; go_simp; with_reducible rfl⟩) (by simp only [sP]; rfl) ?_
      refine pu HT_ 4 10 #[T,F,F,F,T,F,F,F,F,F] rfl rfl (by kernel_rfl) (fun _ _ _ => id) (.inl ⟨by rfl, by intro w'; go_simp; with_reducible rfl⟩) (by simp only [sP]; rfl) ?_
      refine tk HT_ HW_ 1 7 #[T,T,F,F,T,F,F,F,F,F] rfl rfl (by kernel_rfl) (fun _ _ _ => id) (.inl ⟨by rfl, by rintro w' ⟨s0, s1, s2, s3⟩; go_simp; with_reducible rfl⟩) hHeld (by simp only [sP]; rfl) ?_
      refine pu HT_ 2 8 #[T,T,T,F,T,F,F,F,F,F] rfl rfl (by kernel_rfl) (fun _ _ _ => id) (.inl ⟨by rfl, by intro w'; go_simp; with_reducible rfl⟩) (by simp only [sP]; rfl) ?_
      refine pu HT_ 3 9 #[T,T,T,T,T,F,F,F,F,F] rfl rfl (by kernel_rfl) (fun _ _ _ => id) (.inl ⟨by rfl, by intro w'; go_simp; with_reducible rfl⟩) (by simp only [sP]; rfl) ?_
      refine tk HT_ HW_ 5 11 #[T,T,T,T,T,T,F,F,F,F] rfl rfl (by kernel_rfl) (fun _ _ _ => id) (.inl ⟨by rfl, by rintro w' ⟨s0, s1, s2, s3⟩; go_simp; with_reducible rfl⟩) hHeld (by simp only [sP]; rfl) ?_
      refine one_ (i := 6) (N := some 12) #[T,T,T,T,T,T,T,F,F,F] rfl rfl (one_of HT_.out (by kernel_rfl)) (by decide) (fun K hK => ?_)
      refine goes_ Tryd.func63 (by kernel_rfl) rfl #[.int .i64 a0_3] (by rfl) rfl rfl (by (try simp only [mA]); first | done | rfl) ?_
      with_reducible refine (clusterlocksref02_Decimal.calls k a0_3 t139 _ A5.out).mono ?_
      rintro e w11 ⟨rfl, hb⟩
      refine ⟨_, rfl, ?_⟩
      replace BK138 := bK BK138 hb
      replace HB := bB HB hb
      (try clear hb)
      (try clear hk)
      refine hK.out _ _ ⟨bC BK138 0 rfl, bC BK138 1 rfl, bC BK138 2 rfl, bC BK138 3 rfl⟩ (fun hHeld => ?_)
      clear hK K
      refine norm_ (a' := ?_) ?_ ?_
      rotate_left
      ·show Act.put _ (some 12) _ = _
       simp only [sP]
       rfl
      refine pu HT_ 7 13 #[T,T,T,T,T,T,T,T,F,F] rfl rfl (by kernel_rfl) (fun _ _ _ => id) (.inl ⟨by rfl, by intro w'; go_simp; with_reducible rfl⟩) (by simp only [sP]; rfl) ?_
      refine pu HT_ 8 14 #[T,T,T,T,T,T,T,T,T,F] rfl rfl (by kernel_rfl) (fun _ _ _ => id) (.inl ⟨by rfl, by intro w'; go_simp; with_reducible rfl⟩) (by simp only [sP]; rfl) ?_
      refine pu HT_ 9 2 #[T,T,T,T,T,T,T,T,T,T] rfl rfl (by kernel_rfl) (fun _ _ _ => id) (.inl ⟨by rfl, by intro w'; go_simp; with_reducible rfl⟩) (by simp only [sP]; rfl) ?_
      refine done_ (done_of HT_.out (by kernel_rfl)) ?_
      try go_wp2
      go_ret
      exact ⟨by first | rfl | (simp [errW_none, errW_some] <;> rfl) | (simp [*, errW_none, errW_some] <;> rfl), (uS HB)⟩
     ·rw [if_neg c7] at H
      exact absurd H (by simp)
    ·rw [if_neg c6] at H
     exact absurd H (by simp)
   ·rw [if_neg c4] at H
    exact absurd H (by simp)
  ·rw [if_neg c3] at H
   exact absurd H (by simp)
 ·rw [if_neg c2] at H
  have c2b0 : (a0_1 == 1) = false := beq_eq_false_iff_ne.mpr c2
  have c2b1 : (a0_1 != 1) = true := bne_iff_ne.mpr c2
  by_cases c12 : 5 + a0_0.size ≤ 9223372036854775807
  ·rw [if_pos c12] at H
   have c12b0 := eq_true c12
   have c12b1 : decide (5 + a0_0.size ≤ 9223372036854775807) = true := decide_eq_true c12
   try have c12b2 : (9223372036854775807 < 5 + a0_0.size) = False := eq_false (Nat.not_lt.2 c12)
   by_cases c13 : ((⟨#[112, 111, 111, 108, 32]⟩ : ByteArray) ++ a0_0).size + 1 ≤ 9223372036854775807
   ·rw [if_pos c13] at H
    have c13b0 := eq_true c13
    have c13b1 : decide (((⟨#[112, 111, 111, 108, 32]⟩ : ByteArray) ++ a0_0).size + 1 ≤ 9223372036854775807) = true := decide_eq_true c13
    try have c13b2 : (9223372036854775807 < ((⟨#[112, 111, 111, 108, 32]⟩ : ByteArray) ++ a0_0).size + 1) = False := eq_false (Nat.not_lt.2 c13)
    have c13b3 : (9223372036854775807 < 5 + a0_0.size + 1) = False := by rw [← c13b2]; simp only [ByteArray.size_append]; rfl
    obtain ⟨t140, A140, H⟩ := Option.bind_eq_some_iff.mp H
    have A14 := Aside0.mk A140; clear A140
    by_cases c15 : (((⟨#[112, 111, 111, 108, 32]⟩ : ByteArray) ++ a0_0) ++ (⟨#[32]⟩ : ByteArray)).size + t140.size ≤ 9223372036854775807
    ·rw [if_pos c15] at H
     have c15b0 := eq_true c15
     have c15b1 : decide ((((⟨#[112, 111, 111, 108, 32]⟩ : ByteArray) ++ a0_0) ++ (⟨#[32]⟩ : ByteArray)).size + t140.size ≤ 9223372036854775807) = true := decide_eq_true c15
     try have c15b2 : (9223372036854775807 < (((⟨#[112, 111, 111, 108, 32]⟩ : ByteArray) ++ a0_0) ++ (⟨#[32]⟩ : ByteArray)).size + t140.size) = False := eq_false (Nat.not_lt.2 c15)
     have c15b3 : (9223372036854775807 < 5 + a0_0.size + 1 + t140.size) = False := by rw [← c15b2]; simp only [ByteArray.size_append]; rfl
     by_cases c16 : ((((⟨#[112, 111, 111, 108, 32]⟩ : ByteArray) ++ a0_0) ++ (⟨#[32]⟩ : ByteArray)) ++ t140).size + 4 ≤ 9223372036854775807
     ·rw [if_pos c16] at H
      have c16b0 := eq_true c16
      have c16b1 : decide (((((⟨#[112, 111, 111, 108, 32]⟩ : ByteArray) ++ a0_0) ++ (⟨#[32]⟩ : ByteArray)) ++ t140).size + 4 ≤ 9223372036854775807) = true := decide_eq_true c16
      try have c16b2 : (9223372036854775807 < ((((⟨#[112, 111, 111, 108, 32]⟩ : ByteArray) ++ a0_0) ++ (⟨#[32]⟩ : ByteArray)) ++ t140).size + 4) = False := eq_false (Nat.not_lt.2 c16)
      have c16b3 : (9223372036854775807 < 5 + a0_0.size + 1 + t140.size + 4) = False := by rw [← c16b2]; simp only [ByteArray.size_append]; rfl
      obtain ⟨t141, A170, H⟩ := Option.bind_eq_some_iff.mp H
      have A17 := Aside0.mk A170; clear A170
      by_cases c18 : (((((⟨#[112, 111, 111, 108, 32]⟩ : ByteArray) ++ a0_0) ++ (⟨#[32]⟩ : ByteArray)) ++ t140) ++ (⟨#[32, 97, 116, 32]⟩ : ByteArray)).size + t141.size ≤ 9223372036854775807
      ·rw [if_pos c18] at H
       have c18b0 := eq_true c18
       have c18b1 : decide ((((((⟨#[112, 111, 111, 108, 32]⟩ : ByteArray) ++ a0_0) ++ (⟨#[32]⟩ : ByteArray)) ++ t140) ++ (⟨#[32, 97, 116, 32]⟩ : ByteArray)).size + t141.size ≤ 9223372036854775807) = true := decide_eq_true c18
       try have c18b2 : (9223372036854775807 < (((((⟨#[112, 111, 111, 108, 32]⟩ : ByteArray) ++ a0_0) ++ (⟨#[32]⟩ : ByteArray)) ++ t140) ++ (⟨#[32, 97, 116, 32]⟩ : ByteArray)).size + t141.size) = False := eq_false (Nat.not_lt.2 c18)
       have c18b3 : (9223372036854775807 < 5 + a0_0.size + 1 + t140.size + 4 + t141.size) = False := by rw [← c18b2]; simp only [ByteArray.size_append]; rfl
       by_cases c19 : ((((((⟨#[112, 111, 111, 108, 32]⟩ : ByteArray) ++ a0_0) ++ (⟨#[32]⟩ : ByteArray)) ++ t140) ++ (⟨#[32, 97, 116, 32]⟩ : ByteArray)) ++ t141).size + 1 ≤ 9223372036854775807
       ·rw [if_pos c19] at H
        have c19b0 := eq_true c19
        have c19b1 : decide (((((((⟨#[112, 111, 111, 108, 32]⟩ : ByteArray) ++ a0_0) ++ (⟨#[32]⟩ : ByteArray)) ++ t140) ++ (⟨#[32, 97, 116, 32]⟩ : ByteArray)) ++ t141).size + 1 ≤ 9223372036854775807) = true := decide_eq_true c19
        try have c19b2 : (9223372036854775807 < ((((((⟨#[112, 111, 111, 108, 32]⟩ : ByteArray) ++ a0_0) ++ (⟨#[32]⟩ : ByteArray)) ++ t140) ++ (⟨#[32, 97, 116, 32]⟩ : ByteArray)) ++ t141).size + 1) = False := eq_false (Nat.not_lt.2 c19)
        have c19b3 : (9223372036854775807 < 5 + a0_0.size + 1 + t140.size + 4 + t141.size + 1) = False := by rw [← c19b2]; simp only [ByteArray.size_append]; rfl
        obtain rfl := Option.some.inj H
        go_enter Tryd.func50, Tryd.ntmps50
        try go_wp2_with (first | ((with_reducible refine gate_dst (N := 1) rfl ?_); refine box_event ?hg (N := 1) ?hd (cs := #[.string a0_0, .int .i64 a0_1, .int .i64 a0_2, .int .i64 a0_3]) (t := 26) ?hr ?_; (case hd => rfl); (case hg => rfl); (case hr => first | (go_simp; done) | (go_simp; rfl)); intro gb138 hg w20 hbox hb; have BK138 := Aside0.mk hbox; have GW138 := gE HB hg; replace HB := bB HB hb; have GE138 := GW138; clear hb hbox hg; have hcz21_0 : w20.cell? ⟨gb138, 0, none⟩ = some (.string a0_0) := bC BK138 0 rfl; have hcz21_1 : w20.cell? ⟨gb138, 1, none⟩ = some (.int .i64 a0_1) := bC BK138 1 rfl; have hcz21_2 : w20.cell? ⟨gb138, 2, none⟩ = some (.int .i64 a0_2) := bC BK138 2 rfl; have hcz21_3 : w20.cell? ⟨gb138, 3, none⟩ = some (.int .i64 a0_3) := bC BK138 3 rfl; have hfz21_0 := bF BK138 0; have hfz21_1 := bF BK138 1; have hfz21_2 := bF BK138 2; have hfz21_3 := bF BK138 3))
        replace BK138 := Aside0.mk (blk_drew BK138.out)
        replace HB := Aside0.mk (below_drew1 HB.out)
        refine start_ (n := 15) (S := fun w' => w'.cell? ⟨gb138, 0, none⟩ = some (.string a0_0) ∧ w'.cell? ⟨gb138, 1, none⟩ = some (.int .i64 a0_1) ∧ w'.cell? ⟨gb138, 2, none⟩ = some (.int .i64 a0_2) ∧ w'.cell? ⟨gb138, 3, none⟩ = some (.int .i64 a0_3)) (ds := []) #[F,F,F,F,F,F,F,F,F,F,F,F,F,F,F] (by kernel_rfl) rfl rfl ⟨bC BK138 0 rfl, bC BK138 1 rfl, bC BK138 2 rfl, bC BK138 3 rfl⟩ (fun hHeld => ?_); refine with_tabW clusterlocksref05_Line.tab3 clusterlocksref05_Line.bits3 (fun HT_ HW_ => ?_)
        generalize w20.drew = w22 at BK138 HB hHeld ⊢
        refine pu HT_ 0 15 #[T,F,F,F,F,F,F,F,F,F,F,F,F,F,F] rfl rfl (by kernel_rfl) (fun _ _ _ => id) (.inl ⟨by rfl, by intro w'; go_simp; with_reducible rfl⟩) (by simp only [sP]; rfl) ?_
        refine pu HT_ 4 19 #[T,F,F,F,T,F,F,F,F,F,F,F,F,F,F] rfl rfl (by kernel_rfl) (fun _ _ _ => id) (.inl ⟨by rfl, by intro w'; go_simp; with_reducible rfl⟩) (by simp only [sP]; rfl) ?_
        refine pu HT_ 9 24 #[T,F,F,F,T,F,F,F,F,T,F,F,F,F,F] rfl rfl (by kernel_rfl) (fun _ _ _ => id) (.inl ⟨by rfl, by intro w'; go_simp; with_reducible rfl⟩) (by simp only [sP]; rfl) ?_
        refine tk HT_ HW_ 1 16 #[T,T,F,F,T,F,F,F,F,T,F,F,F,F,F] rfl rfl (by kernel_rfl) (fun _ _ _ => id) (.inl ⟨by rfl, by rintro w' ⟨s0, s1, s2, s3⟩; go_simp; with_reducible rfl⟩) hHeld (by simp only [sP]; rfl) ?_
        refine pu HT_ 2 17 #[T,T,T,F,T,F,F,F,F,T,F,F,F,F,F] rfl rfl (by kernel_rfl) (fun _ _ _ => id) (.inl ⟨by rfl, by intro w'; go_simp; with_reducible rfl⟩) (by simp only [sP]; rfl) ?_
        refine pu HT_ 3 18 #[T,T,T,T,T,F,F,F,F,T,F,F,F,F,F] rfl rfl (by kernel_rfl) (fun _ _ _ => id) (.inl ⟨by rfl, by intro w'; go_simp; with_reducible rfl⟩) (by simp only [sP]; rfl) ?_
        refine tk HT_ HW_ 5 20 #[T,T,T,T,T,T,F,F,F,T,F,F,F,F,F] rfl rfl (by kernel_rfl) (fun _ _ _ => id) (.inl ⟨by rfl, by rintro w' ⟨s0, s1, s2, s3⟩; go_simp; with_reducible rfl⟩) hHeld (by simp only [sP]; rfl) ?_
        refine tk HT_ HW_ 10 25 #[T,T,T,T,T,T,F,F,F,T,T,F,F,F,F] rfl rfl (by kernel_rfl) (fun _ _ _ => id) (.inl ⟨by rfl, by rintro w' ⟨s0, s1, s2, s3⟩; go_simp; with_reducible rfl⟩) hHeld (by simp only [sP]; rfl) ?_
        refine one_ (i := 6) (N := some 21) #[T,T,T,T,T,T,T,F,F,T,T,F,F,F,F] rfl rfl (one_of HT_.out (by kernel_rfl)) (by decide) (fun K hK => ?_)
        refine goes_ Tryd.func63 (by kernel_rfl) rfl #[.int .i64 a0_2] (by rfl) rfl rfl (by (try simp only [mA]); first | done | rfl) ?_
        with_reducible refine (clusterlocksref02_Decimal.calls k a0_2 t140 _ A14.out).mono ?_
        rintro e w23 ⟨rfl, hb⟩
        refine ⟨_, rfl, ?_⟩
        replace BK138 := bK BK138 hb
        replace HB := bB HB hb
        (try clear hb)
        (try clear hk)
        refine hK.out _ _ ⟨bC BK138 0 rfl, bC BK138 1 rfl, bC BK138 2 rfl, bC BK138 3 rfl⟩ (fun hHeld => ?_)
        clear hK K
        refine norm_ (a' := ?_) ?_ ?_
        rotate_left
        ·show Act.put _ (some 21) _ = _
         simp only [sP]
         rfl
        refine pu HT_ 7 22 #[T,T,T,T,T,T,T,T,F,T,T,F,F,F,F] rfl rfl (by kernel_rfl) (fun _ _ _ => id) (.inl ⟨by rfl, by intro w'; go_simp; with_reducible rfl⟩) (by simp only [sP]; rfl) ?_
        refine pu HT_ 8 23 #[T,T,T,T,T,T,T,T,T,T,T,F,F,F,F] rfl rfl (by kernel_rfl) (fun _ _ _ => id) (.inl ⟨by rfl, by intro w'; go_simp; with_reducible rfl⟩) (by simp only [sP]; rfl) ?_
        refine one_ (i := 11) (N := some 26) #[T,T,T,T,T,T,T,T,T,T,T,T,F,F,F] rfl rfl (one_of HT_.out (by kernel_rfl)) (by decide) (fun K hK => ?_)
        refine goes_ Tryd.func63 (by kernel_rfl) rfl #[.int .i64 a0_3] (by rfl) rfl rfl (by (try simp only [mA]); first | done | rfl) ?_
        with_reducible refine (clusterlocksref02_Decimal.calls k a0_3 t141 _ A17.out).mono ?_
        rintro e w24 ⟨rfl, hb⟩
        refine ⟨_, rfl, ?_⟩
        replace BK138 := bK BK138 hb
        replace HB := bB HB hb
        (try clear hb)
        (try clear hk)
        refine hK.out _ _ ⟨bC BK138 0 rfl, bC BK138 1 rfl, bC BK138 2 rfl, bC BK138 3 rfl⟩ (fun hHeld => ?_)
        clear hK K
        refine norm_ (a' := ?_) ?_ ?_
        rotate_left
        ·show Act.put _ (some 26) _ = _
         simp only [sP]
         rfl
        refine pu HT_ 12 27 #[T,T,T,T,T,T,T,T,T,T,T,T,T,F,F] rfl rfl (by kernel_rfl) (fun _ _ _ => id) (.inl ⟨by rfl, by intro w'; go_simp; with_reducible rfl⟩) (by simp only [sP]; rfl) ?_
        refine pu HT_ 13 28 #[T,T,T,T,T,T,T,T,T,T,T,T,T,T,F] rfl rfl (by kernel_rfl) (fun _ _ _ => id) (.inl ⟨by rfl, by intro w'; go_simp; with_reducible rfl⟩) (by simp only [sP]; rfl) ?_
        refine pu HT_ 14 2 #[T,T,T,T,T,T,T,T,T,T,T,T,T,T,T] rfl rfl (by kernel_rfl) (fun _ _ _ => id) (.inl ⟨by rfl, by intro w'; go_simp; with_reducible rfl⟩) (by simp only [sP]; rfl) ?_
        refine done_ (done_of HT_.out (by kernel_rfl)) ?_
        try go_wp2
        go_ret
        exact ⟨by first | rfl | (simp [errW_none, errW_some] <;> rfl) | (simp [*, errW_none, errW_some] <;> rfl), (uS HB)⟩
       ·rw [if_neg c19] at H
        exact absurd H (by simp)
      ·rw [if_neg c18] at H
       exact absurd H (by simp)
     ·rw [if_neg c16] at H
      exact absurd H (by simp)
    ·rw [if_neg c15] at H
     exact absurd H (by simp)
   ·rw [if_neg c13] at H
    exact absurd H (by simp)
  ·rw [if_neg c12] at H
   exact absurd H (by simp)
/-! ### clusterlocksref05_Format: function 34 -/
def clusterlocksref05_Format.l0 : Nat → List (S26) → ByteArray → Int → Option (ByteArray)
 | 0, _, _, _ => none
 | k + 1, x0, x3, x4 => if x4 < (x0.length : Int) then (if 0 ≤ x4 then ((clusterlocksref05_Line.f k ((rd_T26 x0 x4).f0) ((rd_T26 x0 x4).f1) ((rd_T26 x0 x4).f2) ((rd_T26 x0 x4).f3)).bind fun t144 => (if x3.size + t144.size ≤ 9223372036854775807 then (clusterlocksref05_Format.l0 k x0 (x3 ++ t144) (wrap64 (x4 + 1))) else (none))) else (none)) else (some x3)
def clusterlocksref05_Format.f (k : Nat) (l0 : List (S26)) : Option (ByteArray) := (clusterlocksref05_Valid.f k l0).bind fun t142 => (if t142 = true then (clusterlocksref05_Format.l0 k l0 (⟨#[]⟩ : ByteArray) 0) else (some (⟨#[]⟩ : ByteArray)))
theorem clusterlocksref05_Format.mono_l : ∀ k, (∀ y0 y1 y2, LeO (clusterlocksref05_Format.l0 k y0 y1 y2) (clusterlocksref05_Format.l0 (k + 1) y0 y1 y2))
 | 0 => fun _ _ _ r h => by simp [clusterlocksref05_Format.l0] at h
 | k + 1 => by
  have ih0 := clusterlocksref05_Format.mono_l k
  ·intro y0 y1 y2
   unfold clusterlocksref05_Format.l0
   repeat' first
   | (with_reducible exact ih0 _ _ _)
   | (with_reducible exact clusterlocksref05_Line.mono _ _ _ _ _)
   | (with_reducible exact clusterlocksref05_Valid.mono _ _)
   | (with_reducible exact LeO.refl _)
   | (with_reducible exact LeO.none _)
   | (with_reducible refine LeO.ite ?_ ?_)
   | (with_reducible refine LeO.bind ?_ (fun _ => ?_))
   | exact ih0 _ _ _
   | exact clusterlocksref05_Line.mono _ _ _ _ _
   | exact clusterlocksref05_Valid.mono _ _
   | exact LeO.none _
   | refine LeO.ite ?_ ?_
   | refine LeO.bind ?_ (fun _ => ?_)
theorem clusterlocksref05_Format.mono : ∀ a0 k, LeO (clusterlocksref05_Format.f k a0) (clusterlocksref05_Format.f (k + 1) a0) := by
 intro a0 k
 have ih0 := clusterlocksref05_Format.mono_l k
 unfold clusterlocksref05_Format.f
 repeat' first
   | (with_reducible exact ih0 _ _ _)
   | (with_reducible exact clusterlocksref05_Line.mono _ _ _ _ _)
   | (with_reducible exact clusterlocksref05_Valid.mono _ _)
   | (with_reducible exact LeO.refl _)
   | (with_reducible exact LeO.none _)
   | (with_reducible refine LeO.ite ?_ ?_)
   | (with_reducible refine LeO.bind ?_ (fun _ => ?_))
   | exact ih0 _ _ _
   | exact clusterlocksref05_Line.mono _ _ _ _ _
   | exact clusterlocksref05_Valid.mono _ _
   | exact LeO.none _
   | refine LeO.ite ?_ ?_
   | refine LeO.bind ?_ (fun _ => ?_)
set_option maxHeartbeats 8000000 in
set_option maxRecDepth 100000 in
theorem clusterlocksref05_Format.calls (k : Nat) (A0 : Option Addr) (c0 : Nat) (l0 : List (S26)) (r : ByteArray) (w : World) (hr0 : Kd.C k26 w A0 l0.length l0) (hc0 : l0.length ≤ c0) (h : clusterlocksref05_Format.f k l0 = some r) :
  Calls Tryd.prog 34 #[.slice A0 l0.length c0] w fun e w' => e = .returned (.string r) ∧ Below w.heap.size w w' := by
 have hu26 := Tryd.underlying26
 have HR0 := Aside0.mk hr0
 have HC0 := Aside0.mk hc0
 clear hr0 hc0
 have HB := Aside0.mk (Below.refl w.heap.size w)
 have H : ((clusterlocksref05_Valid.f k l0).bind fun t142 => (if t142 = true then (clusterlocksref05_Format.l0 k l0 (⟨#[]⟩ : ByteArray) 0) else (some (⟨#[]⟩ : ByteArray)))) = some r := h
 clear h
 obtain ⟨t142, A20, H⟩ := Option.bind_eq_some_iff.mp H
 have A2 := Aside0.mk A20; clear A20
 by_cases c3 : t142 = true
 ·subst c3
  rw [if_pos rfl] at H
  have H' := Aside0.mk H
  clear H
  go_enter Tryd.func34, Tryd.ntmps34
  go_wp2_with (first | ((with_reducible refine gate_callee (f := 21) rfl ?_); refine goesL_ (some 6) rfl rfl Tryd.func21 (by kernel_rfl) rfl #[.slice A0 l0.length c0] rfl (by (try simp only [mA]); first | done | rfl) ?_; (with_reducible refine (clusterlocksref05_Valid.calls k _ _ l0 true _ ?side1 ?side2 A2.out).mono ?_); (case side1 => repeat (first | exact HR0.out | (with_reducible refine Kd.C_alloc ?_ _) | (with_reducible refine Kd.C_drewN ?_ _) | (with_reducible refine Kd.C_drew ?_))); (case side2 => exact HC0.out); rintro e w4 ⟨rfl, hb⟩; refine ⟨_, rfl, ?_⟩; replace HB := bB HB hb; (try clear hb); (try clear hk)))
  go_loopg [3, 4] k (fun kq v3 v4 w' => ∃ (x3_1 : ByteArray) (x4_1 : Int), v3 = .string x3_1 ∧ v4 = .int .i64 x4_1 ∧ Aside0 (clusterlocksref05_Format.l0 kq l0 x3_1 x4_1 = some r) ∧ Aside0 (kq ≤ k) ∧ Aside0 (Below w.heap.size w w'))
  case atStart => exact ⟨((⟨#[]⟩ : ByteArray)), (0), (by first | rfl | (simp; done) | (simp [*]; done)), (by first | rfl | (simp; done) | (simp [*]; done)), H', ⟨Nat.le_refl _⟩, ⟨(uS HB)⟩⟩
  case round =>
   clear H'
   try clear c2
   try clear p2
   try clear c3
   obtain ⟨x3_1, x4_1, rfl, rfl, HA, HK1, HB⟩ := hrel
   cases gk with
   | zero => exact absurd HA.out (by simp [clusterlocksref05_Format.l0])
   | succ k1 =>
    have H := HA.out
    clear HA
    simp only [clusterlocksref05_Format.l0] at H
    by_cases c5 : x4_1 < (l0.length : Int)
    ·rw [if_pos c5] at H
     have c5b0 : decide (x4_1 < (l0.length : Int)) = true := decide_eq_true c5
     clear c5
     by_cases c6 : 0 ≤ x4_1
     ·rw [if_pos c6] at H
      have c6b0 : decide (0 ≤ x4_1) = true := decide_eq_true c6
      clear c6
      obtain ⟨t144, A70, H⟩ := Option.bind_eq_some_iff.mp H
      have A7 := Aside0.mk A70; clear A70
      by_cases c8 : x3_1.size + t144.size ≤ 9223372036854775807
      ·rw [if_pos c8] at H
       have c8b0 := eq_true c8
       have c8b1 : decide (x3_1.size + t144.size ≤ 9223372036854775807) = true := decide_eq_true c8
       try have c8b2 : (9223372036854775807 < x3_1.size + t144.size) = False := eq_false (Nat.not_lt.2 c8)
       have H' := Aside0.mk H
       clear H
       have p143 : 0 ≤ (x4_1 : Int) := of_decide_eq_true (by first | (with_reducible assumption) | assumption)
       have q143 : x4_1 < (l0.length : Int) := of_decide_eq_true (by first | (with_reducible assumption) | assumption)
       obtain ⟨ad143, e143, hx143_0, hx143_1, hx143_2, hx143_3⟩ := at_T26 HR0.out x4_1 p143 q143
       cases e143
       replace hx143_0 := kC HB hx143_0
       replace hx143_1 := kC HB hx143_1
       replace hx143_2 := kC HB hx143_2
       replace hx143_3 := kC HB hx143_3
       replace p143 := eq_true p143
       replace q143 := eq_true q143
       go_wp2_with (first | ((with_reducible refine gate_callee (f := 50) rfl ?_); refine goesL_ (some 19) rfl rfl Tryd.func50 (by kernel_rfl) rfl #[.agg #[.string ((rd_T26 l0 x4_1).f0), .int .i64 ((rd_T26 l0 x4_1).f1), .int .i64 ((rd_T26 l0 x4_1).f2), .int .i64 ((rd_T26 l0 x4_1).f3)]] rfl (by (try simp only [mA]); first | done | rfl) ?_; (with_reducible refine (clusterlocksref05_Line.calls k1 ((rd_T26 l0 x4_1).f0) ((rd_T26 l0 x4_1).f1) ((rd_T26 l0 x4_1).f2) ((rd_T26 l0 x4_1).f3) t144 _ A7.out).mono ?_); rintro e w9 ⟨rfl, hb⟩; refine ⟨_, rfl, ?_⟩; replace HB := bB HB hb; (try clear hb); (try clear hk)))
       go_roundg k1
       case measure => have := HK1.out; omega
       case rel => exact ⟨(x3_1 ++ t144), (wrap64 (x4_1 + 1)), (by first | rfl | (simp; done) | (simp [*]; done)), (by first | rfl | (simp; done) | (simp [*]; done)), H', ⟨by have := HK1.out; omega⟩, ⟨(uS HB)⟩⟩
      ·rw [if_neg c8] at H
       exact absurd H (by simp)
     ·rw [if_neg c6] at H
      exact absurd H (by simp)
    ·rw [if_neg c5] at H
     have c5b0 : decide (x4_1 < (l0.length : Int)) = false := decide_eq_false c5
     clear c5
     obtain rfl := Option.some.inj H
     go_wp2
     go_ret
     exact ⟨by first | rfl | (simp [errW_none, errW_some] <;> rfl) | (simp [*, errW_none, errW_some] <;> rfl), (uS HB)⟩
 ·replace c3 := Bool.eq_false_iff.mpr c3
  subst c3
  rw [if_neg (show ¬ (false = true) by decide)] at H
  obtain rfl := Option.some.inj H
  go_enter Tryd.func34, Tryd.ntmps34
  go_wp2_with (first | ((with_reducible refine gate_callee (f := 21) rfl ?_); refine goesL_ (some 6) rfl rfl Tryd.func21 (by kernel_rfl) rfl #[.slice A0 l0.length c0] rfl (by (try simp only [mA]); first | done | rfl) ?_; (with_reducible refine (clusterlocksref05_Valid.calls k _ _ l0 false _ ?side1 ?side2 A2.out).mono ?_); (case side1 => repeat (first | exact HR0.out | (with_reducible refine Kd.C_alloc ?_ _) | (with_reducible refine Kd.C_drewN ?_ _) | (with_reducible refine Kd.C_drew ?_))); (case side2 => exact HC0.out); rintro e w10 ⟨rfl, hb⟩; refine ⟨_, rfl, ?_⟩; replace HB := bB HB hb; (try clear hb); (try clear hk)))
  go_ret
  exact ⟨by first | rfl | (simp [errW_none, errW_some] <;> rfl) | (simp [*, errW_none, errW_some] <;> rfl), (uS HB)⟩
end Go.Proofs.YtbiapfjhdggkpaaDoor.PA
