-- Printed by wip/tool/myprint.py for this claim; Lean checks it.
import Derived.Test.YtbiapfjhdggkpaaDoorPAx0
import Derived.Test.YtbiapfjhdggkpaaDoorPAx1
import Derived.Test.YtbiapfjhdggkpaaDoorSlim
import Derived.Test.YtbiapfjhdggkpaaDoorPAx12
import Derived.Test.YtbiapfjhdggkpaaDoorPAx5
namespace Go.Proofs.YtbiapfjhdggkpaaDoor.PA
open Go.RowKit Go.Proofs.YtbiapfjhdggkpaaDoorW.PrintWords Go.Proofs.YtbiapfjhdggkpaaDoorW.PrintLast Go.Proofs.YtbiapfjhdggkpaaDoorW.PrintMore
attribute [local go_sem] max2_int min2_int max_two min_two max_three min_three max_four min_four   -- for this text's walks alone
set_option linter.unusedVariables false
set_option linter.unusedSimpArgs false

attribute [local go_sem high] eqA26
/-! ### clusterlocksref02_Split: function 53 -/
def clusterlocksref02_Split.l0 : Nat → ByteArray → Int → List ByteArray → Int → Option (List ByteArray)
 | 0, _, _, _, _ => none
 | k + 1, x0, x1, x5, x6 => if x6 < (x0.size : Int) then (if 0 ≤ x6 then (if (bt x0 x6) = x1 then (if x5.length < 8796093022208 then (clusterlocksref02_Split.l0 k x0 x1 (x5 ++ [(⟨#[]⟩ : ByteArray)]) (wrap64 (x6 + 1))) else (none)) else (if 0 ≤ (wrap64 ((x5.length : Int) - 1)) then (if (wrap64 ((x5.length : Int) - 1)) < (x5.length : Int) then (if x6 ≤ (wrap64 (x6 + 1)) then (if (wrap64 (x6 + 1)) ≤ (x0.size : Int) then (if (rdOf ByteArray.empty x5 (wrap64 ((x5.length : Int) - 1))).size + (x0.extract (x6 : Int).toNat ((wrap64 (x6 + 1)) : Int).toNat).size ≤ 9223372036854775807 then (clusterlocksref02_Split.l0 k x0 x1 (x5.set ((wrap64 ((x5.length : Int) - 1)) : Int).toNat ((rdOf ByteArray.empty x5 (wrap64 ((x5.length : Int) - 1))) ++ (x0.extract (x6 : Int).toNat ((wrap64 (x6 + 1)) : Int).toNat))) (wrap64 (x6 + 1))) else (none)) else (none)) else (none)) else (none)) else (none))) else (none)) else (some x5)
def clusterlocksref02_Split.f (k : Nat) (a0 : ByteArray) (a1 : Int) : Option (List ByteArray) := clusterlocksref02_Split.l0 k a0 a1 (([(⟨#[]⟩ : ByteArray)] : List ByteArray)) 0
theorem clusterlocksref02_Split.mono_l : ∀ k, (∀ y0 y1 y2 y3, LeO (clusterlocksref02_Split.l0 k y0 y1 y2 y3) (clusterlocksref02_Split.l0 (k + 1) y0 y1 y2 y3))
 | 0 => fun _ _ _ _ r h => by simp [clusterlocksref02_Split.l0] at h
 | k + 1 => by
  have ih0 := clusterlocksref02_Split.mono_l k
  ·intro y0 y1 y2 y3
   unfold clusterlocksref02_Split.l0
   repeat' first
   | (with_reducible exact ih0 _ _ _ _)
   | (with_reducible exact LeO.refl _)
   | (with_reducible exact LeO.none _)
   | (with_reducible refine LeO.ite ?_ ?_)
   | (with_reducible refine LeO.bind ?_ (fun _ => ?_))
   | exact ih0 _ _ _ _
   | exact LeO.none _
   | refine LeO.ite ?_ ?_
   | refine LeO.bind ?_ (fun _ => ?_)
theorem clusterlocksref02_Split.mono : ∀ a0 a1 k, LeO (clusterlocksref02_Split.f k a0 a1) (clusterlocksref02_Split.f (k + 1) a0 a1) := by
 intro a0 a1 k
 have ih0 := clusterlocksref02_Split.mono_l k
 unfold clusterlocksref02_Split.f
 repeat' first
   | (with_reducible exact ih0 _ _ _ _)
   | (with_reducible exact LeO.refl _)
   | (with_reducible exact LeO.none _)
   | (with_reducible refine LeO.ite ?_ ?_)
   | (with_reducible refine LeO.bind ?_ (fun _ => ?_))
   | exact ih0 _ _ _ _
   | exact LeO.none _
   | refine LeO.ite ?_ ?_
   | refine LeO.bind ?_ (fun _ => ?_)
def clusterlocksref02_Split.T7 : Bool × List (List Nat × List Nat) := (true, [([], []), ([], []), ([1], [1]), ([2], [2]), ([], []), ([], []), ([5], [5]), ([6], [6]), ([4, 7], [4, 7]), ([8], [8]), ([], []), ([], []), ([], []), ([12], [12]), ([10, 11, 13], [10, 11, 13]), ([9, 14], [9, 14]), ([0, 3, 0, 1, 2, 3, 4, 5, 6, 7, 8, 9, 10, 11, 12, 13, 14, 15], [0, 3]), ([16, 15, 0, 1, 2, 3, 4, 5, 6, 7, 8, 9, 10, 11, 12, 13, 14, 15], [15, 16])])
def clusterlocksref02_Split.B7 : List Nat := [0, 0, 2, 6, 0, 0, 32, 96, 240, 496, 0, 0, 0, 4096, 15360, 32752, 65535, 131071]
theorem clusterlocksref02_Split.tab7 : rtab .any (opsOf Tryd.f53 7) = clusterlocksref02_Split.T7 := by kernel_rfl
theorem clusterlocksref02_Split.bits7 : waitsOk clusterlocksref02_Split.T7.2 clusterlocksref02_Split.B7 = true := by kernel_rfl
set_option maxHeartbeats 8000000 in
set_option maxRecDepth 100000 in
theorem clusterlocksref02_Split.calls (k : Nat) (a0 : ByteArray) (a1 : Int) (r : List ByteArray) (w : World) (h : clusterlocksref02_Split.f k a0 a1 = some r) :
  Calls Tryd.prog 53 #[.string a0, .int .u8 a1] w fun e w' => ∃ v0_ : Value, e = .returned (v0_) ∧ Kd.R Kd.string 9 w' w.heap.size (fun _ => True) v0_ r ∧ Below w.heap.size w w' := by
 have HB := Aside0.mk (Below.refl w.heap.size w)
 have H : (clusterlocksref02_Split.l0 k a0 a1 (([(⟨#[]⟩ : ByteArray)] : List ByteArray)) 0) = some r := h
 clear h
 obtain ⟨y189, hy189⟩ : ∃ y_ : List ByteArray, y_ = (([(⟨#[]⟩ : ByteArray)] : List ByteArray)) := ⟨_, rfl⟩
 replace H : (clusterlocksref02_Split.l0 k a0 a1 y189 0) = some r := by first | (rw [hy189]; with_reducible exact H) | (have H2_ := (Option.bind_some _ _).symm.trans H; rw [hy189]; with_reducible exact H2_) | (have H2_ := (Option.bind_some _ _).symm.trans H; with_reducible exact H2_) | with_reducible exact H | (rw [hy189]; exact H) | exact H
 have Ny189 := Aside0.mk hy189
 clear hy189
 have H' := Aside0.mk H
 clear H
 go_enter Tryd.func53, Tryd.ntmps53
 go_wp2_with (first | ((with_reducible refine gate_dst (N := 7) rfl ?_); refine Kd.R_lit Kd.string _ 9 ?hg (N := 7) ?hd (xs := ([(⟨#[]⟩ : ByteArray)] : List ByteArray)) (inner := [.string (⟨#[]⟩ : ByteArray)]) (ok := fun _ => True) (okp := fun _ => True) ?hr ?hp (fun _ hk => hk) trivial (Below.refl _ _) (Nat.le_refl _) (by simp) ?_; (case hd => rfl); (case hg => rfl); (case hr => first | (go_simp; done) | (go_simp; rfl)); (case hp => exact (Reps.one (show Kd.M Kd.string _ _ _ (⟨#[]⟩ : ByteArray) [.string (⟨#[]⟩ : ByteArray)] from rfl) (Reps.none _ _))); intro v190 w3 ho4 hb hg_ hnew_; clear hg_ hnew_; (first | rw [← Ny189.out] at ho4 | (simp only [Int.reduceToNat] at ho4; rw [← Ny189.out] at ho4)); have HO191 := Aside0.mk (Kd.R_lower ho4 (below_size (uB HB))); replace HB := bB HB hb; clear hb ho4))
 go_loopg [5, 6] k (fun kq v5 v6 w' => ∃ (x5_1 : List ByteArray) (x6_1 : Int), v6 = .int .i64 x6_1 ∧ Aside0 (clusterlocksref02_Split.l0 kq a0 a1 x5_1 x6_1 = some r) ∧ Aside0 (kq ≤ k) ∧ Aside0 (Kd.R Kd.string 9 w' w.heap.size (fun _ => True) v5 x5_1) ∧ Aside0 (Below w.heap.size w w'))
 case atStart => exact ⟨(y189), (0), (by first | rfl | (simp; done) | (simp [*]; done)), H', ⟨Nat.le_refl _⟩, ⟨by (with_reducible repeat (first | apply Kd.R_alloc | apply Kd.R_drewN | apply Kd.R_drew)); exact HO191.out⟩, ⟨(uS HB)⟩⟩
 case round =>
  clear H'
  try clear p2
  obtain ⟨x5_1, x6_1, rfl, HA, HK1, HO_5, HB⟩ := hrel
  cases gk with
  | zero => exact absurd HA.out (by simp [clusterlocksref02_Split.l0])
  | succ k1 =>
   have H := HA.out
   clear HA
   simp only [clusterlocksref02_Split.l0] at H
   by_cases c5 : x6_1 < (a0.size : Int)
   ·rw [if_pos c5] at H
    have c5b0 : decide (x6_1 < (a0.size : Int)) = true := decide_eq_true c5
    clear c5
    by_cases c6 : 0 ≤ x6_1
    ·rw [if_pos c6] at H
     have c6b0 : decide (0 ≤ x6_1) = true := decide_eq_true c6
     clear c6
     by_cases c8 : (bt a0 x6_1) = a1
     ·rw [if_pos c8] at H
      have c8b0 : ((bt a0 x6_1) == a1) = true := beq_iff_eq.mpr c8
      have c8b1 : ((bt a0 x6_1) != a1) = false := bne_eq_false_iff_eq.mpr c8
      clear c8
      by_cases c9 : x5_1.length < 8796093022208
      ·rw [if_pos c9] at H
       have LMc9 := Aside0.mk c9
       clear c9
       obtain ⟨y192, hy192⟩ : ∃ y_ : List ByteArray, y_ = (x5_1 ++ [(⟨#[]⟩ : ByteArray)]) := ⟨_, rfl⟩
       replace H : (clusterlocksref02_Split.l0 k1 a0 a1 y192 (wrap64 (x6_1 + 1))) = some r := by first | (rw [hy192]; with_reducible exact H) | (have H2_ := (Option.bind_some _ _).symm.trans H; rw [hy192]; with_reducible exact H2_) | (have H2_ := (Option.bind_some _ _).symm.trans H; with_reducible exact H2_) | with_reducible exact H | (rw [hy192]; exact H) | exact H
       have Ny192 := Aside0.mk hy192
       clear hy192
       have H' := Aside0.mk H
       clear H
       have p7 : 0 ≤ (x6_1 : Int) := of_decide_eq_true (by first | (with_reducible assumption) | assumption)
       have q7 : x6_1 < (a0.size : Int) := of_decide_eq_true (by first | (with_reducible assumption) | assumption)
       have hx7 := bt_at a0 x6_1
       replace p7 := eq_true p7
       replace q7 := eq_true q7
       go_wp2_with (first | ((with_reducible refine gate_builtin (b := .append) (xs := #[.tmp 19, .tmp 20]) rfl ?_); at_builtin; refine Kd.R_append Kd.string (w0 := w) w.heap.size rfl (.tmp 19) (.tmp 20) 69 9 (.string ⟨#[]⟩) 16 rfl Tryd.underlying69 info9 rfl (by decide) (by omega) u5 x5_1 (⟨#[]⟩ : ByteArray) [.string (⟨#[]⟩ : ByteArray)] (fun _ => True) (fun _ => False) rfl rfl ?aP (fun _ hk => hk.elim) ?aF ?aO ?aB ?aS ?aL ?_; (case aP => exact rfl); (case aB => exact (uB HB)); (case aF => exact (fun _ _ => trivial)); (case aO => exact (by (with_reducible repeat (first | apply Kd.R_alloc | apply Kd.R_drewN | apply Kd.R_drew)); exact HO_5.out)); (case aS => exact (below_size (uB HB))); (case aL => have := LMc9.out; omega); intro v193 w10 ho hb hg hat; rw [← Ny192.out] at ho; replace HB := Aside0.mk (hb); have HO194 := Aside0.mk (ho); clear HO_5; clear ho hb hg hat))
       go_roundg k1
       case measure => have := HK1.out; omega
       case rel => exact ⟨(y192), (wrap64 (x6_1 + 1)), (by first | rfl | (simp; done) | (simp [*]; done)), H', ⟨by have := HK1.out; omega⟩, ⟨by (with_reducible repeat (first | apply Kd.R_alloc | apply Kd.R_drewN | apply Kd.R_drew)); exact HO194.out⟩, ⟨(uS HB)⟩⟩
      ·rw [if_neg c9] at H
       exact absurd H (by simp)
     ·rw [if_neg c8] at H
      have c8b0 : ((bt a0 x6_1) == a1) = false := beq_eq_false_iff_ne.mpr c8
      have c8b1 : ((bt a0 x6_1) != a1) = true := bne_iff_ne.mpr c8
      obtain ⟨ji11, hji11⟩ : ∃ j_ : Int, (wrap64 ((x5_1.length : Int) - 1)) = j_ := ⟨_, rfl⟩
      replace H : (if 0 ≤ (ji11) then (if (ji11) < (x5_1.length : Int) then (if x6_1 ≤ (wrap64 (x6_1 + 1)) then (if (wrap64 (x6_1 + 1)) ≤ (a0.size : Int) then (if (rdOf ByteArray.empty x5_1 (ji11)).size + (a0.extract (x6_1 : Int).toNat ((wrap64 (x6_1 + 1)) : Int).toNat).size ≤ 9223372036854775807 then (clusterlocksref02_Split.l0 k1 a0 a1 (x5_1.set ((ji11) : Int).toNat ((rdOf ByteArray.empty x5_1 (ji11)) ++ (a0.extract (x6_1 : Int).toNat ((wrap64 (x6_1 + 1)) : Int).toNat))) (wrap64 (x6_1 + 1))) else (none)) else (none)) else (none)) else (none)) else (none)) = some r := by first | (rw [hji11] at H; exact H) | (simp only [hji11] at H ⊢; exact H)
      have hji11w : (IntKind.i64.wrap ((x5_1.length : Int) - 1)) = ji11 := (i64_w _).trans hji11
      by_cases c12 : 0 ≤ (ji11)
      ·rw [if_pos c12] at H
       have c12b0 : decide (0 ≤ (ji11)) = true := decide_eq_true c12
       clear c12
       by_cases c13 : (ji11) < (x5_1.length : Int)
       ·rw [if_pos c13] at H
        have c13b0 : decide ((ji11) < (x5_1.length : Int)) = true := decide_eq_true c13
        clear c13
        have c14b0 := eq_true (of_decide_eq_true (by first | (with_reducible assumption) | assumption) : 0 ≤ x6_1)
        by_cases c15 : x6_1 ≤ (wrap64 (x6_1 + 1))
        ·rw [if_pos c15] at H
         have c15b0 := eq_true c15
         have c15b1 : decide (x6_1 ≤ (wrap64 (x6_1 + 1))) = true := decide_eq_true c15
         by_cases c16 : (wrap64 (x6_1 + 1)) ≤ (a0.size : Int)
         ·rw [if_pos c16] at H
          have c16b0 := eq_true c16
          have c16b1 : decide ((wrap64 (x6_1 + 1)) ≤ (a0.size : Int)) = true := decide_eq_true c16
          by_cases c17 : (rdOf ByteArray.empty x5_1 (ji11)).size + (a0.extract (x6_1 : Int).toNat ((wrap64 (x6_1 + 1)) : Int).toNat).size ≤ 9223372036854775807
          ·rw [if_pos c17] at H
           have c17b0 := eq_true c17
           have c17b1 : decide ((rdOf ByteArray.empty x5_1 (ji11)).size + (a0.extract (x6_1 : Int).toNat ((wrap64 (x6_1 + 1)) : Int).toNat).size ≤ 9223372036854775807) = true := decide_eq_true c17
           try have c17b2 : (9223372036854775807 < (rdOf ByteArray.empty x5_1 (ji11)).size + (a0.extract (x6_1 : Int).toNat ((wrap64 (x6_1 + 1)) : Int).toNat).size) = False := eq_false (Nat.not_lt.2 c17)
           have c17b3 : (9223372036854775807 < (rdOf ByteArray.empty x5_1 (ji11)).size + ((wrap64 (x6_1 + 1)).toNat - x6_1.toNat)) = False := by rw [← c17b2, ByteArray.size_extract, Nat.min_eq_left (by have := of_decide_eq_true c16b1; omega)]
           obtain ⟨y196, hy196⟩ : ∃ y_ : List ByteArray, y_ = (x5_1.set ((ji11) : Int).toNat ((rdOf ByteArray.empty x5_1 (ji11)) ++ (a0.extract (x6_1 : Int).toNat ((wrap64 (x6_1 + 1)) : Int).toNat))) := ⟨_, rfl⟩
           replace H : (clusterlocksref02_Split.l0 k1 a0 a1 y196 (wrap64 (x6_1 + 1))) = some r := by first | (rw [hy196]; with_reducible exact H) | (have H2_ := (Option.bind_some _ _).symm.trans H; rw [hy196]; with_reducible exact H2_) | (have H2_ := (Option.bind_some _ _).symm.trans H; with_reducible exact H2_) | with_reducible exact H | (rw [hy196]; exact H) | exact H
           have Ny196 := Aside0.mk hy196
           clear hy196
           have H' := Aside0.mk H
           clear H
           have p7 : 0 ≤ (x6_1 : Int) := of_decide_eq_true (by first | (with_reducible assumption) | assumption)
           have q7 : x6_1 < (a0.size : Int) := of_decide_eq_true (by first | (with_reducible assumption) | assumption)
           have hx7 := bt_at a0 x6_1
           replace p7 := eq_true p7
           replace q7 := eq_true q7
           try go_wp2
           replace HO_5 := Aside0.mk (Kd.R_drew HO_5.out)
           replace HB := Aside0.mk (below_drew1 HB.out)
           obtain ⟨Ao20, co20, eo20⟩ := Kd.R_slice HO_5.out
           (first | subst eo20 | (injection eo20 with f1_ f2_ f3_; have f4_ := f1_.symm; have f5_ := f3_.symm; clear f1_ f2_ f3_; subst f4_; subst f5_))
           have p195 : 0 ≤ ((ji11) : Int) := of_decide_eq_true (by first | (with_reducible assumption) | assumption)
           have q195 : (ji11) < (x5_1.length : Int) := of_decide_eq_true (by first | (with_reducible assumption) | assumption)
           obtain ⟨ad195, e195, hx195_0⟩ := Kd.at_string (Kd.R_reads' HO_5.out).2.2 (ji11) p195 q195
           cases e195
           replace p195 := eq_true p195
           replace q195 := eq_true q195
           have p18 : 0 ≤ ((ji11) : Int) := of_decide_eq_true (by first | (with_reducible assumption) | assumption)
           have q18 : ((ji11) : Int) < ((x5_1.length : Int) : Int) := of_decide_eq_true (by first | (with_reducible assumption) | assumption)
           obtain ⟨go18, co18, eo18, gb18, gl18, cl18, HG18⟩ := Kd.R_form HO_5.out (by omega)
           (first | cases eo18 | (injection eo18 with ea_ en_ ec_; (first | subst ea_ | (injection ea_ with ea_; subst ea_)); subst ec_; clear en_))
           have GB18 := Aside0.mk gb18
           have GG18 := Aside0.mk HG18
           clear gb18 gl18 HG18
           (first | simp only [add_plain] at hx195_0 | skip)
           obtain ⟨hx18_0, hf18_0⟩ := Kd.R_celln (⟨#[]⟩ : ByteArray) HO_5.out ((ji11) : Int) p18 q18
           replace p18 := eq_true p18
           replace q18 := eq_true q18
           have HP21 := Kd.R_putn HO_5.out ((ji11) : Int) ((rdOf ByteArray.empty x5_1 (ji11)) ++ (a0.extract (x6_1 : Int).toNat ((wrap64 (x6_1 + 1)) : Int).toNat))
           rw [← Ny196.out] at HP21
           have HQ21 := Aside0.mk HP21
           clear HP21
           refine start_ (n := 18) (S := fun w' => w'.cell? ⟨go18, ((ji11)).toNat, none⟩ = some (.string (rdOf ByteArray.empty x5_1 (ji11)))) (ds := [17]) #[F,F,F,F,F,F,F,F,F,F,F,F,F,F,F,F,F,F] (by kernel_rfl) rfl rfl (hx195_0) (fun hHeld => ?_); refine with_tabW clusterlocksref02_Split.tab7 clusterlocksref02_Split.bits7 (fun HT_ HW_ => ?_)
           generalize wr.drew = w19 at HO_5 HB GG18 HQ21 hf18_0 hx18_0 hx195_0 hHeld ⊢
           refine pu HT_ 0 22 #[T,F,F,F,F,F,F,F,F,F,F,F,F,F,F,F,F,F] rfl rfl (by kernel_rfl) (fun _ _ _ => id) (.inl ⟨by rfl, by intro w'; go_simp; with_reducible rfl⟩) (by simp only [sP]; rfl) ?_
           refine pu HT_ 1 23 #[T,T,F,F,F,F,F,F,F,F,F,F,F,F,F,F,F,F] rfl rfl (by kernel_rfl) (fun _ _ _ => id) (.inl ⟨by rfl, by intro w'; go_simp; with_reducible rfl⟩) (by simp only [sP]; rfl) ?_
           refine pu HT_ 2 24 #[T,T,T,F,F,F,F,F,F,F,F,F,F,F,F,F,F,F] rfl rfl (by kernel_rfl) (fun _ _ _ => id) (.inl ⟨by rfl, by intro w'; go_simp; with_reducible rfl⟩) (by simp only [sP]; rfl) ?_
           refine pu HT_ 3 25 #[T,T,T,T,F,F,F,F,F,F,F,F,F,F,F,F,F,F] rfl rfl (by kernel_rfl) (fun _ _ _ => id) (.inl ⟨by rfl, by intro w'; go_simp; with_reducible rfl⟩) (by simp only [sP]; rfl) ?_
           refine pu HT_ 4 26 #[T,T,T,T,T,F,F,F,F,F,F,F,F,F,F,F,F,F] rfl rfl (by kernel_rfl) (fun _ _ _ => id) (.inl ⟨by rfl, by intro w'; go_simp; with_reducible rfl⟩) (by simp only [sP]; rfl) ?_
           refine pu HT_ 5 27 #[T,T,T,T,T,T,F,F,F,F,F,F,F,F,F,F,F,F] rfl rfl (by kernel_rfl) (fun _ _ _ => id) (.inl ⟨by rfl, by intro w'; go_simp; with_reducible rfl⟩) (by simp only [sP]; rfl) ?_
           refine pu HT_ 6 28 #[T,T,T,T,T,T,T,F,F,F,F,F,F,F,F,F,F,F] rfl rfl (by kernel_rfl) (fun _ _ _ => id) (.inl ⟨by rfl, by intro w'; go_simp; with_reducible rfl⟩) (by simp only [sP]; rfl) ?_
           refine pu HT_ 7 29 #[T,T,T,T,T,T,T,T,F,F,F,F,F,F,F,F,F,F] rfl rfl (by kernel_rfl) (fun _ _ _ => id) (.inl ⟨by rfl, by intro w'; go_simp; with_reducible rfl⟩) (by simp only [sP]; rfl) ?_
           refine pu HT_ 8 30 #[T,T,T,T,T,T,T,T,T,F,F,F,F,F,F,F,F,F] rfl rfl (by kernel_rfl) (fun _ _ _ => id) (.inl ⟨by rfl, by intro w'; go_simp; with_reducible rfl⟩) (by simp only [sP]; rfl) ?_
           refine pu HT_ 10 32 #[T,T,T,T,T,T,T,T,T,F,T,F,F,F,F,F,F,F] rfl rfl (by kernel_rfl) (fun _ _ _ => id) (.inl ⟨by rfl, by intro w'; go_simp; with_reducible rfl⟩) (by simp only [sP]; rfl) ?_
           refine pu HT_ 11 33 #[T,T,T,T,T,T,T,T,T,F,T,T,F,F,F,F,F,F] rfl rfl (by kernel_rfl) (fun _ _ _ => id) (.inl ⟨by rfl, by intro w'; go_simp; with_reducible rfl⟩) (by simp only [sP]; rfl) ?_
           refine pu HT_ 12 34 #[T,T,T,T,T,T,T,T,T,F,T,T,T,F,F,F,F,F] rfl rfl (by kernel_rfl) (fun _ _ _ => id) (.inl ⟨by rfl, by intro w'; go_simp; with_reducible rfl⟩) (by simp only [sP]; rfl) ?_
           refine pu HT_ 13 35 #[T,T,T,T,T,T,T,T,T,F,T,T,T,T,F,F,F,F] rfl rfl (by kernel_rfl) (fun _ _ _ => id) (.inl ⟨by rfl, by intro w'; go_simp; with_reducible rfl⟩) (by simp only [sP]; rfl) ?_
           refine pu HT_ 14 36 #[T,T,T,T,T,T,T,T,T,F,T,T,T,T,T,F,F,F] rfl rfl (by kernel_rfl) (fun _ _ _ => id) (.inl ⟨by rfl, by intro w'; go_simp; with_reducible rfl⟩) (by simp only [sP]; rfl) ?_
           refine tk HT_ HW_ 9 31 #[T,T,T,T,T,T,T,T,T,T,T,T,T,T,T,F,F,F] rfl rfl (by kernel_rfl) (fun _ _ _ => id) (.inl ⟨by rfl, by intro w' s0; go_simp; with_reducible rfl⟩) hHeld (by simp only [sP]; rfl) ?_
           refine pu HT_ 15 37 #[T,T,T,T,T,T,T,T,T,T,T,T,T,T,T,T,F,F] rfl rfl (by kernel_rfl) (fun _ _ _ => id) (.inl ⟨by rfl, by intro w'; go_simp; with_reducible rfl⟩) (by simp only [sP]; rfl) ?_
           refine pu HT_ 16 38 #[T,T,T,T,T,T,T,T,T,T,T,T,T,T,T,T,T,F] rfl rfl (by kernel_rfl) (fun _ _ _ => id) (.inl ⟨by rfl, by intro w'; go_simp; with_reducible rfl⟩) (by simp only [sP]; rfl) ?_
           refine last_ (i := 17) (N := none) #[T,T,T,T,T,T,T,T,T,T,T,T,T,T,T,T,T,T] rfl rfl (one_of HT_.out (by kernel_rfl)) (by decide) (fun K hK => ?_)
           refine skip_ (w1 := ?_) (by rfl) rfl ?_ ?_
           rotate_left
           ·go_simp
            rfl
           refine hK.out _ _ ?_
           clear hK K
           refine done_ (done_of HT_.out (by kernel_rfl)) ?_
           try go_wp2
           go_roundg k1
           case measure => have := HK1.out; omega
           case rel => exact ⟨(y196), (wrap64 (x6_1 + 1)), (by first | rfl | (simp; done) | (simp [*]; done)), H', ⟨by have := HK1.out; omega⟩, ⟨by (with_reducible repeat (first | apply Kd.R_alloc | apply Kd.R_drewN | apply Kd.R_drew)); exact HQ21.out⟩, ⟨(haveI := gI GB18; uS HB)⟩⟩
          ·rw [if_neg c17] at H
           exact absurd H (by simp)
         ·rw [if_neg c16] at H
          exact absurd H (by simp)
        ·rw [if_neg c15] at H
         exact absurd H (by simp)
       ·rw [if_neg c13] at H
        exact absurd H (by simp)
      ·rw [if_neg c12] at H
       exact absurd H (by simp)
    ·rw [if_neg c6] at H
     exact absurd H (by simp)
   ·rw [if_neg c5] at H
    have c5b0 : decide (x6_1 < (a0.size : Int)) = false := decide_eq_false c5
    clear c5
    obtain rfl := Option.some.inj H
    go_wp2
    go_ret
    exact ⟨_, by first | rfl | (simp [errW_none, errW_some] <;> rfl) | (simp [*, errW_none, errW_some] <;> rfl), by (with_reducible repeat (first | apply Kd.R_alloc | apply Kd.R_drewN | apply Kd.R_drew)); exact HO_5.out, (uS HB)⟩
/-! ### clusterlocksref02_Number: function 54 -/
mutual
def clusterlocksref02_Number.j0 : Nat → ByteArray → Bool → Option (Int × Bool)
 | 0, _, _ => none
 | k + 1, x0, x23 => if x23 = true then (some (0, false)) else (clusterlocksref02_Number.l0 k x0 0 0)
def clusterlocksref02_Number.l0 : Nat → ByteArray → Int → Int → Option (Int × Bool)
 | 0, _, _, _ => none
 | k + 1, x0, x4, x5 => if x5 < (x0.size : Int) then (if 0 ≤ x5 then (if (bt x0 x5) < 48 then (some (0, false)) else (if (bt x0 x5) > 57 then (some (0, false)) else (clusterlocksref02_Number.l0 k x0 (wrap64 ((wrap64 (10 * x4)) + (((bt x0 x5) - 48) % 256))) (wrap64 (x5 + 1))))) else (none)) else (some (x4, true))
end
def clusterlocksref02_Number.f (k : Nat) (a0 : ByteArray) : Option (Int × Bool) := if (a0.size : Int) < 1 then (clusterlocksref02_Number.j0 k a0 true) else (if (a0.size : Int) > 4 then (clusterlocksref02_Number.j0 k a0 true) else (if (a0.size : Int) > 1 then (if 0 < (a0.size : Int) then (clusterlocksref02_Number.j0 k a0 ((bt a0 0) == 48)) else (none)) else (clusterlocksref02_Number.j0 k a0 false)))
theorem clusterlocksref02_Number.mono_l : ∀ k, (∀ y0 y1, LeO (clusterlocksref02_Number.j0 k y0 y1) (clusterlocksref02_Number.j0 (k + 1) y0 y1)) ∧ (∀ y0 y1 y2, LeO (clusterlocksref02_Number.l0 k y0 y1 y2) (clusterlocksref02_Number.l0 (k + 1) y0 y1 y2))
 | 0 => ⟨fun _ _ r h => by simp [clusterlocksref02_Number.j0] at h, fun _ _ _ r h => by simp [clusterlocksref02_Number.l0] at h⟩
 | k + 1 => by
  obtain ⟨ih0, ih1⟩ := clusterlocksref02_Number.mono_l k
  refine ⟨?_, ?_⟩
  ·intro y0 y1
   unfold clusterlocksref02_Number.j0
   repeat' first
   | (with_reducible exact ih0 _ _)
   | (with_reducible exact ih1 _ _ _)
   | (with_reducible exact LeO.refl _)
   | (with_reducible exact LeO.none _)
   | (with_reducible refine LeO.ite ?_ ?_)
   | (with_reducible refine LeO.bind ?_ (fun _ => ?_))
   | exact ih0 _ _
   | exact ih1 _ _ _
   | exact LeO.none _
   | refine LeO.ite ?_ ?_
   | refine LeO.bind ?_ (fun _ => ?_)
  ·intro y0 y1 y2
   unfold clusterlocksref02_Number.l0
   repeat' first
   | (with_reducible exact ih0 _ _)
   | (with_reducible exact ih1 _ _ _)
   | (with_reducible exact LeO.refl _)
   | (with_reducible exact LeO.none _)
   | (with_reducible refine LeO.ite ?_ ?_)
   | (with_reducible refine LeO.bind ?_ (fun _ => ?_))
   | exact ih0 _ _
   | exact ih1 _ _ _
   | exact LeO.none _
   | refine LeO.ite ?_ ?_
   | refine LeO.bind ?_ (fun _ => ?_)
theorem clusterlocksref02_Number.mono : ∀ a0 k, LeO (clusterlocksref02_Number.f k a0) (clusterlocksref02_Number.f (k + 1) a0) := by
 intro a0 k
 obtain ⟨ih0, ih1⟩ := clusterlocksref02_Number.mono_l k
 unfold clusterlocksref02_Number.f
 repeat' first
   | (with_reducible exact ih0 _ _)
   | (with_reducible exact ih1 _ _ _)
   | (with_reducible exact LeO.refl _)
   | (with_reducible exact LeO.none _)
   | (with_reducible refine LeO.ite ?_ ?_)
   | (with_reducible refine LeO.bind ?_ (fun _ => ?_))
   | exact ih0 _ _
   | exact ih1 _ _ _
   | exact LeO.none _
   | refine LeO.ite ?_ ?_
   | refine LeO.bind ?_ (fun _ => ?_)
set_option maxHeartbeats 8000000 in
set_option maxRecDepth 100000 in
theorem clusterlocksref02_Number.calls (k : Nat) (a0 : ByteArray) (r1 : Int) (r2 : Bool) (w : World) (h : clusterlocksref02_Number.f k a0 = some (r1, r2)) :
  Calls Tryd.prog 54 #[.string a0] w fun e w' => e = .returned (.tuple #[.int .i64 r1, .bool r2]) ∧ Drawn0 w w' := by
 have H : (if (a0.size : Int) < 1 then (clusterlocksref02_Number.j0 k a0 true) else (if (a0.size : Int) > 4 then (clusterlocksref02_Number.j0 k a0 true) else (if (a0.size : Int) > 1 then (if 0 < (a0.size : Int) then (clusterlocksref02_Number.j0 k a0 ((bt a0 0) == 48)) else (none)) else (clusterlocksref02_Number.j0 k a0 false)))) = some (r1, r2) := h
 clear h
 have HC2 := Aside0.mk H
 clear H
 go_enter Tryd.func54, Tryd.ntmps54
 go_upto_region 1 with (fail)
 go_cut [23] (fun v23 wc => ∃ (kq : Nat) (x23_1 : Bool), v23 = .bool x23_1 ∧ Aside0 (clusterlocksref02_Number.j0 kq a0 x23_1 = some (r1, r2)) ∧ Aside0 (kq ≤ k) ∧ Drawn0 w wc)
 case first =>
  have H := HC2.out
  clear HC2
  by_cases c3 : (a0.size : Int) < 1
  ·rw [if_pos c3] at H
   have c3b0 : decide ((a0.size : Int) < 1) = true := decide_eq_true c3
   have c3b1 : decide (a0.size < 1) = true := decide_eq_true (by omega)
   clear c3
   (first | rw [c3b0] | (simp only [i64_w, i32_w]; rw [c3b0]) | skip)
   have H' := Aside0.mk H
   clear H
   go_wp2
   go_meet
   case rel => exact ⟨_, (true), (by first | rfl | (simp; done) | (simp [*]; done)), H', ⟨by first | omega | exact Nat.le_refl _⟩, by repeat (first | exact Drawn0.refl _ | apply Drawn0.step)⟩
  ·rw [if_neg c3] at H
   have c3b0 : decide ((a0.size : Int) < 1) = false := decide_eq_false c3
   have c3b1 : decide (a0.size < 1) = false := decide_eq_false (by omega)
   clear c3
   (first | rw [c3b0] | (simp only [i64_w, i32_w]; rw [c3b0]) | skip)
   by_cases c4 : (a0.size : Int) > 4
   ·rw [if_pos c4] at H
    have c4b0 : decide (4 < (a0.size : Int)) = true := decide_eq_true c4
    have c4b1 : decide (4 < a0.size) = true := decide_eq_true (by omega)
    clear c4
    have H' := Aside0.mk H
    clear H
    go_wp2
    go_meet
    case rel => exact ⟨_, (true), (by first | rfl | (simp; done) | (simp [*]; done)), H', ⟨by first | omega | exact Nat.le_refl _⟩, by repeat (first | exact Drawn0.refl _ | apply Drawn0.step)⟩
   ·rw [if_neg c4] at H
    have c4b0 : decide (4 < (a0.size : Int)) = false := decide_eq_false c4
    have c4b1 : decide (4 < a0.size) = false := decide_eq_false (by omega)
    clear c4
    by_cases c5 : (a0.size : Int) > 1
    ·rw [if_pos c5] at H
     have c5b0 : decide (1 < (a0.size : Int)) = true := decide_eq_true c5
     have c5b1 : decide (1 < a0.size) = true := decide_eq_true (by omega)
     clear c5
     have HH_ := Aside0.mk H
     clear H
     have p7 : 0 ≤ (0 : Int) := (by omega)
     have H := HH_.out
     clear HH_
     by_cases c6 : 0 < (a0.size : Int)
     ·rw [if_pos c6] at H
      have c6b0 : decide (0 < (a0.size : Int)) = true := decide_eq_true c6
      have c6b1 : decide (0 < a0.size) = true := decide_eq_true (by omega)
      clear c6
      have H' := Aside0.mk H
      clear H
      (try simp only [c6b0, c6b1])
      have q7 : 0 < a0.size := (by have : (0 : Int) < (a0.size : Int) := of_decide_eq_true (by first | (with_reducible assumption) | assumption); omega)
      have hx7 : ∀ h : 0 < a0.size, ((a0[0]'h).toNat : Int) = bt a0 0 := bt_at a0 0
      clear p7
      have qi7 : (0 < (a0.size : Int)) = True := eq_true (of_decide_eq_true (by first | (with_reducible assumption) | assumption))
      replace q7 := eq_true q7
      go_wp2
      go_meet
      case rel => exact ⟨_, (((bt a0 0) == 48)), (by first | rfl | (simp; done) | (simp [*]; done)), H', ⟨by first | omega | exact Nat.le_refl _⟩, by repeat (first | exact Drawn0.refl _ | apply Drawn0.step)⟩
     ·rw [if_neg c6] at H
      exact absurd H (by simp)
    ·rw [if_neg c5] at H
     have c5b0 : decide (1 < (a0.size : Int)) = false := decide_eq_false c5
     have c5b1 : decide (1 < a0.size) = false := decide_eq_false (by omega)
     clear c5
     have H' := Aside0.mk H
     clear H
     go_wp2
     go_meet
     case rel => exact ⟨_, (false), (by first | rfl | (simp; done) | (simp [*]; done)), H', ⟨by first | omega | exact Nat.le_refl _⟩, by repeat (first | exact Drawn0.refl _ | apply Drawn0.step)⟩
 case rest =>
  clear HC2
  try clear p2
  try clear c3
  try clear c3b0
  try clear c3b1
  try clear c4
  try clear c4b0
  try clear c4b1
  try clear c5
  try clear c5b0
  try clear c5b1
  try clear c6
  try clear c6b0
  try clear c6b1
  try clear p7
  try clear q7
  try clear hx7
  try clear qi7
  try clear p7
  try clear q7
  obtain ⟨kq, x23_1, rfl, HA, HJ1, ⟨mc1, rfl⟩⟩ := hcut
  cases kq with
  | zero => exact absurd HA.out (by simp [clusterlocksref02_Number.j0])
  | succ kj1 =>
   have H := HA.out
   clear HA
   simp only [clusterlocksref02_Number.j0] at H
   by_cases c8 : x23_1 = true
   ·subst c8
    have H1 : (some (0, false)) = some (r1, r2) := by rw [if_pos rfl] at H; exact H
    clear H
    have H := H1
    clear H1
    simp only [Option.some.injEq, Prod.mk.injEq] at H
    obtain ⟨rfl, rfl⟩ := H
    go_wp2
    go_ret2
    exact ⟨by first | rfl | (simp; done) | (simp [*]; done), by repeat (first | exact Drawn0.refl _ | apply Drawn0.step)⟩
   ·replace c8 := Bool.eq_false_iff.mpr c8
    subst c8
    have H1 : (clusterlocksref02_Number.l0 kj1 a0 0 0) = some (r1, r2) := by rw [if_neg (show ¬ (false = true) by decide)] at H; exact H
    clear H
    have H := H1
    clear H1
    have H' := Aside0.mk H
    clear H
    go_wp2
    go_loopg [4, 5] kj1 (fun kq v4 v5 w' => ∃ (x4_2 : Int) (x5_2 : Int), v4 = .int .i64 x4_2 ∧ v5 = .int .i64 x5_2 ∧ Aside0 (clusterlocksref02_Number.l0 kq a0 x4_2 x5_2 = some (r1, r2)) ∧ Aside0 (kq ≤ kj1) ∧ Drawn0 w w')
    case atStart => exact ⟨(0), (0), (by first | rfl | (simp; done) | (simp [*]; done)), (by first | rfl | (simp; done) | (simp [*]; done)), H', ⟨Nat.le_refl _⟩, by repeat (first | exact Drawn0.refl _ | apply Drawn0.step)⟩
    case round =>
     clear H'
     try clear c1
     try clear p2
     try clear c3
     try clear c3b0
     try clear c3b1
     try clear c4
     try clear c4b0
     try clear c4b1
     try clear c5
     try clear c5b0
     try clear c5b1
     try clear c6
     try clear c6b0
     try clear c6b1
     try clear p7
     try clear q7
     try clear hx7
     try clear qi7
     try clear c8
     try clear p2
     try clear p7
     try clear q7
     obtain ⟨x4_2, x5_2, rfl, rfl, HA, HK2, ⟨m2, rfl⟩⟩ := hrel
     cases gk with
     | zero => exact absurd HA.out (by simp [clusterlocksref02_Number.l0])
     | succ k2 =>
      have H := HA.out
      clear HA
      simp only [clusterlocksref02_Number.l0] at H
      by_cases c9 : x5_2 < (a0.size : Int)
      ·rw [if_pos c9] at H
       have c9b0 : decide (x5_2 < (a0.size : Int)) = true := decide_eq_true c9
       clear c9
       by_cases c10 : 0 ≤ x5_2
       ·rw [if_pos c10] at H
        have c10b0 : decide (0 ≤ x5_2) = true := decide_eq_true c10
        clear c10
        have HH_ := Aside0.mk H
        clear H
        have p11 : 0 ≤ (x5_2 : Int) := of_decide_eq_true (by first | (with_reducible assumption) | assumption)
        have q11 : x5_2 < (a0.size : Int) := of_decide_eq_true (by first | (with_reducible assumption) | assumption)
        have hx11 := bt_at a0 x5_2
        replace p11 := eq_true p11
        replace q11 := eq_true q11
        have H := HH_.out
        clear HH_
        by_cases c12 : (bt a0 x5_2) < 48
        ·rw [if_pos c12] at H
         have c12b0 : decide ((bt a0 x5_2) < 48) = true := decide_eq_true c12
         clear c12
         simp only [Option.some.injEq, Prod.mk.injEq] at H
         obtain ⟨rfl, rfl⟩ := H
         (try simp only [c12b0])
         go_wp2
         go_ret2
         exact ⟨by first | rfl | (simp; done) | (simp [*]; done), by repeat (first | exact Drawn0.refl _ | apply Drawn0.step)⟩
        ·rw [if_neg c12] at H
         have c12b0 : decide ((bt a0 x5_2) < 48) = false := decide_eq_false c12
         clear c12
         (try simp only [c12b0])
         have HH_ := Aside0.mk H
         clear H
         have p13 : 0 ≤ (x5_2 : Int) := of_decide_eq_true (by first | (with_reducible assumption) | assumption)
         have q13 : x5_2 < (a0.size : Int) := of_decide_eq_true (by first | (with_reducible assumption) | assumption)
         have hx13 := bt_at a0 x5_2
         replace p13 := eq_true p13
         replace q13 := eq_true q13
         have H := HH_.out
         clear HH_
         by_cases c14 : (bt a0 x5_2) > 57
         ·rw [if_pos c14] at H
          have c14b0 : decide (57 < (bt a0 x5_2)) = true := decide_eq_true c14
          clear c14
          simp only [Option.some.injEq, Prod.mk.injEq] at H
          obtain ⟨rfl, rfl⟩ := H
          (try simp only [c14b0])
          go_wp2
          go_ret2
          exact ⟨by first | rfl | (simp; done) | (simp [*]; done), by repeat (first | exact Drawn0.refl _ | apply Drawn0.step)⟩
         ·rw [if_neg c14] at H
          have c14b0 : decide (57 < (bt a0 x5_2)) = false := decide_eq_false c14
          clear c14
          have H' := Aside0.mk H
          clear H
          (try simp only [c14b0])
          have p15 : 0 ≤ (x5_2 : Int) := of_decide_eq_true (by first | (with_reducible assumption) | assumption)
          have q15 : x5_2 < (a0.size : Int) := of_decide_eq_true (by first | (with_reducible assumption) | assumption)
          have hx15 := bt_at a0 x5_2
          replace p15 := eq_true p15
          replace q15 := eq_true q15
          go_wp2
          go_roundg k2
          case measure => have := HJ1.out; have := HK2.out; omega
          case rel => exact ⟨(wrap64 ((wrap64 (10 * x4_2)) + (((bt a0 x5_2) - 48) % 256))), (wrap64 (x5_2 + 1)), (by first | rfl | (simp; done) | (simp [*]; done)), (by first | rfl | (simp; done) | (simp [*]; done)), H', ⟨by have := HJ1.out; have := HK2.out; omega⟩, by repeat (first | exact Drawn0.refl _ | apply Drawn0.step)⟩
       ·rw [if_neg c10] at H
        exact absurd H (by simp)
      ·rw [if_neg c9] at H
       have c9b0 : decide (x5_2 < (a0.size : Int)) = false := decide_eq_false c9
       clear c9
       simp only [Option.some.injEq, Prod.mk.injEq] at H
       obtain ⟨rfl, rfl⟩ := H
       go_wp2
       go_ret2
       exact ⟨by first | rfl | (simp; done) | (simp [*]; done), by repeat (first | exact Drawn0.refl _ | apply Drawn0.step)⟩
end Go.Proofs.YtbiapfjhdggkpaaDoor.PA
namespace Go.Proofs.YtbiapfjhdggkpaaDoor.PA
open Go.RowKit Go.Proofs.YtbiapfjhdggkpaaDoorW.PrintWords Go.Proofs.YtbiapfjhdggkpaaDoorW.PrintLast Go.Proofs.YtbiapfjhdggkpaaDoorW.PrintMore
attribute [local go_sem] max2_int min2_int max_two min_two max_three min_three max_four min_four   -- for this text's walks alone
set_option linter.unusedVariables false
set_option linter.unusedSimpArgs false

attribute [local go_sem high] eqA26
/-! ### clusterlocksref05_Parse: function 36 -/
mutual
def clusterlocksref05_Parse.l0 : Nat → ByteArray → List (S26) → List ByteArray → Int → Option ((List (S26)) × Int)
 | 0, _, _, _, _ => none
 | k + 1, x0, x4, x5, x6 => if (wrap64 (x6 + 1)) < (x5.length : Int) then (if 0 ≤ x6 then (if x6 < (x5.length : Int) then ((clusterlocksref02_Split.f k (rdOf ByteArray.empty x5 x6) 32).bind fun t201 => (if (t201.length : Int) = 5 then (if 0 < (t201.length : Int) then (clusterlocksref05_Parse.j1 k x0 x4 x5 x6 t201 ((rdOf ByteArray.empty t201 0).toList == ([112, 111, 111, 108] : List UInt8)) (⟨#[]⟩ : ByteArray) 1 1 0) else (none)) else (clusterlocksref05_Parse.j1 k x0 x4 x5 x6 t201 false (⟨#[]⟩ : ByteArray) 1 1 0))) else (none)) else (none)) else ((clusterlocksref05_Valid.f k x4).bind fun t225 => (if t225 = true then ((clusterlocksref05_Format.f k x4).bind fun t226 => (if t226.toList = x0.toList then (some (x4, 0)) else (some (([] : List (S26)), 6)))) else (some (([] : List (S26)), 6))))
def clusterlocksref05_Parse.j1 : Nat → ByteArray → List (S26) → List ByteArray → Int → List ByteArray → Bool → ByteArray → Int → Int → Int → Option ((List (S26)) × Int)
 | 0, _, _, _, _, _, _, _, _, _, _ => none
 | k + 1, x0, x4, x5, x6, x7, x39, x205000, x205001, x205002, x205003 => if x39 = true then (if 2 < (x7.length : Int) then ((clusterlocksref02_Number.f k (rdOf ByteArray.empty x7 2)).bind fun bt207 => (if bt207.2 = true then (if 0 < (x7.length : Int) then (if 1 < (x7.length : Int) then (if 3 < (x7.length : Int) then (if 4 < (x7.length : Int) then (clusterlocksref05_Parse.j2 k x0 x4 x5 x6 (([rdOf ByteArray.empty x7 0, rdOf ByteArray.empty x7 1, rdOf ByteArray.empty x7 3, rdOf ByteArray.empty x7 4] : List ByteArray)) x205000 2 bt207.1 x205003) else (none)) else (none)) else (none)) else (none)) else (some (([] : List (S26)), 6)))) else (none)) else (if (x7.length : Int) = 4 then (if 0 < (x7.length : Int) then (if (rdOf ByteArray.empty x7 0).toList = ([108, 111, 99, 107] : List UInt8) then (clusterlocksref05_Parse.j2 k x0 x4 x5 x6 x7 x205000 x205001 x205002 x205003) else (some (([] : List (S26)), 6))) else (none)) else (some (([] : List (S26)), 6)))
def clusterlocksref05_Parse.j2 : Nat → ByteArray → List (S26) → List ByteArray → Int → List ByteArray → ByteArray → Int → Int → Int → Option ((List (S26)) × Int)
 | 0, _, _, _, _, _, _, _, _, _ => none
 | k + 1, x0, x4, x5, x6, x7, x205000, x205001, x205002, x205003 => if 3 < (x7.length : Int) then ((clusterlocksref02_Number.f k (rdOf ByteArray.empty x7 3)).bind fun bt218 => (if bt218.2 = true then (if 2 < (x7.length : Int) then (if (rdOf ByteArray.empty x7 2).toList = ([97, 116] : List UInt8) then (if 1 < (x7.length : Int) then (if x4.length < 3518437208883 then (clusterlocksref05_Parse.l0 k x0 (x4 ++ [(⟨rdOf ByteArray.empty x7 1, x205001, x205002, bt218.1⟩ : S26)]) x5 (wrap64 (x6 + 1))) else (none)) else (none)) else (some (([] : List (S26)), 6))) else (none)) else (some (([] : List (S26)), 6)))) else (none)
end
def clusterlocksref05_Parse.f (k : Nat) (a0 : ByteArray) : Option ((List (S26)) × Int) := if (a0.size : Int) > 1024 then (some (([] : List (S26)), 3)) else ((clusterlocksref02_Split.f k a0 10).bind fun t197 => (clusterlocksref05_Parse.l0 k a0 ([] : List (S26)) t197 0))
theorem clusterlocksref05_Parse.mono_l : ∀ k, (∀ y0 y1 y2 y3, LeO (clusterlocksref05_Parse.l0 k y0 y1 y2 y3) (clusterlocksref05_Parse.l0 (k + 1) y0 y1 y2 y3)) ∧ (∀ y0 y1 y2 y3 y4 y5 y6 y7 y8 y9, LeO (clusterlocksref05_Parse.j1 k y0 y1 y2 y3 y4 y5 y6 y7 y8 y9) (clusterlocksref05_Parse.j1 (k + 1) y0 y1 y2 y3 y4 y5 y6 y7 y8 y9)) ∧ (∀ y0 y1 y2 y3 y4 y5 y6 y7 y8, LeO (clusterlocksref05_Parse.j2 k y0 y1 y2 y3 y4 y5 y6 y7 y8) (clusterlocksref05_Parse.j2 (k + 1) y0 y1 y2 y3 y4 y5 y6 y7 y8))
 | 0 => ⟨fun _ _ _ _ r h => by simp [clusterlocksref05_Parse.l0] at h, fun _ _ _ _ _ _ _ _ _ _ r h => by simp [clusterlocksref05_Parse.j1] at h, fun _ _ _ _ _ _ _ _ _ r h => by simp [clusterlocksref05_Parse.j2] at h⟩
 | k + 1 => by
  obtain ⟨ih0, ih1, ih2⟩ := clusterlocksref05_Parse.mono_l k
  refine ⟨?_, ?_, ?_⟩
  ·intro y0 y1 y2 y3
   unfold clusterlocksref05_Parse.l0
   repeat' first
   | (with_reducible exact ih0 _ _ _ _)
   | (with_reducible exact ih1 _ _ _ _ _ _ _ _ _ _)
   | (with_reducible exact ih2 _ _ _ _ _ _ _ _ _)
   | (with_reducible exact clusterlocksref02_Number.mono _ _)
   | (with_reducible exact clusterlocksref02_Split.mono _ _ _)
   | (with_reducible exact clusterlocksref05_Format.mono _ _)
   | (with_reducible exact clusterlocksref05_Valid.mono _ _)
   | (with_reducible exact LeO.refl _)
   | (with_reducible exact LeO.none _)
   | (with_reducible refine LeO.ite ?_ ?_)
   | (with_reducible refine LeO.bind ?_ (fun _ => ?_))
   | exact ih0 _ _ _ _
   | exact ih1 _ _ _ _ _ _ _ _ _ _
   | exact ih2 _ _ _ _ _ _ _ _ _
   | exact clusterlocksref02_Number.mono _ _
   | exact clusterlocksref02_Split.mono _ _ _
   | exact clusterlocksref05_Format.mono _ _
   | exact clusterlocksref05_Valid.mono _ _
   | exact LeO.none _
   | refine LeO.ite ?_ ?_
   | refine LeO.bind ?_ (fun _ => ?_)
  ·intro y0 y1 y2 y3 y4 y5 y6 y7 y8 y9
   unfold clusterlocksref05_Parse.j1
   repeat' first
   | (with_reducible exact ih0 _ _ _ _)
   | (with_reducible exact ih1 _ _ _ _ _ _ _ _ _ _)
   | (with_reducible exact ih2 _ _ _ _ _ _ _ _ _)
   | (with_reducible exact clusterlocksref02_Number.mono _ _)
   | (with_reducible exact clusterlocksref02_Split.mono _ _ _)
   | (with_reducible exact clusterlocksref05_Format.mono _ _)
   | (with_reducible exact clusterlocksref05_Valid.mono _ _)
   | (with_reducible exact LeO.refl _)
   | (with_reducible exact LeO.none _)
   | (with_reducible refine LeO.ite ?_ ?_)
   | (with_reducible refine LeO.bind ?_ (fun _ => ?_))
   | exact ih0 _ _ _ _
   | exact ih1 _ _ _ _ _ _ _ _ _ _
   | exact ih2 _ _ _ _ _ _ _ _ _
   | exact clusterlocksref02_Number.mono _ _
   | exact clusterlocksref02_Split.mono _ _ _
   | exact clusterlocksref05_Format.mono _ _
   | exact clusterlocksref05_Valid.mono _ _
   | exact LeO.none _
   | refine LeO.ite ?_ ?_
   | refine LeO.bind ?_ (fun _ => ?_)
  ·intro y0 y1 y2 y3 y4 y5 y6 y7 y8
   unfold clusterlocksref05_Parse.j2
   repeat' first
   | (with_reducible exact ih0 _ _ _ _)
   | (with_reducible exact ih1 _ _ _ _ _ _ _ _ _ _)
   | (with_reducible exact ih2 _ _ _ _ _ _ _ _ _)
   | (with_reducible exact clusterlocksref02_Number.mono _ _)
   | (with_reducible exact clusterlocksref02_Split.mono _ _ _)
   | (with_reducible exact clusterlocksref05_Format.mono _ _)
   | (with_reducible exact clusterlocksref05_Valid.mono _ _)
   | (with_reducible exact LeO.refl _)
   | (with_reducible exact LeO.none _)
   | (with_reducible refine LeO.ite ?_ ?_)
   | (with_reducible refine LeO.bind ?_ (fun _ => ?_))
   | exact ih0 _ _ _ _
   | exact ih1 _ _ _ _ _ _ _ _ _ _
   | exact ih2 _ _ _ _ _ _ _ _ _
   | exact clusterlocksref02_Number.mono _ _
   | exact clusterlocksref02_Split.mono _ _ _
   | exact clusterlocksref05_Format.mono _ _
   | exact clusterlocksref05_Valid.mono _ _
   | exact LeO.none _
   | refine LeO.ite ?_ ?_
   | refine LeO.bind ?_ (fun _ => ?_)
theorem clusterlocksref05_Parse.mono : ∀ a0 k, LeO (clusterlocksref05_Parse.f k a0) (clusterlocksref05_Parse.f (k + 1) a0) := by
 intro a0 k
 obtain ⟨ih0, ih1, ih2⟩ := clusterlocksref05_Parse.mono_l k
 unfold clusterlocksref05_Parse.f
 repeat' first
   | (with_reducible exact ih0 _ _ _ _)
   | (with_reducible exact ih1 _ _ _ _ _ _ _ _ _ _)
   | (with_reducible exact ih2 _ _ _ _ _ _ _ _ _)
   | (with_reducible exact clusterlocksref02_Number.mono _ _)
   | (with_reducible exact clusterlocksref02_Split.mono _ _ _)
   | (with_reducible exact clusterlocksref05_Format.mono _ _)
   | (with_reducible exact clusterlocksref05_Valid.mono _ _)
   | (with_reducible exact LeO.refl _)
   | (with_reducible exact LeO.none _)
   | (with_reducible refine LeO.ite ?_ ?_)
   | (with_reducible refine LeO.bind ?_ (fun _ => ?_))
   | exact ih0 _ _ _ _
   | exact ih1 _ _ _ _ _ _ _ _ _ _
   | exact ih2 _ _ _ _ _ _ _ _ _
   | exact clusterlocksref02_Number.mono _ _
   | exact clusterlocksref02_Split.mono _ _ _
   | exact clusterlocksref05_Format.mono _ _
   | exact clusterlocksref05_Valid.mono _ _
   | exact LeO.none _
   | refine LeO.ite ?_ ?_
   | refine LeO.bind ?_ (fun _ => ?_)
def clusterlocksref05_Parse.T15 : Bool × List (List Nat × List Nat) := (true, [([], []), ([0], [0]), ([1], [1]), ([], []), ([3], [3]), ([4], [4]), ([], []), ([6], [6]), ([7], [7]), ([], []), ([9], [9]), ([10], [10]), ([2, 5, 8, 11], [2, 5, 8, 11]), ([12, 0, 1, 2, 3, 4, 5, 6, 7, 8, 9, 10, 11, 12], [0, 3, 6, 9, 12])])
def clusterlocksref05_Parse.B15 : List Nat := [0, 1, 3, 0, 8, 24, 0, 64, 192, 0, 512, 1536, 4095, 8191]
theorem clusterlocksref05_Parse.tab15 : rtab .any (opsOf Tryd.f36 15) = clusterlocksref05_Parse.T15 := by kernel_rfl
theorem clusterlocksref05_Parse.bits15 : waitsOk clusterlocksref05_Parse.T15.2 clusterlocksref05_Parse.B15 = true := by kernel_rfl
set_option maxHeartbeats 8000000 in
set_option maxRecDepth 100000 in
theorem clusterlocksref05_Parse.calls (k : Nat) (a0 : ByteArray) (r1 : List (S26)) (r2 : Int) (w : World) (h : clusterlocksref05_Parse.f k a0 = some (r1, r2)) :
  Calls Tryd.prog 36 #[.string a0] w fun e w' => ∃ v0_ : Value, e = .returned (.tuple #[v0_, .int .i64 r2]) ∧ Kd.R k26 26 w' w.heap.size (fun _ => True) v0_ r1 ∧ Below w.heap.size w w' := by
 have hu26 := Tryd.underlying26
 have HB := Aside0.mk (Below.refl w.heap.size w)
 have H : (if (a0.size : Int) > 1024 then (some (([] : List (S26)), 3)) else ((clusterlocksref02_Split.f k a0 10).bind fun t197 => (clusterlocksref05_Parse.l0 k a0 ([] : List (S26)) t197 0))) = some (r1, r2) := h
 clear h
 by_cases c2 : (a0.size : Int) > 1024
 ·rw [if_pos c2] at H
  have c2b0 : decide (1024 < (a0.size : Int)) = true := decide_eq_true c2
  have c2b1 : decide (1024 < a0.size) = true := decide_eq_true (by omega)
  clear c2
  simp only [Option.some.injEq, Prod.mk.injEq] at H
  obtain ⟨rfl, rfl⟩ := H
  go_enter Tryd.func36, Tryd.ntmps36
  go_wp2
  go_ret2
  exact ⟨_, by first | rfl | (simp [errW_none, errW_some] <;> rfl) | (simp [*, errW_none, errW_some] <;> rfl), by first | exact Kd.R_nil _ _ _ _ _ | exact Kd.N_nil _ _ _ _ _ | exact Kd.V_nil _ _ _ _ _ | exact Kd.Q_nil _ _ _ _ _ | exact Kd.S_nil _ _ _ _ _, (uS HB)⟩
 ·rw [if_neg c2] at H
  have c2b0 : decide (1024 < (a0.size : Int)) = false := decide_eq_false c2
  have c2b1 : decide (1024 < a0.size) = false := decide_eq_false (by omega)
  clear c2
  obtain ⟨t197, A30, H⟩ := Option.bind_eq_some_iff.mp H
  have A3 := Aside0.mk A30; clear A30
  have H' := Aside0.mk H
  clear H
  go_enter Tryd.func36, Tryd.ntmps36
  go_wp2_with (first | ((with_reducible refine gate_callee (f := 53) rfl ?_); refine goesL_ (some 17) rfl rfl Tryd.func53 (by kernel_rfl) rfl #[.string a0, .int .u8 10] rfl (by (try simp only [mA]); first | done | rfl) ?_; (with_reducible refine (clusterlocksref02_Split.calls k a0 10 t197 _ A3.out).mono ?_); rintro e w4 ⟨v198, rfl, ho0, hb⟩; refine ⟨_, rfl, ?_⟩; have HO199 := Aside0.mk (Kd.R_lower ho0 (below_size (uB HB))); replace HB := bB HB hb; (try clear hb); (try clear hk); (try clear ho0)))
  go_loopg [4, 6] k (fun kq v4 v6 w' => ∃ (x4_1 : List (S26)) (x6_1 : Int), v6 = .int .i64 x6_1 ∧ Aside0 (clusterlocksref05_Parse.l0 kq a0 x4_1 t197 x6_1 = some (r1, r2)) ∧ Aside0 (kq ≤ k) ∧ Aside0 (Kd.R k26 26 w' w.heap.size (fun _ => True) v4 x4_1) ∧ Aside0 (Kd.R Kd.string 9 w' w.heap.size (fun _ => True) v198 t197) ∧ Aside0 (Below w.heap.size w w'))
  case atStart => exact ⟨(([] : List (S26))), (0), (by first | rfl | (simp; done) | (simp [*]; done)), H', ⟨Nat.le_refl _⟩, ⟨by first | exact Kd.R_nil _ _ _ _ _ | exact Kd.N_nil _ _ _ _ _ | exact Kd.V_nil _ _ _ _ _ | exact Kd.Q_nil _ _ _ _ _ | exact Kd.S_nil _ _ _ _ _⟩, ⟨by (with_reducible repeat (first | apply Kd.R_alloc | apply Kd.R_drewN | apply Kd.R_drew)); exact HO199.out⟩, ⟨(uS HB)⟩⟩
  case round =>
   clear H'
   try clear c2
   try clear c2b0
   try clear c2b1
   try clear p2
   try clear c3
   obtain ⟨x4_1, x6_1, rfl, HA, HK1, HO_4, HO_5, HB⟩ := hrel
   cases gk with
   | zero => exact absurd HA.out (by simp [clusterlocksref05_Parse.l0])
   | succ k1 =>
    have H := HA.out
    clear HA
    simp only [clusterlocksref05_Parse.l0] at H
    by_cases c5 : (wrap64 (x6_1 + 1)) < (t197.length : Int)
    ·rw [if_pos c5] at H
     have c5b0 : decide ((wrap64 (x6_1 + 1)) < (t197.length : Int)) = true := decide_eq_true c5
     clear c5
     by_cases c6 : 0 ≤ x6_1
     ·rw [if_pos c6] at H
      have c6b0 : decide (0 ≤ x6_1) = true := decide_eq_true c6
      clear c6
      by_cases c7 : x6_1 < (t197.length : Int)
      ·rw [if_pos c7] at H
       have c7b0 : decide (x6_1 < (t197.length : Int)) = true := decide_eq_true c7
       clear c7
       obtain ⟨t201, A80, H⟩ := Option.bind_eq_some_iff.mp H
       have A8 := Aside0.mk A80; clear A80
       have HC9 := Aside0.mk H
       clear H
       obtain ⟨Ao10, co10, eo10⟩ := Kd.R_slice HO_5.out
       subst eo10
       have p200 : 0 ≤ (x6_1 : Int) := of_decide_eq_true (by first | (with_reducible assumption) | assumption)
       have q200 : x6_1 < (t197.length : Int) := of_decide_eq_true (by first | (with_reducible assumption) | assumption)
       obtain ⟨ad200, e200, hx200_0⟩ := Kd.at_string (Kd.R_reads' HO_5.out).2.2 x6_1 p200 q200
       cases e200
       replace p200 := eq_true p200
       replace q200 := eq_true q200
       go_upto_region 10 with (first | ((with_reducible refine gate_callee (f := 53) rfl ?_); refine goesL_ (some 29) rfl rfl Tryd.func53 (by kernel_rfl) rfl #[.string (rdOf ByteArray.empty t197 x6_1), .int .u8 32] rfl (by (try simp only [mA]); first | done | rfl) ?_; (with_reducible refine (clusterlocksref02_Split.calls k1 (rdOf ByteArray.empty t197 x6_1) 32 t201 _ A8.out).mono ?_); rintro e w11 ⟨v202, rfl, ho0, hb⟩; refine ⟨_, rfl, ?_⟩; replace HO_4 := Aside0.mk (Kd.R_below (by (with_reducible repeat (first | apply Kd.R_alloc | apply Kd.R_drewN | apply Kd.R_drew)); exact HO_4.out) hb); have HO203 := Aside0.mk (Kd.R_lower (Kd.R_new' ho0 (Kd.R_lt (by (with_reducible repeat (first | apply Kd.R_alloc | apply Kd.R_drewN | apply Kd.R_drew)); exact HO_5.out))) (below_size (uB HB))); replace HO_5 := Aside0.mk (Kd.R_elder' (by (with_reducible repeat (first | apply Kd.R_alloc | apply Kd.R_drewN | apply Kd.R_drew)); exact HO_5.out) (Kd.R_base ho0) hb); replace HB := bB HB hb; (try clear hb); (try clear hk); (try clear ho0)) | ((with_reducible refine gate_dst (N := 8) rfl ?_); refine box_event ?hg (N := 8) ?hd (cs := #[.string (⟨#[]⟩ : ByteArray), .int .i64 0, .int .i64 0, .int .i64 0]) (t := 26) ?hr ?_; (case hd => rfl); (case hg => rfl); (case hr => first | (go_simp; done) | (go_simp; rfl)); intro gb204 hg w12 hbox hb; replace HO_4 := Aside0.mk (Kd.R_below (Kd.R_elderB (by (with_reducible repeat (first | apply Kd.R_alloc | apply Kd.R_drewN | apply Kd.R_drew)); exact HO_4.out) gb204 (Nat.le_of_eq hg.symm)) hb); replace HO_5 := Aside0.mk (Kd.R_below (by (with_reducible repeat (first | apply Kd.R_alloc | apply Kd.R_drewN | apply Kd.R_drew)); exact HO_5.out) hb); replace HO203 := Aside0.mk (Kd.R_below (by (with_reducible repeat (first | apply Kd.R_alloc | apply Kd.R_drewN | apply Kd.R_drew)); exact HO203.out) hb); have BK204 := Aside0.mk hbox; have GW204 := gE HB hg; replace HB := bB HB hb; have GE204 := GW204; clear hb hbox hg; have hcz13_0 : w12.cell? ⟨gb204, 0, none⟩ = some (.string (⟨#[]⟩ : ByteArray)) := bC BK204 0 rfl; have hcz13_1 : w12.cell? ⟨gb204, 1, none⟩ = some (.int .i64 0) := bC BK204 1 rfl; have hcz13_2 : w12.cell? ⟨gb204, 2, none⟩ = some (.int .i64 0) := bC BK204 2 rfl; have hcz13_3 : w12.cell? ⟨gb204, 3, none⟩ = some (.int .i64 0) := bC BK204 3 rfl; have hfz13_0 := bF BK204 0; have hfz13_1 := bF BK204 1; have hfz13_2 := bF BK204 2; have hfz13_3 := bF BK204 3))
       (try simp only [Act.put, List.setIfInBounds_toArray, List.set_cons_zero, List.set_cons_succ])
       go_cut [39] (fun v39 wc => ∃ (kq : Nat) (x39_8 : Bool), v39 = .bool x39_8 ∧ Aside0 (clusterlocksref05_Parse.j1 kq a0 x4_1 t197 x6_1 t201 x39_8 (⟨#[]⟩ : ByteArray) 1 1 0 = some (r1, r2)) ∧ Aside0 (kq ≤ k1) ∧ Aside0 (Kd.R k26 26 wc w.heap.size (fun k_ => k_ ≠ gb204) u4 x4_1) ∧ Aside0 (Kd.R Kd.string 9 wc w.heap.size (fun k_ => some k_ ≠ (v202 : Value).ownBlock) (.slice (some ad200) t197.length co10) t197) ∧ Aside0 (Kd.R Kd.string 9 wc w.heap.size (fun k_ => some k_ ≠ ((.slice (some ad200) t197.length co10) : Value).ownBlock) v202 t201) ∧ Aside0 (wc.heap[gb204]? = some (.cells #[.string (⟨#[]⟩ : ByteArray), .int .i64 1, .int .i64 1, .int .i64 0] 26 (0, 0))) ∧ Aside0 (Below w.heap.size w wc))
       case first =>
        have H := HC9.out
        clear HC9
        by_cases c14 : (t201.length : Int) = 5
        ·rw [if_pos c14] at H
         have c14b0 : ((t201.length : Int) == 5) = true := beq_iff_eq.mpr c14
         have c14b1 : ((t201.length : Int) != 5) = false := bne_eq_false_iff_eq.mpr c14
         clear c14
         (first | rw [c14b0] | (simp only [i64_w, i32_w]; rw [c14b0]) | skip)
         have HH_ := Aside0.mk H
         clear H
         obtain ⟨Ao16, co16, eo16⟩ := Kd.R_slice HO203.out
         subst eo16
         have p205 : 0 ≤ (0 : Int) := (by omega)
         have H := HH_.out
         clear HH_
         by_cases c15 : 0 < (t201.length : Int)
         ·rw [if_pos c15] at H
          have c15b0 : decide (0 < (t201.length : Int)) = true := decide_eq_true c15
          have c15b1 : decide (0 < t201.length) = true := decide_eq_true (by omega)
          clear c15
          have H' := Aside0.mk H
          clear H
          (try simp only [c15b0, c15b1])
          have q205 : 0 < (t201.length : Int) := of_decide_eq_true (by first | (with_reducible assumption) | assumption)
          obtain ⟨ad205, e205, hx205_0⟩ := Kd.at_string (Kd.R_reads' HO203.out).2.2 0 p205 q205
          cases e205
          have qi205 : (0 < t201.length) = True := eq_true (by omega)
          (try rw [show ((0 : Int)).toNat = 0 from rfl] at hx205_0)
          (try rw [Addr.add_zero'] at hx205_0)
          have hn205_0 : ad205.block ≠ gb204 := Kd.own_blk (Kd.R_ne HO203.out BK204.out (by decide))
          have hn205_1 : ad205.block ≠ gb204 := Kd.own_blk (Kd.R_ne HO203.out BK204.out (by decide))
          have hn205_2 : ad205.block ≠ gb204 := Kd.own_blk (Kd.R_ne HO203.out BK204.out (by decide))
          have hn205_3 : ad205.block ≠ gb204 := Kd.own_blk (Kd.R_ne HO203.out BK204.out (by decide))
          replace hx205_0 := (cell_far (p := ⟨gb204, 0, none⟩) (by first | (rw [add_block]; exact hn205_0) | (show (Addr.add _ _).block ≠ _; rw [add_block]; exact hn205_0) | exact hn205_0) (.string (⟨#[]⟩ : ByteArray))).trans hx205_0
          replace hx205_0 := (cell_far (p := ⟨gb204, 1, none⟩) (by first | (rw [add_block]; exact hn205_1) | (show (Addr.add _ _).block ≠ _; rw [add_block]; exact hn205_1) | exact hn205_1) (.int .i64 1)).trans hx205_0
          replace hx205_0 := (cell_far (p := ⟨gb204, 2, none⟩) (by first | (rw [add_block]; exact hn205_2) | (show (Addr.add _ _).block ≠ _; rw [add_block]; exact hn205_2) | exact hn205_2) (.int .i64 1)).trans hx205_0
          replace hx205_0 := (cell_far (p := ⟨gb204, 3, none⟩) (by first | (rw [add_block]; exact hn205_3) | (show (Addr.add _ _).block ≠ _; rw [add_block]; exact hn205_3) | exact hn205_3) (.int .i64 0)).trans hx205_0
          clear hn205_0
          clear hn205_1
          clear hn205_2
          clear hn205_3
          replace p205 := eq_true p205
          replace q205 := eq_true q205
          go_wp2
          go_meet
          case rel => exact ⟨_, (((rdOf ByteArray.empty t201 0).toList == ([112, 111, 111, 108] : List UInt8))), (by first | rfl | (simp; done) | (simp [*]; done)), H', ⟨by have := HK1.out; first | omega | exact Nat.le_refl _⟩, ⟨by (with_reducible repeat (first | apply Kd.R_alloc | apply Kd.R_drewN | apply Kd.R_drew)); exact Kd.R_mono (Kd.R_far (p := ⟨gb204, 3, none⟩) (Kd.R_far (p := ⟨gb204, 2, none⟩) (Kd.R_far (p := ⟨gb204, 1, none⟩) (Kd.R_far (p := ⟨gb204, 0, none⟩) (Kd.R_mono HO_4.out (fun k_ hk => (⟨hk, hk.2⟩ : _ ∧ k_ ≠ gb204))) (fun _ hk => hk.2) (.string (⟨#[]⟩ : ByteArray))) (fun _ hk => hk.2) (.int .i64 1)) (fun _ hk => hk.2) (.int .i64 1)) (fun _ hk => hk.2) (.int .i64 0)) (fun _ hk => hk.1.2)⟩, ⟨by (with_reducible repeat (first | apply Kd.R_alloc | apply Kd.R_drewN | apply Kd.R_drew)); exact Kd.R_mono (Kd.R_far (p := ⟨gb204, 3, none⟩) (Kd.R_far (p := ⟨gb204, 2, none⟩) (Kd.R_far (p := ⟨gb204, 1, none⟩) (Kd.R_far (p := ⟨gb204, 0, none⟩) (Kd.R_types HO_5.out BK204.out (by decide)) (fun _ hk => hk.2) (.string (⟨#[]⟩ : ByteArray))) (fun _ hk => hk.2) (.int .i64 1)) (fun _ hk => hk.2) (.int .i64 1)) (fun _ hk => hk.2) (.int .i64 0)) (fun _ hk => hk.1.2)⟩, ⟨by (with_reducible repeat (first | apply Kd.R_alloc | apply Kd.R_drewN | apply Kd.R_drew)); exact Kd.R_mono (Kd.R_far (p := ⟨gb204, 3, none⟩) (Kd.R_far (p := ⟨gb204, 2, none⟩) (Kd.R_far (p := ⟨gb204, 1, none⟩) (Kd.R_far (p := ⟨gb204, 0, none⟩) (Kd.R_types HO203.out BK204.out (by decide)) (fun _ hk => hk.2) (.string (⟨#[]⟩ : ByteArray))) (fun _ hk => hk.2) (.int .i64 1)) (fun _ hk => hk.2) (.int .i64 1)) (fun _ hk => hk.2) (.int .i64 0)) (fun _ hk => hk.1.2)⟩, ⟨by (with_reducible repeat first | refine bN ?_ _ | refine bD ?_ | refine bA ?_ _); refine blk_put (cs := #[.string (⟨#[]⟩ : ByteArray), .int .i64 1, .int .i64 1, .int .i64 0]) ?_ 3 _ rfl; (with_reducible repeat first | refine bN ?_ _ | refine bD ?_ | refine bA ?_ _); refine blk_put (cs := #[.string (⟨#[]⟩ : ByteArray), .int .i64 1, .int .i64 0, .int .i64 0]) ?_ 2 _ rfl; (with_reducible repeat first | refine bN ?_ _ | refine bD ?_ | refine bA ?_ _); refine blk_put (cs := #[.string (⟨#[]⟩ : ByteArray), .int .i64 0, .int .i64 0, .int .i64 0]) ?_ 1 _ rfl; (with_reducible repeat first | refine bN ?_ _ | refine bD ?_ | refine bA ?_ _); refine blk_put (cs := #[.string (⟨#[]⟩ : ByteArray), .int .i64 0, .int .i64 0, .int .i64 0]) ?_ 0 _ rfl; (with_reducible repeat first | refine bN ?_ _ | refine bD ?_ | refine bA ?_ _); exact BK204.out⟩, ⟨(haveI := gI GE204; uS HB)⟩⟩
         ·rw [if_neg c15] at H
          exact absurd H (by simp)
        ·rw [if_neg c14] at H
         have c14b0 : ((t201.length : Int) == 5) = false := beq_eq_false_iff_ne.mpr c14
         have c14b1 : ((t201.length : Int) != 5) = true := bne_iff_ne.mpr c14
         (first | rw [c14b0] | (simp only [i64_w, i32_w]; rw [c14b0]) | skip)
         have H' := Aside0.mk H
         clear H
         obtain ⟨Ao17, co17, eo17⟩ := Kd.R_slice HO203.out
         subst eo17
         go_wp2
         go_meet
         case rel => exact ⟨_, (false), (by first | rfl | (simp; done) | (simp [*]; done)), H', ⟨by have := HK1.out; first | omega | exact Nat.le_refl _⟩, ⟨by (with_reducible repeat (first | apply Kd.R_alloc | apply Kd.R_drewN | apply Kd.R_drew)); exact Kd.R_mono (Kd.R_far (p := ⟨gb204, 3, none⟩) (Kd.R_far (p := ⟨gb204, 2, none⟩) (Kd.R_far (p := ⟨gb204, 1, none⟩) (Kd.R_far (p := ⟨gb204, 0, none⟩) (Kd.R_mono HO_4.out (fun k_ hk => (⟨hk, hk.2⟩ : _ ∧ k_ ≠ gb204))) (fun _ hk => hk.2) (.string (⟨#[]⟩ : ByteArray))) (fun _ hk => hk.2) (.int .i64 1)) (fun _ hk => hk.2) (.int .i64 1)) (fun _ hk => hk.2) (.int .i64 0)) (fun _ hk => hk.1.2)⟩, ⟨by (with_reducible repeat (first | apply Kd.R_alloc | apply Kd.R_drewN | apply Kd.R_drew)); exact Kd.R_mono (Kd.R_far (p := ⟨gb204, 3, none⟩) (Kd.R_far (p := ⟨gb204, 2, none⟩) (Kd.R_far (p := ⟨gb204, 1, none⟩) (Kd.R_far (p := ⟨gb204, 0, none⟩) (Kd.R_types HO_5.out BK204.out (by decide)) (fun _ hk => hk.2) (.string (⟨#[]⟩ : ByteArray))) (fun _ hk => hk.2) (.int .i64 1)) (fun _ hk => hk.2) (.int .i64 1)) (fun _ hk => hk.2) (.int .i64 0)) (fun _ hk => hk.1.2)⟩, ⟨by (with_reducible repeat (first | apply Kd.R_alloc | apply Kd.R_drewN | apply Kd.R_drew)); exact Kd.R_mono (Kd.R_far (p := ⟨gb204, 3, none⟩) (Kd.R_far (p := ⟨gb204, 2, none⟩) (Kd.R_far (p := ⟨gb204, 1, none⟩) (Kd.R_far (p := ⟨gb204, 0, none⟩) (Kd.R_types HO203.out BK204.out (by decide)) (fun _ hk => hk.2) (.string (⟨#[]⟩ : ByteArray))) (fun _ hk => hk.2) (.int .i64 1)) (fun _ hk => hk.2) (.int .i64 1)) (fun _ hk => hk.2) (.int .i64 0)) (fun _ hk => hk.1.2)⟩, ⟨by (with_reducible repeat first | refine bN ?_ _ | refine bD ?_ | refine bA ?_ _); refine blk_put (cs := #[.string (⟨#[]⟩ : ByteArray), .int .i64 1, .int .i64 1, .int .i64 0]) ?_ 3 _ rfl; (with_reducible repeat first | refine bN ?_ _ | refine bD ?_ | refine bA ?_ _); refine blk_put (cs := #[.string (⟨#[]⟩ : ByteArray), .int .i64 1, .int .i64 0, .int .i64 0]) ?_ 2 _ rfl; (with_reducible repeat first | refine bN ?_ _ | refine bD ?_ | refine bA ?_ _); refine blk_put (cs := #[.string (⟨#[]⟩ : ByteArray), .int .i64 0, .int .i64 0, .int .i64 0]) ?_ 1 _ rfl; (with_reducible repeat first | refine bN ?_ _ | refine bD ?_ | refine bA ?_ _); refine blk_put (cs := #[.string (⟨#[]⟩ : ByteArray), .int .i64 0, .int .i64 0, .int .i64 0]) ?_ 0 _ rfl; (with_reducible repeat first | refine bN ?_ _ | refine bD ?_ | refine bA ?_ _); exact BK204.out⟩, ⟨(haveI := gI GE204; uS HB)⟩⟩
       case rest =>
        clear HC9
        try clear c1
        try clear c2
        try clear c2b0
        try clear c2b1
        try clear p2
        try clear q2
        try clear hx2
        try clear qi2
        try clear c3
        try clear c5
        try clear c5b0
        try clear c6
        try clear c6b0
        try clear p6
        try clear c7
        try clear c7b0
        try clear c14
        try clear c14b0
        try clear c14b1
        try clear c15
        try clear c15b0
        try clear c15b1
        try clear hcz13_0
        try clear hcz13_1
        try clear hcz13_2
        try clear hcz13_3
        try clear hfz13_0
        try clear hfz13_1
        try clear hfz13_2
        try clear hfz13_3
        try clear hx200_0
        try clear hx205_0
        try clear p2
        try clear p200
        try clear p205
        try clear q200
        try clear q205
        obtain ⟨kq, x39_8, rfl, HA, HJ8, HO_4, HO_5, HO_7, BK204, HB⟩ := hcut
        cases kq with
        | zero => exact absurd HA.out (by simp [clusterlocksref05_Parse.j1])
        | succ kj8 =>
         have H := HA.out
         clear HA
         simp only [clusterlocksref05_Parse.j1] at H
         have HC18 := Aside0.mk H
         clear H
         go_upto_if 39 with (fail)
         go_cut [7] (fun v7 wc => ∃ (kq : Nat) (x7_17 : List ByteArray) (x205001_17 : Int) (x205002_17 : Int), Aside0 (clusterlocksref05_Parse.j2 kq a0 x4_1 t197 x6_1 x7_17 (⟨#[]⟩ : ByteArray) x205001_17 x205002_17 0 = some (r1, r2)) ∧ Aside0 (kq ≤ kj8) ∧ Aside0 (Kd.R k26 26 wc w.heap.size (fun k_ => k_ ≠ gb204) u4 x4_1) ∧ Aside0 (Kd.R Kd.string 9 wc w.heap.size (fun k_ => some k_ ≠ (v7 : Value).ownBlock) (.slice (some ad200) t197.length co10) t197) ∧ Aside0 (Kd.R Kd.string 9 wc w.heap.size (fun k_ => some k_ ≠ ((.slice (some ad200) t197.length co10) : Value).ownBlock) v7 x7_17) ∧ Aside0 (wc.heap[gb204]? = some (.cells #[.string (⟨#[]⟩ : ByteArray), .int .i64 x205001_17, .int .i64 x205002_17, .int .i64 0] 26 (0, 0))) ∧ Aside0 (Below w.heap.size w wc))
         case first =>
          have H := HC18.out
          clear HC18
          by_cases c19 : x39_8 = true
          ·subst c19
           have H1 : (if 2 < (t201.length : Int) then ((clusterlocksref02_Number.f kj8 (rdOf ByteArray.empty t201 2)).bind fun bt207 => (if bt207.2 = true then (if 0 < (t201.length : Int) then (if 1 < (t201.length : Int) then (if 3 < (t201.length : Int) then (if 4 < (t201.length : Int) then (clusterlocksref05_Parse.j2 kj8 a0 x4_1 t197 x6_1 (([rdOf ByteArray.empty t201 0, rdOf ByteArray.empty t201 1, rdOf ByteArray.empty t201 3, rdOf ByteArray.empty t201 4] : List ByteArray)) (⟨#[]⟩ : ByteArray) 2 bt207.1 0) else (none)) else (none)) else (none)) else (none)) else (some (([] : List (S26)), 6)))) else (none)) = some (r1, r2) := by rw [if_pos rfl] at H; exact H
           clear H
           have H := H1
           clear H1
           by_cases c20 : 2 < (t201.length : Int)
           ·rw [if_pos c20] at H
            have c20b0 : decide (2 < (t201.length : Int)) = true := decide_eq_true c20
            have c20b1 : decide (2 < t201.length) = true := decide_eq_true (by omega)
            clear c20
            (first | rw [c20b0] | (simp only [i64_w, i32_w]; rw [c20b0]) | skip)
            replace H := Option.bind_eq_some_iff.mp H
            obtain ⟨⟨t207, t208⟩, A210, H⟩ := H
            replace H : (if t208 = true then (if 0 < (t201.length : Int) then (if 1 < (t201.length : Int) then (if 3 < (t201.length : Int) then (if 4 < (t201.length : Int) then (clusterlocksref05_Parse.j2 kj8 a0 x4_1 t197 x6_1 (([rdOf ByteArray.empty t201 0, rdOf ByteArray.empty t201 1, rdOf ByteArray.empty t201 3, rdOf ByteArray.empty t201 4] : List ByteArray)) (⟨#[]⟩ : ByteArray) 2 t207 0) else (none)) else (none)) else (none)) else (none)) else (some (([] : List (S26)), 6))) = some (r1, r2) := H
            have A21 := Aside0.mk A210; clear A210
            have HH_ := Aside0.mk H
            clear H
            obtain ⟨Ao27, co27, eo27⟩ := Kd.R_slice HO_7.out
            subst eo27
            have p206 : 0 ≤ (2 : Int) := (by omega)
            have q206 : 2 < (t201.length : Int) := of_decide_eq_true (by first | (with_reducible assumption) | assumption)
            obtain ⟨ad206, e206, hx206_0⟩ := Kd.at_string (Kd.R_reads' HO_7.out).2.2 2 p206 q206
            cases e206
            (try simp only [show (2 : Int).toNat = 2 from rfl, Nat.reduceMul, Nat.reduceEqDiff, Go.Addr.add, ↓reduceIte] at hx206_0)
            have H := HH_.out
            clear HH_
            by_cases c22 : t208 = true
            ·subst c22
             have H1 : (if 0 < (t201.length : Int) then (if 1 < (t201.length : Int) then (if 3 < (t201.length : Int) then (if 4 < (t201.length : Int) then (clusterlocksref05_Parse.j2 kj8 a0 x4_1 t197 x6_1 (([rdOf ByteArray.empty t201 0, rdOf ByteArray.empty t201 1, rdOf ByteArray.empty t201 3, rdOf ByteArray.empty t201 4] : List ByteArray)) (⟨#[]⟩ : ByteArray) 2 t207 0) else (none)) else (none)) else (none)) else (none)) = some (r1, r2) := by rw [if_pos rfl] at H; exact H
             clear H
             have H := H1
             clear H1
             by_cases c23 : 0 < (t201.length : Int)
             ·rw [if_pos c23] at H
              have c23b0 : decide (0 < (t201.length : Int)) = true := decide_eq_true c23
              have c23b1 : decide (0 < t201.length) = true := decide_eq_true (by omega)
              clear c23
              (try simp only [c23b0, c23b1])
              by_cases c24 : 1 < (t201.length : Int)
              ·rw [if_pos c24] at H
               have c24b0 : decide (1 < (t201.length : Int)) = true := decide_eq_true c24
               have c24b1 : decide (1 < t201.length) = true := decide_eq_true (by omega)
               clear c24
               (try simp only [c24b0, c24b1])
               by_cases c25 : 3 < (t201.length : Int)
               ·rw [if_pos c25] at H
                have c25b0 : decide (3 < (t201.length : Int)) = true := decide_eq_true c25
                have c25b1 : decide (3 < t201.length) = true := decide_eq_true (by omega)
                clear c25
                (try simp only [c25b0, c25b1])
                by_cases c26 : 4 < (t201.length : Int)
                ·rw [if_pos c26] at H
                 have c26b0 : decide (4 < (t201.length : Int)) = true := decide_eq_true c26
                 have c26b1 : decide (4 < t201.length) = true := decide_eq_true (by omega)
                 clear c26
                 obtain ⟨y213, hy213⟩ : ∃ y_ : List ByteArray, y_ = (([rdOf ByteArray.empty t201 0, rdOf ByteArray.empty t201 1, rdOf ByteArray.empty t201 3, rdOf ByteArray.empty t201 4] : List ByteArray)) := ⟨_, rfl⟩
                 replace H : (clusterlocksref05_Parse.j2 kj8 a0 x4_1 t197 x6_1 y213 (⟨#[]⟩ : ByteArray) 2 t207 0) = some (r1, r2) := by first | (rw [hy213]; with_reducible exact H) | (have H2_ := (Option.bind_some _ _).symm.trans H; rw [hy213]; with_reducible exact H2_) | (have H2_ := (Option.bind_some _ _).symm.trans H; with_reducible exact H2_) | with_reducible exact H | (rw [hy213]; exact H) | exact H
                 have Ny213 := Aside0.mk hy213
                 clear hy213
                 have H' := Aside0.mk H
                 clear H
                 (try simp only [c26b0, c26b1])
                 have qi206 : (2 < t201.length) = True := eq_true (by omega)
                 (try rw [show ((2 : Int)).toNat = 2 from rfl] at hx206_0)
                 replace p206 := eq_true p206
                 replace q206 := eq_true q206
                 try go_wp2_with (first | ((with_reducible refine gate_callee (f := 54) rfl ?_); refine goesL_ (some 44) rfl rfl Tryd.func54 (by kernel_rfl) rfl #[.string (rdOf ByteArray.empty t201 2)] rfl (by (try simp only [mA]); first | done | rfl) ?_; (with_reducible refine (clusterlocksref02_Number.calls kj8 (rdOf ByteArray.empty t201 2) t207 true _ A21.out).mono ?_); rintro e w' ⟨rfl, ⟨nd, rfl⟩⟩; refine ⟨_, rfl, ?_⟩; (try (rw [drewN_self wc]; generalize hq_ : World.drewN wc _ = wc; have n0_ : Aside0 (Kd.R k26 26 wc w.heap.size (fun k_ => k_ ≠ gb204) u4 x4_1) := ⟨by rw [← hq_]; exact (by (with_reducible repeat (first | apply Kd.R_alloc | apply Kd.R_drewN | apply Kd.R_drew)); exact HO_4.out)⟩; have n1_ : Aside0 (Kd.R Kd.string 9 wc w.heap.size (fun k_ => some k_ ≠ (.slice (some ad206) t201.length co27 : Value).ownBlock) (.slice (some ad200) t197.length co10) t197) := ⟨by rw [← hq_]; exact (by (with_reducible repeat (first | apply Kd.R_alloc | apply Kd.R_drewN | apply Kd.R_drew)); exact HO_5.out)⟩; have n2_ : Aside0 (Kd.R Kd.string 9 wc w.heap.size (fun k_ => some k_ ≠ (.slice (some ad200) t197.length co10 : Value).ownBlock) (.slice (some ad206) t201.length co27) t201) := ⟨by rw [← hq_]; exact (by (with_reducible repeat (first | apply Kd.R_alloc | apply Kd.R_drewN | apply Kd.R_drew)); exact HO_7.out)⟩; have n3_ : Aside0 (wc.heap[gb204]? = some (.cells #[.string (⟨#[]⟩ : ByteArray), .int .i64 1, .int .i64 1, .int .i64 0] 26 (0, 0))) := ⟨by rw [← hq_]; exact (uK BK204)⟩; have n4_ : Aside0 (Below w.heap.size w wc) := ⟨by rw [← hq_]; exact (haveI := gI GE204; uS HB)⟩; clear HO_4 HO_5 HO_7 BK204 HB hq_; have HO_4 := n0_; have HO_5 := n1_; have HO_7 := n2_; have BK204 := n3_; have HB := n4_; clear n0_ n1_ n2_ n3_ n4_)); have hcz28_0 : wc.cell? ⟨gb204, 0, none⟩ = some (.string (⟨#[]⟩ : ByteArray)) := bC BK204 0 rfl; have hcz28_1 : wc.cell? ⟨gb204, 1, none⟩ = some (.int .i64 1) := bC BK204 1 rfl; have hcz28_2 : wc.cell? ⟨gb204, 2, none⟩ = some (.int .i64 1) := bC BK204 2 rfl; have hcz28_3 : wc.cell? ⟨gb204, 3, none⟩ = some (.int .i64 0) := bC BK204 3 rfl; have hfz28_0 := bF BK204 0; have hfz28_1 := bF BK204 1; have hfz28_2 := bF BK204 2; have hfz28_3 := bF BK204 3))
                 have n0_ : Aside0 (Kd.R k26 26 ((wc.setCell ⟨gb204, 1, none⟩ (.int .i64 2)).setCell ⟨gb204, 2, none⟩ (.int .i64 t207)) w.heap.size (fun k_ => k_ ≠ gb204) u4 x4_1) := ⟨by (with_reducible repeat (first | apply Kd.R_alloc | apply Kd.R_drewN | apply Kd.R_drew)); exact Kd.R_mono (Kd.R_far (p := ⟨gb204, 2, none⟩) (Kd.R_far (p := ⟨gb204, 1, none⟩) (Kd.R_mono HO_4.out (fun k_ hk => (⟨hk, hk⟩ : _ ∧ k_ ≠ gb204))) (fun _ hk => hk.2) (.int .i64 2)) (fun _ hk => hk.2) (.int .i64 t207)) (fun _ hk => hk.1)⟩
                 have n1_ : Aside0 (Kd.R Kd.string 9 ((wc.setCell ⟨gb204, 1, none⟩ (.int .i64 2)).setCell ⟨gb204, 2, none⟩ (.int .i64 t207)) w.heap.size (fun k_ => some k_ ≠ (.slice (some ad206) t201.length co27 : Value).ownBlock) (.slice (some ad200) t197.length co10) t197) := ⟨by (with_reducible repeat (first | apply Kd.R_alloc | apply Kd.R_drewN | apply Kd.R_drew)); exact Kd.R_mono (Kd.R_far (p := ⟨gb204, 2, none⟩) (Kd.R_far (p := ⟨gb204, 1, none⟩) (Kd.R_types HO_5.out BK204.out (by decide)) (fun _ hk => hk.2) (.int .i64 2)) (fun _ hk => hk.2) (.int .i64 t207)) (fun _ hk => hk.1)⟩
                 have n2_ : Aside0 (Kd.R Kd.string 9 ((wc.setCell ⟨gb204, 1, none⟩ (.int .i64 2)).setCell ⟨gb204, 2, none⟩ (.int .i64 t207)) w.heap.size (fun k_ => some k_ ≠ (.slice (some ad200) t197.length co10 : Value).ownBlock) (.slice (some ad206) t201.length co27) t201) := ⟨by (with_reducible repeat (first | apply Kd.R_alloc | apply Kd.R_drewN | apply Kd.R_drew)); exact Kd.R_mono (Kd.R_far (p := ⟨gb204, 2, none⟩) (Kd.R_far (p := ⟨gb204, 1, none⟩) (Kd.R_types HO_7.out BK204.out (by decide)) (fun _ hk => hk.2) (.int .i64 2)) (fun _ hk => hk.2) (.int .i64 t207)) (fun _ hk => hk.1)⟩
                 have n3_ : Aside0 (((wc.setCell ⟨gb204, 1, none⟩ (.int .i64 2)).setCell ⟨gb204, 2, none⟩ (.int .i64 t207)).heap[gb204]? = some (.cells #[.string (⟨#[]⟩ : ByteArray), .int .i64 2, .int .i64 t207, .int .i64 0] 26 (0, 0))) := ⟨by (with_reducible repeat first | refine bN ?_ _ | refine bD ?_ | refine bA ?_ _); refine blk_put (cs := #[.string (⟨#[]⟩ : ByteArray), .int .i64 2, .int .i64 1, .int .i64 0]) ?_ 2 _ rfl; (with_reducible repeat first | refine bN ?_ _ | refine bD ?_ | refine bA ?_ _); refine blk_put (cs := #[.string (⟨#[]⟩ : ByteArray), .int .i64 1, .int .i64 1, .int .i64 0]) ?_ 1 _ rfl; (with_reducible repeat first | refine bN ?_ _ | refine bD ?_ | refine bA ?_ _); exact BK204.out⟩
                 have n4_ : Aside0 (Below w.heap.size w ((wc.setCell ⟨gb204, 1, none⟩ (.int .i64 2)).setCell ⟨gb204, 2, none⟩ (.int .i64 t207))) := ⟨(haveI := gI GE204; uS HB)⟩
                 (try clear HO_4)
                 (try clear HO_5)
                 (try clear HO_7)
                 (try clear BK204)
                 (try clear HB)
                 generalize ((wc.setCell ⟨gb204, 1, none⟩ (.int .i64 2)).setCell ⟨gb204, 2, none⟩ (.int .i64 t207)) = w29 at n0_ n1_ n2_ n3_ n4_ ⊢
                 have HO_4 := n0_
                 have HO_5 := n1_
                 have HO_7 := n2_
                 have BK204 := n3_
                 have HB := n4_
                 clear n0_ n1_ n2_ n3_ n4_
                 replace HO_4 := Aside0.mk (Kd.R_drew HO_4.out)
                 replace HO_5 := Aside0.mk (Kd.R_drew HO_5.out)
                 replace HO_7 := Aside0.mk (Kd.R_drew HO_7.out)
                 replace BK204 := Aside0.mk (blk_drew BK204.out)
                 replace HB := Aside0.mk (below_drew1 HB.out)
                 have p209 : 0 ≤ (0 : Int) := (by omega)
                 have q209 : 0 < (t201.length : Int) := of_decide_eq_true (by first | (with_reducible assumption) | assumption)
                 obtain ⟨ad209, e209, hx209_0⟩ := Kd.at_string (Kd.R_reads' HO_7.out).2.2 0 p209 q209
                 obtain rfl : ad206 = ad209 := (by injection e209)
                 have qi209 : (0 < t201.length) = True := eq_true (by omega)
                 (try rw [show ((0 : Int)).toNat = 0 from rfl] at hx209_0)
                 (try rw [Addr.add_zero'] at hx209_0)
                 replace p209 := eq_true p209
                 replace q209 := eq_true q209
                 have p210 : 0 ≤ (1 : Int) := (by omega)
                 have q210 : 1 < (t201.length : Int) := of_decide_eq_true (by first | (with_reducible assumption) | assumption)
                 obtain ⟨ad210, e210, hx210_0⟩ := Kd.at_string (Kd.R_reads' HO_7.out).2.2 1 p210 q210
                 obtain rfl : ad206 = ad210 := (by injection e210)
                 (try simp only [show (1 : Int).toNat = 1 from rfl, Nat.reduceMul, Nat.reduceEqDiff, Go.Addr.add, ↓reduceIte] at hx210_0)
                 have qi210 : (1 < t201.length) = True := eq_true (by omega)
                 (try rw [show ((1 : Int)).toNat = 1 from rfl] at hx210_0)
                 replace p210 := eq_true p210
                 replace q210 := eq_true q210
                 have p211 : 0 ≤ (3 : Int) := (by omega)
                 have q211 : 3 < (t201.length : Int) := of_decide_eq_true (by first | (with_reducible assumption) | assumption)
                 obtain ⟨ad211, e211, hx211_0⟩ := Kd.at_string (Kd.R_reads' HO_7.out).2.2 3 p211 q211
                 obtain rfl : ad206 = ad211 := (by injection e211)
                 (try simp only [show (3 : Int).toNat = 3 from rfl, Nat.reduceMul, Nat.reduceEqDiff, Go.Addr.add, ↓reduceIte] at hx211_0)
                 have qi211 : (3 < t201.length) = True := eq_true (by omega)
                 (try rw [show ((3 : Int)).toNat = 3 from rfl] at hx211_0)
                 replace p211 := eq_true p211
                 replace q211 := eq_true q211
                 have p212 : 0 ≤ (4 : Int) := (by omega)
                 have q212 : 4 < (t201.length : Int) := of_decide_eq_true (by first | (with_reducible assumption) | assumption)
                 obtain ⟨ad212, e212, hx212_0⟩ := Kd.at_string (Kd.R_reads' HO_7.out).2.2 4 p212 q212
                 obtain rfl : ad206 = ad212 := (by injection e212)
                 (try simp only [show (4 : Int).toNat = 4 from rfl, Nat.reduceMul, Nat.reduceEqDiff, Go.Addr.add, ↓reduceIte] at hx212_0)
                 have qi212 : (4 < t201.length) = True := eq_true (by omega)
                 (try rw [show ((4 : Int)).toNat = 4 from rfl] at hx212_0)
                 replace p212 := eq_true p212
                 replace q212 := eq_true q212
                 refine start_ (n := 14) (S := fun w' => w'.cell? ad206 = some (.string (rdOf ByteArray.empty t201 0)) ∧ w'.cell? ⟨ad206.block, ad206.off + 1, none⟩ = some (.string (rdOf ByteArray.empty t201 1)) ∧ w'.cell? ⟨ad206.block, ad206.off + 3, none⟩ = some (.string (rdOf ByteArray.empty t201 3)) ∧ w'.cell? ⟨ad206.block, ad206.off + 4, none⟩ = some (.string (rdOf ByteArray.empty t201 4))) (ds := []) #[F,F,F,F,F,F,F,F,F,F,F,F,F,F] (by kernel_rfl) rfl rfl ⟨hx209_0, hx210_0, hx211_0, hx212_0⟩ (fun hHeld => ?_); refine with_tabW clusterlocksref05_Parse.tab15 clusterlocksref05_Parse.bits15 (fun HT_ HW_ => ?_)
                 generalize w29.drew = w30 at HO_4 HO_5 HO_7 BK204 HB hx209_0 hx210_0 hx211_0 hx212_0 hHeld ⊢
                 refine pu HT_ 0 52 #[T,F,F,F,F,F,F,F,F,F,F,F,F,F] rfl rfl (by kernel_rfl) (fun _ _ _ => id) (.inl ⟨by rfl, by intro w'; go_simp; with_reducible rfl⟩) (by simp only [sP]; rfl) ?_
                 refine pu HT_ 1 53 #[T,T,F,F,F,F,F,F,F,F,F,F,F,F] rfl rfl (by kernel_rfl) (fun _ _ _ => id) (.inl ⟨by rfl, by intro w'; go_simp; with_reducible rfl⟩) (by simp only [sP]; rfl) ?_
                 refine pu HT_ 3 55 #[T,T,F,T,F,F,F,F,F,F,F,F,F,F] rfl rfl (by kernel_rfl) (fun _ _ _ => id) (.inl ⟨by rfl, by intro w'; go_simp; with_reducible rfl⟩) (by simp only [sP]; rfl) ?_
                 refine pu HT_ 4 56 #[T,T,F,T,T,F,F,F,F,F,F,F,F,F] rfl rfl (by kernel_rfl) (fun _ _ _ => id) (.inl ⟨by rfl, by intro w'; go_simp; with_reducible rfl⟩) (by simp only [sP]; rfl) ?_
                 refine pu HT_ 6 58 #[T,T,F,T,T,F,T,F,F,F,F,F,F,F] rfl rfl (by kernel_rfl) (fun _ _ _ => id) (.inl ⟨by rfl, by intro w'; go_simp; with_reducible rfl⟩) (by simp only [sP]; rfl) ?_
                 refine pu HT_ 7 59 #[T,T,F,T,T,F,T,T,F,F,F,F,F,F] rfl rfl (by kernel_rfl) (fun _ _ _ => id) (.inl ⟨by rfl, by intro w'; go_simp; with_reducible rfl⟩) (by simp only [sP]; rfl) ?_
                 refine pu HT_ 9 61 #[T,T,F,T,T,F,T,T,F,T,F,F,F,F] rfl rfl (by kernel_rfl) (fun _ _ _ => id) (.inl ⟨by rfl, by intro w'; go_simp; with_reducible rfl⟩) (by simp only [sP]; rfl) ?_
                 refine pu HT_ 10 62 #[T,T,F,T,T,F,T,T,F,T,T,F,F,F] rfl rfl (by kernel_rfl) (fun _ _ _ => id) (.inl ⟨by rfl, by intro w'; go_simp; with_reducible rfl⟩) (by simp only [sP]; rfl) ?_
                 refine tk HT_ HW_ 2 54 #[T,T,T,T,T,F,T,T,F,T,T,F,F,F] rfl rfl (by kernel_rfl) (fun _ _ _ => id) (.inl ⟨by rfl, by rintro w' ⟨s0, s1, s2, s3⟩; go_simp; with_reducible rfl⟩) hHeld (by simp only [sP]; rfl) ?_
                 refine tk HT_ HW_ 5 57 #[T,T,T,T,T,T,T,T,F,T,T,F,F,F] rfl rfl (by kernel_rfl) (fun _ _ _ => id) (.inl ⟨by rfl, by rintro w' ⟨s0, s1, s2, s3⟩; go_simp; with_reducible rfl⟩) hHeld (by simp only [sP]; rfl) ?_
                 refine tk HT_ HW_ 8 60 #[T,T,T,T,T,T,T,T,T,T,T,F,F,F] rfl rfl (by kernel_rfl) (fun _ _ _ => id) (.inl ⟨by rfl, by rintro w' ⟨s0, s1, s2, s3⟩; go_simp; with_reducible rfl⟩) hHeld (by simp only [sP]; rfl) ?_
                 refine tk HT_ HW_ 11 63 #[T,T,T,T,T,T,T,T,T,T,T,T,F,F] rfl rfl (by kernel_rfl) (fun _ _ _ => id) (.inl ⟨by rfl, by rintro w' ⟨s0, s1, s2, s3⟩; go_simp; with_reducible rfl⟩) hHeld (by simp only [sP]; rfl) ?_
                 refine one_ (i := 12) (N := some 64) #[T,T,T,T,T,T,T,T,T,T,T,T,T,F] rfl rfl (one_of HT_.out (by kernel_rfl)) (by decide) (fun K hK => ?_)
                 refine Kd.R_lit_step Kd.string _ 9 ?hg (N := 64) ?hd (xs := ([rdOf ByteArray.empty t201 0, rdOf ByteArray.empty t201 1, rdOf ByteArray.empty t201 3, rdOf ByteArray.empty t201 4] : List ByteArray)) (inner := [.string (rdOf ByteArray.empty t201 0), .string (rdOf ByteArray.empty t201 1), .string (rdOf ByteArray.empty t201 3), .string (rdOf ByteArray.empty t201 4)]) (ok := fun _ => True) (okp := fun _ => True) ?hr ?hp (fun _ hk => hk) trivial (Below.refl _ _) (Nat.le_refl _) (by simp) ?_; (case hd => rfl); (case hg => rfl); (case hr => first | (go_simp; done) | (go_simp; rfl)); (case hp => exact (Reps.one (show Kd.M Kd.string _ _ _ (rdOf ByteArray.empty t201 0) [.string (rdOf ByteArray.empty t201 0)] from rfl) (Reps.one (show Kd.M Kd.string _ _ _ (rdOf ByteArray.empty t201 1) [.string (rdOf ByteArray.empty t201 1)] from rfl) (Reps.one (show Kd.M Kd.string _ _ _ (rdOf ByteArray.empty t201 3) [.string (rdOf ByteArray.empty t201 3)] from rfl) (Reps.one (show Kd.M Kd.string _ _ _ (rdOf ByteArray.empty t201 4) [.string (rdOf ByteArray.empty t201 4)] from rfl) (Reps.none _ _))))))
                 intro v214 w31 ho32 hb hg_ hnew_
                 have HS0_ := (hb.cell (World.block_lt_of_cell? _ _ (hHeld.1))).trans (hHeld.1)
                 have HS1_ := (hb.cell (World.block_lt_of_cell? _ _ (hHeld.2.1))).trans (hHeld.2.1)
                 have HS2_ := (hb.cell (World.block_lt_of_cell? _ _ (hHeld.2.2.1))).trans (hHeld.2.2.1)
                 have HS3_ := (hb.cell (World.block_lt_of_cell? _ _ (hHeld.2.2.2))).trans (hHeld.2.2.2)
                 clear hg_ hnew_
                 (first | rw [← Ny213.out] at ho32 | (simp only [Int.reduceToNat] at ho32; rw [← Ny213.out] at ho32))
                 replace HO_4 := Aside0.mk (Kd.R_below (by (with_reducible repeat (first | apply Kd.R_alloc | apply Kd.R_drewN | apply Kd.R_drew)); exact HO_4.out) hb)
                 have HO215 := Aside0.mk (Kd.R_lower (Kd.R_new' (Kd.R_new' ho32 (Kd.R_lt (by (with_reducible repeat (first | apply Kd.R_alloc | apply Kd.R_drewN | apply Kd.R_drew)); exact HO_5.out))) (Kd.R_lt (by (with_reducible repeat (first | apply Kd.R_alloc | apply Kd.R_drewN | apply Kd.R_drew)); exact HO_7.out))) (below_size (haveI := gI GE204; uS HB)))
                 replace HO_5 := Aside0.mk (Kd.R_elder' (by (with_reducible repeat (first | apply Kd.R_alloc | apply Kd.R_drewN | apply Kd.R_drew)); exact HO_5.out) (Kd.R_base ho32) hb)
                 replace HO_7 := Aside0.mk (Kd.R_elder' (by (with_reducible repeat (first | apply Kd.R_alloc | apply Kd.R_drewN | apply Kd.R_drew)); exact HO_7.out) (Kd.R_base ho32) hb)
                 replace BK204 := Aside0.mk (blk_below (g := gb204) (o := .cells #[.string (⟨#[]⟩ : ByteArray), .int .i64 2, .int .i64 t207, .int .i64 0] 26 (0, 0)) (uK BK204) hb)
                 replace HB := (haveI := gI GE204; bT HB hb)
                 clear hb ho32
                 refine hK.out _ _ ⟨HS0_, HS1_, HS2_, HS3_⟩ (fun hHeld => ?_)
                 clear hK K
                 refine norm_ (a' := ?_) ?_ ?_
                 rotate_left
                 ·show Act.put _ (some 64) _ = _
                  simp only [sP]
                  rfl
                 refine pu HT_ 13 7 #[T,T,T,T,T,T,T,T,T,T,T,T,T,T] rfl rfl (by kernel_rfl) (fun _ _ _ => id) (.inl ⟨by rfl, by intro w'; go_simp; with_reducible rfl⟩) (by simp only [sP]; rfl) ?_
                 refine done_ (done_of HT_.out (by kernel_rfl)) ?_
                 try go_wp2
                 go_meet
                 case rel => exact ⟨_, (y213), (2), (t207), H', ⟨by have := HK1.out; have := HJ8.out; first | omega | exact Nat.le_refl _⟩, ⟨by (with_reducible repeat (first | apply Kd.R_alloc | apply Kd.R_drewN | apply Kd.R_drew)); exact HO_4.out⟩, ⟨by (with_reducible repeat (first | apply Kd.R_alloc | apply Kd.R_drewN | apply Kd.R_drew)); exact Kd.R_mono HO_5.out (fun _ hk => hk.2)⟩, ⟨by (with_reducible repeat (first | apply Kd.R_alloc | apply Kd.R_drewN | apply Kd.R_drew)); exact Kd.R_mono HO215.out (fun _ hk => hk.1.2)⟩, ⟨uK BK204⟩, ⟨(haveI := gI GE204; uS HB)⟩⟩
                ·rw [if_neg c26] at H
                 exact absurd H (by simp)
               ·rw [if_neg c25] at H
                exact absurd H (by simp)
              ·rw [if_neg c24] at H
               exact absurd H (by simp)
             ·rw [if_neg c23] at H
              exact absurd H (by simp)
            ·replace c22 := Bool.eq_false_iff.mpr c22
             subst c22
             have H1 : (some (([] : List (S26)), 6)) = some (r1, r2) := by rw [if_neg (show ¬ (false = true) by decide)] at H; exact H
             clear H
             have H := H1
             clear H1
             simp only [Option.some.injEq, Prod.mk.injEq] at H
             obtain ⟨rfl, rfl⟩ := H
             have qi206 : (2 < t201.length) = True := eq_true (by omega)
             (try rw [show ((2 : Int)).toNat = 2 from rfl] at hx206_0)
             replace p206 := eq_true p206
             replace q206 := eq_true q206
             go_wp2_with (first | ((with_reducible refine gate_callee (f := 54) rfl ?_); refine goesL_ (some 44) rfl rfl Tryd.func54 (by kernel_rfl) rfl #[.string (rdOf ByteArray.empty t201 2)] rfl (by (try simp only [mA]); first | done | rfl) ?_; (with_reducible refine (clusterlocksref02_Number.calls kj8 (rdOf ByteArray.empty t201 2) t207 false _ A21.out).mono ?_); rintro e w' ⟨rfl, ⟨nd, rfl⟩⟩; refine ⟨_, rfl, ?_⟩))
             go_ret2
             exact ⟨_, by first | rfl | (simp [errW_none, errW_some] <;> rfl) | (simp [*, errW_none, errW_some] <;> rfl), by first | exact Kd.R_nil _ _ _ _ _ | exact Kd.N_nil _ _ _ _ _ | exact Kd.V_nil _ _ _ _ _ | exact Kd.Q_nil _ _ _ _ _ | exact Kd.S_nil _ _ _ _ _, (haveI := gI GE204; uS HB)⟩
           ·rw [if_neg c20] at H
            exact absurd H (by simp)
          ·replace c19 := Bool.eq_false_iff.mpr c19
           subst c19
           have H1 : (if (t201.length : Int) = 4 then (if 0 < (t201.length : Int) then (if (rdOf ByteArray.empty t201 0).toList = ([108, 111, 99, 107] : List UInt8) then (clusterlocksref05_Parse.j2 kj8 a0 x4_1 t197 x6_1 t201 (⟨#[]⟩ : ByteArray) 1 1 0) else (some (([] : List (S26)), 6))) else (none)) else (some (([] : List (S26)), 6))) = some (r1, r2) := by rw [if_neg (show ¬ (false = true) by decide)] at H; exact H
           clear H
           have H := H1
           clear H1
           by_cases c34 : (t201.length : Int) = 4
           ·rw [if_pos c34] at H
            have c34b0 : ((t201.length : Int) == 4) = true := beq_iff_eq.mpr c34
            have c34b1 : ((t201.length : Int) != 4) = false := bne_eq_false_iff_eq.mpr c34
            clear c34
            have HH_ := Aside0.mk H
            clear H
            obtain ⟨Ao37, co37, eo37⟩ := Kd.R_slice HO_7.out
            subst eo37
            have p216 : 0 ≤ (0 : Int) := (by omega)
            have H := HH_.out
            clear HH_
            by_cases c35 : 0 < (t201.length : Int)
            ·rw [if_pos c35] at H
             have c35b0 : decide (0 < (t201.length : Int)) = true := decide_eq_true c35
             have c35b1 : decide (0 < t201.length) = true := decide_eq_true (by omega)
             clear c35
             (try simp only [c35b0, c35b1])
             have HH_ := Aside0.mk H
             clear H
             have q216 : 0 < (t201.length : Int) := of_decide_eq_true (by first | (with_reducible assumption) | assumption)
             obtain ⟨ad216, e216, hx216_0⟩ := Kd.at_string (Kd.R_reads' HO_7.out).2.2 0 p216 q216
             cases e216
             have H := HH_.out
             clear HH_
             by_cases c36 : (rdOf ByteArray.empty t201 0).toList = ([108, 111, 99, 107] : List UInt8)
             ·rw [if_pos c36] at H
              have c36b0 : ((rdOf ByteArray.empty t201 0).toList == ([108, 111, 99, 107] : List UInt8)) = true := beq_iff_eq.mpr c36
              have c36b1 : ((rdOf ByteArray.empty t201 0).toList != ([108, 111, 99, 107] : List UInt8)) = false := bne_eq_false_iff_eq.mpr c36
              clear c36
              have H' := Aside0.mk H
              clear H
              (try simp only [c36b0, c36b1])
              have qi216 : (0 < t201.length) = True := eq_true (by omega)
              (try rw [show ((0 : Int)).toNat = 0 from rfl] at hx216_0)
              (try rw [Addr.add_zero'] at hx216_0)
              replace p216 := eq_true p216
              replace q216 := eq_true q216
              go_wp2
              go_meet
              case rel => exact ⟨_, (t201), (1), (1), H', ⟨by have := HK1.out; have := HJ8.out; first | omega | exact Nat.le_refl _⟩, ⟨by (with_reducible repeat (first | apply Kd.R_alloc | apply Kd.R_drewN | apply Kd.R_drew)); exact HO_4.out⟩, ⟨by (with_reducible repeat (first | apply Kd.R_alloc | apply Kd.R_drewN | apply Kd.R_drew)); exact HO_5.out⟩, ⟨by (with_reducible repeat (first | apply Kd.R_alloc | apply Kd.R_drewN | apply Kd.R_drew)); exact HO_7.out⟩, ⟨uK BK204⟩, ⟨(haveI := gI GE204; uS HB)⟩⟩
             ·rw [if_neg c36] at H
              have c36b0 : ((rdOf ByteArray.empty t201 0).toList == ([108, 111, 99, 107] : List UInt8)) = false := beq_eq_false_iff_ne.mpr c36
              have c36b1 : ((rdOf ByteArray.empty t201 0).toList != ([108, 111, 99, 107] : List UInt8)) = true := bne_iff_ne.mpr c36
              simp only [Option.some.injEq, Prod.mk.injEq] at H
              obtain ⟨rfl, rfl⟩ := H
              (try simp only [c36b0, c36b1])
              have qi216 : (0 < t201.length) = True := eq_true (by omega)
              (try rw [show ((0 : Int)).toNat = 0 from rfl] at hx216_0)
              (try rw [Addr.add_zero'] at hx216_0)
              replace p216 := eq_true p216
              replace q216 := eq_true q216
              go_wp2
              go_ret2
              exact ⟨_, by first | rfl | (simp [errW_none, errW_some] <;> rfl) | (simp [*, errW_none, errW_some] <;> rfl), by first | exact Kd.R_nil _ _ _ _ _ | exact Kd.N_nil _ _ _ _ _ | exact Kd.V_nil _ _ _ _ _ | exact Kd.Q_nil _ _ _ _ _ | exact Kd.S_nil _ _ _ _ _, (haveI := gI GE204; uS HB)⟩
            ·rw [if_neg c35] at H
             exact absurd H (by simp)
           ·rw [if_neg c34] at H
            have c34b0 : ((t201.length : Int) == 4) = false := beq_eq_false_iff_ne.mpr c34
            have c34b1 : ((t201.length : Int) != 4) = true := bne_iff_ne.mpr c34
            simp only [Option.some.injEq, Prod.mk.injEq] at H
            obtain ⟨rfl, rfl⟩ := H
            obtain ⟨Ao39, co39, eo39⟩ := Kd.R_slice HO_7.out
            subst eo39
            go_wp2
            go_ret2
            exact ⟨_, by first | rfl | (simp [errW_none, errW_some] <;> rfl) | (simp [*, errW_none, errW_some] <;> rfl), by first | exact Kd.R_nil _ _ _ _ _ | exact Kd.N_nil _ _ _ _ _ | exact Kd.V_nil _ _ _ _ _ | exact Kd.Q_nil _ _ _ _ _ | exact Kd.S_nil _ _ _ _ _, (haveI := gI GE204; uS HB)⟩
         case rest =>
          clear HC18
          try clear c1
          try clear c2
          try clear c2b0
          try clear c2b1
          try clear p2
          try clear q2
          try clear hx2
          try clear qi2
          try clear c3
          try clear c5
          try clear c5b0
          try clear c6
          try clear c6b0
          try clear p6
          try clear c7
          try clear c7b0
          try clear c14
          try clear c14b0
          try clear c14b1
          try clear c15
          try clear c15b0
          try clear c15b1
          try clear c19
          try clear c20
          try clear c20b0
          try clear c20b1
          try clear p20
          try clear q20
          try clear hx20
          try clear qi20
          try clear p21
          try clear q21
          try clear hx21
          try clear qi21
          try clear c22
          try clear c23
          try clear c23b0
          try clear c23b1
          try clear c24
          try clear c24b0
          try clear c24b1
          try clear c25
          try clear c25b0
          try clear c25b1
          try clear c26
          try clear c26b0
          try clear c26b1
          try clear c34
          try clear c34b0
          try clear c34b1
          try clear c35
          try clear c35b0
          try clear c35b1
          try clear c36
          try clear c36b0
          try clear c36b1
          try clear hcz13_0
          try clear hcz13_1
          try clear hcz13_2
          try clear hcz13_3
          try clear hcz28_0
          try clear hcz28_1
          try clear hcz28_2
          try clear hcz28_3
          try clear hfz13_0
          try clear hfz13_1
          try clear hfz13_2
          try clear hfz13_3
          try clear hfz28_0
          try clear hfz28_1
          try clear hfz28_2
          try clear hfz28_3
          try clear hx200_0
          try clear hx205_0
          try clear hx206_0
          try clear hx209_0
          try clear hx210_0
          try clear hx211_0
          try clear hx212_0
          try clear hx216_0
          try clear p2
          try clear p200
          try clear p205
          try clear p206
          try clear p209
          try clear p210
          try clear p211
          try clear p212
          try clear p216
          try clear p6
          try clear q2
          try clear q200
          try clear q205
          try clear q206
          try clear q209
          try clear q210
          try clear q211
          try clear q212
          try clear q216
          obtain ⟨kq, x7_17, x205001_17, x205002_17, HA, HJ17, HO_4, HO_5, HO_7, BK204, HB⟩ := hcut
          cases kq with
          | zero => exact absurd HA.out (by simp [clusterlocksref05_Parse.j2])
          | succ kj17 =>
           have H := HA.out
           clear HA
           simp only [clusterlocksref05_Parse.j2] at H
           by_cases c40 : 3 < (x7_17.length : Int)
           ·rw [if_pos c40] at H
            have c40b0 : decide (3 < (x7_17.length : Int)) = true := decide_eq_true c40
            have c40b1 : decide (3 < x7_17.length) = true := decide_eq_true (by omega)
            clear c40
            replace H := Option.bind_eq_some_iff.mp H
            obtain ⟨⟨t218, t219⟩, A410, H⟩ := H
            replace H : (if t219 = true then (if 2 < (x7_17.length : Int) then (if (rdOf ByteArray.empty x7_17 2).toList = ([97, 116] : List UInt8) then (if 1 < (x7_17.length : Int) then (if x4_1.length < 3518437208883 then (clusterlocksref05_Parse.l0 kj17 a0 (x4_1 ++ [(⟨rdOf ByteArray.empty x7_17 1, x205001_17, x205002_17, t218⟩ : S26)]) t197 (wrap64 (x6_1 + 1))) else (none)) else (none)) else (some (([] : List (S26)), 6))) else (none)) else (some (([] : List (S26)), 6))) = some (r1, r2) := H
            have A41 := Aside0.mk A410; clear A410
            by_cases c42 : t219 = true
            ·subst c42
             have H1 : (if 2 < (x7_17.length : Int) then (if (rdOf ByteArray.empty x7_17 2).toList = ([97, 116] : List UInt8) then (if 1 < (x7_17.length : Int) then (if x4_1.length < 3518437208883 then (clusterlocksref05_Parse.l0 kj17 a0 (x4_1 ++ [(⟨rdOf ByteArray.empty x7_17 1, x205001_17, x205002_17, t218⟩ : S26)]) t197 (wrap64 (x6_1 + 1))) else (none)) else (none)) else (some (([] : List (S26)), 6))) else (none)) = some (r1, r2) := by rw [if_pos rfl] at H; exact H
             clear H
             have H := H1
             clear H1
             by_cases c43 : 2 < (x7_17.length : Int)
             ·rw [if_pos c43] at H
              have c43b0 : decide (2 < (x7_17.length : Int)) = true := decide_eq_true c43
              have c43b1 : decide (2 < x7_17.length) = true := decide_eq_true (by omega)
              clear c43
              by_cases c44 : (rdOf ByteArray.empty x7_17 2).toList = ([97, 116] : List UInt8)
              ·rw [if_pos c44] at H
               have c44b0 : ((rdOf ByteArray.empty x7_17 2).toList == ([97, 116] : List UInt8)) = true := beq_iff_eq.mpr c44
               have c44b1 : ((rdOf ByteArray.empty x7_17 2).toList != ([97, 116] : List UInt8)) = false := bne_eq_false_iff_eq.mpr c44
               clear c44
               by_cases c45 : 1 < (x7_17.length : Int)
               ·rw [if_pos c45] at H
                have c45b0 : decide (1 < (x7_17.length : Int)) = true := decide_eq_true c45
                have c45b1 : decide (1 < x7_17.length) = true := decide_eq_true (by omega)
                clear c45
                by_cases c46 : x4_1.length < 3518437208883
                ·rw [if_pos c46] at H
                 have LMc46 := Aside0.mk c46
                 clear c46
                 obtain ⟨y222, hy222⟩ : ∃ y_ : List (S26), y_ = (x4_1 ++ [(⟨rdOf ByteArray.empty x7_17 1, x205001_17, x205002_17, t218⟩ : S26)]) := ⟨_, rfl⟩
                 replace H : (clusterlocksref05_Parse.l0 kj17 a0 y222 t197 (wrap64 (x6_1 + 1))) = some (r1, r2) := by first | (rw [hy222]; with_reducible exact H) | (have H2_ := (Option.bind_some _ _).symm.trans H; rw [hy222]; with_reducible exact H2_) | (have H2_ := (Option.bind_some _ _).symm.trans H; with_reducible exact H2_) | with_reducible exact H | (rw [hy222]; exact H) | exact H
                 have Ny222 := Aside0.mk hy222
                 clear hy222
                 have H' := Aside0.mk H
                 clear H
                 obtain ⟨Ao47, co47, eo47⟩ := Kd.R_slice HO_7.out
                 subst eo47
                 have p217 : 0 ≤ (3 : Int) := (by omega)
                 have q217 : 3 < (x7_17.length : Int) := of_decide_eq_true (by first | (with_reducible assumption) | assumption)
                 obtain ⟨ad217, e217, hx217_0⟩ := Kd.at_string (Kd.R_reads' HO_7.out).2.2 3 p217 q217
                 cases e217
                 (try simp only [show (3 : Int).toNat = 3 from rfl, Nat.reduceMul, Nat.reduceEqDiff, Go.Addr.add, ↓reduceIte] at hx217_0)
                 have qi217 : (3 < x7_17.length) = True := eq_true (by omega)
                 (try rw [show ((3 : Int)).toNat = 3 from rfl] at hx217_0)
                 replace p217 := eq_true p217
                 replace q217 := eq_true q217
                 go_wp2_with (first | ((with_reducible refine gate_callee (f := 54) rfl ?_); refine goesL_ (some 78) rfl rfl Tryd.func54 (by kernel_rfl) rfl #[.string (rdOf ByteArray.empty x7_17 3)] rfl (by (try simp only [mA]); first | done | rfl) ?_; (with_reducible refine (clusterlocksref02_Number.calls kj17 (rdOf ByteArray.empty x7_17 3) t218 true _ A41.out).mono ?_); rintro e w' ⟨rfl, ⟨nd, rfl⟩⟩; refine ⟨_, rfl, ?_⟩; (try (rw [drewN_self wc]; generalize hq_ : World.drewN wc _ = wc; have n0_ : Aside0 (Kd.R k26 26 wc w.heap.size (fun k_ => k_ ≠ gb204) u4 x4_1) := ⟨by rw [← hq_]; exact (by (with_reducible repeat (first | apply Kd.R_alloc | apply Kd.R_drewN | apply Kd.R_drew)); exact HO_4.out)⟩; have n1_ : Aside0 (Kd.R Kd.string 9 wc w.heap.size (fun k_ => some k_ ≠ (.slice (some ad217) x7_17.length co47 : Value).ownBlock) (.slice (some ad200) t197.length co10) t197) := ⟨by rw [← hq_]; exact (by (with_reducible repeat (first | apply Kd.R_alloc | apply Kd.R_drewN | apply Kd.R_drew)); exact HO_5.out)⟩; have n2_ : Aside0 (Kd.R Kd.string 9 wc w.heap.size (fun k_ => some k_ ≠ (.slice (some ad200) t197.length co10 : Value).ownBlock) (.slice (some ad217) x7_17.length co47) x7_17) := ⟨by rw [← hq_]; exact (by (with_reducible repeat (first | apply Kd.R_alloc | apply Kd.R_drewN | apply Kd.R_drew)); exact HO_7.out)⟩; have n3_ : Aside0 (wc.heap[gb204]? = some (.cells #[.string (⟨#[]⟩ : ByteArray), .int .i64 x205001_17, .int .i64 x205002_17, .int .i64 0] 26 (0, 0))) := ⟨by rw [← hq_]; exact (uK BK204)⟩; have n4_ : Aside0 (Below w.heap.size w wc) := ⟨by rw [← hq_]; exact (haveI := gI GE204; uS HB)⟩; clear HO_4 HO_5 HO_7 BK204 HB hq_; have HO_4 := n0_; have HO_5 := n1_; have HO_7 := n2_; have BK204 := n3_; have HB := n4_; clear n0_ n1_ n2_ n3_ n4_)); have p220 : 0 ≤ (2 : Int) := (by omega); have q220 : 2 < (x7_17.length : Int) := of_decide_eq_true (by first | (with_reducible assumption) | assumption); obtain ⟨ad220, e220, hx220_0⟩ := Kd.at_string (Kd.R_reads' HO_7.out).2.2 2 p220 q220; obtain rfl : ad217 = ad220 := (by injection e220); (try simp only [show (2 : Int).toNat = 2 from rfl, Nat.reduceMul, Nat.reduceEqDiff, Go.Addr.add, ↓reduceIte] at hx220_0); have qi220 : (2 < x7_17.length) = True := eq_true (by omega); (try rw [show ((2 : Int)).toNat = 2 from rfl] at hx220_0); replace p220 := eq_true p220; replace q220 := eq_true q220; have p221 : 0 ≤ (1 : Int) := (by omega); have q221 : 1 < (x7_17.length : Int) := of_decide_eq_true (by first | (with_reducible assumption) | assumption); obtain ⟨ad221, e221, hx221_0⟩ := Kd.at_string (Kd.R_reads' HO_7.out).2.2 1 p221 q221; obtain rfl : ad217 = ad221 := (by injection e221); (try simp only [show (1 : Int).toNat = 1 from rfl, Nat.reduceMul, Nat.reduceEqDiff, Go.Addr.add, ↓reduceIte] at hx221_0); have qi221 : (1 < x7_17.length) = True := eq_true (by omega); (try rw [show ((1 : Int)).toNat = 1 from rfl] at hx221_0); replace p221 := eq_true p221; replace q221 := eq_true q221; have hcz48_0 : wc.cell? ⟨gb204, 0, none⟩ = some (.string (⟨#[]⟩ : ByteArray)) := bC BK204 0 rfl; have hcz48_1 : wc.cell? ⟨gb204, 1, none⟩ = some (.int .i64 x205001_17) := bC BK204 1 rfl; have hcz48_2 : wc.cell? ⟨gb204, 2, none⟩ = some (.int .i64 x205002_17) := bC BK204 2 rfl; have hcz48_3 : wc.cell? ⟨gb204, 3, none⟩ = some (.int .i64 0) := bC BK204 3 rfl; have hfz48_0 := bF BK204 0; have hfz48_1 := bF BK204 1; have hfz48_2 := bF BK204 2; have hfz48_3 := bF BK204 3) | ((with_reducible refine gate_builtin (b := .append) (xs := #[.tmp 95, .tmp 97]) rfl ?_); at_builtin; refine Kd.R_append k26 (w0 := w) w.heap.size rfl (.tmp 95) (.tmp 97) 24 26 (.agg #[(.string ⟨#[]⟩), (.int .i64 0), (.int .i64 0), (.int .i64 0)]) 40 rfl Tryd.underlying24 info26 rfl (by decide) (by omega) u4 x4_1 (⟨rdOf ByteArray.empty x7_17 1, x205001_17, x205002_17, t218⟩ : S26) [.string (rdOf ByteArray.empty x7_17 1), .int .i64 x205001_17, .int .i64 x205002_17, .int .i64 t218] (fun k_ => k_ ≠ gb204) (fun _ => False) rfl (by first | (go_simp; done) | (go_simp; rfl)) ?aP (fun _ hk => hk.elim) ?aF ?aO ?aB ?aS ?aL ?_; (case aP => exact k26_mkM _ _ _ (⟨rdOf ByteArray.empty x7_17 1, x205001_17, x205002_17, t218⟩ : S26)); (case aB => exact (haveI := gI GE204; uS HB)); (case aF => exact (fun k_ hk => Kd.freshB (g := gb204) (o := .cells #[.string (rdOf ByteArray.empty x7_17 1), .int .i64 x205001_17, .int .i64 x205002_17, .int .i64 t218] 26 (0, 0)) (by (with_reducible repeat first | refine bN ?_ _ | refine bD ?_ | refine bA ?_ _); refine blk_put (cs := #[.string (rdOf ByteArray.empty x7_17 1), .int .i64 x205001_17, .int .i64 x205002_17, .int .i64 0]) ?_ 3 _ rfl; (with_reducible repeat first | refine bN ?_ _ | refine bD ?_ | refine bA ?_ _); refine blk_put (cs := #[.string (⟨#[]⟩ : ByteArray), .int .i64 x205001_17, .int .i64 x205002_17, .int .i64 0]) ?_ 0 _ rfl; (with_reducible repeat first | refine bN ?_ _ | refine bD ?_ | refine bA ?_ _); exact BK204.out) k_ hk)); (case aO => exact (by (with_reducible repeat (first | apply Kd.R_alloc | apply Kd.R_drewN | apply Kd.R_drew)); exact Kd.R_mono (Kd.R_far (p := ⟨gb204, 3, none⟩) (Kd.R_far (p := ⟨gb204, 0, none⟩) (Kd.R_mono HO_4.out (fun k_ hk => (⟨hk, hk⟩ : _ ∧ k_ ≠ gb204))) (fun _ hk => hk.2) (.string (rdOf ByteArray.empty x7_17 1))) (fun _ hk => hk.2) (.int .i64 t218)) (fun _ hk => hk.1))); (case aS => exact (below_size (haveI := gI GE204; uS HB))); (case aL => have := LMc46.out; omega); intro v223 w49 ho hb hg hat; rw [← Ny222.out] at ho; replace HO_5 := Aside0.mk (Kd.R_over' (by (with_reducible repeat (first | apply Kd.R_alloc | apply Kd.R_drewN | apply Kd.R_drew)); exact (Kd.R_mono (Kd.R_far (p := ⟨gb204, 3, none⟩) (Kd.R_far (p := ⟨gb204, 0, none⟩) (Kd.R_types HO_5.out BK204.out (by decide)) (fun _ hk => hk.2) (.string (rdOf ByteArray.empty x7_17 1))) (fun _ hk => hk.2) (.int .i64 t218)) (fun _ h_ => h_.1))) (Kd.R_typed (by (with_reducible repeat (first | apply Kd.R_alloc | apply Kd.R_drewN | apply Kd.R_drew)); exact (Kd.R_mono (Kd.R_far (p := ⟨gb204, 3, none⟩) (Kd.R_far (p := ⟨gb204, 0, none⟩) (Kd.R_mono HO_4.out (fun k_ hk => (⟨hk, hk⟩ : _ ∧ k_ ≠ gb204))) (fun _ hk => hk.2) (.string (rdOf ByteArray.empty x7_17 1))) (fun _ hk => hk.2) (.int .i64 t218)) (fun _ h_ => h_.1)))) (by decide) hg); replace HO_7 := Aside0.mk (Kd.R_over' (by (with_reducible repeat (first | apply Kd.R_alloc | apply Kd.R_drewN | apply Kd.R_drew)); exact (Kd.R_mono (Kd.R_far (p := ⟨gb204, 3, none⟩) (Kd.R_far (p := ⟨gb204, 0, none⟩) (Kd.R_types HO_7.out BK204.out (by decide)) (fun _ hk => hk.2) (.string (rdOf ByteArray.empty x7_17 1))) (fun _ hk => hk.2) (.int .i64 t218)) (fun _ h_ => h_.1))) (Kd.R_typed (by (with_reducible repeat (first | apply Kd.R_alloc | apply Kd.R_drewN | apply Kd.R_drew)); exact (Kd.R_mono (Kd.R_far (p := ⟨gb204, 3, none⟩) (Kd.R_far (p := ⟨gb204, 0, none⟩) (Kd.R_mono HO_4.out (fun k_ hk => (⟨hk, hk⟩ : _ ∧ k_ ≠ gb204))) (fun _ hk => hk.2) (.string (rdOf ByteArray.empty x7_17 1))) (fun _ hk => hk.2) (.int .i64 t218)) (fun _ h_ => h_.1)))) (by decide) hg); replace BK204 := Aside0.mk (blk_grown (g := gb204) (o := .cells #[.string (rdOf ByteArray.empty x7_17 1), .int .i64 x205001_17, .int .i64 x205002_17, .int .i64 t218] 26 (0, 0)) (by (with_reducible repeat first | refine bN ?_ _ | refine bD ?_ | refine bA ?_ _); refine blk_put (cs := #[.string (rdOf ByteArray.empty x7_17 1), .int .i64 x205001_17, .int .i64 x205002_17, .int .i64 0]) ?_ 3 _ rfl; (with_reducible repeat first | refine bN ?_ _ | refine bD ?_ | refine bA ?_ _); refine blk_put (cs := #[.string (⟨#[]⟩ : ByteArray), .int .i64 x205001_17, .int .i64 x205002_17, .int .i64 0]) ?_ 0 _ rfl; (with_reducible repeat first | refine bN ?_ _ | refine bD ?_ | refine bA ?_ _); exact BK204.out) hg (Kd.R_away HO_4.out (fun _ hk => hk))); replace HB := Aside0.mk (hb); have HO224 := Aside0.mk (ho); clear HO_4; clear ho hb hg hat))
                 go_roundg kj17
                 case measure => have := HK1.out; have := HJ8.out; have := HJ17.out; omega
                 case rel => exact ⟨(y222), (wrap64 (x6_1 + 1)), (by first | rfl | (simp; done) | (simp [*]; done)), H', ⟨by have := HK1.out; have := HJ8.out; have := HJ17.out; omega⟩, ⟨by (with_reducible repeat (first | apply Kd.R_alloc | apply Kd.R_drewN | apply Kd.R_drew)); exact Kd.R_mono HO224.out (fun _ hk => trivial)⟩, ⟨by (with_reducible repeat (first | apply Kd.R_alloc | apply Kd.R_drewN | apply Kd.R_drew)); exact Kd.R_mono HO_5.out (fun _ hk => trivial)⟩, ⟨(haveI := gI GE204; uS HB)⟩⟩
                ·rw [if_neg c46] at H
                 exact absurd H (by simp)
               ·rw [if_neg c45] at H
                exact absurd H (by simp)
              ·rw [if_neg c44] at H
               have c44b0 : ((rdOf ByteArray.empty x7_17 2).toList == ([97, 116] : List UInt8)) = false := beq_eq_false_iff_ne.mpr c44
               have c44b1 : ((rdOf ByteArray.empty x7_17 2).toList != ([97, 116] : List UInt8)) = true := bne_iff_ne.mpr c44
               simp only [Option.some.injEq, Prod.mk.injEq] at H
               obtain ⟨rfl, rfl⟩ := H
               obtain ⟨Ao50, co50, eo50⟩ := Kd.R_slice HO_7.out
               subst eo50
               have p217 : 0 ≤ (3 : Int) := (by omega)
               have q217 : 3 < (x7_17.length : Int) := of_decide_eq_true (by first | (with_reducible assumption) | assumption)
               obtain ⟨ad217, e217, hx217_0⟩ := Kd.at_string (Kd.R_reads' HO_7.out).2.2 3 p217 q217
               cases e217
               (try simp only [show (3 : Int).toNat = 3 from rfl, Nat.reduceMul, Nat.reduceEqDiff, Go.Addr.add, ↓reduceIte] at hx217_0)
               have qi217 : (3 < x7_17.length) = True := eq_true (by omega)
               (try rw [show ((3 : Int)).toNat = 3 from rfl] at hx217_0)
               replace p217 := eq_true p217
               replace q217 := eq_true q217
               go_wp2_with (first | ((with_reducible refine gate_callee (f := 54) rfl ?_); refine goesL_ (some 78) rfl rfl Tryd.func54 (by kernel_rfl) rfl #[.string (rdOf ByteArray.empty x7_17 3)] rfl (by (try simp only [mA]); first | done | rfl) ?_; (with_reducible refine (clusterlocksref02_Number.calls kj17 (rdOf ByteArray.empty x7_17 3) t218 true _ A41.out).mono ?_); rintro e w' ⟨rfl, ⟨nd, rfl⟩⟩; refine ⟨_, rfl, ?_⟩; have p220 : 0 ≤ (2 : Int) := (by omega); have q220 : 2 < (x7_17.length : Int) := of_decide_eq_true (by first | (with_reducible assumption) | assumption); obtain ⟨ad220, e220, hx220_0⟩ := Kd.at_string (Kd.R_reads' HO_7.out).2.2 2 p220 q220; obtain rfl : ad217 = ad220 := (by injection e220); (try simp only [show (2 : Int).toNat = 2 from rfl, Nat.reduceMul, Nat.reduceEqDiff, Go.Addr.add, ↓reduceIte] at hx220_0); have qi220 : (2 < x7_17.length) = True := eq_true (by omega); (try rw [show ((2 : Int)).toNat = 2 from rfl] at hx220_0); replace p220 := eq_true p220; replace q220 := eq_true q220))
               go_ret2
               exact ⟨_, by first | rfl | (simp [errW_none, errW_some] <;> rfl) | (simp [*, errW_none, errW_some] <;> rfl), by first | exact Kd.R_nil _ _ _ _ _ | exact Kd.N_nil _ _ _ _ _ | exact Kd.V_nil _ _ _ _ _ | exact Kd.Q_nil _ _ _ _ _ | exact Kd.S_nil _ _ _ _ _, (haveI := gI GE204; uS HB)⟩
             ·rw [if_neg c43] at H
              exact absurd H (by simp)
            ·replace c42 := Bool.eq_false_iff.mpr c42
             subst c42
             have H1 : (some (([] : List (S26)), 6)) = some (r1, r2) := by rw [if_neg (show ¬ (false = true) by decide)] at H; exact H
             clear H
             have H := H1
             clear H1
             simp only [Option.some.injEq, Prod.mk.injEq] at H
             obtain ⟨rfl, rfl⟩ := H
             obtain ⟨Ao51, co51, eo51⟩ := Kd.R_slice HO_7.out
             subst eo51
             have p217 : 0 ≤ (3 : Int) := (by omega)
             have q217 : 3 < (x7_17.length : Int) := of_decide_eq_true (by first | (with_reducible assumption) | assumption)
             obtain ⟨ad217, e217, hx217_0⟩ := Kd.at_string (Kd.R_reads' HO_7.out).2.2 3 p217 q217
             cases e217
             (try simp only [show (3 : Int).toNat = 3 from rfl, Nat.reduceMul, Nat.reduceEqDiff, Go.Addr.add, ↓reduceIte] at hx217_0)
             have qi217 : (3 < x7_17.length) = True := eq_true (by omega)
             (try rw [show ((3 : Int)).toNat = 3 from rfl] at hx217_0)
             replace p217 := eq_true p217
             replace q217 := eq_true q217
             go_wp2_with (first | ((with_reducible refine gate_callee (f := 54) rfl ?_); refine goesL_ (some 78) rfl rfl Tryd.func54 (by kernel_rfl) rfl #[.string (rdOf ByteArray.empty x7_17 3)] rfl (by (try simp only [mA]); first | done | rfl) ?_; (with_reducible refine (clusterlocksref02_Number.calls kj17 (rdOf ByteArray.empty x7_17 3) t218 false _ A41.out).mono ?_); rintro e w' ⟨rfl, ⟨nd, rfl⟩⟩; refine ⟨_, rfl, ?_⟩))
             go_ret2
             exact ⟨_, by first | rfl | (simp [errW_none, errW_some] <;> rfl) | (simp [*, errW_none, errW_some] <;> rfl), by first | exact Kd.R_nil _ _ _ _ _ | exact Kd.N_nil _ _ _ _ _ | exact Kd.V_nil _ _ _ _ _ | exact Kd.Q_nil _ _ _ _ _ | exact Kd.S_nil _ _ _ _ _, (haveI := gI GE204; uS HB)⟩
           ·rw [if_neg c40] at H
            exact absurd H (by simp)
      ·rw [if_neg c7] at H
       exact absurd H (by simp)
     ·rw [if_neg c6] at H
      exact absurd H (by simp)
    ·rw [if_neg c5] at H
     have c5b0 : decide ((wrap64 (x6_1 + 1)) < (t197.length : Int)) = false := decide_eq_false c5
     clear c5
     obtain ⟨t225, A520, H⟩ := Option.bind_eq_some_iff.mp H
     have A52 := Aside0.mk A520; clear A520
     have HH_ := Aside0.mk H
     clear H
     obtain ⟨Ao56, co56, eo56⟩ := Kd.R_slice HO_5.out
     subst eo56
     obtain ⟨Ao57, co57, eo57⟩ := Kd.R_slice HO_4.out
     subst eo57
     have H := HH_.out
     clear HH_
     by_cases c53 : t225 = true
     ·subst c53
      have H1 : ((clusterlocksref05_Format.f k1 x4_1).bind fun t226 => (if t226.toList = a0.toList then (some (x4_1, 0)) else (some (([] : List (S26)), 6)))) = some (r1, r2) := by rw [if_pos rfl] at H; exact H
      clear H
      have H := H1
      clear H1
      obtain ⟨t226, A540, H⟩ := Option.bind_eq_some_iff.mp H
      have A54 := Aside0.mk A540; clear A540
      by_cases c55 : t226.toList = a0.toList
      ·rw [if_pos c55] at H
       have c55b0 : (t226.toList == a0.toList) = true := beq_iff_eq.mpr c55
       have c55b1 : (t226.toList != a0.toList) = false := bne_eq_false_iff_eq.mpr c55
       clear c55
       simp only [Option.some.injEq, Prod.mk.injEq] at H
       obtain ⟨rfl, rfl⟩ := H
       (try simp only [c55b0, c55b1])
       go_wp2_with (first | ((with_reducible refine gate_callee (f := 21) rfl ?_); refine goesL_ (some 100) rfl rfl Tryd.func21 (by kernel_rfl) rfl #[.slice Ao57 x4_1.length co57] rfl (by (try simp only [mA]); first | done | rfl) ?_; (with_reducible refine (clusterlocksref05_Valid.calls k1 _ _ x4_1 true _ ?side1 ?side2 A52.out).mono ?_); (case side1 => repeat (first | exact (Kd.R_reads' HO_4.out).2.2 | (with_reducible refine Kd.C_alloc ?_ _) | (with_reducible refine Kd.C_drewN ?_ _) | (with_reducible refine Kd.C_drew ?_))); (case side2 => exact (Kd.R_reads' HO_4.out).2.1); rintro e w58 ⟨rfl, hb⟩; refine ⟨_, rfl, ?_⟩; replace HO_4 := Aside0.mk (Kd.R_below (by (with_reducible repeat (first | apply Kd.R_alloc | apply Kd.R_drewN | apply Kd.R_drew)); exact HO_4.out) hb); replace HO_5 := Aside0.mk (Kd.R_below (by (with_reducible repeat (first | apply Kd.R_alloc | apply Kd.R_drewN | apply Kd.R_drew)); exact HO_5.out) hb); replace HB := bB HB hb; (try clear hb); (try clear hk)) | (go_at_call 34; (with_reducible refine (clusterlocksref05_Format.calls k1 _ _ x4_1 t226 _ ?side1 ?side2 A54.out).mono ?_); (case side1 => repeat (first | exact (Kd.R_reads' HO_4.out).2.2 | (with_reducible refine Kd.C_alloc ?_ _) | (with_reducible refine Kd.C_drewN ?_ _) | (with_reducible refine Kd.C_drew ?_))); (case side2 => exact (Kd.R_reads' HO_4.out).2.1); rintro e w59 ⟨rfl, hb⟩; replace HO_4 := Aside0.mk (Kd.R_below (by (with_reducible repeat (first | apply Kd.R_alloc | apply Kd.R_drewN | apply Kd.R_drew)); exact HO_4.out) hb); replace HO_5 := Aside0.mk (Kd.R_below (by (with_reducible repeat (first | apply Kd.R_alloc | apply Kd.R_drewN | apply Kd.R_drew)); exact HO_5.out) hb); replace HB := bB HB hb; (try clear hb); (try clear hk)))
       go_ret2
       exact ⟨_, by first | rfl | (simp [errW_none, errW_some] <;> rfl) | (simp [*, errW_none, errW_some] <;> rfl), by (with_reducible repeat (first | apply Kd.R_alloc | apply Kd.R_drewN | apply Kd.R_drew)); exact HO_4.out, (uS HB)⟩
      ·rw [if_neg c55] at H
       have c55b0 : (t226.toList == a0.toList) = false := beq_eq_false_iff_ne.mpr c55
       have c55b1 : (t226.toList != a0.toList) = true := bne_iff_ne.mpr c55
       simp only [Option.some.injEq, Prod.mk.injEq] at H
       obtain ⟨rfl, rfl⟩ := H
       (try simp only [c55b0, c55b1])
       go_wp2_with (first | ((with_reducible refine gate_callee (f := 21) rfl ?_); refine goesL_ (some 100) rfl rfl Tryd.func21 (by kernel_rfl) rfl #[.slice Ao57 x4_1.length co57] rfl (by (try simp only [mA]); first | done | rfl) ?_; (with_reducible refine (clusterlocksref05_Valid.calls k1 _ _ x4_1 true _ ?side1 ?side2 A52.out).mono ?_); (case side1 => repeat (first | exact (Kd.R_reads' HO_4.out).2.2 | (with_reducible refine Kd.C_alloc ?_ _) | (with_reducible refine Kd.C_drewN ?_ _) | (with_reducible refine Kd.C_drew ?_))); (case side2 => exact (Kd.R_reads' HO_4.out).2.1); rintro e w58 ⟨rfl, hb⟩; refine ⟨_, rfl, ?_⟩; replace HO_4 := Aside0.mk (Kd.R_below (by (with_reducible repeat (first | apply Kd.R_alloc | apply Kd.R_drewN | apply Kd.R_drew)); exact HO_4.out) hb); replace HO_5 := Aside0.mk (Kd.R_below (by (with_reducible repeat (first | apply Kd.R_alloc | apply Kd.R_drewN | apply Kd.R_drew)); exact HO_5.out) hb); replace HB := bB HB hb; (try clear hb); (try clear hk)) | (go_at_call 34; (with_reducible refine (clusterlocksref05_Format.calls k1 _ _ x4_1 t226 _ ?side1 ?side2 A54.out).mono ?_); (case side1 => repeat (first | exact (Kd.R_reads' HO_4.out).2.2 | (with_reducible refine Kd.C_alloc ?_ _) | (with_reducible refine Kd.C_drewN ?_ _) | (with_reducible refine Kd.C_drew ?_))); (case side2 => exact (Kd.R_reads' HO_4.out).2.1); rintro e w59 ⟨rfl, hb⟩; replace HO_4 := Aside0.mk (Kd.R_below (by (with_reducible repeat (first | apply Kd.R_alloc | apply Kd.R_drewN | apply Kd.R_drew)); exact HO_4.out) hb); replace HO_5 := Aside0.mk (Kd.R_below (by (with_reducible repeat (first | apply Kd.R_alloc | apply Kd.R_drewN | apply Kd.R_drew)); exact HO_5.out) hb); replace HB := bB HB hb; (try clear hb); (try clear hk)))
       go_ret2
       exact ⟨_, by first | rfl | (simp [errW_none, errW_some] <;> rfl) | (simp [*, errW_none, errW_some] <;> rfl), by first | exact Kd.R_nil _ _ _ _ _ | exact Kd.N_nil _ _ _ _ _ | exact Kd.V_nil _ _ _ _ _ | exact Kd.Q_nil _ _ _ _ _ | exact Kd.S_nil _ _ _ _ _, (uS HB)⟩
     ·replace c53 := Bool.eq_false_iff.mpr c53
      subst c53
      have H1 : (some (([] : List (S26)), 6)) = some (r1, r2) := by rw [if_neg (show ¬ (false = true) by decide)] at H; exact H
      clear H
      have H := H1
      clear H1
      simp only [Option.some.injEq, Prod.mk.injEq] at H
      obtain ⟨rfl, rfl⟩ := H
      go_wp2_with (first | ((with_reducible refine gate_callee (f := 21) rfl ?_); refine goesL_ (some 100) rfl rfl Tryd.func21 (by kernel_rfl) rfl #[.slice Ao57 x4_1.length co57] rfl (by (try simp only [mA]); first | done | rfl) ?_; (with_reducible refine (clusterlocksref05_Valid.calls k1 _ _ x4_1 false _ ?side1 ?side2 A52.out).mono ?_); (case side1 => repeat (first | exact (Kd.R_reads' HO_4.out).2.2 | (with_reducible refine Kd.C_alloc ?_ _) | (with_reducible refine Kd.C_drewN ?_ _) | (with_reducible refine Kd.C_drew ?_))); (case side2 => exact (Kd.R_reads' HO_4.out).2.1); rintro e w66 ⟨rfl, hb⟩; refine ⟨_, rfl, ?_⟩; replace HO_4 := Aside0.mk (Kd.R_below (by (with_reducible repeat (first | apply Kd.R_alloc | apply Kd.R_drewN | apply Kd.R_drew)); exact HO_4.out) hb); replace HO_5 := Aside0.mk (Kd.R_below (by (with_reducible repeat (first | apply Kd.R_alloc | apply Kd.R_drewN | apply Kd.R_drew)); exact HO_5.out) hb); replace HB := bB HB hb; (try clear hb); (try clear hk)))
      go_ret2
      exact ⟨_, by first | rfl | (simp [errW_none, errW_some] <;> rfl) | (simp [*, errW_none, errW_some] <;> rfl), by first | exact Kd.R_nil _ _ _ _ _ | exact Kd.N_nil _ _ _ _ _ | exact Kd.V_nil _ _ _ _ _ | exact Kd.Q_nil _ _ _ _ _ | exact Kd.S_nil _ _ _ _ _, (uS HB)⟩
end Go.Proofs.YtbiapfjhdggkpaaDoor.PA
