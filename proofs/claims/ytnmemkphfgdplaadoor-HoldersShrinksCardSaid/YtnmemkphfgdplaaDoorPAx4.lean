-- Printed by wip/tool/myprint.py for this claim; Lean checks it.
import Derived.Test.YtnmemkphfgdplaaDoorT1
import Derived.Test.YtnmemkphfgdplaaDoorPAx0
import Derived.Test.YtnmemkphfgdplaaDoorSlim
import Derived.Test.YtnmemkphfgdplaaDoorPAx1
namespace Go.Proofs.YtnmemkphfgdplaaDoor.PA
open Go.RowKit Go.Proofs.YtnmemkphfgdplaaDoorW.PrintWords Go.Proofs.YtnmemkphfgdplaaDoorW.PrintLast Go.Proofs.YtnmemkphfgdplaaDoorW.PrintMore
attribute [local go_sem] max2_int min2_int max_two min_two max_three min_three max_four min_four   -- for this text's walks alone
set_option linter.unusedVariables false
set_option linter.unusedSimpArgs false

attribute [local go_sem high] eqA24 eqA26
/-! ### amount_Zero: function 32 -/
def amount_Zero.f (a0_0 : Int) (a0_1 : Int) : Option (Bool) := some (a0_0 == 0 && (a0_1 == 0))
set_option maxHeartbeats 8000000 in
set_option maxRecDepth 100000 in
theorem amount_Zero.calls (a0_0 : Int) (a0_1 : Int) (r : Bool) (w : World) (h : amount_Zero.f a0_0 a0_1 = some r) :
  Calls Tryd.prog 32 #[.agg #[.int .i64 a0_0, .int .i64 a0_1]] w fun e w' => e = .returned (.bool r) ∧ Below w.heap.size w w' := by
 have hu26 := Tryd.underlying26
 have HB := Aside0.mk (Below.refl w.heap.size w)
 have H : (some (a0_0 == 0 && (a0_1 == 0))) = some r := h
 clear h
 obtain rfl := Option.some.inj H
 go_enter Tryd.func32, Tryd.ntmps32
 go_wp2_with (first | ((with_reducible refine gate_dst (N := 1) rfl ?_); refine box_event ?hg (N := 1) ?hd (cs := #[.int .i64 a0_0, .int .i64 a0_1]) (t := 26) ?hr ?_; (case hd => rfl); (case hg => rfl); (case hr => first | (go_simp; done) | (go_simp; rfl)); intro gb101 hg w2 hbox hb; have BK101 := Aside0.mk hbox; have GW101 := gE HB hg; replace HB := bB HB hb; have GE101 := GW101; clear hb hbox hg; have hcz3_0 : w2.cell? ⟨gb101, 0, none⟩ = some (.int .i64 a0_0) := bC BK101 0 rfl; have hcz3_1 : w2.cell? ⟨gb101, 1, none⟩ = some (.int .i64 a0_1) := bC BK101 1 rfl; have hfz3_0 := bF BK101 0; have hfz3_1 := bF BK101 1))
 go_ret
 exact ⟨by first | rfl | (simp [errW_none, errW_some] <;> rfl) | (simp [*, errW_none, errW_some] <;> rfl), by repeat (first | (with_reducible first | exact HB.out | apply bL | apply bM | apply bR | refine bS ?_ GE101.out) | exact HB.out)⟩

/-! ### holders_place: function 33 -/
-- @import T7
def holders_place.f (l0 : List S53) (a1_0 : Int) (a1_1 : Int) (a1_2 : Int) : Option Int := if l0.length < 1000000 then place_f (l0.length + 2) l0 a1_0 a1_1 a1_2 else none
theorem holders_place.calls (A0 : Option Addr) (c0 : Nat) (l0 : List S53) (a1_0 : Int) (a1_1 : Int) (a1_2 : Int) (r : Int) (w : World) (hr0 : Kd.C k53 w A0 l0.length l0) (hc0 : l0.length ≤ c0) (h : holders_place.f l0 a1_0 a1_1 a1_2 = some r) :
  Calls Tryd.prog 33 #[.slice A0 l0.length c0, .agg #[.int .i64 a1_0, .int .i64 a1_1, .int .i64 a1_2]] w fun e w' => e = .returned (.int .i64 r) ∧ Below w.heap.size w w' := by
 unfold holders_place.f at h
 by_cases hl : l0.length < 1000000
 ·rw [if_pos hl] at h
  exact holders_place.callsK _ A0 c0 l0 _ _ _ r w hr0 hl h
 ·rw [if_neg hl] at h
  exact absurd h (by simp)
/-! ### holders_Set: function 13 -/
def holders_Set.l0 : Nat → List (S53) → List (S53) → Int → Int → Int → Int → Int → Int → Int → Option ((List (S53)))
 | 0, _, _, _, _, _, _, _, _, _ => none
 | k + 1, x7, x15, x16, x17, x103000, x103001, x103002, x104000, x104001 => if x17 < x16 then (if 0 ≤ x17 then (if x17 < (x15.length : Int) then (if (!(((rd_T53 x15 x17).f0.f0) == x103000) || (!(((rd_T53 x15 x17).f0.f1) == x103001) || (!(((rd_T53 x15 x17).f0.f2) == x103002)))) = true then (if x7.length < 3518437208883 then (holders_Set.l0 k (x7 ++ [(⟨(⟨(rd_T53 x15 x17).f0.f0, (rd_T53 x15 x17).f0.f1, (rd_T53 x15 x17).f0.f2⟩ : S24), (⟨(rd_T53 x15 x17).f1.f0, (rd_T53 x15 x17).f1.f1⟩ : S26)⟩ : S53)]) x15 x16 (wrap64 (x17 + 1)) x103000 x103001 x103002 x104000 x104001) else (none)) else (holders_Set.l0 k x7 x15 x16 (wrap64 (x17 + 1)) x103000 x103001 x103002 x104000 x104001)) else (none)) else (none)) else ((amount_Zero.f x104000 x104001).bind fun t112 => (if t112 = true then (some x7) else ((holders_place.f x7 x103000 x103001 x103002).bind fun t113 => (if x7.length < 3518437208883 then ((some (x7 ++ [(⟨(⟨0, 0, 0⟩ : S24), (⟨0, 0⟩ : S26)⟩ : S53)] : List (S53))).bind fun y114 => (if 0 ≤ (wrap64 (t113 + 1)) then (if (wrap64 (t113 + 1)) ≤ (y114.length : Int) then (if 0 ≤ t113 then (if t113 ≤ (y114.length : Int) then ((some (y114.take ((t113 : Int).toNat + 1) ++ (y114.drop (t113 : Int).toNat).take (y114.length - ((t113 : Int).toNat + 1)) : List (S53))).bind fun y125 => (if t113 < (y125.length : Int) then (some (y125.set (t113 : Int).toNat (⟨(⟨x103000, x103001, x103002⟩ : S24), (⟨x104000, x104001⟩ : S26)⟩ : S53))) else (none))) else (none)) else (none)) else (none)) else (none))) else (none)))))
def holders_Set.f (k : Nat) (l0 : List (S53)) (a1_0 : Int) (a1_1 : Int) (a1_2 : Int) (a2_0 : Int) (a2_1 : Int) : Option ((List (S53))) := if 0 ≤ (wrap64 ((l0.length : Int) + 1)) then (if (wrap64 ((l0.length : Int) + 1) : Int).toNat ≤ 7036874417766 then (holders_Set.l0 k (([] : List (S53))) l0 (l0.length : Int) 0 a1_0 a1_1 a1_2 a2_0 a2_1) else (none)) else (none)
theorem holders_Set.mono_l : ∀ k, (∀ y0 y1 y2 y3 y4 y5 y6 y7 y8, LeO (holders_Set.l0 k y0 y1 y2 y3 y4 y5 y6 y7 y8) (holders_Set.l0 (k + 1) y0 y1 y2 y3 y4 y5 y6 y7 y8))
 | 0 => fun _ _ _ _ _ _ _ _ _ r h => by simp [holders_Set.l0] at h
 | k + 1 => by
  have ih0 := holders_Set.mono_l k
  ·intro y0 y1 y2 y3 y4 y5 y6 y7 y8
   unfold holders_Set.l0
   repeat' first
   | (with_reducible exact ih0 _ _ _ _ _ _ _ _ _)
   | (with_reducible exact LeO.refl _)
   | (with_reducible exact LeO.none _)
   | (with_reducible refine LeO.ite ?_ ?_)
   | (with_reducible refine LeO.bind ?_ (fun _ => ?_))
   | exact ih0 _ _ _ _ _ _ _ _ _
   | exact LeO.none _
   | refine LeO.ite ?_ ?_
   | refine LeO.bind ?_ (fun _ => ?_)
theorem holders_Set.mono : ∀ a0 a1 a2 a3 a4 a5 k, LeO (holders_Set.f k a0 a1 a2 a3 a4 a5) (holders_Set.f (k + 1) a0 a1 a2 a3 a4 a5) := by
 intro a0 a1 a2 a3 a4 a5 k
 have ih0 := holders_Set.mono_l k
 unfold holders_Set.f
 repeat' first
   | (with_reducible exact ih0 _ _ _ _ _ _ _ _ _)
   | (with_reducible exact LeO.refl _)
   | (with_reducible exact LeO.none _)
   | (with_reducible refine LeO.ite ?_ ?_)
   | (with_reducible refine LeO.bind ?_ (fun _ => ?_))
   | exact ih0 _ _ _ _ _ _ _ _ _
   | exact LeO.none _
   | refine LeO.ite ?_ ?_
   | refine LeO.bind ?_ (fun _ => ?_)
def holders_Set.T12 : Bool × List (List Nat × List Nat) := (true, [([], []), ([], []), ([1], [1]), ([0, 2], [0, 2]), ([], []), ([], []), ([4, 5], [4, 5]), ([3, 6], [3, 6])])
def holders_Set.B12 : List Nat := [0, 0, 2, 7, 0, 0, 48, 127]
theorem holders_Set.tab12 : rtab .any (opsOf Tryd.f13 12) = holders_Set.T12 := by kernel_rfl
theorem holders_Set.bits12 : waitsOk holders_Set.T12.2 holders_Set.B12 = true := by kernel_rfl
set_option maxHeartbeats 8000000 in
set_option maxRecDepth 100000 in
theorem holders_Set.calls (k : Nat) (A0 : Option Addr) (c0 : Nat) (l0 : List (S53)) (a1_0 : Int) (a1_1 : Int) (a1_2 : Int) (a2_0 : Int) (a2_1 : Int) (r : List (S53)) (w : World) (hr0 : Kd.C k53 w A0 l0.length l0) (hc0 : l0.length ≤ c0) (h : holders_Set.f k l0 a1_0 a1_1 a1_2 a2_0 a2_1 = some r) :
  Calls Tryd.prog 13 #[.slice A0 l0.length c0, .agg #[.int .i64 a1_0, .int .i64 a1_1, .int .i64 a1_2], .agg #[.int .i64 a2_0, .int .i64 a2_1]] w fun e w' => ∃ v0_ : Value, e = .returned (v0_) ∧ Kd.R k53 53 w' w.heap.size (fun _ => True) v0_ r ∧ Below w.heap.size w w' := by
 have hu24 := Tryd.underlying24
 have hu26 := Tryd.underlying26
 have hu53 := Tryd.underlying53
 have HR0 := Aside0.mk hr0
 have HC0 := Aside0.mk hc0
 clear hr0 hc0
 have HB := Aside0.mk (Below.refl w.heap.size w)
 have H : (if 0 ≤ (wrap64 ((l0.length : Int) + 1)) then (if (wrap64 ((l0.length : Int) + 1) : Int).toNat ≤ 7036874417766 then (holders_Set.l0 k (([] : List (S53))) l0 (l0.length : Int) 0 a1_0 a1_1 a1_2 a2_0 a2_1) else (none)) else (none)) = some r := h
 clear h
 obtain ⟨ji4, hji4⟩ : ∃ j_ : Int, (wrap64 ((l0.length : Int) + 1)) = j_ := ⟨_, rfl⟩
 replace H : (if 0 ≤ (ji4) then (if (ji4 : Int).toNat ≤ 7036874417766 then (holders_Set.l0 k (([] : List (S53))) l0 (l0.length : Int) 0 a1_0 a1_1 a1_2 a2_0 a2_1) else (none)) else (none)) = some r := by first | (rw [hji4] at H; exact H) | (simp only [hji4] at H ⊢; exact H)
 have hji4w : (IntKind.i64.wrap ((l0.length : Int) + 1)) = ji4 := (i64_w _).trans hji4
 have HH_ := Aside0.mk H
 clear H
 go_enter Tryd.func13, Tryd.ntmps13
 have H := HH_.out
 clear HH_
 by_cases c5 : 0 ≤ (ji4)
 ·rw [if_pos c5] at H
  have c5b0 := eq_true c5
  have c5b1 : decide (0 ≤ (ji4)) = true := decide_eq_true c5
  clear c5
  by_cases c6 : (ji4 : Int).toNat ≤ 7036874417766
  ·rw [if_pos c6] at H
   have c6b0 := eq_true c6
   have c6b1 : decide ((ji4 : Int).toNat ≤ 7036874417766) = true := decide_eq_true c6
   clear c6
   obtain ⟨y104, hy104⟩ : ∃ y_ : List (S53), y_ = (([] : List (S53))) := ⟨_, rfl⟩
   replace H : (holders_Set.l0 k y104 l0 (l0.length : Int) 0 a1_0 a1_1 a1_2 a2_0 a2_1) = some r := by first | (rw [hy104]; with_reducible exact H) | (have H2_ := (Option.bind_some _ _).symm.trans H; rw [hy104]; with_reducible exact H2_) | (have H2_ := (Option.bind_some _ _).symm.trans H; with_reducible exact H2_) | with_reducible exact H | (rw [hy104]; exact H) | exact H
   have Ny104 := Aside0.mk hy104
   clear hy104
   have H' := Aside0.mk H
   clear H
   go_wp2_with (first | ((with_reducible refine gate_dst (N := 4) rfl ?_); refine box_event ?hg (N := 4) ?hd (cs := #[.int .i64 a1_0, .int .i64 a1_1, .int .i64 a1_2]) (t := 24) ?hr ?_; (case hd => rfl); (case hg => rfl); (case hr => first | (go_simp; done) | (go_simp; rfl)); intro gb102 hg w7 hbox hb; have BK102 := Aside0.mk hbox; have GW102 := gE HB hg; replace HB := bB HB hb; have GE102 := GW102; clear hb hbox hg) | ((with_reducible refine gate_dst (N := 5) rfl ?_); refine box_event ?hg (N := 5) ?hd (cs := #[.int .i64 a2_0, .int .i64 a2_1]) (t := 26) ?hr ?_; (case hd => rfl); (case hg => rfl); (case hr => first | (go_simp; done) | (go_simp; rfl)); intro gb103 hg w8 hbox hb; have BK103 := Aside0.mk hbox; have GW103 := Aside0.mk ((by rw [hg]; exact (below_size (by repeat (first | (with_reducible first | exact HB.out | apply bL | apply bM | apply bR | refine bS ?_ GE102.out) | exact HB.out))) : w.heap.size ≤ gb103)); replace HB := Aside0.mk (below_step (by repeat (first | (with_reducible first | exact HB.out | apply bL | apply bM | apply bR | refine bS ?_ GE102.out) | exact HB.out)) hb); have GE103 := GW103; have NB102_103 := gN BK102 hg; replace BK102 := bK BK102 hb; have NB103_102 := Aside0.mk NB102_103.out.symm; clear hb hbox hg) | ((with_reducible refine gate_dst (N := 14) rfl ?_); refine Kd.R_make0 k53 _ 53 rfl (N := 14) rfl 22 _ _ rfl ji4 rfl rfl Tryd.underlying22 (.agg #[(.int .i64 0), (.int .i64 0), (.int .i64 0), (.int .i64 0), (.int .i64 0)]) 40 info53 rfl (by decide) (by omega) z53 (ok := fun _ => True) (okp := fun _ => True) (k53_mkM _ _ _ z53 ) (fun _ hk => hk) trivial (of_decide_eq_true (by first | (with_reducible assumption) | assumption)) (Nat.le_trans (Nat.mul_le_mul_right _ (of_decide_eq_true (by first | (with_reducible assumption) | assumption) : ji4.toNat ≤ 7036874417766)) (by omega)) (Below.refl _ _) (Nat.le_refl _) ?_; intro v105 w9 ho10 hb hg_ hnew_; clear hg_ hnew_; (first | rw [← Ny104.out] at ho10 | (simp only [Int.reduceToNat] at ho10; rw [← Ny104.out] at ho10)); have HO106 := Aside0.mk (Kd.R_lower ho10 (below_size (by repeat (first | (with_reducible first | exact HB.out | apply bL | apply bM | apply bR | refine bS ?_ GE102.out | refine bS ?_ GE103.out) | exact HB.out)))); replace BK102 := bK BK102 hb; replace BK103 := bK BK103 hb; replace HB := Aside0.mk (below_step (by repeat (first | (with_reducible first | exact HB.out | apply bL | apply bM | apply bR | refine bS ?_ GE102.out | refine bS ?_ GE103.out) | exact HB.out)) hb); clear hb ho10))
   go_loopg [7, 17] k (fun kq v7 v17 w' => ∃ (x7_1 : List (S53)) (x17_1 : Int), v17 = .int .i64 x17_1 ∧ Aside0 (holders_Set.l0 kq x7_1 l0 (l0.length : Int) x17_1 a1_0 a1_1 a1_2 a2_0 a2_1 = some r) ∧ Aside0 (kq ≤ k) ∧ Aside0 (Kd.R k53 53 w' w.heap.size (fun _ => True) v7 x7_1) ∧ Aside0 (w'.heap[gb102]? = some (.cells #[.int .i64 a1_0, .int .i64 a1_1, .int .i64 a1_2] 24 (0, 0))) ∧ Aside0 (w'.heap[gb103]? = some (.cells #[.int .i64 a2_0, .int .i64 a2_1] 26 (0, 0))) ∧ Aside0 (Below w.heap.size w w'))
   case atStart => exact ⟨(y104), (0), (by first | rfl | (simp; done) | (simp [*]; done)), H', ⟨Nat.le_refl _⟩, ⟨by (with_reducible repeat (first | apply Kd.R_alloc | apply Kd.R_drewN | apply Kd.R_drew)); exact HO106.out⟩, ⟨by (with_reducible repeat first | refine bN ?_ _ | refine bD ?_ | refine bA ?_ _); exact BK102.out⟩, ⟨by (with_reducible repeat first | refine bN ?_ _ | refine bD ?_ | refine bA ?_ _); exact BK103.out⟩, ⟨by repeat (first | (with_reducible first | exact HB.out | apply bL | apply bM | apply bR | refine bS ?_ GE102.out | refine bS ?_ GE103.out) | exact HB.out)⟩⟩
   case round =>
    clear H'
    try clear c1
    try clear p2
    try clear c5
    try clear c5b0
    try clear c5b1
    try clear c6
    try clear c6b0
    try clear c6b1
    try clear p6
    obtain ⟨x7_1, x17_1, rfl, HA, HK1, HO_7, BK102, BK103, HB⟩ := hrel
    cases gk with
    | zero => exact absurd HA.out (by simp [holders_Set.l0])
    | succ k1 =>
     have H := HA.out
     clear HA
     simp only [holders_Set.l0] at H
     by_cases c11 : x17_1 < (l0.length : Int)
     ·rw [if_pos c11] at H
      have c11b0 : decide (x17_1 < (l0.length : Int)) = true := decide_eq_true c11
      clear c11
      by_cases c12 : 0 ≤ x17_1
      ·rw [if_pos c12] at H
       have c12b0 : decide (0 ≤ x17_1) = true := decide_eq_true c12
       clear c12
       by_cases c13 : x17_1 < (l0.length : Int)
       ·rw [if_pos c13] at H
        have c13b0 : decide (x17_1 < (l0.length : Int)) = true := decide_eq_true c13
        clear c13
        by_cases c14 : (!(((rd_T53 l0 x17_1).f0.f0) == a1_0) || (!(((rd_T53 l0 x17_1).f0.f1) == a1_1) || (!(((rd_T53 l0 x17_1).f0.f2) == a1_2)))) = true
        ·rw [if_pos c14] at H
         have c14b0 : (!(((rd_T53 l0 x17_1).f0.f0) == a1_0) || (!(((rd_T53 l0 x17_1).f0.f1) == a1_1) || (!(((rd_T53 l0 x17_1).f0.f2) == a1_2)))) = true := c14
         clear c14
         by_cases c15 : x7_1.length < 3518437208883
         ·rw [if_pos c15] at H
          have LMc15 := Aside0.mk c15
          clear c15
          obtain ⟨y109, hy109⟩ : ∃ y_ : List (S53), y_ = (x7_1 ++ [(⟨(⟨(rd_T53 l0 x17_1).f0.f0, (rd_T53 l0 x17_1).f0.f1, (rd_T53 l0 x17_1).f0.f2⟩ : S24), (⟨(rd_T53 l0 x17_1).f1.f0, (rd_T53 l0 x17_1).f1.f1⟩ : S26)⟩ : S53)]) := ⟨_, rfl⟩
          replace H : (holders_Set.l0 k1 y109 l0 (l0.length : Int) (wrap64 (x17_1 + 1)) a1_0 a1_1 a1_2 a2_0 a2_1) = some r := by first | (rw [hy109]; with_reducible exact H) | (have H2_ := (Option.bind_some _ _).symm.trans H; rw [hy109]; with_reducible exact H2_) | (have H2_ := (Option.bind_some _ _).symm.trans H; with_reducible exact H2_) | with_reducible exact H | (rw [hy109]; exact H) | exact H
          have Ny109 := Aside0.mk hy109
          clear hy109
          have H' := Aside0.mk H
          clear H
          have p107 : 0 ≤ (x17_1 : Int) := of_decide_eq_true (by first | (with_reducible assumption) | assumption)
          have q107 : x17_1 < (l0.length : Int) := of_decide_eq_true (by first | (with_reducible assumption) | assumption)
          obtain ⟨ad107, e107, hx107_0, hx107_1, hx107_2, hx107_3, hx107_4⟩ := at_T53 HR0.out x17_1 p107 q107
          cases e107
          replace hx107_0 := kC HB hx107_0
          replace hx107_1 := kC HB hx107_1
          replace hx107_2 := kC HB hx107_2
          replace hx107_3 := kC HB hx107_3
          replace hx107_4 := kC HB hx107_4
          replace p107 := eq_true p107
          replace q107 := eq_true q107
          go_wp2_with (first | ((with_reducible refine gate_dst (N := 9) rfl ?_); refine box_event ?hg (N := 9) ?hd (cs := #[.int .i64 0, .int .i64 0, .int .i64 0, .int .i64 0, .int .i64 0]) (t := 53) ?hr ?_; (case hd => rfl); (case hg => rfl); (case hr => first | (go_simp; done) | (go_simp; rfl)); intro gb108 hg w16 hbox hb; replace HO_7 := Aside0.mk (Kd.R_below (Kd.R_elderB (by (with_reducible repeat (first | apply Kd.R_alloc | apply Kd.R_drewN | apply Kd.R_drew)); exact HO_7.out) gb108 (Nat.le_of_eq hg.symm)) hb); have BK108 := Aside0.mk hbox; have GW108 := Aside0.mk ((by rw [hg]; exact (below_size (by repeat (first | (with_reducible first | exact HB.out | apply bL | apply bM | apply bR | refine bS ?_ GE102.out | refine bS ?_ GE103.out) | exact HB.out))) : w.heap.size ≤ gb108)); replace HB := Aside0.mk (below_step (by repeat (first | (with_reducible first | exact HB.out | apply bL | apply bM | apply bR | refine bS ?_ GE102.out | refine bS ?_ GE103.out) | exact HB.out)) hb); have GE108 := GW108; have NB102_108 := gN BK102 hg; replace BK102 := bK BK102 hb; have NB108_102 := Aside0.mk NB102_108.out.symm; have NB103_108 := gN BK103 hg; replace BK103 := bK BK103 hb; have NB108_103 := Aside0.mk NB103_108.out.symm; clear hb hbox hg; have hnb17 := NB108_102.out; have hnc17 := NB102_108.out; have hnb18 := NB108_103.out; have hnc18 := NB103_108.out; obtain ⟨hcz19_0, hcz19_1, hcz19_2, hcz19_3, hcz19_4, hfz19_0, hfz19_1, hfz19_2, hfz19_3, hfz19_4⟩ := d5 BK108; have hnb20 := NB102_103.out; have hnc20 := NB103_102.out; have hcz21_0 : w16.cell? ⟨gb102, 0, none⟩ = some (.int .i64 a1_0) := bC BK102 0 rfl; have hcz21_1 : w16.cell? ⟨gb102, 1, none⟩ = some (.int .i64 a1_1) := bC BK102 1 rfl; have hcz21_2 : w16.cell? ⟨gb102, 2, none⟩ = some (.int .i64 a1_2) := bC BK102 2 rfl; have hfz21_0 := bF BK102 0; have hfz21_1 := bF BK102 1; have hfz21_2 := bF BK102 2) | ((with_reducible refine gate_builtin (b := .append) (xs := #[.tmp 25, .tmp 27]) rfl ?_); at_builtin; refine Kd.R_append k53 (w0 := w) w.heap.size rfl (.tmp 25) (.tmp 27) 22 53 (.agg #[(.int .i64 0), (.int .i64 0), (.int .i64 0), (.int .i64 0), (.int .i64 0)]) 40 rfl Tryd.underlying22 info53 rfl (by decide) (by omega) u7 x7_1 (⟨(⟨(rd_T53 l0 x17_1).f0.f0, (rd_T53 l0 x17_1).f0.f1, (rd_T53 l0 x17_1).f0.f2⟩ : S24), (⟨(rd_T53 l0 x17_1).f1.f0, (rd_T53 l0 x17_1).f1.f1⟩ : S26)⟩ : S53) [.int .i64 ((rd_T53 l0 x17_1).f0.f0), .int .i64 ((rd_T53 l0 x17_1).f0.f1), .int .i64 ((rd_T53 l0 x17_1).f0.f2), .int .i64 ((rd_T53 l0 x17_1).f1.f0), .int .i64 ((rd_T53 l0 x17_1).f1.f1)] (fun k_ => k_ ≠ gb108) (fun _ => False) rfl (by first | (go_simp; done) | (go_simp; rfl)) ?aP (fun _ hk => hk.elim) ?aF ?aO ?aB ?aS ?aL ?_; (case aP => exact k53_mkM _ _ _ (⟨(⟨(rd_T53 l0 x17_1).f0.f0, (rd_T53 l0 x17_1).f0.f1, (rd_T53 l0 x17_1).f0.f2⟩ : S24), (⟨(rd_T53 l0 x17_1).f1.f0, (rd_T53 l0 x17_1).f1.f1⟩ : S26)⟩ : S53)); (case aB => exact (by repeat (first | (with_reducible first | exact HB.out | apply bL | apply bM | apply bR | refine bS ?_ GE102.out | refine bS ?_ GE103.out | refine bS ?_ GE108.out) | exact HB.out))); (case aF => exact (fun k_ hk => Kd.freshB (g := gb108) (o := .cells #[.int .i64 ((rd_T53 l0 x17_1).f0.f0), .int .i64 ((rd_T53 l0 x17_1).f0.f1), .int .i64 ((rd_T53 l0 x17_1).f0.f2), .int .i64 ((rd_T53 l0 x17_1).f1.f0), .int .i64 ((rd_T53 l0 x17_1).f1.f1)] 53 (0, 0)) (by (with_reducible repeat first | refine bN ?_ _ | refine bD ?_ | refine bA ?_ _); refine blk_put (cs := #[.int .i64 ((rd_T53 l0 x17_1).f0.f0), .int .i64 ((rd_T53 l0 x17_1).f0.f1), .int .i64 ((rd_T53 l0 x17_1).f0.f2), .int .i64 ((rd_T53 l0 x17_1).f1.f0), .int .i64 0]) ?_ 4 _ rfl; (with_reducible repeat first | refine bN ?_ _ | refine bD ?_ | refine bA ?_ _); refine blk_put (cs := #[.int .i64 ((rd_T53 l0 x17_1).f0.f0), .int .i64 ((rd_T53 l0 x17_1).f0.f1), .int .i64 ((rd_T53 l0 x17_1).f0.f2), .int .i64 0, .int .i64 0]) ?_ 3 _ rfl; (with_reducible repeat first | refine bN ?_ _ | refine bD ?_ | refine bA ?_ _); refine blk_put (cs := #[.int .i64 ((rd_T53 l0 x17_1).f0.f0), .int .i64 ((rd_T53 l0 x17_1).f0.f1), .int .i64 0, .int .i64 0, .int .i64 0]) ?_ 2 _ rfl; (with_reducible repeat first | refine bN ?_ _ | refine bD ?_ | refine bA ?_ _); refine blk_put (cs := #[.int .i64 ((rd_T53 l0 x17_1).f0.f0), .int .i64 0, .int .i64 0, .int .i64 0, .int .i64 0]) ?_ 1 _ rfl; (with_reducible repeat first | refine bN ?_ _ | refine bD ?_ | refine bA ?_ _); refine blk_put (cs := #[.int .i64 0, .int .i64 0, .int .i64 0, .int .i64 0, .int .i64 0]) ?_ 0 _ rfl; (with_reducible repeat first | refine bN ?_ _ | refine bD ?_ | refine bA ?_ _); exact BK108.out) k_ hk)); (case aO => exact (by (with_reducible repeat (first | apply Kd.R_alloc | apply Kd.R_drewN | apply Kd.R_drew)); exact Kd.R_mono (Kd.R_far (p := ⟨gb108, 4, none⟩) (Kd.R_far (p := ⟨gb108, 3, none⟩) (Kd.R_far (p := ⟨gb108, 2, none⟩) (Kd.R_far (p := ⟨gb108, 1, none⟩) (Kd.R_far (p := ⟨gb108, 0, none⟩) (Kd.R_mono HO_7.out (fun k_ hk => (⟨hk, hk.2⟩ : _ ∧ k_ ≠ gb108))) (fun _ hk => hk.2) (.int .i64 ((rd_T53 l0 x17_1).f0.f0))) (fun _ hk => hk.2) (.int .i64 ((rd_T53 l0 x17_1).f0.f1))) (fun _ hk => hk.2) (.int .i64 ((rd_T53 l0 x17_1).f0.f2))) (fun _ hk => hk.2) (.int .i64 ((rd_T53 l0 x17_1).f1.f0))) (fun _ hk => hk.2) (.int .i64 ((rd_T53 l0 x17_1).f1.f1))) (fun _ hk => hk.1.2))); (case aS => exact (below_size (by repeat (first | (with_reducible first | exact HB.out | apply bL | apply bM | apply bR | refine bS ?_ GE102.out | refine bS ?_ GE103.out | refine bS ?_ GE108.out) | exact HB.out)))); (case aL => have := LMc15.out; omega); intro v110 w22 ho hb hg hat; rw [← Ny109.out] at ho; replace BK102 := Aside0.mk (blk_grown (g := gb102) (o := .cells #[.int .i64 a1_0, .int .i64 a1_1, .int .i64 a1_2] 24 (0, 0)) (by (with_reducible repeat first | refine bN ?_ _ | refine bD ?_ | refine bA ?_ _); refine blk_far ?_ NB102_108.out _; (with_reducible repeat first | refine bN ?_ _ | refine bD ?_ | refine bA ?_ _); refine blk_far ?_ NB102_108.out _; (with_reducible repeat first | refine bN ?_ _ | refine bD ?_ | refine bA ?_ _); refine blk_far ?_ NB102_108.out _; (with_reducible repeat first | refine bN ?_ _ | refine bD ?_ | refine bA ?_ _); refine blk_far ?_ NB102_108.out _; (with_reducible repeat first | refine bN ?_ _ | refine bD ?_ | refine bA ?_ _); refine blk_far ?_ NB102_108.out _; (with_reducible repeat first | refine bN ?_ _ | refine bD ?_ | refine bA ?_ _); exact BK102.out) hg (Kd.R_ne HO_7.out BK102.out (by decide))); replace BK103 := Aside0.mk (blk_grown (g := gb103) (o := .cells #[.int .i64 a2_0, .int .i64 a2_1] 26 (0, 0)) (by (with_reducible repeat first | refine bN ?_ _ | refine bD ?_ | refine bA ?_ _); refine blk_far ?_ NB103_108.out _; (with_reducible repeat first | refine bN ?_ _ | refine bD ?_ | refine bA ?_ _); refine blk_far ?_ NB103_108.out _; (with_reducible repeat first | refine bN ?_ _ | refine bD ?_ | refine bA ?_ _); refine blk_far ?_ NB103_108.out _; (with_reducible repeat first | refine bN ?_ _ | refine bD ?_ | refine bA ?_ _); refine blk_far ?_ NB103_108.out _; (with_reducible repeat first | refine bN ?_ _ | refine bD ?_ | refine bA ?_ _); refine blk_far ?_ NB103_108.out _; (with_reducible repeat first | refine bN ?_ _ | refine bD ?_ | refine bA ?_ _); exact BK103.out) hg (Kd.R_ne HO_7.out BK103.out (by decide))); replace BK108 := Aside0.mk (blk_grown (g := gb108) (o := .cells #[.int .i64 ((rd_T53 l0 x17_1).f0.f0), .int .i64 ((rd_T53 l0 x17_1).f0.f1), .int .i64 ((rd_T53 l0 x17_1).f0.f2), .int .i64 ((rd_T53 l0 x17_1).f1.f0), .int .i64 ((rd_T53 l0 x17_1).f1.f1)] 53 (0, 0)) (by (with_reducible repeat first | refine bN ?_ _ | refine bD ?_ | refine bA ?_ _); refine blk_put (cs := #[.int .i64 ((rd_T53 l0 x17_1).f0.f0), .int .i64 ((rd_T53 l0 x17_1).f0.f1), .int .i64 ((rd_T53 l0 x17_1).f0.f2), .int .i64 ((rd_T53 l0 x17_1).f1.f0), .int .i64 0]) ?_ 4 _ rfl; (with_reducible repeat first | refine bN ?_ _ | refine bD ?_ | refine bA ?_ _); refine blk_put (cs := #[.int .i64 ((rd_T53 l0 x17_1).f0.f0), .int .i64 ((rd_T53 l0 x17_1).f0.f1), .int .i64 ((rd_T53 l0 x17_1).f0.f2), .int .i64 0, .int .i64 0]) ?_ 3 _ rfl; (with_reducible repeat first | refine bN ?_ _ | refine bD ?_ | refine bA ?_ _); refine blk_put (cs := #[.int .i64 ((rd_T53 l0 x17_1).f0.f0), .int .i64 ((rd_T53 l0 x17_1).f0.f1), .int .i64 0, .int .i64 0, .int .i64 0]) ?_ 2 _ rfl; (with_reducible repeat first | refine bN ?_ _ | refine bD ?_ | refine bA ?_ _); refine blk_put (cs := #[.int .i64 ((rd_T53 l0 x17_1).f0.f0), .int .i64 0, .int .i64 0, .int .i64 0, .int .i64 0]) ?_ 1 _ rfl; (with_reducible repeat first | refine bN ?_ _ | refine bD ?_ | refine bA ?_ _); refine blk_put (cs := #[.int .i64 0, .int .i64 0, .int .i64 0, .int .i64 0, .int .i64 0]) ?_ 0 _ rfl; (with_reducible repeat first | refine bN ?_ _ | refine bD ?_ | refine bA ?_ _); exact BK108.out) hg (Kd.R_away HO_7.out (fun _ hk => hk.2))); replace HB := Aside0.mk (hb); have HO111 := Aside0.mk (ho); clear HO_7; clear ho hb hg hat))
          go_roundg k1
          case measure => have := HK1.out; omega
          case rel => exact ⟨(y109), (wrap64 (x17_1 + 1)), (by first | rfl | (simp; done) | (simp [*]; done)), H', ⟨by have := HK1.out; omega⟩, ⟨by (with_reducible repeat (first | apply Kd.R_alloc | apply Kd.R_drewN | apply Kd.R_drew)); exact Kd.R_mono HO111.out (fun _ hk => trivial)⟩, ⟨by (with_reducible repeat first | refine bN ?_ _ | refine bD ?_ | refine bA ?_ _); exact BK102.out⟩, ⟨by (with_reducible repeat first | refine bN ?_ _ | refine bD ?_ | refine bA ?_ _); exact BK103.out⟩, ⟨by repeat (first | (with_reducible first | exact HB.out | apply bL | apply bM | apply bR | refine bS ?_ GE102.out | refine bS ?_ GE103.out | refine bS ?_ GE108.out) | exact HB.out)⟩⟩
         ·rw [if_neg c15] at H
          exact absurd H (by simp)
        ·rw [if_neg c14] at H
         have c14b0 : (!(((rd_T53 l0 x17_1).f0.f0) == a1_0) || (!(((rd_T53 l0 x17_1).f0.f1) == a1_1) || (!(((rd_T53 l0 x17_1).f0.f2) == a1_2)))) = false := by simpa using c14
         clear c14
         have H' := Aside0.mk H
         clear H
         have p107 : 0 ≤ (x17_1 : Int) := of_decide_eq_true (by first | (with_reducible assumption) | assumption)
         have q107 : x17_1 < (l0.length : Int) := of_decide_eq_true (by first | (with_reducible assumption) | assumption)
         obtain ⟨ad107, e107, hx107_0, hx107_1, hx107_2, hx107_3, hx107_4⟩ := at_T53 HR0.out x17_1 p107 q107
         cases e107
         replace hx107_0 := kC HB hx107_0
         replace hx107_1 := kC HB hx107_1
         replace hx107_2 := kC HB hx107_2
         replace hx107_3 := kC HB hx107_3
         replace hx107_4 := kC HB hx107_4
         replace p107 := eq_true p107
         replace q107 := eq_true q107
         go_wp2_with (first | ((with_reducible refine gate_dst (N := 9) rfl ?_); refine box_event ?hg (N := 9) ?hd (cs := #[.int .i64 0, .int .i64 0, .int .i64 0, .int .i64 0, .int .i64 0]) (t := 53) ?hr ?_; (case hd => rfl); (case hg => rfl); (case hr => first | (go_simp; done) | (go_simp; rfl)); intro gb108 hg w23 hbox hb; replace HO_7 := Aside0.mk (Kd.R_below (Kd.R_elderB (by (with_reducible repeat (first | apply Kd.R_alloc | apply Kd.R_drewN | apply Kd.R_drew)); exact HO_7.out) gb108 (Nat.le_of_eq hg.symm)) hb); have BK108 := Aside0.mk hbox; have GW108 := Aside0.mk ((by rw [hg]; exact (below_size (by repeat (first | (with_reducible first | exact HB.out | apply bL | apply bM | apply bR | refine bS ?_ GE102.out | refine bS ?_ GE103.out) | exact HB.out))) : w.heap.size ≤ gb108)); replace HB := Aside0.mk (below_step (by repeat (first | (with_reducible first | exact HB.out | apply bL | apply bM | apply bR | refine bS ?_ GE102.out | refine bS ?_ GE103.out) | exact HB.out)) hb); have GE108 := GW108; have NB102_108 := gN BK102 hg; replace BK102 := bK BK102 hb; have NB108_102 := Aside0.mk NB102_108.out.symm; have NB103_108 := gN BK103 hg; replace BK103 := bK BK103 hb; have NB108_103 := Aside0.mk NB103_108.out.symm; clear hb hbox hg; have hnb24 := NB108_102.out; have hnc24 := NB102_108.out; have hnb25 := NB108_103.out; have hnc25 := NB103_108.out; obtain ⟨hcz26_0, hcz26_1, hcz26_2, hcz26_3, hcz26_4, hfz26_0, hfz26_1, hfz26_2, hfz26_3, hfz26_4⟩ := d5 BK108; have hnb27 := NB102_103.out; have hnc27 := NB103_102.out; have hcz28_0 : w23.cell? ⟨gb102, 0, none⟩ = some (.int .i64 a1_0) := bC BK102 0 rfl; have hcz28_1 : w23.cell? ⟨gb102, 1, none⟩ = some (.int .i64 a1_1) := bC BK102 1 rfl; have hcz28_2 : w23.cell? ⟨gb102, 2, none⟩ = some (.int .i64 a1_2) := bC BK102 2 rfl; have hfz28_0 := bF BK102 0; have hfz28_1 := bF BK102 1; have hfz28_2 := bF BK102 2))
         go_roundg k1
         case measure => have := HK1.out; omega
         case rel => exact ⟨(x7_1), (wrap64 (x17_1 + 1)), (by first | rfl | (simp; done) | (simp [*]; done)), H', ⟨by have := HK1.out; omega⟩, ⟨by (with_reducible repeat (first | apply Kd.R_alloc | apply Kd.R_drewN | apply Kd.R_drew)); exact Kd.R_mono (Kd.R_far (p := ⟨gb108, 4, none⟩) (Kd.R_far (p := ⟨gb108, 3, none⟩) (Kd.R_far (p := ⟨gb108, 2, none⟩) (Kd.R_far (p := ⟨gb108, 1, none⟩) (Kd.R_far (p := ⟨gb108, 0, none⟩) (Kd.R_mono HO_7.out (fun k_ hk => (⟨hk, hk.2⟩ : _ ∧ k_ ≠ gb108))) (fun _ hk => hk.2) (.int .i64 ((rd_T53 l0 x17_1).f0.f0))) (fun _ hk => hk.2) (.int .i64 ((rd_T53 l0 x17_1).f0.f1))) (fun _ hk => hk.2) (.int .i64 ((rd_T53 l0 x17_1).f0.f2))) (fun _ hk => hk.2) (.int .i64 ((rd_T53 l0 x17_1).f1.f0))) (fun _ hk => hk.2) (.int .i64 ((rd_T53 l0 x17_1).f1.f1))) (fun _ hk => trivial)⟩, ⟨by (with_reducible repeat first | refine bN ?_ _ | refine bD ?_ | refine bA ?_ _); refine blk_far ?_ NB102_108.out _; (with_reducible repeat first | refine bN ?_ _ | refine bD ?_ | refine bA ?_ _); refine blk_far ?_ NB102_108.out _; (with_reducible repeat first | refine bN ?_ _ | refine bD ?_ | refine bA ?_ _); refine blk_far ?_ NB102_108.out _; (with_reducible repeat first | refine bN ?_ _ | refine bD ?_ | refine bA ?_ _); refine blk_far ?_ NB102_108.out _; (with_reducible repeat first | refine bN ?_ _ | refine bD ?_ | refine bA ?_ _); refine blk_far ?_ NB102_108.out _; (with_reducible repeat first | refine bN ?_ _ | refine bD ?_ | refine bA ?_ _); exact BK102.out⟩, ⟨by (with_reducible repeat first | refine bN ?_ _ | refine bD ?_ | refine bA ?_ _); refine blk_far ?_ NB103_108.out _; (with_reducible repeat first | refine bN ?_ _ | refine bD ?_ | refine bA ?_ _); refine blk_far ?_ NB103_108.out _; (with_reducible repeat first | refine bN ?_ _ | refine bD ?_ | refine bA ?_ _); refine blk_far ?_ NB103_108.out _; (with_reducible repeat first | refine bN ?_ _ | refine bD ?_ | refine bA ?_ _); refine blk_far ?_ NB103_108.out _; (with_reducible repeat first | refine bN ?_ _ | refine bD ?_ | refine bA ?_ _); refine blk_far ?_ NB103_108.out _; (with_reducible repeat first | refine bN ?_ _ | refine bD ?_ | refine bA ?_ _); exact BK103.out⟩, ⟨by repeat (first | (with_reducible first | exact HB.out | apply bL | apply bM | apply bR | refine bS ?_ GE102.out | refine bS ?_ GE103.out | refine bS ?_ GE108.out) | exact HB.out)⟩⟩
       ·rw [if_neg c13] at H
        exact absurd H (by simp)
      ·rw [if_neg c12] at H
       exact absurd H (by simp)
     ·rw [if_neg c11] at H
      have c11b0 : decide (x17_1 < (l0.length : Int)) = false := decide_eq_false c11
      clear c11
      obtain ⟨t112, A290, H⟩ := Option.bind_eq_some_iff.mp H
      have A29 := Aside0.mk A290; clear A290
      by_cases c30 : t112 = true
      ·subst c30
       rw [if_pos rfl] at H
       obtain rfl := Option.some.inj H
       have hnb31 := NB103_102.out
       have hnc31 := NB102_103.out
       obtain ⟨hcz32_0, hcz32_1, hfz32_0, hfz32_1⟩ := d2 BK103
       go_wp2_with (first | ((with_reducible refine gate_callee (f := 32) rfl ?_); refine goesL_ (some 31) rfl rfl Tryd.func32 (by kernel_rfl) rfl #[.agg #[.int .i64 a2_0, .int .i64 a2_1]] rfl (by (try simp only [mA]); first | done | rfl) ?_; (with_reducible refine (amount_Zero.calls a2_0 a2_1 true _ A29.out).mono ?_); rintro e w33 ⟨rfl, hb⟩; refine ⟨_, rfl, ?_⟩; replace HO_7 := Aside0.mk (Kd.R_below (by (with_reducible repeat (first | apply Kd.R_alloc | apply Kd.R_drewN | apply Kd.R_drew)); exact HO_7.out) hb); replace BK102 := bK BK102 hb; replace BK103 := bK BK103 hb; replace HB := Aside0.mk (below_step (by repeat (first | (with_reducible first | exact HB.out | apply bL | apply bM | apply bR | refine bS ?_ GE102.out | refine bS ?_ GE103.out) | exact HB.out)) hb); (try clear hb); (try clear hk)))
       go_ret
       exact ⟨_, by first | rfl | (simp [errW_none, errW_some] <;> rfl) | (simp only [← hji4]; first | rfl | (simp [errW_none, errW_some] <;> rfl)) | (simp [*, errW_none, errW_some] <;> rfl), by (with_reducible repeat (first | apply Kd.R_alloc | apply Kd.R_drewN | apply Kd.R_drew)); exact HO_7.out, by repeat (first | (with_reducible first | exact HB.out | apply bL | apply bM | apply bR | refine bS ?_ GE102.out | refine bS ?_ GE103.out) | exact HB.out)⟩
      ·replace c30 := Bool.eq_false_iff.mpr c30
       subst c30
       rw [if_neg (show ¬ (false = true) by decide)] at H
       obtain ⟨t113, A340, H⟩ := Option.bind_eq_some_iff.mp H
       have A34 := Aside0.mk A340; clear A340
       by_cases c35 : x7_1.length < 3518437208883
       ·rw [if_pos c35] at H
        have LMc35 := Aside0.mk c35
        clear c35
        obtain ⟨y114, hy114⟩ : ∃ y_ : List (S53), y_ = (x7_1 ++ [(⟨(⟨0, 0, 0⟩ : S24), (⟨0, 0⟩ : S26)⟩ : S53)]) := ⟨_, rfl⟩
        replace H : (if 0 ≤ (wrap64 (t113 + 1)) then (if (wrap64 (t113 + 1)) ≤ (y114.length : Int) then (if 0 ≤ t113 then (if t113 ≤ (y114.length : Int) then ((some (y114.take ((t113 : Int).toNat + 1) ++ (y114.drop (t113 : Int).toNat).take (y114.length - ((t113 : Int).toNat + 1)) : List (S53))).bind fun y125 => (if t113 < (y125.length : Int) then (some (y125.set (t113 : Int).toNat (⟨(⟨a1_0, a1_1, a1_2⟩ : S24), (⟨a2_0, a2_1⟩ : S26)⟩ : S53))) else (none))) else (none)) else (none)) else (none)) else (none)) = some r := by first | (rw [hy114]; with_reducible exact H) | (have H2_ := (Option.bind_some _ _).symm.trans H; rw [hy114]; with_reducible exact H2_) | (have H2_ := (Option.bind_some _ _).symm.trans H; with_reducible exact H2_) | with_reducible exact H | (rw [hy114]; exact H) | exact H
        have Ny114 := Aside0.mk hy114
        clear hy114
        obtain ⟨ji36, hji36⟩ : ∃ j_ : Int, (wrap64 (t113 + 1)) = j_ := ⟨_, rfl⟩
        replace H : (if 0 ≤ (ji36) then (if (ji36) ≤ (y114.length : Int) then (if 0 ≤ t113 then (if t113 ≤ (y114.length : Int) then ((some (y114.take ((t113 : Int).toNat + 1) ++ (y114.drop (t113 : Int).toNat).take (y114.length - ((t113 : Int).toNat + 1)) : List (S53))).bind fun y125 => (if t113 < (y125.length : Int) then (some (y125.set (t113 : Int).toNat (⟨(⟨a1_0, a1_1, a1_2⟩ : S24), (⟨a2_0, a2_1⟩ : S26)⟩ : S53))) else (none))) else (none)) else (none)) else (none)) else (none)) = some r := by first | (rw [hji36] at H; exact H) | (simp only [hji36] at H ⊢; exact H)
        (try rw [hji36] at A29)
        (try rw [hji36] at A34)
        have hji36w : (IntKind.i64.wrap (t113 + 1)) = ji36 := (i64_w _).trans hji36
        have HH_ := Aside0.mk H
        clear H
        have hnb43 := NB103_102.out
        have hnc43 := NB102_103.out
        obtain ⟨hcz44_0, hcz44_1, hfz44_0, hfz44_1⟩ := d2 BK103
        have H := HH_.out
        clear HH_
        by_cases c37 : 0 ≤ (ji36)
        ·rw [if_pos c37] at H
         have c37b0 := eq_true c37
         have c37b1 : decide (0 ≤ (ji36)) = true := decide_eq_true c37
         clear c37
         by_cases c38 : (ji36) ≤ (y114.length : Int)
         ·rw [if_pos c38] at H
          have c38b0 := eq_true c38
          have c38b1 : decide ((ji36) ≤ (y114.length : Int)) = true := decide_eq_true c38
          clear c38
          obtain ⟨y117, hy117⟩ : ∃ y_ : List (S53), y_ = (y114.drop ((ji36) : Int).toNat) := ⟨_, rfl⟩
          replace H : (if 0 ≤ t113 then (if t113 ≤ (y114.length : Int) then ((some (y114.take ((t113 : Int).toNat + 1) ++ (y114.drop (t113 : Int).toNat).take (y114.length - ((t113 : Int).toNat + 1)) : List (S53))).bind fun y125 => (if t113 < (y125.length : Int) then (some (y125.set (t113 : Int).toNat (⟨(⟨a1_0, a1_1, a1_2⟩ : S24), (⟨a2_0, a2_1⟩ : S26)⟩ : S53))) else (none))) else (none)) else (none)) = some r := by first | (rw [hy117]; with_reducible exact H) | (have H2_ := (Option.bind_some _ _).symm.trans H; rw [hy117]; with_reducible exact H2_) | (have H2_ := (Option.bind_some _ _).symm.trans H; with_reducible exact H2_) | with_reducible exact H | (rw [hy117]; exact H) | exact H
          have Ny117 := Aside0.mk hy117
          clear hy117
          by_cases c39 : 0 ≤ t113
          ·rw [if_pos c39] at H
           have c39b0 := eq_true c39
           have c39b1 : decide (0 ≤ t113) = true := decide_eq_true c39
           clear c39
           by_cases c40 : t113 ≤ (y114.length : Int)
           ·rw [if_pos c40] at H
            have c40b0 := eq_true c40
            have c40b1 : decide (t113 ≤ (y114.length : Int)) = true := decide_eq_true c40
            clear c40
            obtain ⟨y121, hy121⟩ : ∃ y_ : List (S53), y_ = (y114.drop (t113 : Int).toNat) := ⟨_, rfl⟩
            replace H : ((some (y114.take ((t113 : Int).toNat + 1) ++ (y114.drop (t113 : Int).toNat).take (y114.length - ((t113 : Int).toNat + 1)) : List (S53))).bind fun y125 => (if t113 < (y125.length : Int) then (some (y125.set (t113 : Int).toNat (⟨(⟨a1_0, a1_1, a1_2⟩ : S24), (⟨a2_0, a2_1⟩ : S26)⟩ : S53))) else (none))) = some r := by first | (rw [hy121]; with_reducible exact H) | (have H2_ := (Option.bind_some _ _).symm.trans H; rw [hy121]; with_reducible exact H2_) | (have H2_ := (Option.bind_some _ _).symm.trans H; with_reducible exact H2_) | with_reducible exact H | (rw [hy121]; exact H) | exact H
            have Ny121 := Aside0.mk hy121
            clear hy121
            obtain ⟨y125, hy125⟩ : ∃ y_ : List (S53), y_ = (y114.take ((t113 : Int).toNat + 1) ++ (y114.drop (t113 : Int).toNat).take (y114.length - ((t113 : Int).toNat + 1))) := ⟨_, rfl⟩
            replace H : (if t113 < (y125.length : Int) then (some (y125.set (t113 : Int).toNat (⟨(⟨a1_0, a1_1, a1_2⟩ : S24), (⟨a2_0, a2_1⟩ : S26)⟩ : S53))) else (none)) = some r := by first | (rw [hy125]; with_reducible exact H) | (have H2_ := (Option.bind_some _ _).symm.trans H; rw [hy125]; with_reducible exact H2_) | (have H2_ := (Option.bind_some _ _).symm.trans H; with_reducible exact H2_) | with_reducible exact H | (rw [hy125]; exact H) | exact H
            have Ny125 := Aside0.mk hy125
            clear hy125
            by_cases c41 : t113 < (y125.length : Int)
            ·rw [if_pos c41] at H
             have c41b0 : decide (t113 < (y125.length : Int)) = true := decide_eq_true c41
             clear c41
             obtain ⟨y128, hy128⟩ : ∃ y_ : List (S53), y_ = (y125.set (t113 : Int).toNat (⟨(⟨a1_0, a1_1, a1_2⟩ : S24), (⟨a2_0, a2_1⟩ : S26)⟩ : S53)) := ⟨_, rfl⟩
             replace H : (some y128) = some r := by first | (rw [hy128]; with_reducible exact H) | (have H2_ := (Option.bind_some _ _).symm.trans H; rw [hy128]; with_reducible exact H2_) | (have H2_ := (Option.bind_some _ _).symm.trans H; with_reducible exact H2_) | with_reducible exact H | (rw [hy128]; exact H) | exact H
             have Ny128 := Aside0.mk hy128
             clear hy128
             obtain rfl := Option.some.inj H
             try go_wp2_with (first | ((with_reducible refine gate_callee (f := 32) rfl ?_); refine goesL_ (some 31) rfl rfl Tryd.func32 (by kernel_rfl) rfl #[.agg #[.int .i64 a2_0, .int .i64 a2_1]] rfl (by (try simp only [mA]); first | done | rfl) ?_; (with_reducible refine (amount_Zero.calls a2_0 a2_1 false _ A29.out).mono ?_); rintro e w45 ⟨rfl, hb⟩; refine ⟨_, rfl, ?_⟩; replace HO_7 := Aside0.mk (Kd.R_below (by (with_reducible repeat (first | apply Kd.R_alloc | apply Kd.R_drewN | apply Kd.R_drew)); exact HO_7.out) hb); replace BK102 := bK BK102 hb; replace BK103 := bK BK103 hb; replace HB := Aside0.mk (below_step (by repeat (first | (with_reducible first | exact HB.out | apply bL | apply bM | apply bR | refine bS ?_ GE102.out | refine bS ?_ GE103.out) | exact HB.out)) hb); (try clear hb); (try clear hk); obtain ⟨hcz46_0, hcz46_1, hcz46_2, hfz46_0, hfz46_1, hfz46_2⟩ := d3 BK102; obtain ⟨Ao47, co47, eo47⟩ := Kd.R_slice HO_7.out; subst eo47) | ((with_reducible refine gate_callee (f := 33) rfl ?_); refine goesL_ (some 35) rfl rfl Tryd.func33 (by kernel_rfl) rfl #[.slice Ao47 x7_1.length co47, .agg #[.int .i64 a1_0, .int .i64 a1_1, .int .i64 a1_2]] rfl (by (try simp only [mA]); first | done | rfl) ?_; (with_reducible refine (holders_place.calls _ _ x7_1 a1_0 a1_1 a1_2 t113 _ ?side1 ?side2 A34.out).mono ?_); (case side1 => repeat (first | exact (Kd.R_reads' HO_7.out).2.2 | (with_reducible refine Kd.C_alloc ?_ _) | (with_reducible refine Kd.C_drewN ?_ _) | (with_reducible refine Kd.C_drew ?_))); (case side2 => exact (Kd.R_reads' HO_7.out).2.1); rintro e w48 ⟨rfl, hb⟩; refine ⟨_, rfl, ?_⟩; replace HO_7 := Aside0.mk (Kd.R_below (by (with_reducible repeat (first | apply Kd.R_alloc | apply Kd.R_drewN | apply Kd.R_drew)); exact HO_7.out) hb); replace BK102 := bK BK102 hb; replace BK103 := bK BK103 hb; replace HB := Aside0.mk (below_step (by repeat (first | (with_reducible first | exact HB.out | apply bL | apply bM | apply bR | refine bS ?_ GE102.out | refine bS ?_ GE103.out) | exact HB.out)) hb); (try clear hb); (try clear hk)) | ((with_reducible refine gate_builtin (b := .append) (xs := #[.tmp 36, .tmp 38]) rfl ?_); at_builtin; refine Kd.R_append k53 (w0 := w) w.heap.size rfl (.tmp 36) (.tmp 38) 22 53 (.agg #[(.int .i64 0), (.int .i64 0), (.int .i64 0), (.int .i64 0), (.int .i64 0)]) 40 rfl Tryd.underlying22 info53 rfl (by decide) (by omega) (.slice Ao47 x7_1.length co47) x7_1 (⟨(⟨0, 0, 0⟩ : S24), (⟨0, 0⟩ : S26)⟩ : S53) [.int .i64 0, .int .i64 0, .int .i64 0, .int .i64 0, .int .i64 0] (fun _ => True) (fun _ => False) rfl rfl ?aP (fun _ hk => hk.elim) ?aF ?aO ?aB ?aS ?aL ?_; (case aP => exact k53_mkM _ _ _ (⟨(⟨0, 0, 0⟩ : S24), (⟨0, 0⟩ : S26)⟩ : S53)); (case aB => exact (by repeat (first | (with_reducible first | exact HB.out | apply bL | apply bM | apply bR | refine bS ?_ GE102.out | refine bS ?_ GE103.out) | exact HB.out))); (case aF => exact (fun _ _ => trivial)); (case aO => exact (by (with_reducible repeat (first | apply Kd.R_alloc | apply Kd.R_drewN | apply Kd.R_drew)); exact HO_7.out)); (case aS => exact (below_size (by repeat (first | (with_reducible first | exact HB.out | apply bL | apply bM | apply bR | refine bS ?_ GE102.out | refine bS ?_ GE103.out) | exact HB.out)))); (case aL => have := LMc35.out; omega); intro v115 w49 ho hb hg hat; rw [← Ny114.out] at ho; replace BK102 := Aside0.mk (blk_grown (g := gb102) (o := .cells #[.int .i64 a1_0, .int .i64 a1_1, .int .i64 a1_2] 24 (0, 0)) (uK BK102) hg (Kd.R_ne HO_7.out BK102.out (by decide))); replace BK103 := Aside0.mk (blk_grown (g := gb103) (o := .cells #[.int .i64 a2_0, .int .i64 a2_1] 26 (0, 0)) (uK BK103) hg (Kd.R_ne HO_7.out BK103.out (by decide))); replace HB := Aside0.mk (hb); have HO116 := Aside0.mk (ho); clear HO_7; clear ho hb hg hat))
             replace HO116 := Aside0.mk (Kd.R_drew HO116.out)
             replace BK102 := Aside0.mk (blk_drew BK102.out)
             replace BK103 := Aside0.mk (blk_drew BK103.out)
             replace HB := Aside0.mk (below_drew1 HB.out)
             obtain ⟨Ao52, co52, eo52⟩ := Kd.R_slice HO116.out
             (first | subst eo52 | (injection eo52 with f1_ f2_ f3_; have f4_ := f1_.symm; have f5_ := f3_.symm; clear f1_ f2_ f3_; subst f4_; subst f5_))
             have q51 : ((ji36) : Int) ≤ ((y114.length : Int) : Int) := of_decide_eq_true (by first | (with_reducible assumption) | assumption)
             obtain ⟨i051, hi051, _, hsz51, _⟩ := info_parts info53
             have hroom51 : y114.length ≤ co52 := (Kd.R_reads' HO116.out).2.1
             have hC51 : Kd.C k53 _ Ao52 y114.length y114 := (Kd.R_reads' HO116.out).2.2
             have q051 : (0 : Int) ≤ ((ji36) : Int) := of_decide_eq_true (by first | (with_reducible assumption) | assumption)
             have hcut51 := cut_from (P := Tryd.prog) 22 53 .i64 Tryd.underlying22 hi051 5 hsz51 Ao52 y114.length co52 (ji36) q051 q51
             have hr51 := Kd.C_drop (m := ((ji36) : Int).toNat) (c := co52) hC51 (by omega) hroom51
             obtain ⟨A51, hA51⟩ : ∃ A1_, A1_ = (if co52 = ((ji36) : Int).toNat then Ao52 else (Ao52 : Option Addr).map (·.add (((ji36) : Int).toNat * 5))) := ⟨_, rfl⟩
             obtain ⟨c51, hc51⟩ : ∃ c1_, c1_ = co52 - ((ji36) : Int).toNat := ⟨_, rfl⟩
             have hy51 : y117.length = y114.length - ((ji36) : Int).toNat := (by rw [Ny117.out, List.length_drop] <;> omega)
             rw [show (y114).drop ((ji36) : Int).toNat = y117 from Ny117.out.symm] at hr51
             replace hr51 : Kd.C k53 _ A51 y117.length y117 := (by rw [hA51]; exact hr51)
             rw [← hy51, ← hA51, ← hc51] at hcut51
             have HR120 := Aside0.mk hr51
             have HC120 := Aside0.mk (show y117.length ≤ c51 from by rw [hy51, hc51]; exact Nat.sub_le_sub_right hroom51 _)
             clear hr51 hC51 hroom51 hi051 hsz51 hc51
             have KY51 := Aside0.mk hy51
             have KA51 := Aside0.mk hA51
             clear hy51 hA51
             have KL51 := Aside0.mk (show ((ji36) : Int).toNat ≤ y114.length from by omega)
             replace q51 := eq_true q51
             have q53 : (t113 : Int) ≤ ((y114.length : Int) : Int) := of_decide_eq_true (by first | (with_reducible assumption) | assumption)
             obtain ⟨i053, hi053, _, hsz53, _⟩ := info_parts info53
             have hroom53 : y114.length ≤ co52 := (Kd.R_reads' HO116.out).2.1
             have hC53 : Kd.C k53 _ Ao52 y114.length y114 := (Kd.R_reads' HO116.out).2.2
             have q053 : (0 : Int) ≤ (t113 : Int) := of_decide_eq_true (by first | (with_reducible assumption) | assumption)
             have hcut53 := cut_from (P := Tryd.prog) 22 53 .i64 Tryd.underlying22 hi053 5 hsz53 Ao52 y114.length co52 t113 q053 q53
             have hr53 := Kd.C_drop (m := (t113 : Int).toNat) (c := co52) hC53 (by omega) hroom53
             obtain ⟨A53, hA53⟩ : ∃ A1_, A1_ = (if co52 = (t113 : Int).toNat then Ao52 else (Ao52 : Option Addr).map (·.add ((t113 : Int).toNat * 5))) := ⟨_, rfl⟩
             obtain ⟨c53, hc53⟩ : ∃ c1_, c1_ = co52 - (t113 : Int).toNat := ⟨_, rfl⟩
             have hy53 : y121.length = y114.length - (t113 : Int).toNat := (by rw [Ny121.out, List.length_drop] <;> omega)
             rw [show (y114).drop (t113 : Int).toNat = y121 from Ny121.out.symm] at hr53
             replace hr53 : Kd.C k53 _ A53 y121.length y121 := (by rw [hA53]; exact hr53)
             rw [← hy53, ← hA53, ← hc53] at hcut53
             have HR124 := Aside0.mk hr53
             have HC124 := Aside0.mk (show y121.length ≤ c53 from by rw [hy53, hc53]; exact Nat.sub_le_sub_right hroom53 _)
             clear hr53 hC53 hroom53 hi053 hsz53 hc53
             have KY53 := Aside0.mk hy53
             have KA53 := Aside0.mk hA53
             clear hy53 hA53
             have KL53 := Aside0.mk (show (t113 : Int).toNat ≤ y114.length from by omega)
             replace q53 := eq_true q53
             obtain ⟨go55, co55, eo55, gb55, gl55, cl55, HG55⟩ := Kd.R_form HO116.out (by have hj_ : 0 ≤ (t113 : Int) := of_decide_eq_true (by first | (with_reducible assumption) | assumption); have hl_ : (ji36 : Int) ≤ (y114.length : Int) := of_decide_eq_true (by first | (with_reducible assumption) | assumption); have hh_ : (t113 : Int) ≤ (y114.length : Int) := of_decide_eq_true (by first | (with_reducible assumption) | assumption); rw [← hji36] at hl_; unfold wrap64 at hl_; omega)
             (first | cases eo55 | (injection eo55 with ea_ en_ ec_; (first | subst ea_ | (injection ea_ with ea_; subst ea_)); subst ec_; clear en_))
             have GB55 := Aside0.mk gb55
             have GG55 := Aside0.mk HG55
             clear gb55 gl55 HG55
             refine start_ (n := 8) (S := fun w' => True) (ds := []) #[F,F,F,F,F,F,F,F] (by kernel_rfl) rfl rfl trivial (fun hHeld => ?_); refine with_tabW holders_Set.tab12 holders_Set.bits12 (fun HT_ HW_ => ?_)
             generalize w49.drew = w50 at HO116 BK102 BK103 HB GG55 HR120 HR124 hHeld ⊢
             refine pu HT_ 0 40 #[T,F,F,F,F,F,F,F] rfl rfl (by kernel_rfl) (fun _ _ _ => id) (.inl ⟨by rfl, by intro w'; go_simp; with_reducible rfl⟩) (by simp only [sP]; rfl) ?_
             refine pu HT_ 1 41 #[T,T,F,F,F,F,F,F] rfl rfl (by kernel_rfl) (fun _ _ _ => id) (.inl ⟨by rfl, by intro w'; go_simp; with_reducible rfl⟩) (by simp only [sP]; rfl) ?_
             refine pu HT_ 2 42 #[T,T,T,F,F,F,F,F] rfl rfl (by kernel_rfl) (fun _ _ _ => id) (.inl ⟨by rfl, by intro w'; go_simp; with_reducible rfl⟩) (by simp only [sP]; rfl) ?_
             refine pu HT_ 3 43 #[T,T,T,T,F,F,F,F] rfl rfl (by kernel_rfl) (fun _ _ _ => id) (.inl ⟨by rfl, by intro w'; go_simp; with_reducible rfl⟩) (by simp only [sP]; rfl) ?_
             refine pu HT_ 4 44 #[T,T,T,T,T,F,F,F] rfl rfl (by kernel_rfl) (fun _ _ _ => id) (.inl ⟨by rfl, by intro w'; go_simp; with_reducible rfl⟩) (by simp only [sP]; rfl) ?_
             refine pu HT_ 5 45 #[T,T,T,T,T,T,F,F] rfl rfl (by kernel_rfl) (fun _ _ _ => id) (.inl ⟨by rfl, by intro w'; go_simp; with_reducible rfl⟩) (by simp only [sP]; rfl) ?_
             refine pu HT_ 6 46 #[T,T,T,T,T,T,T,F] rfl rfl (by kernel_rfl) (fun _ _ _ => id) (.inl ⟨by rfl, by intro w'; go_simp; with_reducible rfl⟩) (by simp only [sP]; rfl) ?_
             refine one_ (i := 7) (N := some 47) #[T,T,T,T,T,T,T,T] rfl rfl (one_of HT_.out (by kernel_rfl)) (by decide) (fun K hK => ?_)
             have hj_ : 0 ≤ (t113 : Int) := of_decide_eq_true (by first | (with_reducible assumption) | assumption)
             have hl_ : (ji36 : Int) ≤ (y114.length : Int) := of_decide_eq_true (by first | (with_reducible assumption) | assumption)
             have hh_ : (t113 : Int) ≤ (y114.length : Int) := of_decide_eq_true (by first | (with_reducible assumption) | assumption)
             have hb_ := (Kd.R_reads' HO116.out).2.2.2.1
             have h0_ : (0 : Int) ≤ (ji36 : Int) := of_decide_eq_true (by first | (with_reducible assumption) | assumption)
             have hk_ : (ji36 : Int).toNat = (t113 : Int).toNat + 1 := (by have hw_ : (ji36 : Int) = t113 + 1 := (by have h00_ := h0_; rw [← hji36] at h00_ ⊢; (try simp only [i64_w] at h00_ ⊢); unfold wrap64 at h00_ ⊢; omega); rw [hw_]; omega)
             refine Kd.R_shift_step k53 (w0 := w) w.heap.size (by rfl) (.tmp 43) (.tmp 46) 22 53 rfl Tryd.underlying22 (by kernel_rfl) (g := go55) (n := y114.length) (c := co52) (k := (t113 : Int).toNat) rfl rfl ?hA ?hB ?hm ?hm2 (by (with_reducible repeat (first | apply Kd.R_alloc | apply Kd.R_drewN | apply Kd.R_drew)); exact HO116.out) ?hk (by repeat (first | (with_reducible first | exact HB.out | apply bL | apply bM | apply bR | refine bS ?_ GE102.out | refine bS ?_ GE103.out) | exact HB.out)) (below_size (by repeat (first | (with_reducible first | exact HB.out | apply bL | apply bM | apply bR | refine bS ?_ GE102.out | refine bS ?_ GE103.out) | exact HB.out))) ?_
             (case hA => have ha_ := KA51.out; rw [hk_] at ha_; exact ha_)
             (case hB => exact KA53.out)
             (case hm => have ha_ := KY51.out; omega)
             (case hm2 => exact KY53.out)
             (case hk => omega)
             intro w54 ho hb hg
             clear hj_ hl_ hh_ hb_ hk_ h0_
             rw [← Ny125.out] at ho
             have hn_ : y114.length = y125.length := (by have := (Kd.R_reads' ho).1; omega)
             rw [hn_] at ho ⊢
             clear hn_
             replace BK102 := Aside0.mk (blk_grown (g := gb102) (o := .cells #[.int .i64 a1_0, .int .i64 a1_1, .int .i64 a1_2] 24 (0, 0)) (uK BK102) hg (Kd.R_ne HO116.out BK102.out (by decide)))
             replace BK103 := Aside0.mk (blk_grown (g := gb103) (o := .cells #[.int .i64 a2_0, .int .i64 a2_1] 26 (0, 0)) (uK BK103) hg (Kd.R_ne HO116.out BK103.out (by decide)))
             replace HO116 := Aside0.mk (ho)
             replace HB := Aside0.mk (hb)
             clear ho hb hg
             refine hK.out _ _ trivial (fun hHeld => ?_)
             clear hK K
             refine norm_ (a' := ?_) ?_ ?_
             rotate_left
             ·show Act.put _ (some 47) _ = _
              simp only [sP]
              rfl
             refine done_ (done_of HT_.out (by kernel_rfl)) ?_
             obtain ⟨hcz56_0, hcz56_1, hcz56_2, hfz56_0, hfz56_1, hfz56_2⟩ := d3 BK102
             obtain ⟨hcz57_0, hcz57_1, hfz57_0, hfz57_1⟩ := d2 BK103
             have p42 : 0 ≤ (t113 : Int) := of_decide_eq_true (by first | (with_reducible assumption) | assumption)
             have q42 : (t113 : Int) < ((y125.length : Int) : Int) := of_decide_eq_true (by first | (with_reducible assumption) | assumption)
             obtain ⟨ce42, hcl42, hM42, hcc42, hfr42⟩ := Kd.R_elem HO116.out z53 (t113 : Int) p42 q42
             obtain rfl := k53_openM hM42
             have hx42_0 : w54.cell? ⟨go55, (t113 : Int).toNat * 5, none⟩ = some (.int .i64 ((rd_T53 y125 t113).f0.f0)) := hcc42 0 _ rfl
             have hx42_1 : w54.cell? ⟨go55, (t113 : Int).toNat * 5 + 1, none⟩ = some (.int .i64 ((rd_T53 y125 t113).f0.f1)) := hcc42 1 _ rfl
             have hx42_2 : w54.cell? ⟨go55, (t113 : Int).toNat * 5 + 2, none⟩ = some (.int .i64 ((rd_T53 y125 t113).f0.f2)) := hcc42 2 _ rfl
             have hx42_3 : w54.cell? ⟨go55, (t113 : Int).toNat * 5 + 3, none⟩ = some (.int .i64 ((rd_T53 y125 t113).f1.f0)) := hcc42 3 _ rfl
             have hx42_4 : w54.cell? ⟨go55, (t113 : Int).toNat * 5 + 4, none⟩ = some (.int .i64 ((rd_T53 y125 t113).f1.f1)) := hcc42 4 _ rfl
             have hf42_0 : w54.frozen? ⟨go55, (t113 : Int).toNat * 5, none⟩ = false := hfr42 0
             have hf42_1 : w54.frozen? ⟨go55, (t113 : Int).toNat * 5 + 1, none⟩ = false := hfr42 1
             have hf42_2 : w54.frozen? ⟨go55, (t113 : Int).toNat * 5 + 2, none⟩ = false := hfr42 2
             have hf42_3 : w54.frozen? ⟨go55, (t113 : Int).toNat * 5 + 3, none⟩ = false := hfr42 3
             have hf42_4 : w54.frozen? ⟨go55, (t113 : Int).toNat * 5 + 4, none⟩ = false := hfr42 4
             clear hcl42 hcc42 hfr42 hM42
             replace p42 := eq_true p42
             replace q42 := eq_true q42
             have HX58 := Aside0.mk (show Kd.R k53 53 w54 w.heap.size (fun _ => True) (.slice (some ⟨go55, 0, none⟩) y125.length co52) y125 from (by (with_reducible repeat (first | apply Kd.R_alloc | apply Kd.R_drewN | apply Kd.R_drew)); exact HO116.out))
             obtain ⟨ce58, hcl58, hM58, hcc58, hfr58⟩ := Kd.R_elem HX58.out z53 (t113 : Int) (of_decide_eq_true (by first | (with_reducible assumption) | assumption)) (by have h_ : (t113 : Int) < ((y125.length : Int) : Int) := of_decide_eq_true (by first | (with_reducible assumption) | assumption); first | exact h_ | (have e_ := (Kd.R_reads' HO116.out).1; omega) | simpa using h_)
             obtain rfl := k53_openM hM58
             have HP58 := Kd.R_seg HX58.out (t113 : Int) (of_decide_eq_true (by first | (with_reducible assumption) | assumption)) (by have h_ : (t113 : Int) < ((y125.length : Int) : Int) := of_decide_eq_true (by first | (with_reducible assumption) | assumption); first | exact h_ | (have e_ := (Kd.R_reads' HO116.out).1; omega) | simpa using h_) (seg := [.int .i64 a1_0, .int .i64 a1_1, .int .i64 a1_2, .int .i64 a2_0, .int .i64 a2_1]) (j := 0) hcl58 hcc58 (show 5 ≤ 5 from by decide) (x' := (⟨(⟨a1_0, a1_1, a1_2⟩ : S24), (⟨a2_0, a2_1⟩ : S26)⟩ : S53)) (k53_mkM _ _ _ (⟨(⟨a1_0, a1_1, a1_2⟩ : S24), (⟨a2_0, a2_1⟩ : S26)⟩ : S53) ) (fun _ hk => hk)
             have hx58_0 := hcc58 0 _ rfl
             (try simp only [show (k53).sz = 5 from rfl, Nat.mul_one, Nat.add_zero] at hx58_0)
             have hf58_0 := hfr58 0
             (try simp only [show (k53).sz = 5 from rfl, Nat.mul_one, Nat.add_zero] at hf58_0)
             have hx58_1 := hcc58 1 _ rfl
             (try simp only [show (k53).sz = 5 from rfl, Nat.mul_one, Nat.add_zero] at hx58_1)
             have hf58_1 := hfr58 1
             (try simp only [show (k53).sz = 5 from rfl, Nat.mul_one, Nat.add_zero] at hf58_1)
             have hx58_2 := hcc58 2 _ rfl
             (try simp only [show (k53).sz = 5 from rfl, Nat.mul_one, Nat.add_zero] at hx58_2)
             have hf58_2 := hfr58 2
             (try simp only [show (k53).sz = 5 from rfl, Nat.mul_one, Nat.add_zero] at hf58_2)
             have hx58_3 := hcc58 3 _ rfl
             (try simp only [show (k53).sz = 5 from rfl, Nat.mul_one, Nat.add_zero] at hx58_3)
             have hf58_3 := hfr58 3
             (try simp only [show (k53).sz = 5 from rfl, Nat.mul_one, Nat.add_zero] at hf58_3)
             have hx58_4 := hcc58 4 _ rfl
             (try simp only [show (k53).sz = 5 from rfl, Nat.mul_one, Nat.add_zero] at hx58_4)
             have hf58_4 := hfr58 4
             (try simp only [show (k53).sz = 5 from rfl, Nat.mul_one, Nat.add_zero] at hf58_4)
             clear hcl58 hcc58 hfr58 hM58
             try go_wp2_with (first | ((with_reducible refine gate_store (t := 53) (p := 53) rfl ?_); refine store_event (t := 53) (p := 53) (v := ?vo_w59) (w1 := (((((w54.setCell ⟨go55, (t113 : Int).toNat * 5, none⟩ (.int .i64 a1_0)).setCell ⟨go55, (t113 : Int).toNat * 5 + 1, none⟩ (.int .i64 a1_1)).setCell ⟨go55, (t113 : Int).toNat * 5 + 2, none⟩ (.int .i64 a1_2)).setCell ⟨go55, (t113 : Int).toNat * 5 + 3, none⟩ (.int .i64 a2_0)).setCell ⟨go55, (t113 : Int).toNat * 5 + 4, none⟩ (.int .i64 a2_1))) ?hg ?ho ?hn ?hr ?_; (case ho => rfl); (case hg => rfl); (case hn => rfl); (case hr => first | (go_simp; done) | (go_simp; rfl)); intro w59 hw; have hg : w54.grownBy w59 (some go55) := (by rw [hw]; exact HP58.2); have hp_ : Kd.R k53 53 w59 w.heap.size (fun _ => True) (.slice (some ⟨go55, 0, none⟩) y125.length co52) y128 := (by rw [hw, Ny128.out]; exact HP58.1); clear HP58; replace BK102 := Aside0.mk (blk_grown (g := gb102) (o := .cells #[.int .i64 a1_0, .int .i64 a1_1, .int .i64 a1_2] 24 (0, 0)) (uK BK102) hg (Kd.R_ne HO116.out BK102.out (by decide))); replace BK103 := Aside0.mk (blk_grown (g := gb103) (o := .cells #[.int .i64 a2_0, .int .i64 a2_1] 26 (0, 0)) (uK BK103) hg (Kd.R_ne HO116.out BK103.out (by decide))); replace HO116 := Aside0.mk (hp_); replace HB := Aside0.mk ((by rw [hw]; exact below_set (below_set (below_set (below_set (below_set (HB.out) GB55.out) GB55.out) GB55.out) GB55.out) GB55.out : Below w.heap.size w w59)); clear hg hw hp_))
             go_ret
             exact ⟨_, by first | rfl | (simp [errW_none, errW_some] <;> rfl) | (simp only [← hji4, ← hji36]; first | rfl | (simp [errW_none, errW_some] <;> rfl)) | (simp [*, errW_none, errW_some] <;> rfl), by (with_reducible repeat (first | apply Kd.R_alloc | apply Kd.R_drewN | apply Kd.R_drew)); exact HO116.out, by repeat (first | (with_reducible first | exact HB.out | apply bL | apply bM | apply bR | refine bS ?_ GE102.out | refine bS ?_ GE103.out) | exact HB.out)⟩
            ·rw [if_neg c41] at H
             exact absurd H (by simp)
           ·rw [if_neg c40] at H
            exact absurd H (by simp)
          ·rw [if_neg c39] at H
           exact absurd H (by simp)
         ·rw [if_neg c38] at H
          exact absurd H (by simp)
        ·rw [if_neg c37] at H
         exact absurd H (by simp)
       ·rw [if_neg c35] at H
        exact absurd H (by simp)
  ·rw [if_neg c6] at H
   exact absurd H (by simp)
 ·rw [if_neg c5] at H
  exact absurd H (by simp)
/-! ### amount_Shaped: function 43 -/
def amount_Shaped.f (a0_0 : ByteArray) (a0_1 : Int) (a0_2 : Int) (a0_3 : Int) : Option (Bool) := if a0_1 = 1 then (some (a0_2 == 1)) else (if a0_1 = 2 then (if a0_2 ≥ 1 then (some (decide (a0_2 ≤ 8))) else (some false)) else (some false))
set_option maxHeartbeats 8000000 in
set_option maxRecDepth 100000 in
theorem amount_Shaped.calls (a0_0 : ByteArray) (a0_1 : Int) (a0_2 : Int) (a0_3 : Int) (r : Bool) (w : World) (h : amount_Shaped.f a0_0 a0_1 a0_2 a0_3 = some r) :
  Calls Tryd.prog 43 #[.agg #[.string a0_0, .int .i64 a0_1, .int .i64 a0_2, .int .i64 a0_3]] w fun e w' => e = .returned (.bool r) ∧ Below w.heap.size w w' := by
 have hu32 := Tryd.underlying32
 have HB := Aside0.mk (Below.refl w.heap.size w)
 have H : (if a0_1 = 1 then (some (a0_2 == 1)) else (if a0_1 = 2 then (if a0_2 ≥ 1 then (some (decide (a0_2 ≤ 8))) else (some false)) else (some false))) = some r := h
 clear h
 by_cases c2 : a0_1 = 1
 ·rw [if_pos c2] at H
  have c2b0 : (a0_1 == 1) = true := beq_iff_eq.mpr c2
  have c2b1 : (a0_1 != 1) = false := bne_eq_false_iff_eq.mpr c2
  clear c2
  obtain rfl := Option.some.inj H
  go_enter Tryd.func43, Tryd.ntmps43
  go_wp2_with (first | ((with_reducible refine gate_dst (N := 1) rfl ?_); refine box_event ?hg (N := 1) ?hd (cs := #[.string a0_0, .int .i64 a0_1, .int .i64 a0_2, .int .i64 a0_3]) (t := 32) ?hr ?_; (case hd => rfl); (case hg => rfl); (case hr => first | (go_simp; done) | (go_simp; rfl)); intro gb129 hg w3 hbox hb; have BK129 := Aside0.mk hbox; have GW129 := gE HB hg; replace HB := bB HB hb; have GE129 := GW129; clear hb hbox hg; have hcz4_0 : w3.cell? ⟨gb129, 0, none⟩ = some (.string a0_0) := bC BK129 0 rfl; have hcz4_1 : w3.cell? ⟨gb129, 1, none⟩ = some (.int .i64 a0_1) := bC BK129 1 rfl; have hcz4_2 : w3.cell? ⟨gb129, 2, none⟩ = some (.int .i64 a0_2) := bC BK129 2 rfl; have hcz4_3 : w3.cell? ⟨gb129, 3, none⟩ = some (.int .i64 a0_3) := bC BK129 3 rfl; have hfz4_0 := bF BK129 0; have hfz4_1 := bF BK129 1; have hfz4_2 := bF BK129 2; have hfz4_3 := bF BK129 3))
  go_ret
  exact ⟨by first | rfl | (simp [errW_none, errW_some] <;> rfl) | (simp [*, errW_none, errW_some] <;> rfl), by repeat (first | (with_reducible first | exact HB.out | apply bL | apply bM | apply bR | refine bS ?_ GE129.out) | exact HB.out)⟩
 ·rw [if_neg c2] at H
  have c2b0 : (a0_1 == 1) = false := beq_eq_false_iff_ne.mpr c2
  have c2b1 : (a0_1 != 1) = true := bne_iff_ne.mpr c2
  by_cases c5 : a0_1 = 2
  ·rw [if_pos c5] at H
   have c5b0 : (a0_1 == 2) = true := beq_iff_eq.mpr c5
   have c5b1 : (a0_1 != 2) = false := bne_eq_false_iff_eq.mpr c5
   clear c5
   by_cases c6 : a0_2 ≥ 1
   ·rw [if_pos c6] at H
    have c6b0 : decide (1 ≤ a0_2) = true := decide_eq_true c6
    clear c6
    obtain rfl := Option.some.inj H
    go_enter Tryd.func43, Tryd.ntmps43
    go_wp2_with (first | ((with_reducible refine gate_dst (N := 1) rfl ?_); refine box_event ?hg (N := 1) ?hd (cs := #[.string a0_0, .int .i64 a0_1, .int .i64 a0_2, .int .i64 a0_3]) (t := 32) ?hr ?_; (case hd => rfl); (case hg => rfl); (case hr => first | (go_simp; done) | (go_simp; rfl)); intro gb129 hg w7 hbox hb; have BK129 := Aside0.mk hbox; have GW129 := gE HB hg; replace HB := bB HB hb; have GE129 := GW129; clear hb hbox hg; have hcz8_0 : w7.cell? ⟨gb129, 0, none⟩ = some (.string a0_0) := bC BK129 0 rfl; have hcz8_1 : w7.cell? ⟨gb129, 1, none⟩ = some (.int .i64 a0_1) := bC BK129 1 rfl; have hcz8_2 : w7.cell? ⟨gb129, 2, none⟩ = some (.int .i64 a0_2) := bC BK129 2 rfl; have hcz8_3 : w7.cell? ⟨gb129, 3, none⟩ = some (.int .i64 a0_3) := bC BK129 3 rfl; have hfz8_0 := bF BK129 0; have hfz8_1 := bF BK129 1; have hfz8_2 := bF BK129 2; have hfz8_3 := bF BK129 3))
    go_ret
    exact ⟨by first | rfl | (simp [errW_none, errW_some] <;> rfl) | (simp [*, errW_none, errW_some] <;> rfl), by repeat (first | (with_reducible first | exact HB.out | apply bL | apply bM | apply bR | refine bS ?_ GE129.out) | exact HB.out)⟩
   ·rw [if_neg c6] at H
    have c6b0 : decide (1 ≤ a0_2) = false := decide_eq_false c6
    clear c6
    obtain rfl := Option.some.inj H
    go_enter Tryd.func43, Tryd.ntmps43
    go_wp2_with (first | ((with_reducible refine gate_dst (N := 1) rfl ?_); refine box_event ?hg (N := 1) ?hd (cs := #[.string a0_0, .int .i64 a0_1, .int .i64 a0_2, .int .i64 a0_3]) (t := 32) ?hr ?_; (case hd => rfl); (case hg => rfl); (case hr => first | (go_simp; done) | (go_simp; rfl)); intro gb129 hg w9 hbox hb; have BK129 := Aside0.mk hbox; have GW129 := gE HB hg; replace HB := bB HB hb; have GE129 := GW129; clear hb hbox hg; have hcz10_0 : w9.cell? ⟨gb129, 0, none⟩ = some (.string a0_0) := bC BK129 0 rfl; have hcz10_1 : w9.cell? ⟨gb129, 1, none⟩ = some (.int .i64 a0_1) := bC BK129 1 rfl; have hcz10_2 : w9.cell? ⟨gb129, 2, none⟩ = some (.int .i64 a0_2) := bC BK129 2 rfl; have hcz10_3 : w9.cell? ⟨gb129, 3, none⟩ = some (.int .i64 a0_3) := bC BK129 3 rfl; have hfz10_0 := bF BK129 0; have hfz10_1 := bF BK129 1; have hfz10_2 := bF BK129 2; have hfz10_3 := bF BK129 3))
    go_ret
    exact ⟨by first | rfl | (simp [errW_none, errW_some] <;> rfl) | (simp [*, errW_none, errW_some] <;> rfl), by repeat (first | (with_reducible first | exact HB.out | apply bL | apply bM | apply bR | refine bS ?_ GE129.out) | exact HB.out)⟩
  ·rw [if_neg c5] at H
   have c5b0 : (a0_1 == 2) = false := beq_eq_false_iff_ne.mpr c5
   have c5b1 : (a0_1 != 2) = true := bne_iff_ne.mpr c5
   obtain rfl := Option.some.inj H
   go_enter Tryd.func43, Tryd.ntmps43
   go_wp2_with (first | ((with_reducible refine gate_dst (N := 1) rfl ?_); refine box_event ?hg (N := 1) ?hd (cs := #[.string a0_0, .int .i64 a0_1, .int .i64 a0_2, .int .i64 a0_3]) (t := 32) ?hr ?_; (case hd => rfl); (case hg => rfl); (case hr => first | (go_simp; done) | (go_simp; rfl)); intro gb129 hg w11 hbox hb; have BK129 := Aside0.mk hbox; have GW129 := gE HB hg; replace HB := bB HB hb; have GE129 := GW129; clear hb hbox hg; have hcz12_0 : w11.cell? ⟨gb129, 0, none⟩ = some (.string a0_0) := bC BK129 0 rfl; have hcz12_1 : w11.cell? ⟨gb129, 1, none⟩ = some (.int .i64 a0_1) := bC BK129 1 rfl; have hcz12_2 : w11.cell? ⟨gb129, 2, none⟩ = some (.int .i64 a0_2) := bC BK129 2 rfl; have hcz12_3 : w11.cell? ⟨gb129, 3, none⟩ = some (.int .i64 a0_3) := bC BK129 3 rfl; have hfz12_0 := bF BK129 0; have hfz12_1 := bF BK129 1; have hfz12_2 := bF BK129 2; have hfz12_3 := bF BK129 3))
   go_ret
   exact ⟨by first | rfl | (simp [errW_none, errW_some] <;> rfl) | (simp [*, errW_none, errW_some] <;> rfl), by repeat (first | (with_reducible first | exact HB.out | apply bL | apply bM | apply bR | refine bS ?_ GE129.out) | exact HB.out)⟩
/-! ### mode_Valid: function 60 -/
def mode_Valid.f (a0 : Int) : Option (Bool) := if a0 ≥ 1 then (some (decide (a0 ≤ 5))) else (some false)
set_option maxHeartbeats 8000000 in
set_option maxRecDepth 100000 in
theorem mode_Valid.calls (a0 : Int) (r : Bool) (w : World) (h : mode_Valid.f a0 = some r) :
  Calls Tryd.prog 60 #[.int .i64 a0] w fun e w' => e = .returned (.bool r) ∧ Drawn0 w w' := by
 have H : (if a0 ≥ 1 then (some (decide (a0 ≤ 5))) else (some false)) = some r := h
 clear h
 by_cases c2 : a0 ≥ 1
 ·rw [if_pos c2] at H
  have c2b0 : decide (1 ≤ a0) = true := decide_eq_true c2
  clear c2
  obtain rfl := Option.some.inj H
  go_enter Tryd.func60, Tryd.ntmps60
  go_wp2
  go_ret
  exact ⟨by first | rfl | (simp; done) | (simp [*]; done), by repeat (first | exact Drawn0.refl _ | apply Drawn0.step)⟩
 ·rw [if_neg c2] at H
  have c2b0 : decide (1 ≤ a0) = false := decide_eq_false c2
  clear c2
  obtain rfl := Option.some.inj H
  go_enter Tryd.func60, Tryd.ntmps60
  go_wp2
  go_ret
  exact ⟨by first | rfl | (simp; done) | (simp [*]; done), by repeat (first | exact Drawn0.refl _ | apply Drawn0.step)⟩
/-! ### amount_Fits: function 45 -/
def amount_Fits.f (a0_0 : ByteArray) (a0_1 : Int) (a0_2 : Int) (a0_3 : Int) (a1_0 : Int) (a1_1 : Int) : Option (Bool) := (amount_Shaped.f a0_0 a0_1 a0_2 a0_3).bind fun t132 => (if t132 = true then (if a0_1 = 1 then ((mode_Valid.f a1_0).bind fun t133 => (if t133 = true then (some (a1_1 == 0)) else (some false))) else (if a1_0 = 0 then (if a1_1 ≥ 1 then (some (decide (a1_1 ≤ a0_2))) else (some false)) else (some false))) else (some false))
set_option maxHeartbeats 8000000 in
set_option maxRecDepth 100000 in
theorem amount_Fits.calls (a0_0 : ByteArray) (a0_1 : Int) (a0_2 : Int) (a0_3 : Int) (a1_0 : Int) (a1_1 : Int) (r : Bool) (w : World) (h : amount_Fits.f a0_0 a0_1 a0_2 a0_3 a1_0 a1_1 = some r) :
  Calls Tryd.prog 45 #[.agg #[.string a0_0, .int .i64 a0_1, .int .i64 a0_2, .int .i64 a0_3], .agg #[.int .i64 a1_0, .int .i64 a1_1]] w fun e w' => e = .returned (.bool r) ∧ Below w.heap.size w w' := by
 have hu32 := Tryd.underlying32
 have hu26 := Tryd.underlying26
 have HB := Aside0.mk (Below.refl w.heap.size w)
 have H : ((amount_Shaped.f a0_0 a0_1 a0_2 a0_3).bind fun t132 => (if t132 = true then (if a0_1 = 1 then ((mode_Valid.f a1_0).bind fun t133 => (if t133 = true then (some (a1_1 == 0)) else (some false))) else (if a1_0 = 0 then (if a1_1 ≥ 1 then (some (decide (a1_1 ≤ a0_2))) else (some false)) else (some false))) else (some false))) = some r := h
 clear h
 obtain ⟨t132, A30, H⟩ := Option.bind_eq_some_iff.mp H
 have A3 := Aside0.mk A30; clear A30
 by_cases c4 : t132 = true
 ·subst c4
  rw [if_pos rfl] at H
  by_cases c5 : a0_1 = 1
  ·rw [if_pos c5] at H
   have c5b0 : (a0_1 == 1) = true := beq_iff_eq.mpr c5
   have c5b1 : (a0_1 != 1) = false := bne_eq_false_iff_eq.mpr c5
   clear c5
   obtain ⟨t133, A60, H⟩ := Option.bind_eq_some_iff.mp H
   have A6 := Aside0.mk A60; clear A60
   by_cases c7 : t133 = true
   ·subst c7
    rw [if_pos rfl] at H
    obtain rfl := Option.some.inj H
    go_enter Tryd.func45, Tryd.ntmps45
    go_wp2_with (first | ((with_reducible refine gate_dst (N := 2) rfl ?_); refine box_event ?hg (N := 2) ?hd (cs := #[.string a0_0, .int .i64 a0_1, .int .i64 a0_2, .int .i64 a0_3]) (t := 32) ?hr ?_; (case hd => rfl); (case hg => rfl); (case hr => first | (go_simp; done) | (go_simp; rfl)); intro gb130 hg w8 hbox hb; have BK130 := Aside0.mk hbox; have GW130 := gE HB hg; replace HB := bB HB hb; have GE130 := GW130; clear hb hbox hg) | ((with_reducible refine gate_dst (N := 3) rfl ?_); refine box_event ?hg (N := 3) ?hd (cs := #[.int .i64 a1_0, .int .i64 a1_1]) (t := 26) ?hr ?_; (case hd => rfl); (case hg => rfl); (case hr => first | (go_simp; done) | (go_simp; rfl)); intro gb131 hg w9 hbox hb; have BK131 := Aside0.mk hbox; have GW131 := Aside0.mk ((by rw [hg]; exact (below_size (by repeat (first | (with_reducible first | exact HB.out | apply bL | apply bM | apply bR | refine bS ?_ GE130.out) | exact HB.out))) : w.heap.size ≤ gb131)); replace HB := Aside0.mk (below_step (by repeat (first | (with_reducible first | exact HB.out | apply bL | apply bM | apply bR | refine bS ?_ GE130.out) | exact HB.out)) hb); have GE131 := GW131; have NB130_131 := gN BK130 hg; replace BK130 := bK BK130 hb; have NB131_130 := Aside0.mk NB130_131.out.symm; clear hb hbox hg; have hnb10 := NB130_131.out; have hnc10 := NB131_130.out; have hcz11_0 : w9.cell? ⟨gb130, 0, none⟩ = some (.string a0_0) := bC BK130 0 rfl; have hcz11_1 : w9.cell? ⟨gb130, 1, none⟩ = some (.int .i64 a0_1) := bC BK130 1 rfl; have hcz11_2 : w9.cell? ⟨gb130, 2, none⟩ = some (.int .i64 a0_2) := bC BK130 2 rfl; have hcz11_3 : w9.cell? ⟨gb130, 3, none⟩ = some (.int .i64 a0_3) := bC BK130 3 rfl; have hfz11_0 := bF BK130 0; have hfz11_1 := bF BK130 1; have hfz11_2 := bF BK130 2; have hfz11_3 := bF BK130 3) | ((with_reducible refine gate_callee (f := 43) rfl ?_); refine goesL_ (some 6) rfl rfl Tryd.func43 (by kernel_rfl) rfl #[.agg #[.string a0_0, .int .i64 a0_1, .int .i64 a0_2, .int .i64 a0_3]] rfl (by (try simp only [mA]); first | done | rfl) ?_; (with_reducible refine (amount_Shaped.calls a0_0 a0_1 a0_2 a0_3 true _ A3.out).mono ?_); rintro e w12 ⟨rfl, hb⟩; refine ⟨_, rfl, ?_⟩; replace BK130 := bK BK130 hb; replace BK131 := bK BK131 hb; replace HB := Aside0.mk (below_step (by repeat (first | (with_reducible first | exact HB.out | apply bL | apply bM | apply bR | refine bS ?_ GE130.out | refine bS ?_ GE131.out) | exact HB.out)) hb); (try clear hb); (try clear hk); obtain ⟨hcz13_0, hcz13_1, hcz13_2, hcz13_3, hfz13_0, hfz13_1, hfz13_2, hfz13_3⟩ := d4 BK130; have hcz14_0 : w12.cell? ⟨gb131, 0, none⟩ = some (.int .i64 a1_0) := bC BK131 0 rfl; have hcz14_1 : w12.cell? ⟨gb131, 1, none⟩ = some (.int .i64 a1_1) := bC BK131 1 rfl; have hfz14_0 := bF BK131 0; have hfz14_1 := bF BK131 1) | ((with_reducible refine gate_callee (f := 60) rfl ?_); refine goesL_ (some 13) rfl rfl Tryd.func60 (by kernel_rfl) rfl #[.int .i64 a1_0] rfl (by (try simp only [mA]); first | done | rfl) ?_; (with_reducible refine (mode_Valid.calls a1_0 true _ A6.out).mono ?_); rintro e w' ⟨rfl, ⟨nd, rfl⟩⟩; refine ⟨_, rfl, ?_⟩))
    go_ret
    exact ⟨by first | rfl | (simp [errW_none, errW_some] <;> rfl) | (simp [*, errW_none, errW_some] <;> rfl), by repeat (first | (with_reducible first | exact HB.out | apply bL | apply bM | apply bR | refine bS ?_ GE130.out | refine bS ?_ GE131.out) | exact HB.out)⟩
   ·replace c7 := Bool.eq_false_iff.mpr c7
    subst c7
    rw [if_neg (show ¬ (false = true) by decide)] at H
    obtain rfl := Option.some.inj H
    go_enter Tryd.func45, Tryd.ntmps45
    go_wp2_with (first | ((with_reducible refine gate_dst (N := 2) rfl ?_); refine box_event ?hg (N := 2) ?hd (cs := #[.string a0_0, .int .i64 a0_1, .int .i64 a0_2, .int .i64 a0_3]) (t := 32) ?hr ?_; (case hd => rfl); (case hg => rfl); (case hr => first | (go_simp; done) | (go_simp; rfl)); intro gb130 hg w15 hbox hb; have BK130 := Aside0.mk hbox; have GW130 := gE HB hg; replace HB := bB HB hb; have GE130 := GW130; clear hb hbox hg) | ((with_reducible refine gate_dst (N := 3) rfl ?_); refine box_event ?hg (N := 3) ?hd (cs := #[.int .i64 a1_0, .int .i64 a1_1]) (t := 26) ?hr ?_; (case hd => rfl); (case hg => rfl); (case hr => first | (go_simp; done) | (go_simp; rfl)); intro gb131 hg w16 hbox hb; have BK131 := Aside0.mk hbox; have GW131 := Aside0.mk ((by rw [hg]; exact (below_size (by repeat (first | (with_reducible first | exact HB.out | apply bL | apply bM | apply bR | refine bS ?_ GE130.out) | exact HB.out))) : w.heap.size ≤ gb131)); replace HB := Aside0.mk (below_step (by repeat (first | (with_reducible first | exact HB.out | apply bL | apply bM | apply bR | refine bS ?_ GE130.out) | exact HB.out)) hb); have GE131 := GW131; have NB130_131 := gN BK130 hg; replace BK130 := bK BK130 hb; have NB131_130 := Aside0.mk NB130_131.out.symm; clear hb hbox hg; have hnb17 := NB130_131.out; have hnc17 := NB131_130.out; have hcz18_0 : w16.cell? ⟨gb130, 0, none⟩ = some (.string a0_0) := bC BK130 0 rfl; have hcz18_1 : w16.cell? ⟨gb130, 1, none⟩ = some (.int .i64 a0_1) := bC BK130 1 rfl; have hcz18_2 : w16.cell? ⟨gb130, 2, none⟩ = some (.int .i64 a0_2) := bC BK130 2 rfl; have hcz18_3 : w16.cell? ⟨gb130, 3, none⟩ = some (.int .i64 a0_3) := bC BK130 3 rfl; have hfz18_0 := bF BK130 0; have hfz18_1 := bF BK130 1; have hfz18_2 := bF BK130 2; have hfz18_3 := bF BK130 3) | ((with_reducible refine gate_callee (f := 43) rfl ?_); refine goesL_ (some 6) rfl rfl Tryd.func43 (by kernel_rfl) rfl #[.agg #[.string a0_0, .int .i64 a0_1, .int .i64 a0_2, .int .i64 a0_3]] rfl (by (try simp only [mA]); first | done | rfl) ?_; (with_reducible refine (amount_Shaped.calls a0_0 a0_1 a0_2 a0_3 true _ A3.out).mono ?_); rintro e w19 ⟨rfl, hb⟩; refine ⟨_, rfl, ?_⟩; replace BK130 := bK BK130 hb; replace BK131 := bK BK131 hb; replace HB := Aside0.mk (below_step (by repeat (first | (with_reducible first | exact HB.out | apply bL | apply bM | apply bR | refine bS ?_ GE130.out | refine bS ?_ GE131.out) | exact HB.out)) hb); (try clear hb); (try clear hk); obtain ⟨hcz20_0, hcz20_1, hcz20_2, hcz20_3, hfz20_0, hfz20_1, hfz20_2, hfz20_3⟩ := d4 BK130; have hcz21_0 : w19.cell? ⟨gb131, 0, none⟩ = some (.int .i64 a1_0) := bC BK131 0 rfl; have hcz21_1 : w19.cell? ⟨gb131, 1, none⟩ = some (.int .i64 a1_1) := bC BK131 1 rfl; have hfz21_0 := bF BK131 0; have hfz21_1 := bF BK131 1) | ((with_reducible refine gate_callee (f := 60) rfl ?_); refine goesL_ (some 13) rfl rfl Tryd.func60 (by kernel_rfl) rfl #[.int .i64 a1_0] rfl (by (try simp only [mA]); first | done | rfl) ?_; (with_reducible refine (mode_Valid.calls a1_0 false _ A6.out).mono ?_); rintro e w' ⟨rfl, ⟨nd, rfl⟩⟩; refine ⟨_, rfl, ?_⟩))
    go_ret
    exact ⟨by first | rfl | (simp [errW_none, errW_some] <;> rfl) | (simp [*, errW_none, errW_some] <;> rfl), by repeat (first | (with_reducible first | exact HB.out | apply bL | apply bM | apply bR | refine bS ?_ GE130.out | refine bS ?_ GE131.out) | exact HB.out)⟩
  ·rw [if_neg c5] at H
   have c5b0 : (a0_1 == 1) = false := beq_eq_false_iff_ne.mpr c5
   have c5b1 : (a0_1 != 1) = true := bne_iff_ne.mpr c5
   by_cases c22 : a1_0 = 0
   ·rw [if_pos c22] at H
    have c22b0 : (a1_0 == 0) = true := beq_iff_eq.mpr c22
    have c22b1 : (a1_0 != 0) = false := bne_eq_false_iff_eq.mpr c22
    clear c22
    by_cases c23 : a1_1 ≥ 1
    ·rw [if_pos c23] at H
     have c23b0 : decide (1 ≤ a1_1) = true := decide_eq_true c23
     clear c23
     obtain rfl := Option.some.inj H
     go_enter Tryd.func45, Tryd.ntmps45
     go_wp2_with (first | ((with_reducible refine gate_dst (N := 2) rfl ?_); refine box_event ?hg (N := 2) ?hd (cs := #[.string a0_0, .int .i64 a0_1, .int .i64 a0_2, .int .i64 a0_3]) (t := 32) ?hr ?_; (case hd => rfl); (case hg => rfl); (case hr => first | (go_simp; done) | (go_simp; rfl)); intro gb130 hg w24 hbox hb; have BK130 := Aside0.mk hbox; have GW130 := gE HB hg; replace HB := bB HB hb; have GE130 := GW130; clear hb hbox hg) | ((with_reducible refine gate_dst (N := 3) rfl ?_); refine box_event ?hg (N := 3) ?hd (cs := #[.int .i64 a1_0, .int .i64 a1_1]) (t := 26) ?hr ?_; (case hd => rfl); (case hg => rfl); (case hr => first | (go_simp; done) | (go_simp; rfl)); intro gb131 hg w25 hbox hb; have BK131 := Aside0.mk hbox; have GW131 := Aside0.mk ((by rw [hg]; exact (below_size (by repeat (first | (with_reducible first | exact HB.out | apply bL | apply bM | apply bR | refine bS ?_ GE130.out) | exact HB.out))) : w.heap.size ≤ gb131)); replace HB := Aside0.mk (below_step (by repeat (first | (with_reducible first | exact HB.out | apply bL | apply bM | apply bR | refine bS ?_ GE130.out) | exact HB.out)) hb); have GE131 := GW131; have NB130_131 := gN BK130 hg; replace BK130 := bK BK130 hb; have NB131_130 := Aside0.mk NB130_131.out.symm; clear hb hbox hg; have hnb26 := NB130_131.out; have hnc26 := NB131_130.out; have hcz27_0 : w25.cell? ⟨gb130, 0, none⟩ = some (.string a0_0) := bC BK130 0 rfl; have hcz27_1 : w25.cell? ⟨gb130, 1, none⟩ = some (.int .i64 a0_1) := bC BK130 1 rfl; have hcz27_2 : w25.cell? ⟨gb130, 2, none⟩ = some (.int .i64 a0_2) := bC BK130 2 rfl; have hcz27_3 : w25.cell? ⟨gb130, 3, none⟩ = some (.int .i64 a0_3) := bC BK130 3 rfl; have hfz27_0 := bF BK130 0; have hfz27_1 := bF BK130 1; have hfz27_2 := bF BK130 2; have hfz27_3 := bF BK130 3) | ((with_reducible refine gate_callee (f := 43) rfl ?_); refine goesL_ (some 6) rfl rfl Tryd.func43 (by kernel_rfl) rfl #[.agg #[.string a0_0, .int .i64 a0_1, .int .i64 a0_2, .int .i64 a0_3]] rfl (by (try simp only [mA]); first | done | rfl) ?_; (with_reducible refine (amount_Shaped.calls a0_0 a0_1 a0_2 a0_3 true _ A3.out).mono ?_); rintro e w28 ⟨rfl, hb⟩; refine ⟨_, rfl, ?_⟩; replace BK130 := bK BK130 hb; replace BK131 := bK BK131 hb; replace HB := Aside0.mk (below_step (by repeat (first | (with_reducible first | exact HB.out | apply bL | apply bM | apply bR | refine bS ?_ GE130.out | refine bS ?_ GE131.out) | exact HB.out)) hb); (try clear hb); (try clear hk); obtain ⟨hcz29_0, hcz29_1, hcz29_2, hcz29_3, hfz29_0, hfz29_1, hfz29_2, hfz29_3⟩ := d4 BK130; have hcz30_0 : w28.cell? ⟨gb131, 0, none⟩ = some (.int .i64 a1_0) := bC BK131 0 rfl; have hcz30_1 : w28.cell? ⟨gb131, 1, none⟩ = some (.int .i64 a1_1) := bC BK131 1 rfl; have hfz30_0 := bF BK131 0; have hfz30_1 := bF BK131 1))
     go_ret
     exact ⟨by first | rfl | (simp [errW_none, errW_some] <;> rfl) | (simp [*, errW_none, errW_some] <;> rfl), by repeat (first | (with_reducible first | exact HB.out | apply bL | apply bM | apply bR | refine bS ?_ GE130.out | refine bS ?_ GE131.out) | exact HB.out)⟩
    ·rw [if_neg c23] at H
     have c23b0 : decide (1 ≤ a1_1) = false := decide_eq_false c23
     clear c23
     obtain rfl := Option.some.inj H
     go_enter Tryd.func45, Tryd.ntmps45
     go_wp2_with (first | ((with_reducible refine gate_dst (N := 2) rfl ?_); refine box_event ?hg (N := 2) ?hd (cs := #[.string a0_0, .int .i64 a0_1, .int .i64 a0_2, .int .i64 a0_3]) (t := 32) ?hr ?_; (case hd => rfl); (case hg => rfl); (case hr => first | (go_simp; done) | (go_simp; rfl)); intro gb130 hg w31 hbox hb; have BK130 := Aside0.mk hbox; have GW130 := gE HB hg; replace HB := bB HB hb; have GE130 := GW130; clear hb hbox hg) | ((with_reducible refine gate_dst (N := 3) rfl ?_); refine box_event ?hg (N := 3) ?hd (cs := #[.int .i64 a1_0, .int .i64 a1_1]) (t := 26) ?hr ?_; (case hd => rfl); (case hg => rfl); (case hr => first | (go_simp; done) | (go_simp; rfl)); intro gb131 hg w32 hbox hb; have BK131 := Aside0.mk hbox; have GW131 := Aside0.mk ((by rw [hg]; exact (below_size (by repeat (first | (with_reducible first | exact HB.out | apply bL | apply bM | apply bR | refine bS ?_ GE130.out) | exact HB.out))) : w.heap.size ≤ gb131)); replace HB := Aside0.mk (below_step (by repeat (first | (with_reducible first | exact HB.out | apply bL | apply bM | apply bR | refine bS ?_ GE130.out) | exact HB.out)) hb); have GE131 := GW131; have NB130_131 := gN BK130 hg; replace BK130 := bK BK130 hb; have NB131_130 := Aside0.mk NB130_131.out.symm; clear hb hbox hg; have hnb33 := NB130_131.out; have hnc33 := NB131_130.out; have hcz34_0 : w32.cell? ⟨gb130, 0, none⟩ = some (.string a0_0) := bC BK130 0 rfl; have hcz34_1 : w32.cell? ⟨gb130, 1, none⟩ = some (.int .i64 a0_1) := bC BK130 1 rfl; have hcz34_2 : w32.cell? ⟨gb130, 2, none⟩ = some (.int .i64 a0_2) := bC BK130 2 rfl; have hcz34_3 : w32.cell? ⟨gb130, 3, none⟩ = some (.int .i64 a0_3) := bC BK130 3 rfl; have hfz34_0 := bF BK130 0; have hfz34_1 := bF BK130 1; have hfz34_2 := bF BK130 2; have hfz34_3 := bF BK130 3) | ((with_reducible refine gate_callee (f := 43) rfl ?_); refine goesL_ (some 6) rfl rfl Tryd.func43 (by kernel_rfl) rfl #[.agg #[.string a0_0, .int .i64 a0_1, .int .i64 a0_2, .int .i64 a0_3]] rfl (by (try simp only [mA]); first | done | rfl) ?_; (with_reducible refine (amount_Shaped.calls a0_0 a0_1 a0_2 a0_3 true _ A3.out).mono ?_); rintro e w35 ⟨rfl, hb⟩; refine ⟨_, rfl, ?_⟩; replace BK130 := bK BK130 hb; replace BK131 := bK BK131 hb; replace HB := Aside0.mk (below_step (by repeat (first | (with_reducible first | exact HB.out | apply bL | apply bM | apply bR | refine bS ?_ GE130.out | refine bS ?_ GE131.out) | exact HB.out)) hb); (try clear hb); (try clear hk); obtain ⟨hcz36_0, hcz36_1, hcz36_2, hcz36_3, hfz36_0, hfz36_1, hfz36_2, hfz36_3⟩ := d4 BK130; have hcz37_0 : w35.cell? ⟨gb131, 0, none⟩ = some (.int .i64 a1_0) := bC BK131 0 rfl; have hcz37_1 : w35.cell? ⟨gb131, 1, none⟩ = some (.int .i64 a1_1) := bC BK131 1 rfl; have hfz37_0 := bF BK131 0; have hfz37_1 := bF BK131 1))
     go_ret
     exact ⟨by first | rfl | (simp [errW_none, errW_some] <;> rfl) | (simp [*, errW_none, errW_some] <;> rfl), by repeat (first | (with_reducible first | exact HB.out | apply bL | apply bM | apply bR | refine bS ?_ GE130.out | refine bS ?_ GE131.out) | exact HB.out)⟩
   ·rw [if_neg c22] at H
    have c22b0 : (a1_0 == 0) = false := beq_eq_false_iff_ne.mpr c22
    have c22b1 : (a1_0 != 0) = true := bne_iff_ne.mpr c22
    obtain rfl := Option.some.inj H
    go_enter Tryd.func45, Tryd.ntmps45
    go_wp2_with (first | ((with_reducible refine gate_dst (N := 2) rfl ?_); refine box_event ?hg (N := 2) ?hd (cs := #[.string a0_0, .int .i64 a0_1, .int .i64 a0_2, .int .i64 a0_3]) (t := 32) ?hr ?_; (case hd => rfl); (case hg => rfl); (case hr => first | (go_simp; done) | (go_simp; rfl)); intro gb130 hg w38 hbox hb; have BK130 := Aside0.mk hbox; have GW130 := gE HB hg; replace HB := bB HB hb; have GE130 := GW130; clear hb hbox hg) | ((with_reducible refine gate_dst (N := 3) rfl ?_); refine box_event ?hg (N := 3) ?hd (cs := #[.int .i64 a1_0, .int .i64 a1_1]) (t := 26) ?hr ?_; (case hd => rfl); (case hg => rfl); (case hr => first | (go_simp; done) | (go_simp; rfl)); intro gb131 hg w39 hbox hb; have BK131 := Aside0.mk hbox; have GW131 := Aside0.mk ((by rw [hg]; exact (below_size (by repeat (first | (with_reducible first | exact HB.out | apply bL | apply bM | apply bR | refine bS ?_ GE130.out) | exact HB.out))) : w.heap.size ≤ gb131)); replace HB := Aside0.mk (below_step (by repeat (first | (with_reducible first | exact HB.out | apply bL | apply bM | apply bR | refine bS ?_ GE130.out) | exact HB.out)) hb); have GE131 := GW131; have NB130_131 := gN BK130 hg; replace BK130 := bK BK130 hb; have NB131_130 := Aside0.mk NB130_131.out.symm; clear hb hbox hg; have hnb40 := NB130_131.out; have hnc40 := NB131_130.out; have hcz41_0 : w39.cell? ⟨gb130, 0, none⟩ = some (.string a0_0) := bC BK130 0 rfl; have hcz41_1 : w39.cell? ⟨gb130, 1, none⟩ = some (.int .i64 a0_1) := bC BK130 1 rfl; have hcz41_2 : w39.cell? ⟨gb130, 2, none⟩ = some (.int .i64 a0_2) := bC BK130 2 rfl; have hcz41_3 : w39.cell? ⟨gb130, 3, none⟩ = some (.int .i64 a0_3) := bC BK130 3 rfl; have hfz41_0 := bF BK130 0; have hfz41_1 := bF BK130 1; have hfz41_2 := bF BK130 2; have hfz41_3 := bF BK130 3) | ((with_reducible refine gate_callee (f := 43) rfl ?_); refine goesL_ (some 6) rfl rfl Tryd.func43 (by kernel_rfl) rfl #[.agg #[.string a0_0, .int .i64 a0_1, .int .i64 a0_2, .int .i64 a0_3]] rfl (by (try simp only [mA]); first | done | rfl) ?_; (with_reducible refine (amount_Shaped.calls a0_0 a0_1 a0_2 a0_3 true _ A3.out).mono ?_); rintro e w42 ⟨rfl, hb⟩; refine ⟨_, rfl, ?_⟩; replace BK130 := bK BK130 hb; replace BK131 := bK BK131 hb; replace HB := Aside0.mk (below_step (by repeat (first | (with_reducible first | exact HB.out | apply bL | apply bM | apply bR | refine bS ?_ GE130.out | refine bS ?_ GE131.out) | exact HB.out)) hb); (try clear hb); (try clear hk); obtain ⟨hcz43_0, hcz43_1, hcz43_2, hcz43_3, hfz43_0, hfz43_1, hfz43_2, hfz43_3⟩ := d4 BK130; have hcz44_0 : w42.cell? ⟨gb131, 0, none⟩ = some (.int .i64 a1_0) := bC BK131 0 rfl; have hcz44_1 : w42.cell? ⟨gb131, 1, none⟩ = some (.int .i64 a1_1) := bC BK131 1 rfl; have hfz44_0 := bF BK131 0; have hfz44_1 := bF BK131 1))
    go_ret
    exact ⟨by first | rfl | (simp [errW_none, errW_some] <;> rfl) | (simp [*, errW_none, errW_some] <;> rfl), by repeat (first | (with_reducible first | exact HB.out | apply bL | apply bM | apply bR | refine bS ?_ GE130.out | refine bS ?_ GE131.out) | exact HB.out)⟩
 ·replace c4 := Bool.eq_false_iff.mpr c4
  subst c4
  rw [if_neg (show ¬ (false = true) by decide)] at H
  obtain rfl := Option.some.inj H
  go_enter Tryd.func45, Tryd.ntmps45
  go_wp2_with (first | ((with_reducible refine gate_dst (N := 2) rfl ?_); refine box_event ?hg (N := 2) ?hd (cs := #[.string a0_0, .int .i64 a0_1, .int .i64 a0_2, .int .i64 a0_3]) (t := 32) ?hr ?_; (case hd => rfl); (case hg => rfl); (case hr => first | (go_simp; done) | (go_simp; rfl)); intro gb130 hg w45 hbox hb; have BK130 := Aside0.mk hbox; have GW130 := gE HB hg; replace HB := bB HB hb; have GE130 := GW130; clear hb hbox hg) | ((with_reducible refine gate_dst (N := 3) rfl ?_); refine box_event ?hg (N := 3) ?hd (cs := #[.int .i64 a1_0, .int .i64 a1_1]) (t := 26) ?hr ?_; (case hd => rfl); (case hg => rfl); (case hr => first | (go_simp; done) | (go_simp; rfl)); intro gb131 hg w46 hbox hb; have BK131 := Aside0.mk hbox; have GW131 := Aside0.mk ((by rw [hg]; exact (below_size (by repeat (first | (with_reducible first | exact HB.out | apply bL | apply bM | apply bR | refine bS ?_ GE130.out) | exact HB.out))) : w.heap.size ≤ gb131)); replace HB := Aside0.mk (below_step (by repeat (first | (with_reducible first | exact HB.out | apply bL | apply bM | apply bR | refine bS ?_ GE130.out) | exact HB.out)) hb); have GE131 := GW131; have NB130_131 := gN BK130 hg; replace BK130 := bK BK130 hb; have NB131_130 := Aside0.mk NB130_131.out.symm; clear hb hbox hg; have hnb47 := NB130_131.out; have hnc47 := NB131_130.out; have hcz48_0 : w46.cell? ⟨gb130, 0, none⟩ = some (.string a0_0) := bC BK130 0 rfl; have hcz48_1 : w46.cell? ⟨gb130, 1, none⟩ = some (.int .i64 a0_1) := bC BK130 1 rfl; have hcz48_2 : w46.cell? ⟨gb130, 2, none⟩ = some (.int .i64 a0_2) := bC BK130 2 rfl; have hcz48_3 : w46.cell? ⟨gb130, 3, none⟩ = some (.int .i64 a0_3) := bC BK130 3 rfl; have hfz48_0 := bF BK130 0; have hfz48_1 := bF BK130 1; have hfz48_2 := bF BK130 2; have hfz48_3 := bF BK130 3) | ((with_reducible refine gate_callee (f := 43) rfl ?_); refine goesL_ (some 6) rfl rfl Tryd.func43 (by kernel_rfl) rfl #[.agg #[.string a0_0, .int .i64 a0_1, .int .i64 a0_2, .int .i64 a0_3]] rfl (by (try simp only [mA]); first | done | rfl) ?_; (with_reducible refine (amount_Shaped.calls a0_0 a0_1 a0_2 a0_3 false _ A3.out).mono ?_); rintro e w49 ⟨rfl, hb⟩; refine ⟨_, rfl, ?_⟩; replace BK130 := bK BK130 hb; replace BK131 := bK BK131 hb; replace HB := Aside0.mk (below_step (by repeat (first | (with_reducible first | exact HB.out | apply bL | apply bM | apply bR | refine bS ?_ GE130.out | refine bS ?_ GE131.out) | exact HB.out)) hb); (try clear hb); (try clear hk)))
  go_ret
  exact ⟨by first | rfl | (simp [errW_none, errW_some] <;> rfl) | (simp [*, errW_none, errW_some] <;> rfl), by repeat (first | (with_reducible first | exact HB.out | apply bL | apply bM | apply bR | refine bS ?_ GE130.out | refine bS ?_ GE131.out) | exact HB.out)⟩
/-! ### amount_permitted: function 55 -/
def amount_permitted.f (a0_0 : ByteArray) (a0_1 : Int) (a0_2 : Int) (a0_3 : Int) (a1_0 : Int) (a1_1 : Int) : Option (Bool) := (amount_Fits.f a0_0 a0_1 a0_2 a0_3 a1_0 a1_1).bind fun t136 => (if t136 = true then (some true) else ((amount_Zero.f a1_0 a1_1).bind fun t137 => (if t137 = true then ((amount_Shaped.f a0_0 a0_1 a0_2 a0_3).bind fun t138 => (some t138)) else (some false))))
set_option maxHeartbeats 8000000 in
set_option maxRecDepth 100000 in
theorem amount_permitted.calls (a0_0 : ByteArray) (a0_1 : Int) (a0_2 : Int) (a0_3 : Int) (a1_0 : Int) (a1_1 : Int) (r : Bool) (w : World) (h : amount_permitted.f a0_0 a0_1 a0_2 a0_3 a1_0 a1_1 = some r) :
  Calls Tryd.prog 55 #[.agg #[.string a0_0, .int .i64 a0_1, .int .i64 a0_2, .int .i64 a0_3], .agg #[.int .i64 a1_0, .int .i64 a1_1]] w fun e w' => e = .returned (.bool r) ∧ Below w.heap.size w w' := by
 have hu32 := Tryd.underlying32
 have hu26 := Tryd.underlying26
 have HB := Aside0.mk (Below.refl w.heap.size w)
 have H : ((amount_Fits.f a0_0 a0_1 a0_2 a0_3 a1_0 a1_1).bind fun t136 => (if t136 = true then (some true) else ((amount_Zero.f a1_0 a1_1).bind fun t137 => (if t137 = true then ((amount_Shaped.f a0_0 a0_1 a0_2 a0_3).bind fun t138 => (some t138)) else (some false))))) = some r := h
 clear h
 obtain ⟨t136, A30, H⟩ := Option.bind_eq_some_iff.mp H
 have A3 := Aside0.mk A30; clear A30
 by_cases c4 : t136 = true
 ·subst c4
  rw [if_pos rfl] at H
  obtain rfl := Option.some.inj H
  go_enter Tryd.func55, Tryd.ntmps55
  go_wp2_with (first | ((with_reducible refine gate_dst (N := 2) rfl ?_); refine box_event ?hg (N := 2) ?hd (cs := #[.string a0_0, .int .i64 a0_1, .int .i64 a0_2, .int .i64 a0_3]) (t := 32) ?hr ?_; (case hd => rfl); (case hg => rfl); (case hr => first | (go_simp; done) | (go_simp; rfl)); intro gb134 hg w5 hbox hb; have BK134 := Aside0.mk hbox; have GW134 := gE HB hg; replace HB := bB HB hb; have GE134 := GW134; clear hb hbox hg) | ((with_reducible refine gate_dst (N := 3) rfl ?_); refine box_event ?hg (N := 3) ?hd (cs := #[.int .i64 a1_0, .int .i64 a1_1]) (t := 26) ?hr ?_; (case hd => rfl); (case hg => rfl); (case hr => first | (go_simp; done) | (go_simp; rfl)); intro gb135 hg w6 hbox hb; have BK135 := Aside0.mk hbox; have GW135 := Aside0.mk ((by rw [hg]; exact (below_size (by repeat (first | (with_reducible first | exact HB.out | apply bL | apply bM | apply bR | refine bS ?_ GE134.out) | exact HB.out))) : w.heap.size ≤ gb135)); replace HB := Aside0.mk (below_step (by repeat (first | (with_reducible first | exact HB.out | apply bL | apply bM | apply bR | refine bS ?_ GE134.out) | exact HB.out)) hb); have GE135 := GW135; have NB134_135 := gN BK134 hg; replace BK134 := bK BK134 hb; have NB135_134 := Aside0.mk NB134_135.out.symm; clear hb hbox hg; have hnb7 := NB134_135.out; have hnc7 := NB135_134.out; obtain ⟨hcz8_0, hcz8_1, hcz8_2, hcz8_3, hfz8_0, hfz8_1, hfz8_2, hfz8_3⟩ := d4 BK134; have hcz9_0 : w6.cell? ⟨gb135, 0, none⟩ = some (.int .i64 a1_0) := bC BK135 0 rfl; have hcz9_1 : w6.cell? ⟨gb135, 1, none⟩ = some (.int .i64 a1_1) := bC BK135 1 rfl; have hfz9_0 := bF BK135 0; have hfz9_1 := bF BK135 1) | ((with_reducible refine gate_callee (f := 45) rfl ?_); refine goesL_ (some 7) rfl rfl Tryd.func45 (by kernel_rfl) rfl #[.agg #[.string a0_0, .int .i64 a0_1, .int .i64 a0_2, .int .i64 a0_3], .agg #[.int .i64 a1_0, .int .i64 a1_1]] rfl (by (try simp only [mA]); first | done | rfl) ?_; (with_reducible refine (amount_Fits.calls a0_0 a0_1 a0_2 a0_3 a1_0 a1_1 true _ A3.out).mono ?_); rintro e w10 ⟨rfl, hb⟩; refine ⟨_, rfl, ?_⟩; replace BK134 := bK BK134 hb; replace BK135 := bK BK135 hb; replace HB := Aside0.mk (below_step (by repeat (first | (with_reducible first | exact HB.out | apply bL | apply bM | apply bR | refine bS ?_ GE134.out | refine bS ?_ GE135.out) | exact HB.out)) hb); (try clear hb); (try clear hk)))
  go_ret
  exact ⟨by first | rfl | (simp [errW_none, errW_some] <;> rfl) | (simp [*, errW_none, errW_some] <;> rfl), by repeat (first | (with_reducible first | exact HB.out | apply bL | apply bM | apply bR | refine bS ?_ GE134.out | refine bS ?_ GE135.out) | exact HB.out)⟩
 ·replace c4 := Bool.eq_false_iff.mpr c4
  subst c4
  rw [if_neg (show ¬ (false = true) by decide)] at H
  obtain ⟨t137, A110, H⟩ := Option.bind_eq_some_iff.mp H
  have A11 := Aside0.mk A110; clear A110
  by_cases c12 : t137 = true
  ·subst c12
   rw [if_pos rfl] at H
   obtain ⟨t138, A130, H⟩ := Option.bind_eq_some_iff.mp H
   have A13 := Aside0.mk A130; clear A130
   obtain rfl := Option.some.inj H
   go_enter Tryd.func55, Tryd.ntmps55
   go_wp2_with (first | ((with_reducible refine gate_dst (N := 2) rfl ?_); refine box_event ?hg (N := 2) ?hd (cs := #[.string a0_0, .int .i64 a0_1, .int .i64 a0_2, .int .i64 a0_3]) (t := 32) ?hr ?_; (case hd => rfl); (case hg => rfl); (case hr => first | (go_simp; done) | (go_simp; rfl)); intro gb134 hg w14 hbox hb; have BK134 := Aside0.mk hbox; have GW134 := gE HB hg; replace HB := bB HB hb; have GE134 := GW134; clear hb hbox hg) | ((with_reducible refine gate_dst (N := 3) rfl ?_); refine box_event ?hg (N := 3) ?hd (cs := #[.int .i64 a1_0, .int .i64 a1_1]) (t := 26) ?hr ?_; (case hd => rfl); (case hg => rfl); (case hr => first | (go_simp; done) | (go_simp; rfl)); intro gb135 hg w15 hbox hb; have BK135 := Aside0.mk hbox; have GW135 := Aside0.mk ((by rw [hg]; exact (below_size (by repeat (first | (with_reducible first | exact HB.out | apply bL | apply bM | apply bR | refine bS ?_ GE134.out) | exact HB.out))) : w.heap.size ≤ gb135)); replace HB := Aside0.mk (below_step (by repeat (first | (with_reducible first | exact HB.out | apply bL | apply bM | apply bR | refine bS ?_ GE134.out) | exact HB.out)) hb); have GE135 := GW135; have NB134_135 := gN BK134 hg; replace BK134 := bK BK134 hb; have NB135_134 := Aside0.mk NB134_135.out.symm; clear hb hbox hg; have hnb16 := NB134_135.out; have hnc16 := NB135_134.out; obtain ⟨hcz17_0, hcz17_1, hcz17_2, hcz17_3, hfz17_0, hfz17_1, hfz17_2, hfz17_3⟩ := d4 BK134; have hcz18_0 : w15.cell? ⟨gb135, 0, none⟩ = some (.int .i64 a1_0) := bC BK135 0 rfl; have hcz18_1 : w15.cell? ⟨gb135, 1, none⟩ = some (.int .i64 a1_1) := bC BK135 1 rfl; have hfz18_0 := bF BK135 0; have hfz18_1 := bF BK135 1) | ((with_reducible refine gate_callee (f := 45) rfl ?_); refine goesL_ (some 7) rfl rfl Tryd.func45 (by kernel_rfl) rfl #[.agg #[.string a0_0, .int .i64 a0_1, .int .i64 a0_2, .int .i64 a0_3], .agg #[.int .i64 a1_0, .int .i64 a1_1]] rfl (by (try simp only [mA]); first | done | rfl) ?_; (with_reducible refine (amount_Fits.calls a0_0 a0_1 a0_2 a0_3 a1_0 a1_1 false _ A3.out).mono ?_); rintro e w19 ⟨rfl, hb⟩; refine ⟨_, rfl, ?_⟩; replace BK134 := bK BK134 hb; replace BK135 := bK BK135 hb; replace HB := Aside0.mk (below_step (by repeat (first | (with_reducible first | exact HB.out | apply bL | apply bM | apply bR | refine bS ?_ GE134.out | refine bS ?_ GE135.out) | exact HB.out)) hb); (try clear hb); (try clear hk); have hcz20_0 : w19.cell? ⟨gb135, 0, none⟩ = some (.int .i64 a1_0) := bC BK135 0 rfl; have hcz20_1 : w19.cell? ⟨gb135, 1, none⟩ = some (.int .i64 a1_1) := bC BK135 1 rfl; have hfz20_0 := bF BK135 0; have hfz20_1 := bF BK135 1) | (go_at_call 32; (with_reducible refine (amount_Zero.calls a1_0 a1_1 true _ A11.out).mono ?_); rintro e w21 ⟨rfl, hb⟩; replace BK134 := bK BK134 hb; replace BK135 := bK BK135 hb; replace HB := Aside0.mk (below_step (by repeat (first | (with_reducible first | exact HB.out | apply bL | apply bM | apply bR | refine bS ?_ GE134.out | refine bS ?_ GE135.out) | exact HB.out)) hb); (try clear hb); (try clear hk); have hcz22_0 : w21.cell? ⟨gb134, 0, none⟩ = some (.string a0_0) := bC BK134 0 rfl; have hcz22_1 : w21.cell? ⟨gb134, 1, none⟩ = some (.int .i64 a0_1) := bC BK134 1 rfl; have hcz22_2 : w21.cell? ⟨gb134, 2, none⟩ = some (.int .i64 a0_2) := bC BK134 2 rfl; have hcz22_3 : w21.cell? ⟨gb134, 3, none⟩ = some (.int .i64 a0_3) := bC BK134 3 rfl; have hfz22_0 := bF BK134 0; have hfz22_1 := bF BK134 1; have hfz22_2 := bF BK134 2; have hfz22_3 := bF BK134 3) | (go_at_call 43; (with_reducible refine (amount_Shaped.calls a0_0 a0_1 a0_2 a0_3 t138 _ A13.out).mono ?_); rintro e w23 ⟨rfl, hb⟩; replace BK134 := bK BK134 hb; replace BK135 := bK BK135 hb; replace HB := Aside0.mk (below_step (by repeat (first | (with_reducible first | exact HB.out | apply bL | apply bM | apply bR | refine bS ?_ GE134.out | refine bS ?_ GE135.out) | exact HB.out)) hb); (try clear hb); (try clear hk)))
   go_ret
   exact ⟨by first | rfl | (simp [errW_none, errW_some] <;> rfl) | (simp [*, errW_none, errW_some] <;> rfl), by repeat (first | (with_reducible first | exact HB.out | apply bL | apply bM | apply bR | refine bS ?_ GE134.out | refine bS ?_ GE135.out) | exact HB.out)⟩
  ·replace c12 := Bool.eq_false_iff.mpr c12
   subst c12
   rw [if_neg (show ¬ (false = true) by decide)] at H
   obtain rfl := Option.some.inj H
   go_enter Tryd.func55, Tryd.ntmps55
   go_wp2_with (first | ((with_reducible refine gate_dst (N := 2) rfl ?_); refine box_event ?hg (N := 2) ?hd (cs := #[.string a0_0, .int .i64 a0_1, .int .i64 a0_2, .int .i64 a0_3]) (t := 32) ?hr ?_; (case hd => rfl); (case hg => rfl); (case hr => first | (go_simp; done) | (go_simp; rfl)); intro gb134 hg w24 hbox hb; have BK134 := Aside0.mk hbox; have GW134 := gE HB hg; replace HB := bB HB hb; have GE134 := GW134; clear hb hbox hg) | ((with_reducible refine gate_dst (N := 3) rfl ?_); refine box_event ?hg (N := 3) ?hd (cs := #[.int .i64 a1_0, .int .i64 a1_1]) (t := 26) ?hr ?_; (case hd => rfl); (case hg => rfl); (case hr => first | (go_simp; done) | (go_simp; rfl)); intro gb135 hg w25 hbox hb; have BK135 := Aside0.mk hbox; have GW135 := Aside0.mk ((by rw [hg]; exact (below_size (by repeat (first | (with_reducible first | exact HB.out | apply bL | apply bM | apply bR | refine bS ?_ GE134.out) | exact HB.out))) : w.heap.size ≤ gb135)); replace HB := Aside0.mk (below_step (by repeat (first | (with_reducible first | exact HB.out | apply bL | apply bM | apply bR | refine bS ?_ GE134.out) | exact HB.out)) hb); have GE135 := GW135; have NB134_135 := gN BK134 hg; replace BK134 := bK BK134 hb; have NB135_134 := Aside0.mk NB134_135.out.symm; clear hb hbox hg; have hnb26 := NB134_135.out; have hnc26 := NB135_134.out; obtain ⟨hcz27_0, hcz27_1, hcz27_2, hcz27_3, hfz27_0, hfz27_1, hfz27_2, hfz27_3⟩ := d4 BK134; have hcz28_0 : w25.cell? ⟨gb135, 0, none⟩ = some (.int .i64 a1_0) := bC BK135 0 rfl; have hcz28_1 : w25.cell? ⟨gb135, 1, none⟩ = some (.int .i64 a1_1) := bC BK135 1 rfl; have hfz28_0 := bF BK135 0; have hfz28_1 := bF BK135 1) | ((with_reducible refine gate_callee (f := 45) rfl ?_); refine goesL_ (some 7) rfl rfl Tryd.func45 (by kernel_rfl) rfl #[.agg #[.string a0_0, .int .i64 a0_1, .int .i64 a0_2, .int .i64 a0_3], .agg #[.int .i64 a1_0, .int .i64 a1_1]] rfl (by (try simp only [mA]); first | done | rfl) ?_; (with_reducible refine (amount_Fits.calls a0_0 a0_1 a0_2 a0_3 a1_0 a1_1 false _ A3.out).mono ?_); rintro e w29 ⟨rfl, hb⟩; refine ⟨_, rfl, ?_⟩; replace BK134 := bK BK134 hb; replace BK135 := bK BK135 hb; replace HB := Aside0.mk (below_step (by repeat (first | (with_reducible first | exact HB.out | apply bL | apply bM | apply bR | refine bS ?_ GE134.out | refine bS ?_ GE135.out) | exact HB.out)) hb); (try clear hb); (try clear hk); have hcz30_0 : w29.cell? ⟨gb135, 0, none⟩ = some (.int .i64 a1_0) := bC BK135 0 rfl; have hcz30_1 : w29.cell? ⟨gb135, 1, none⟩ = some (.int .i64 a1_1) := bC BK135 1 rfl; have hfz30_0 := bF BK135 0; have hfz30_1 := bF BK135 1) | (go_at_call 32; (with_reducible refine (amount_Zero.calls a1_0 a1_1 false _ A11.out).mono ?_); rintro e w31 ⟨rfl, hb⟩; replace BK134 := bK BK134 hb; replace BK135 := bK BK135 hb; replace HB := Aside0.mk (below_step (by repeat (first | (with_reducible first | exact HB.out | apply bL | apply bM | apply bR | refine bS ?_ GE134.out | refine bS ?_ GE135.out) | exact HB.out)) hb); (try clear hb); (try clear hk)))
   go_ret
   exact ⟨by first | rfl | (simp [errW_none, errW_some] <;> rfl) | (simp [*, errW_none, errW_some] <;> rfl), by repeat (first | (with_reducible first | exact HB.out | apply bL | apply bM | apply bR | refine bS ?_ GE134.out | refine bS ?_ GE135.out) | exact HB.out)⟩
/-! ### mode_Compatible: function 56 -/
def mode_Compatible.f (a0 : Int) (a1 : Int) : Option Bool := if 1 ≤ a0 ∧ a0 ≤ 5 then (if 1 ≤ a1 ∧ a1 ≤ 5 then some (modeTab.getD (a0.toNat * 6 + a1.toNat) false) else some false) else some false
theorem mode_Compatible.valid_yes {a : Int} (h : 1 ≤ a ∧ a ≤ 5) : mode_Valid.f a = some true := by
 unfold mode_Valid.f
 rw [if_pos (by omega)]
 simp
 omega
theorem mode_Compatible.valid_no {a : Int} (h : ¬ (1 ≤ a ∧ a ≤ 5)) : mode_Valid.f a = some false := by
 unfold mode_Valid.f
 by_cases h1 : a ≥ 1
 ·rw [if_pos h1]
  simp
  omega
 ·rw [if_neg h1]
theorem mode_Compatible.calls (a0 : Int) (a1 : Int) (r : Bool) (w : World) (hG : GL w) (h : mode_Compatible.f a0 a1 = some r) :
  Calls Tryd.prog 56 #[.int .i64 a0, .int .i64 a1] w fun e w' => e = .returned (.bool r) ∧ Drawn0 w w' := by
 unfold mode_Compatible.f at h
 by_cases h0 : 1 ≤ a0 ∧ a0 ≤ 5
 ·rw [if_pos h0] at h
  have H0 := Aside0.mk (mode_Compatible.valid_yes h0)
  by_cases h1 : 1 ≤ a1 ∧ a1 ≤ 5
  ·rw [if_pos h1] at h
   obtain rfl := Option.some.inj h
   have H1 := Aside0.mk (mode_Compatible.valid_yes h1)
   obtain ⟨p0, q0⟩ := h0
   obtain ⟨p1, q1⟩ := h1
   have g := hG (a0.toNat * 6 + a1.toNat) (by omega)
   clear hG h
   go_enter Tryd.func56, Tryd.ntmps56
   go_wp2_with (first | (go_at_call 60; (with_reducible refine (mode_Valid.calls a0 true _ H0.out).mono ?_); rintro e w' ⟨rfl, ⟨nd, rfl⟩⟩) | (go_at_call 60; (with_reducible refine (mode_Valid.calls a1 true _ H1.out).mono ?_); rintro e w' ⟨rfl, ⟨nd, rfl⟩⟩))
   go_ret
   exact ⟨rfl, by repeat (first | exact Drawn0.refl _ | apply Drawn0.step)⟩
  ·rw [if_neg h1] at h
   obtain rfl := Option.some.inj h
   have H1 := Aside0.mk (mode_Compatible.valid_no h1)
   clear hG h h0 h1
   go_enter Tryd.func56, Tryd.ntmps56
   go_wp2_with (first | (go_at_call 60; (with_reducible refine (mode_Valid.calls a0 true _ H0.out).mono ?_); rintro e w' ⟨rfl, ⟨nd, rfl⟩⟩) | (go_at_call 60; (with_reducible refine (mode_Valid.calls a1 false _ H1.out).mono ?_); rintro e w' ⟨rfl, ⟨nd, rfl⟩⟩))
   go_ret
   exact ⟨rfl, by repeat (first | exact Drawn0.refl _ | apply Drawn0.step)⟩
 ·rw [if_neg h0] at h
  obtain rfl := Option.some.inj h
  have H0 := Aside0.mk (mode_Compatible.valid_no h0)
  clear hG h h0
  go_enter Tryd.func56, Tryd.ntmps56
  go_wp2_with (first | (go_at_call 60; (with_reducible refine (mode_Valid.calls a0 false _ H0.out).mono ?_); rintro e w' ⟨rfl, ⟨nd, rfl⟩⟩))
  go_ret
  exact ⟨rfl, by repeat (first | exact Drawn0.refl _ | apply Drawn0.step)⟩
end Go.Proofs.YtnmemkphfgdplaaDoor.PA
