-- Printed by wip/tool/myprint.py for this claim; Lean checks it.
import Derived.Test.YtbiapfjhdggkpaaDoorT17
import Derived.Test.YtbiapfjhdggkpaaDoorPAx0
import Derived.Test.YtbiapfjhdggkpaaDoorPAx5
import Derived.Test.YtbiapfjhdggkpaaDoorPAx6
import Derived.Test.YtbiapfjhdggkpaaDoorSlim
namespace Go.Proofs.YtbiapfjhdggkpaaDoor.PA
open Go.RowKit Go.Proofs.YtbiapfjhdggkpaaDoorW.PrintWords Go.Proofs.YtbiapfjhdggkpaaDoorW.PrintLast Go.Proofs.YtbiapfjhdggkpaaDoorW.PrintMore
attribute [local go_sem] max2_int min2_int max_two min_two max_three min_three max_four min_four   -- for this text's walks alone
set_option linter.unusedVariables false
set_option linter.unusedSimpArgs false

/-! ### catalog_Remove: function 26 -/
-- @import T17

/-! ### clusterlocksref05_Remove: function 27 -/
def clusterlocksref05_Remove.l0 : Nat → List (S26) → ByteArray → List (S26) → Int → Option ((List (S26)) × Int)
 | 0, _, _, _, _ => none
 | k + 1, x0, x1, x8, x9 => if x9 < (x0.length : Int) then (if 0 ≤ x9 then (if ((rd_T26 x0 x9).f0).toList = x1.toList then (clusterlocksref05_Remove.l0 k x0 x1 x8 (wrap64 (x9 + 1))) else (if x8.length < 3518437208883 then (clusterlocksref05_Remove.l0 k x0 x1 (x8 ++ [(⟨(rd_T26 x0 x9).f0, (rd_T26 x0 x9).f1, (rd_T26 x0 x9).f2, (rd_T26 x0 x9).f3⟩ : S26)]) (wrap64 (x9 + 1))) else (none))) else (none)) else (some (x8, 0))
def clusterlocksref05_Remove.f (k : Nat) (l0 : List (S26)) (a1 : ByteArray) : Option ((List (S26)) × Int) := (clusterlocksref05_Valid.f k l0).bind fun t202 => (if t202 = true then ((clusterlocksref05_Find.f k l0 a1).bind fun bt203 => (if bt203.2.2.2.2 = true then (clusterlocksref05_Remove.l0 k l0 a1 ([] : List (S26)) 0) else (some (([] : List (S26)), 10)))) else (some (([] : List (S26)), 2)))
theorem clusterlocksref05_Remove.mono_l : ∀ k, (∀ y0 y1 y2 y3, LeO (clusterlocksref05_Remove.l0 k y0 y1 y2 y3) (clusterlocksref05_Remove.l0 (k + 1) y0 y1 y2 y3))
 | 0 => fun _ _ _ _ r h => by simp [clusterlocksref05_Remove.l0] at h
 | k + 1 => by
  have ih0 := clusterlocksref05_Remove.mono_l k
  ·intro y0 y1 y2 y3
   unfold clusterlocksref05_Remove.l0
   repeat' first
   | (with_reducible exact ih0 _ _ _ _)
   | (with_reducible exact clusterlocksref05_Find.mono _ _ _)
   | (with_reducible exact clusterlocksref05_Valid.mono _ _)
   | (with_reducible exact LeO.refl _)
   | (with_reducible exact LeO.none _)
   | (with_reducible refine LeO.ite ?_ ?_)
   | (with_reducible refine LeO.bind ?_ (fun _ => ?_))
   | exact ih0 _ _ _ _
   | exact clusterlocksref05_Find.mono _ _ _
   | exact clusterlocksref05_Valid.mono _ _
   | exact LeO.none _
   | refine LeO.ite ?_ ?_
   | refine LeO.bind ?_ (fun _ => ?_)
theorem clusterlocksref05_Remove.mono : ∀ a0 a1 k, LeO (clusterlocksref05_Remove.f k a0 a1) (clusterlocksref05_Remove.f (k + 1) a0 a1) := by
 intro a0 a1 k
 have ih0 := clusterlocksref05_Remove.mono_l k
 unfold clusterlocksref05_Remove.f
 repeat' first
   | (with_reducible exact ih0 _ _ _ _)
   | (with_reducible exact clusterlocksref05_Find.mono _ _ _)
   | (with_reducible exact clusterlocksref05_Valid.mono _ _)
   | (with_reducible exact LeO.refl _)
   | (with_reducible exact LeO.none _)
   | (with_reducible refine LeO.ite ?_ ?_)
   | (with_reducible refine LeO.bind ?_ (fun _ => ?_))
   | exact ih0 _ _ _ _
   | exact clusterlocksref05_Find.mono _ _ _
   | exact clusterlocksref05_Valid.mono _ _
   | exact LeO.none _
   | refine LeO.ite ?_ ?_
   | refine LeO.bind ?_ (fun _ => ?_)
set_option maxHeartbeats 8000000 in
set_option maxRecDepth 100000 in
theorem clusterlocksref05_Remove.calls (k : Nat) (A0 : Option Addr) (c0 : Nat) (l0 : List (S26)) (a1 : ByteArray) (r1 : List (S26)) (r2 : Int) (w : World) (hr0 : Kd.C k26 w A0 l0.length l0) (hc0 : l0.length ≤ c0) (h : clusterlocksref05_Remove.f k l0 a1 = some (r1, r2)) :
  Calls Tryd.prog 27 #[.slice A0 l0.length c0, .string a1] w fun e w' => ∃ v0_ : Value, e = .returned (.tuple #[v0_, .int .i64 r2]) ∧ Kd.R k26 26 w' w.heap.size (fun _ => True) v0_ r1 ∧ Below w.heap.size w w' := by
 have hu26 := Tryd.underlying26
 have HR0 := Aside0.mk hr0
 have HC0 := Aside0.mk hc0
 clear hr0 hc0
 have HB := Aside0.mk (Below.refl w.heap.size w)
 have H : ((clusterlocksref05_Valid.f k l0).bind fun t202 => (if t202 = true then ((clusterlocksref05_Find.f k l0 a1).bind fun bt203 => (if bt203.2.2.2.2 = true then (clusterlocksref05_Remove.l0 k l0 a1 ([] : List (S26)) 0) else (some (([] : List (S26)), 10)))) else (some (([] : List (S26)), 2)))) = some (r1, r2) := h
 clear h
 obtain ⟨t202, A30, H⟩ := Option.bind_eq_some_iff.mp H
 have A3 := Aside0.mk A30; clear A30
 by_cases c4 : t202 = true
 ·subst c4
  have H1 : ((clusterlocksref05_Find.f k l0 a1).bind fun bt203 => (if bt203.2.2.2.2 = true then (clusterlocksref05_Remove.l0 k l0 a1 ([] : List (S26)) 0) else (some (([] : List (S26)), 10)))) = some (r1, r2) := by rw [if_pos rfl] at H; exact H
  clear H
  have H := H1
  clear H1
  replace H := Option.bind_eq_some_iff.mp H
  obtain ⟨⟨t203, t204, t205, t206, t207⟩, A50, H⟩ := H
  replace H : (if t207 = true then (clusterlocksref05_Remove.l0 k l0 a1 ([] : List (S26)) 0) else (some (([] : List (S26)), 10))) = some (r1, r2) := H
  have A5 := Aside0.mk A50; clear A50
  by_cases c6 : t207 = true
  ·subst c6
   have H1 : (clusterlocksref05_Remove.l0 k l0 a1 ([] : List (S26)) 0) = some (r1, r2) := by rw [if_pos rfl] at H; exact H
   clear H
   have H := H1
   clear H1
   have H' := Aside0.mk H
   clear H
   go_enter Tryd.func27, Tryd.ntmps27
   go_wp2_with (first | ((with_reducible refine gate_callee (f := 21) rfl ?_); refine goesL_ (some 11) rfl rfl Tryd.func21 (by kernel_rfl) rfl #[.slice A0 l0.length c0] rfl (by (try simp only [mA]); first | done | rfl) ?_; (with_reducible refine (clusterlocksref05_Valid.calls k _ _ l0 true _ ?side1 ?side2 A3.out).mono ?_); (case side1 => repeat (first | exact HR0.out | (with_reducible refine Kd.C_alloc ?_ _) | (with_reducible refine Kd.C_drewN ?_ _) | (with_reducible refine Kd.C_drew ?_))); (case side2 => exact HC0.out); rintro e w7 ⟨rfl, hb⟩; refine ⟨_, rfl, ?_⟩; replace HB := bB HB hb; (try clear hb); (try clear hk)) | ((with_reducible refine gate_callee (f := 29) rfl ?_); refine goesL_ (some 16) rfl rfl Tryd.func29 (by kernel_rfl) rfl #[.slice A0 l0.length c0, .string a1] rfl (by (try simp only [mA]); first | done | rfl) ?_; (with_reducible refine (clusterlocksref05_Find.calls k _ _ l0 a1 t203 t204 t205 t206 true _ ?side1 ?side2 A5.out).mono ?_); (case side1 => repeat (first | exact (Kd.C_below HR0.out HB.out) | (with_reducible refine Kd.C_alloc ?_ _) | (with_reducible refine Kd.C_drewN ?_ _) | (with_reducible refine Kd.C_drew ?_))); (case side2 => exact HC0.out); rintro e w8 ⟨rfl, hb⟩; refine ⟨_, rfl, ?_⟩; replace HB := bB HB hb; (try clear hb); (try clear hk)) | ((with_reducible refine gate_dst (N := 6) rfl ?_); refine box_event ?hg (N := 6) ?hd (cs := #[.string (⟨#[]⟩ : ByteArray), .int .i64 0, .int .i64 0, .int .i64 0]) (t := 26) ?hr ?_; (case hd => rfl); (case hg => rfl); (case hr => first | (go_simp; done) | (go_simp; rfl)); intro gb208 hg w9 hbox hb; have BK208 := Aside0.mk hbox; have GW208 := gE HB hg; replace HB := bB HB hb; have GE208 := GW208; clear hb hbox hg; have hcz10_0 : w9.cell? ⟨gb208, 0, none⟩ = some (.string (⟨#[]⟩ : ByteArray)) := bC BK208 0 rfl; have hcz10_1 : w9.cell? ⟨gb208, 1, none⟩ = some (.int .i64 0) := bC BK208 1 rfl; have hcz10_2 : w9.cell? ⟨gb208, 2, none⟩ = some (.int .i64 0) := bC BK208 2 rfl; have hcz10_3 : w9.cell? ⟨gb208, 3, none⟩ = some (.int .i64 0) := bC BK208 3 rfl; have hfz10_0 := bF BK208 0; have hfz10_1 := bF BK208 1; have hfz10_2 := bF BK208 2; have hfz10_3 := bF BK208 3))
   go_loopg [8, 9] k (fun kq v8 v9 w' => ∃ (x8_1 : List (S26)) (x9_1 : Int), v9 = .int .i64 x9_1 ∧ Aside0 (clusterlocksref05_Remove.l0 kq l0 a1 x8_1 x9_1 = some (r1, r2)) ∧ Aside0 (kq ≤ k) ∧ Aside0 (Kd.R k26 26 w' w.heap.size (fun k_ => k_ ≠ gb208) v8 x8_1) ∧ Aside0 (w'.heap[gb208]? = some (.cells #[.string t203, .int .i64 t204, .int .i64 t205, .int .i64 t206] 26 (0, 0))) ∧ Aside0 (Below w.heap.size w w'))
   case atStart => exact ⟨(([] : List (S26))), (0), (by first | rfl | (simp; done) | (simp [*]; done)), H', ⟨Nat.le_refl _⟩, ⟨by first | exact Kd.R_nil _ _ _ _ _ | exact Kd.N_nil _ _ _ _ _ | exact Kd.V_nil _ _ _ _ _ | exact Kd.Q_nil _ _ _ _ _ | exact Kd.S_nil _ _ _ _ _⟩, ⟨by (with_reducible repeat first | refine bN ?_ _ | refine bD ?_ | refine bA ?_ _); refine blk_put (cs := #[.string t203, .int .i64 t204, .int .i64 t205, .int .i64 0]) ?_ 3 _ rfl; (with_reducible repeat first | refine bN ?_ _ | refine bD ?_ | refine bA ?_ _); refine blk_put (cs := #[.string t203, .int .i64 t204, .int .i64 0, .int .i64 0]) ?_ 2 _ rfl; (with_reducible repeat first | refine bN ?_ _ | refine bD ?_ | refine bA ?_ _); refine blk_put (cs := #[.string t203, .int .i64 0, .int .i64 0, .int .i64 0]) ?_ 1 _ rfl; (with_reducible repeat first | refine bN ?_ _ | refine bD ?_ | refine bA ?_ _); refine blk_put (cs := #[.string (⟨#[]⟩ : ByteArray), .int .i64 0, .int .i64 0, .int .i64 0]) ?_ 0 _ rfl; (with_reducible repeat first | refine bN ?_ _ | refine bD ?_ | refine bA ?_ _); exact BK208.out⟩, ⟨(haveI := gI GE208; uS HB)⟩⟩
   case round =>
    clear H'
    try clear c2
    try clear p2
    try clear c4
    try clear c6
    try clear hcz10_0
    try clear hcz10_1
    try clear hcz10_2
    try clear hcz10_3
    try clear hfz10_0
    try clear hfz10_1
    try clear hfz10_2
    try clear hfz10_3
    obtain ⟨x8_1, x9_1, rfl, HA, HK1, HO_8, BK208, HB⟩ := hrel
    cases gk with
    | zero => exact absurd HA.out (by simp [clusterlocksref05_Remove.l0])
    | succ k1 =>
     have H := HA.out
     clear HA
     simp only [clusterlocksref05_Remove.l0] at H
     by_cases c11 : x9_1 < (l0.length : Int)
     ·rw [if_pos c11] at H
      have c11b0 : decide (x9_1 < (l0.length : Int)) = true := decide_eq_true c11
      clear c11
      by_cases c12 : 0 ≤ x9_1
      ·rw [if_pos c12] at H
       have c12b0 : decide (0 ≤ x9_1) = true := decide_eq_true c12
       clear c12
       by_cases c13 : ((rd_T26 l0 x9_1).f0).toList = a1.toList
       ·rw [if_pos c13] at H
        have c13b0 : (((rd_T26 l0 x9_1).f0).toList == a1.toList) = true := beq_iff_eq.mpr c13
        have c13b1 : (((rd_T26 l0 x9_1).f0).toList != a1.toList) = false := bne_eq_false_iff_eq.mpr c13
        clear c13
        have H' := Aside0.mk H
        clear H
        have p209 : 0 ≤ (x9_1 : Int) := of_decide_eq_true (by first | (with_reducible assumption) | assumption)
        have q209 : x9_1 < (l0.length : Int) := of_decide_eq_true (by first | (with_reducible assumption) | assumption)
        obtain ⟨ad209, e209, hx209_0, hx209_1, hx209_2, hx209_3⟩ := at_T26 HR0.out x9_1 p209 q209
        cases e209
        replace hx209_0 := kC HB hx209_0
        replace hx209_1 := kC HB hx209_1
        replace hx209_2 := kC HB hx209_2
        replace hx209_3 := kC HB hx209_3
        replace p209 := eq_true p209
        replace q209 := eq_true q209
        go_wp2
        go_roundg k1
        case measure => have := HK1.out; omega
        case rel => exact ⟨(x8_1), (wrap64 (x9_1 + 1)), (by first | rfl | (simp; done) | (simp [*]; done)), H', ⟨by have := HK1.out; omega⟩, ⟨by (with_reducible repeat (first | apply Kd.R_alloc | apply Kd.R_drewN | apply Kd.R_drew)); exact HO_8.out⟩, ⟨uK BK208⟩, ⟨(haveI := gI GE208; uS HB)⟩⟩
       ·rw [if_neg c13] at H
        have c13b0 : (((rd_T26 l0 x9_1).f0).toList == a1.toList) = false := beq_eq_false_iff_ne.mpr c13
        have c13b1 : (((rd_T26 l0 x9_1).f0).toList != a1.toList) = true := bne_iff_ne.mpr c13
        by_cases c14 : x8_1.length < 3518437208883
        ·rw [if_pos c14] at H
         have LMc14 := Aside0.mk c14
         clear c14
         obtain ⟨y211, hy211⟩ : ∃ y_ : List (S26), y_ = (x8_1 ++ [(⟨(rd_T26 l0 x9_1).f0, (rd_T26 l0 x9_1).f1, (rd_T26 l0 x9_1).f2, (rd_T26 l0 x9_1).f3⟩ : S26)]) := ⟨_, rfl⟩
         replace H : (clusterlocksref05_Remove.l0 k1 l0 a1 y211 (wrap64 (x9_1 + 1))) = some (r1, r2) := by first | (rw [hy211]; with_reducible exact H) | (have H2_ := (Option.bind_some _ _).symm.trans H; rw [hy211]; with_reducible exact H2_) | (have H2_ := (Option.bind_some _ _).symm.trans H; with_reducible exact H2_) | with_reducible exact H | (rw [hy211]; exact H) | exact H
         have Ny211 := Aside0.mk hy211
         clear hy211
         have H' := Aside0.mk H
         clear H
         have p209 : 0 ≤ (x9_1 : Int) := of_decide_eq_true (by first | (with_reducible assumption) | assumption)
         have q209 : x9_1 < (l0.length : Int) := of_decide_eq_true (by first | (with_reducible assumption) | assumption)
         obtain ⟨ad209, e209, hx209_0, hx209_1, hx209_2, hx209_3⟩ := at_T26 HR0.out x9_1 p209 q209
         cases e209
         replace hx209_0 := kC HB hx209_0
         replace hx209_1 := kC HB hx209_1
         replace hx209_2 := kC HB hx209_2
         replace hx209_3 := kC HB hx209_3
         replace p209 := eq_true p209
         replace q209 := eq_true q209
         have p210 : 0 ≤ (x9_1 : Int) := of_decide_eq_true (by first | (with_reducible assumption) | assumption)
         have q210 : x9_1 < (l0.length : Int) := of_decide_eq_true (by first | (with_reducible assumption) | assumption)
         obtain ⟨ad210, e210, hx210_0, hx210_1, hx210_2, hx210_3⟩ := at_T26 HR0.out x9_1 p210 q210
         obtain rfl : ad209 = ad210 := (by injection e210)
         replace hx210_0 := kC HB hx210_0
         replace hx210_1 := kC HB hx210_1
         replace hx210_2 := kC HB hx210_2
         replace hx210_3 := kC HB hx210_3
         replace p210 := eq_true p210
         replace q210 := eq_true q210
         go_wp2_with (first | ((with_reducible refine gate_builtin (b := .append) (xs := #[.tmp 34, .tmp 39]) rfl ?_); at_builtin; refine Kd.R_append k26 (w0 := w) w.heap.size rfl (.tmp 34) (.tmp 39) 24 26 (.agg #[(.string ⟨#[]⟩), (.int .i64 0), (.int .i64 0), (.int .i64 0)]) 40 rfl Tryd.underlying24 info26 rfl (by decide) (by omega) u8 x8_1 (⟨(rd_T26 l0 x9_1).f0, (rd_T26 l0 x9_1).f1, (rd_T26 l0 x9_1).f2, (rd_T26 l0 x9_1).f3⟩ : S26) [.string ((rd_T26 l0 x9_1).f0), .int .i64 ((rd_T26 l0 x9_1).f1), .int .i64 ((rd_T26 l0 x9_1).f2), .int .i64 ((rd_T26 l0 x9_1).f3)] (fun k_ => k_ ≠ gb208) (fun _ => False) rfl rfl ?aP (fun _ hk => hk.elim) ?aF ?aO ?aB ?aS ?aL ?_; (case aP => exact k26_mkM _ _ _ (⟨(rd_T26 l0 x9_1).f0, (rd_T26 l0 x9_1).f1, (rd_T26 l0 x9_1).f2, (rd_T26 l0 x9_1).f3⟩ : S26)); (case aB => exact (haveI := gI GE208; uS HB)); (case aF => exact (fun k_ hk => Kd.freshB (g := gb208) (o := .cells #[.string t203, .int .i64 t204, .int .i64 t205, .int .i64 t206] 26 (0, 0)) (uK BK208) k_ hk)); (case aO => exact (by (with_reducible repeat (first | apply Kd.R_alloc | apply Kd.R_drewN | apply Kd.R_drew)); exact HO_8.out)); (case aS => exact (below_size (haveI := gI GE208; uS HB))); (case aL => have := LMc14.out; omega); intro v212 w15 ho hb hg hat; rw [← Ny211.out] at ho; replace BK208 := Aside0.mk (blk_grown (g := gb208) (o := .cells #[.string t203, .int .i64 t204, .int .i64 t205, .int .i64 t206] 26 (0, 0)) (uK BK208) hg (Kd.R_away HO_8.out (fun _ hk => hk))); replace HB := Aside0.mk (hb); have HO213 := Aside0.mk (ho); clear HO_8; clear ho hb hg hat))
         go_roundg k1
         case measure => have := HK1.out; omega
         case rel => exact ⟨(y211), (wrap64 (x9_1 + 1)), (by first | rfl | (simp; done) | (simp [*]; done)), H', ⟨by have := HK1.out; omega⟩, ⟨by (with_reducible repeat (first | apply Kd.R_alloc | apply Kd.R_drewN | apply Kd.R_drew)); exact HO213.out⟩, ⟨uK BK208⟩, ⟨(haveI := gI GE208; uS HB)⟩⟩
        ·rw [if_neg c14] at H
         exact absurd H (by simp)
      ·rw [if_neg c12] at H
       exact absurd H (by simp)
     ·rw [if_neg c11] at H
      have c11b0 : decide (x9_1 < (l0.length : Int)) = false := decide_eq_false c11
      clear c11
      simp only [Option.some.injEq, Prod.mk.injEq] at H
      obtain ⟨rfl, rfl⟩ := H
      go_wp2
      go_ret2
      exact ⟨_, by first | rfl | (simp [errW_none, errW_some] <;> rfl) | (simp [*, errW_none, errW_some] <;> rfl), by (with_reducible repeat (first | apply Kd.R_alloc | apply Kd.R_drewN | apply Kd.R_drew)); exact Kd.R_mono HO_8.out (fun _ hk => trivial), (haveI := gI GE208; uS HB)⟩
  ·replace c6 := Bool.eq_false_iff.mpr c6
   subst c6
   have H1 : (some (([] : List (S26)), 10)) = some (r1, r2) := by rw [if_neg (show ¬ (false = true) by decide)] at H; exact H
   clear H
   have H := H1
   clear H1
   simp only [Option.some.injEq, Prod.mk.injEq] at H
   obtain ⟨rfl, rfl⟩ := H
   go_enter Tryd.func27, Tryd.ntmps27
   go_wp2_with (first | ((with_reducible refine gate_callee (f := 21) rfl ?_); refine goesL_ (some 11) rfl rfl Tryd.func21 (by kernel_rfl) rfl #[.slice A0 l0.length c0] rfl (by (try simp only [mA]); first | done | rfl) ?_; (with_reducible refine (clusterlocksref05_Valid.calls k _ _ l0 true _ ?side1 ?side2 A3.out).mono ?_); (case side1 => repeat (first | exact HR0.out | (with_reducible refine Kd.C_alloc ?_ _) | (with_reducible refine Kd.C_drewN ?_ _) | (with_reducible refine Kd.C_drew ?_))); (case side2 => exact HC0.out); rintro e w16 ⟨rfl, hb⟩; refine ⟨_, rfl, ?_⟩; replace HB := bB HB hb; (try clear hb); (try clear hk)) | ((with_reducible refine gate_callee (f := 29) rfl ?_); refine goesL_ (some 16) rfl rfl Tryd.func29 (by kernel_rfl) rfl #[.slice A0 l0.length c0, .string a1] rfl (by (try simp only [mA]); first | done | rfl) ?_; (with_reducible refine (clusterlocksref05_Find.calls k _ _ l0 a1 t203 t204 t205 t206 false _ ?side1 ?side2 A5.out).mono ?_); (case side1 => repeat (first | exact (Kd.C_below HR0.out HB.out) | (with_reducible refine Kd.C_alloc ?_ _) | (with_reducible refine Kd.C_drewN ?_ _) | (with_reducible refine Kd.C_drew ?_))); (case side2 => exact HC0.out); rintro e w17 ⟨rfl, hb⟩; refine ⟨_, rfl, ?_⟩; replace HB := bB HB hb; (try clear hb); (try clear hk)) | ((with_reducible refine gate_dst (N := 6) rfl ?_); refine box_event ?hg (N := 6) ?hd (cs := #[.string (⟨#[]⟩ : ByteArray), .int .i64 0, .int .i64 0, .int .i64 0]) (t := 26) ?hr ?_; (case hd => rfl); (case hg => rfl); (case hr => first | (go_simp; done) | (go_simp; rfl)); intro gb208 hg w18 hbox hb; have BK208 := Aside0.mk hbox; have GW208 := gE HB hg; replace HB := bB HB hb; have GE208 := GW208; clear hb hbox hg; have hcz19_0 : w18.cell? ⟨gb208, 0, none⟩ = some (.string (⟨#[]⟩ : ByteArray)) := bC BK208 0 rfl; have hcz19_1 : w18.cell? ⟨gb208, 1, none⟩ = some (.int .i64 0) := bC BK208 1 rfl; have hcz19_2 : w18.cell? ⟨gb208, 2, none⟩ = some (.int .i64 0) := bC BK208 2 rfl; have hcz19_3 : w18.cell? ⟨gb208, 3, none⟩ = some (.int .i64 0) := bC BK208 3 rfl; have hfz19_0 := bF BK208 0; have hfz19_1 := bF BK208 1; have hfz19_2 := bF BK208 2; have hfz19_3 := bF BK208 3))
   go_ret2
   exact ⟨_, by first | rfl | (simp [errW_none, errW_some] <;> rfl) | (simp [*, errW_none, errW_some] <;> rfl), by first | exact Kd.R_nil _ _ _ _ _ | exact Kd.N_nil _ _ _ _ _ | exact Kd.V_nil _ _ _ _ _ | exact Kd.Q_nil _ _ _ _ _ | exact Kd.S_nil _ _ _ _ _, (haveI := gI GE208; uS HB)⟩
 ·replace c4 := Bool.eq_false_iff.mpr c4
  subst c4
  have H1 : (some (([] : List (S26)), 2)) = some (r1, r2) := by rw [if_neg (show ¬ (false = true) by decide)] at H; exact H
  clear H
  have H := H1
  clear H1
  simp only [Option.some.injEq, Prod.mk.injEq] at H
  obtain ⟨rfl, rfl⟩ := H
  go_enter Tryd.func27, Tryd.ntmps27
  go_wp2_with (first | ((with_reducible refine gate_callee (f := 21) rfl ?_); refine goesL_ (some 11) rfl rfl Tryd.func21 (by kernel_rfl) rfl #[.slice A0 l0.length c0] rfl (by (try simp only [mA]); first | done | rfl) ?_; (with_reducible refine (clusterlocksref05_Valid.calls k _ _ l0 false _ ?side1 ?side2 A3.out).mono ?_); (case side1 => repeat (first | exact HR0.out | (with_reducible refine Kd.C_alloc ?_ _) | (with_reducible refine Kd.C_drewN ?_ _) | (with_reducible refine Kd.C_drew ?_))); (case side2 => exact HC0.out); rintro e w20 ⟨rfl, hb⟩; refine ⟨_, rfl, ?_⟩; replace HB := bB HB hb; (try clear hb); (try clear hk)))
  go_ret2
  exact ⟨_, by first | rfl | (simp [errW_none, errW_some] <;> rfl) | (simp [*, errW_none, errW_some] <;> rfl), by first | exact Kd.R_nil _ _ _ _ _ | exact Kd.N_nil _ _ _ _ _ | exact Kd.V_nil _ _ _ _ _ | exact Kd.Q_nil _ _ _ _ _ | exact Kd.S_nil _ _ _ _ _, (uS HB)⟩
end Go.Proofs.YtbiapfjhdggkpaaDoor.PA

