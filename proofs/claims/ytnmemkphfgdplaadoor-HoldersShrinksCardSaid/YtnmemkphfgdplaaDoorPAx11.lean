-- Printed by wip/tool/myprint.py for this claim; Lean checks it.
import Derived.Test.YtnmemkphfgdplaaDoorPAx0
import Derived.Test.YtnmemkphfgdplaaDoorSlim
import Derived.Test.YtnmemkphfgdplaaDoorPAx1
import Derived.Test.YtnmemkphfgdplaaDoorPAx10
namespace Go.Proofs.YtnmemkphfgdplaaDoor.PA
open Go.RowKit Go.Proofs.YtnmemkphfgdplaaDoorW.PrintWords Go.Proofs.YtnmemkphfgdplaaDoorW.PrintLast Go.Proofs.YtnmemkphfgdplaaDoorW.PrintMore
attribute [local go_sem] max2_int min2_int max_two min_two max_three min_three max_four min_four   -- for this text's walks alone
set_option linter.unusedVariables false
set_option linter.unusedSimpArgs false

attribute [local go_sem high] eqA24
/-! ### clusterlocksref10_Set: function 14 -/
def clusterlocksref10_Set.l0 : Nat → List (S53) → List (S53) → Bool → Int → Int → Int → Int → Int → Int → Option ((List (S53)))
 | 0, _, _, _, _, _, _, _, _, _ => none
 | k + 1, x0, x7, x8, x9, x227000, x227001, x227002, x228000, x228001 => if x9 < (x0.length : Int) then (if 0 ≤ x9 then (if (((rd_T53 x0 x9).f0.f0) == x227000 && (((rd_T53 x0 x9).f0.f1) == x227001 && (((rd_T53 x0 x9).f0.f2) == x227002))) = true then (clusterlocksref10_Set.l0 k x0 x7 x8 (wrap64 (x9 + 1)) x227000 x227001 x227002 x228000 x228001) else (if x8 = true then (if x7.length < 3518437208883 then (clusterlocksref10_Set.l0 k x0 (x7 ++ [(⟨(⟨(rd_T53 x0 x9).f0.f0, (rd_T53 x0 x9).f0.f1, (rd_T53 x0 x9).f0.f2⟩ : S24), (⟨(rd_T53 x0 x9).f1.f0, (rd_T53 x0 x9).f1.f1⟩ : S26)⟩ : S53)]) x8 (wrap64 (x9 + 1)) x227000 x227001 x227002 x228000 x228001) else (none)) else ((clusterlocksref02_CompareProc.f ((rd_T53 x0 x9).f0.f0) ((rd_T53 x0 x9).f0.f1) ((rd_T53 x0 x9).f0.f2) x227000 x227001 x227002).bind fun t238 => (if t238 > 0 then (if x7.length < 3518437208883 then ((some (x7 ++ [(⟨(⟨x227000, x227001, x227002⟩ : S24), (⟨x228000, x228001⟩ : S26)⟩ : S53)] : List (S53))).bind fun y239 => (if y239.length < 3518437208883 then (clusterlocksref10_Set.l0 k x0 (y239 ++ [(⟨(⟨(rd_T53 x0 x9).f0.f0, (rd_T53 x0 x9).f0.f1, (rd_T53 x0 x9).f0.f2⟩ : S24), (⟨(rd_T53 x0 x9).f1.f0, (rd_T53 x0 x9).f1.f1⟩ : S26)⟩ : S53)]) true (wrap64 (x9 + 1)) x227000 x227001 x227002 x228000 x228001) else (none))) else (none)) else (if x7.length < 3518437208883 then (clusterlocksref10_Set.l0 k x0 (x7 ++ [(⟨(⟨(rd_T53 x0 x9).f0.f0, (rd_T53 x0 x9).f0.f1, (rd_T53 x0 x9).f0.f2⟩ : S24), (⟨(rd_T53 x0 x9).f1.f0, (rd_T53 x0 x9).f1.f1⟩ : S26)⟩ : S53)]) x8 (wrap64 (x9 + 1)) x227000 x227001 x227002 x228000 x228001) else (none)))))) else (none)) else (if x8 = true then (some x7) else (if x7.length < 3518437208883 then (some (x7 ++ [(⟨(⟨x227000, x227001, x227002⟩ : S24), (⟨x228000, x228001⟩ : S26)⟩ : S53)])) else (none)))
def clusterlocksref10_Set.f (k : Nat) (l0 : List (S53)) (a1_0 : Int) (a1_1 : Int) (a1_2 : Int) (a2_0 : Int) (a2_1 : Int) : Option ((List (S53))) := (clusterlocksref04_Zero.f a2_0 a2_1).bind fun t228 => (clusterlocksref10_Set.l0 k l0 ([] : List (S53)) t228 0 a1_0 a1_1 a1_2 a2_0 a2_1)
theorem clusterlocksref10_Set.mono_l : ∀ k, (∀ y0 y1 y2 y3 y4 y5 y6 y7 y8, LeO (clusterlocksref10_Set.l0 k y0 y1 y2 y3 y4 y5 y6 y7 y8) (clusterlocksref10_Set.l0 (k + 1) y0 y1 y2 y3 y4 y5 y6 y7 y8))
 | 0 => fun _ _ _ _ _ _ _ _ _ r h => by simp [clusterlocksref10_Set.l0] at h
 | k + 1 => by
  have ih0 := clusterlocksref10_Set.mono_l k
  ·intro y0 y1 y2 y3 y4 y5 y6 y7 y8
   unfold clusterlocksref10_Set.l0
   repeat' first
   | (with_reducible exact ih0 _ _ _ _ _ _ _ _ _)
   | (with_reducible exact LeO.refl _)
   | (with_reducible exact LeO.none _)
   | (with_reducible refine LeO.ite ?_ ?_)
   | (with_reducible refine LeO.bind ?_ (fun _ => ?_))
   | exact ih0 _ _ _ _ _ _ _ _ _
   | exact LeO.none _
   | refine LeO.ite ?_ ?_
   | refine LeO.bind ?_ (fun _ => ?_)
theorem clusterlocksref10_Set.mono : ∀ a0 a1 a2 a3 a4 a5 k, LeO (clusterlocksref10_Set.f k a0 a1 a2 a3 a4 a5) (clusterlocksref10_Set.f (k + 1) a0 a1 a2 a3 a4 a5) := by
 intro a0 a1 a2 a3 a4 a5 k
 have ih0 := clusterlocksref10_Set.mono_l k
 unfold clusterlocksref10_Set.f
 repeat' first
   | (with_reducible exact ih0 _ _ _ _ _ _ _ _ _)
   | (with_reducible exact LeO.refl _)
   | (with_reducible exact LeO.none _)
   | (with_reducible refine LeO.ite ?_ ?_)
   | (with_reducible refine LeO.bind ?_ (fun _ => ?_))
   | exact ih0 _ _ _ _ _ _ _ _ _
   | exact LeO.none _
   | refine LeO.ite ?_ ?_
   | refine LeO.bind ?_ (fun _ => ?_)
def clusterlocksref10_Set.T7 : Bool × List (List Nat × List Nat) := (true, [([], []), ([0], [0]), ([1], [1]), ([2], [2]), ([2], [2]), ([3, 4, 2], [2, 3, 4]), ([5, 2], [2, 5]), ([6, 2], [2, 6]), ([2], [2]), ([7, 8, 2, 2], [2, 7, 8]), ([9, 2], [2, 9]), ([2, 10], [2, 10])])
def clusterlocksref10_Set.B7 : List Nat := [0, 1, 3, 7, 7, 31, 63, 127, 7, 511, 1023, 2047]
theorem clusterlocksref10_Set.tab7 : rtab .any (opsOf Tryd.f14 7) = clusterlocksref10_Set.T7 := by kernel_rfl
theorem clusterlocksref10_Set.bits7 : waitsOk clusterlocksref10_Set.T7.2 clusterlocksref10_Set.B7 = true := by kernel_rfl
set_option maxHeartbeats 8000000 in
set_option maxRecDepth 100000 in
theorem clusterlocksref10_Set.calls (k : Nat) (A0 : Option Addr) (c0 : Nat) (l0 : List (S53)) (a1_0 : Int) (a1_1 : Int) (a1_2 : Int) (a2_0 : Int) (a2_1 : Int) (r : List (S53)) (w : World) (hr0 : Kd.C k53 w A0 l0.length l0) (hc0 : l0.length ≤ c0) (h : clusterlocksref10_Set.f k l0 a1_0 a1_1 a1_2 a2_0 a2_1 = some r) :
  Calls Tryd.prog 14 #[.slice A0 l0.length c0, .agg #[.int .i64 a1_0, .int .i64 a1_1, .int .i64 a1_2], .agg #[.int .i64 a2_0, .int .i64 a2_1]] w fun e w' => ∃ v0_ : Value, e = .returned (v0_) ∧ Kd.R k53 53 w' w.heap.size (fun _ => True) v0_ r ∧ Below w.heap.size w w' := by
 have hu24 := Tryd.underlying24
 have hu26 := Tryd.underlying26
 have hu53 := Tryd.underlying53
 have HR0 := Aside0.mk hr0
 have HC0 := Aside0.mk hc0
 clear hr0 hc0
 have HB := Aside0.mk (Below.refl w.heap.size w)
 have H : ((clusterlocksref04_Zero.f a2_0 a2_1).bind fun t228 => (clusterlocksref10_Set.l0 k l0 ([] : List (S53)) t228 0 a1_0 a1_1 a1_2 a2_0 a2_1)) = some r := h
 clear h
 obtain ⟨t228, A40, H⟩ := Option.bind_eq_some_iff.mp H
 have A4 := Aside0.mk A40; clear A40
 have H' := Aside0.mk H
 clear H
 go_enter Tryd.func14, Tryd.ntmps14
 go_wp2_with (first | ((with_reducible refine gate_dst (N := 4) rfl ?_); refine box_event ?hg (N := 4) ?hd (cs := #[.int .i64 a1_0, .int .i64 a1_1, .int .i64 a1_2]) (t := 24) ?hr ?_; (case hd => rfl); (case hg => rfl); (case hr => first | (go_simp; done) | (go_simp; rfl)); intro gb226 hg w5 hbox hb; have BK226 := Aside0.mk hbox; have GW226 := gE HB hg; replace HB := bB HB hb; have GE226 := GW226; clear hb hbox hg) | ((with_reducible refine gate_dst (N := 5) rfl ?_); refine box_event ?hg (N := 5) ?hd (cs := #[.int .i64 a2_0, .int .i64 a2_1]) (t := 26) ?hr ?_; (case hd => rfl); (case hg => rfl); (case hr => first | (go_simp; done) | (go_simp; rfl)); intro gb227 hg w6 hbox hb; have BK227 := Aside0.mk hbox; have GW227 := gE HB hg; replace HB := bB HB hb; have GE227 := GW227; have NB226_227 := gN BK226 hg; replace BK226 := bK BK226 hb; have NB227_226 := Aside0.mk NB226_227.out.symm; clear hb hbox hg; have hnb7 := NB227_226.out; have hnc7 := NB226_227.out; have hcz8_0 : w6.cell? ⟨gb227, 0, none⟩ = some (.int .i64 a2_0) := bC BK227 0 rfl; have hcz8_1 : w6.cell? ⟨gb227, 1, none⟩ = some (.int .i64 a2_1) := bC BK227 1 rfl; have hfz8_0 := bF BK227 0; have hfz8_1 := bF BK227 1) | ((with_reducible refine gate_callee (f := 28) rfl ?_); refine goesL_ (some 11) rfl rfl Tryd.func28 (by kernel_rfl) rfl #[.agg #[.int .i64 a2_0, .int .i64 a2_1]] rfl (by (try simp only [mA]); first | done | rfl) ?_; (with_reducible refine (clusterlocksref04_Zero.calls a2_0 a2_1 t228 _ A4.out).mono ?_); rintro e w9 ⟨rfl, hb⟩; refine ⟨_, rfl, ?_⟩; replace BK226 := bK BK226 hb; replace BK227 := bK BK227 hb; replace HB := bB HB hb; (try clear hb); (try clear hk)))
 go_loopg [7, 8, 9] k (fun kq v7 v8 v9 w' => ∃ (x7_1 : List (S53)) (x8_1 : Bool) (x9_1 : Int), v8 = .bool x8_1 ∧ v9 = .int .i64 x9_1 ∧ Aside0 (clusterlocksref10_Set.l0 kq l0 x7_1 x8_1 x9_1 a1_0 a1_1 a1_2 a2_0 a2_1 = some r) ∧ Aside0 (kq ≤ k) ∧ Aside0 (Kd.R k53 53 w' w.heap.size (fun _ => True) v7 x7_1) ∧ Aside0 (w'.heap[gb226]? = some (.cells #[.int .i64 a1_0, .int .i64 a1_1, .int .i64 a1_2] 24 (0, 0))) ∧ Aside0 (w'.heap[gb227]? = some (.cells #[.int .i64 a2_0, .int .i64 a2_1] 26 (0, 0))) ∧ Aside0 (Below w.heap.size w w'))
 case atStart => exact ⟨(([] : List (S53))), (t228), (0), (by first | rfl | (simp; done) | (simp [*]; done)), (by first | rfl | (simp; done) | (simp [*]; done)), H', ⟨Nat.le_refl _⟩, ⟨by first | exact Kd.R_nil _ _ _ _ _ | exact Kd.N_nil _ _ _ _ _ | exact Kd.V_nil _ _ _ _ _ | exact Kd.Q_nil _ _ _ _ _ | exact Kd.S_nil _ _ _ _ _⟩, ⟨by (with_reducible repeat first | refine bN ?_ _ | refine bD ?_ | refine bA ?_ _); exact BK226.out⟩, ⟨by (with_reducible repeat first | refine bN ?_ _ | refine bD ?_ | refine bA ?_ _); exact BK227.out⟩, ⟨by repeat (first | (with_reducible first | exact HB.out | apply bL | apply bM | apply bR) | exact HB.out)⟩⟩
 case round =>
  clear H'
  try clear c1
  try clear c2
  try clear p2
  try clear c7
  try clear hcz8_0
  try clear hcz8_1
  try clear hfz8_0
  try clear hfz8_1
  obtain ⟨x7_1, x8_1, x9_1, rfl, rfl, HA, HK1, HO_7, BK226, BK227, HB⟩ := hrel
  cases gk with
  | zero => exact absurd HA.out (by simp [clusterlocksref10_Set.l0])
  | succ k1 =>
   have H := HA.out
   clear HA
   simp only [clusterlocksref10_Set.l0] at H
   by_cases c10 : x9_1 < (l0.length : Int)
   ·rw [if_pos c10] at H
    have c10b0 : decide (x9_1 < (l0.length : Int)) = true := decide_eq_true c10
    clear c10
    by_cases c11 : 0 ≤ x9_1
    ·rw [if_pos c11] at H
     have c11b0 : decide (0 ≤ x9_1) = true := decide_eq_true c11
     clear c11
     by_cases c12 : (((rd_T53 l0 x9_1).f0.f0) == a1_0 && (((rd_T53 l0 x9_1).f0.f1) == a1_1 && (((rd_T53 l0 x9_1).f0.f2) == a1_2))) = true
     ·rw [if_pos c12] at H
      have c12b0 : (((rd_T53 l0 x9_1).f0.f0) == a1_0 && (((rd_T53 l0 x9_1).f0.f1) == a1_1 && (((rd_T53 l0 x9_1).f0.f2) == a1_2))) = true := c12
      (try (have c12b1 : decide (((rd_T53 l0 x9_1).f0.f0) = a1_0 && (((rd_T53 l0 x9_1).f0.f1) == a1_1 && (((rd_T53 l0 x9_1).f0.f2) == a1_2))) = true := by simpa using c12))
      (try (have c12b2 : (((rd_T53 l0 x9_1).f0.f0) == a1_0 && (((rd_T53 l0 x9_1).f0.f1) == a1_1 && (((rd_T53 l0 x9_1).f0.f2) == a1_2))) = true := by simpa using c12))
      clear c12
      have H' := Aside0.mk H
      clear H
      try go_wp2
      replace HO_7 := Aside0.mk (Kd.R_drew HO_7.out)
      replace BK226 := Aside0.mk (blk_drew BK226.out)
      replace BK227 := Aside0.mk (blk_drew BK227.out)
      replace HB := Aside0.mk (below_drew1 HB.out)
      have p232 : 0 ≤ (x9_1 : Int) := of_decide_eq_true (by first | (with_reducible assumption) | assumption)
      have q232 : x9_1 < (l0.length : Int) := of_decide_eq_true (by first | (with_reducible assumption) | assumption)
      obtain ⟨ad232, e232, hx232_0, hx232_1, hx232_2, hx232_3, hx232_4⟩ := at_T53 HR0.out x9_1 p232 q232
      have hw232_4 := hx232_4
      have hw232_3 := hx232_3
      have hw232_2 := hx232_2
      have hw232_1 := hx232_1
      have hw232_0 := hx232_0
      cases e232
      replace hx232_0 := kC HB hx232_0
      replace hx232_1 := kC HB hx232_1
      replace hx232_2 := kC HB hx232_2
      replace hx232_3 := kC HB hx232_3
      replace hx232_4 := kC HB hx232_4
      replace p232 := eq_true p232
      replace q232 := eq_true q232
      refine start_ (n := 7) (S := fun w' => w'.cell? ⟨gb226, 0, none⟩ = some (.int .i64 a1_0) ∧ w'.cell? ⟨gb226, 1, none⟩ = some (.int .i64 a1_1) ∧ w'.cell? ⟨gb226, 2, none⟩ = some (.int .i64 a1_2) ∧ w'.cell? (ad232.add ((x9_1).toNat * 5)) = some (.int .i64 ((rd_T53 l0 x9_1).f0.f0)) ∧ w'.cell? ⟨(ad232.add ((x9_1).toNat * 5)).block, (ad232.add ((x9_1).toNat * 5)).off + 1, none⟩ = some (.int .i64 ((rd_T53 l0 x9_1).f0.f1)) ∧ w'.cell? ⟨(ad232.add ((x9_1).toNat * 5)).block, (ad232.add ((x9_1).toNat * 5)).off + 2, none⟩ = some (.int .i64 ((rd_T53 l0 x9_1).f0.f2)) ∧ w'.cell? ⟨(ad232.add ((x9_1).toNat * 5)).block, (ad232.add ((x9_1).toNat * 5)).off + 3, none⟩ = some (.int .i64 ((rd_T53 l0 x9_1).f1.f0)) ∧ w'.cell? ⟨(ad232.add ((x9_1).toNat * 5)).block, (ad232.add ((x9_1).toNat * 5)).off + 4, none⟩ = some (.int .i64 ((rd_T53 l0 x9_1).f1.f1))) (ds := []) #[F,F,F,F,F,F,F] (by kernel_rfl) rfl rfl ⟨bC BK226 0 rfl, bC BK226 1 rfl, bC BK226 2 rfl, (kC HB hw232_0), (kC HB hw232_1), (kC HB hw232_2), (kC HB hw232_3), (kC HB hw232_4)⟩ (fun hHeld => ?_)
      generalize wr.drew = w13 at HO_7 BK226 BK227 HB hx232_0 hx232_1 hx232_2 hx232_3 hx232_4 hHeld ⊢
      refine pure_ (i := 0) (N := some 18) (v := ?_) (a' := ?_) #[T,F,F,F,F,F,F] rfl rfl (by kernel_rfl) (fun _ _ _ h => h) (Or.inl ⟨by rfl, ?_⟩) ?_ ?_
      rotate_left
      ·intro w'; go_simp; with_reducible rfl
      rotate_left
      ·simp only [sP]; rfl
      refine pure_ (i := 1) (N := some 19) (v := ?_) (a' := ?_) #[T,T,F,F,F,F,F] rfl rfl (by kernel_rfl) (fun _ _ _ h => h) (Or.inl ⟨by rfl, ?_⟩) ?_ ?_
      rotate_left
      ·intro w'; go_simp; with_reducible rfl
      rotate_left
      ·simp only [sP]; rfl
      refine pure_ (i := 2) (N := some 20) (v := ?_) (a' := ?_) #[T,T,T,F,F,F,F] rfl rfl (by kernel_rfl) (fun _ _ _ h => h) (Or.inl ⟨by rfl, ?_⟩) ?_ ?_
      rotate_left
      ·intro w'; go_simp; with_reducible rfl
      rotate_left
      ·simp only [sP]; rfl
      refine pure_ (i := 3) (N := some 21) (v := ?_) (a' := ?_) #[T,T,T,T,F,F,F] rfl rfl (by kernel_rfl) (fun _ _ _ h => h) (Or.inl ⟨by rfl, ?_⟩) ?_ ?_
      rotate_left
      ·intro w'; go_simp; with_reducible rfl
      rotate_left
      ·simp only [sP]; rfl
      refine take_ (i := 4) (N := some 22) (v := ?_) (a' := ?_) #[T,T,T,T,T,F,F] rfl rfl (by kernel_rfl) (fun _ _ _ h => h) (Or.inl ⟨by rfl, ?_⟩) hHeld ?_ ?_
      rotate_left
      ·rintro w' ⟨s0, s1, s2, s3, s4, s5, s6, s7⟩; go_simp; with_reducible rfl
      rotate_left
      ·simp only [sP]; rfl
      refine take_ (i := 5) (N := some 23) (v := ?_) (a' := ?_) #[T,T,T,T,T,T,F] rfl rfl (by kernel_rfl) (fun _ _ _ h => h) (Or.inl ⟨by rfl, ?_⟩) hHeld ?_ ?_
      rotate_left
      ·rintro w' ⟨s0, s1, s2, s3, s4, s5, s6, s7⟩; go_simp; with_reducible rfl
      rotate_left
      ·simp only [sP]; rfl
      refine pure_ (i := 6) (N := some 24) (v := ?_) (a' := ?_) #[T,T,T,T,T,T,T] rfl rfl (by kernel_rfl) (fun _ _ _ h => h) (Or.inl ⟨by rfl, ?_⟩) ?_ ?_
      rotate_left
      ·intro w'; go_simp; with_reducible rfl
      rotate_left
      ·simp only [sP]; rfl
      refine done_ (by kernel_rfl) ?_
      try go_wp2
      go_roundg k1
      case measure => have := HK1.out; omega
      case rel => exact ⟨(x7_1), (x8_1), (wrap64 (x9_1 + 1)), (by first | rfl | (simp; done) | (simp [*]; done)), (by first | rfl | (simp; done) | (simp [*]; done)), H', ⟨by have := HK1.out; omega⟩, ⟨by (with_reducible repeat (first | apply Kd.R_alloc | apply Kd.R_drewN | apply Kd.R_drew)); exact HO_7.out⟩, ⟨by (with_reducible repeat first | refine bN ?_ _ | refine bD ?_ | refine bA ?_ _); exact BK226.out⟩, ⟨by (with_reducible repeat first | refine bN ?_ _ | refine bD ?_ | refine bA ?_ _); exact BK227.out⟩, ⟨by repeat (first | (with_reducible first | exact HB.out | apply bL | apply bM | apply bR) | exact HB.out)⟩⟩
     ·rw [if_neg c12] at H
      have c12b0 : (((rd_T53 l0 x9_1).f0.f0) == a1_0 && (((rd_T53 l0 x9_1).f0.f1) == a1_1 && (((rd_T53 l0 x9_1).f0.f2) == a1_2))) = false := by simpa using c12
      (try (have c12b1 : decide (((rd_T53 l0 x9_1).f0.f0) = a1_0 && (((rd_T53 l0 x9_1).f0.f1) == a1_1 && (((rd_T53 l0 x9_1).f0.f2) == a1_2))) = false := by simpa using c12))
      (try (have c12b2 : (((rd_T53 l0 x9_1).f0.f0) == a1_0 && (((rd_T53 l0 x9_1).f0.f1) == a1_1 && (((rd_T53 l0 x9_1).f0.f2) == a1_2))) = false := by simpa using c12))
      (try (have c12b3 : ¬ (((rd_T53 l0 x9_1).f0.f0) = a1_0 && (((rd_T53 l0 x9_1).f0.f1) == a1_1 && (((rd_T53 l0 x9_1).f0.f2) == a1_2))) := by simpa using c12))
      clear c12
      by_cases c14 : x8_1 = true
      ·subst c14
       rw [if_pos rfl] at H
       by_cases c15 : x7_1.length < 3518437208883
       ·rw [if_pos c15] at H
        have LMc15 := Aside0.mk c15
        clear c15
        obtain ⟨y234, hy234⟩ : ∃ y_ : List (S53), y_ = (x7_1 ++ [(⟨(⟨(rd_T53 l0 x9_1).f0.f0, (rd_T53 l0 x9_1).f0.f1, (rd_T53 l0 x9_1).f0.f2⟩ : S24), (⟨(rd_T53 l0 x9_1).f1.f0, (rd_T53 l0 x9_1).f1.f1⟩ : S26)⟩ : S53)]) := ⟨_, rfl⟩
        replace H : (clusterlocksref10_Set.l0 k1 l0 y234 true (wrap64 (x9_1 + 1)) a1_0 a1_1 a1_2 a2_0 a2_1) = some r := by first | (rw [hy234]; with_reducible exact H) | (have H2_ := (Option.bind_some _ _).symm.trans H; rw [hy234]; with_reducible exact H2_) | (have H2_ := (Option.bind_some _ _).symm.trans H; with_reducible exact H2_) | with_reducible exact H | (rw [hy234]; exact H) | exact H
        have Ny234 := Aside0.mk hy234
        clear hy234
        have H' := Aside0.mk H
        clear H
        try go_wp2
        replace HO_7 := Aside0.mk (Kd.R_drew HO_7.out)
        replace BK226 := Aside0.mk (blk_drew BK226.out)
        replace BK227 := Aside0.mk (blk_drew BK227.out)
        replace HB := Aside0.mk (below_drew1 HB.out)
        have p232 : 0 ≤ (x9_1 : Int) := of_decide_eq_true (by first | (with_reducible assumption) | assumption)
        have q232 : x9_1 < (l0.length : Int) := of_decide_eq_true (by first | (with_reducible assumption) | assumption)
        obtain ⟨ad232, e232, hx232_0, hx232_1, hx232_2, hx232_3, hx232_4⟩ := at_T53 HR0.out x9_1 p232 q232
        have hw232_4 := hx232_4
        have hw232_3 := hx232_3
        have hw232_2 := hx232_2
        have hw232_1 := hx232_1
        have hw232_0 := hx232_0
        cases e232
        replace hx232_0 := kC HB hx232_0
        replace hx232_1 := kC HB hx232_1
        replace hx232_2 := kC HB hx232_2
        replace hx232_3 := kC HB hx232_3
        replace hx232_4 := kC HB hx232_4
        replace p232 := eq_true p232
        replace q232 := eq_true q232
        refine start_ (n := 7) (S := fun w' => w'.cell? ⟨gb226, 0, none⟩ = some (.int .i64 a1_0) ∧ w'.cell? ⟨gb226, 1, none⟩ = some (.int .i64 a1_1) ∧ w'.cell? ⟨gb226, 2, none⟩ = some (.int .i64 a1_2) ∧ w'.cell? (ad232.add ((x9_1).toNat * 5)) = some (.int .i64 ((rd_T53 l0 x9_1).f0.f0)) ∧ w'.cell? ⟨(ad232.add ((x9_1).toNat * 5)).block, (ad232.add ((x9_1).toNat * 5)).off + 1, none⟩ = some (.int .i64 ((rd_T53 l0 x9_1).f0.f1)) ∧ w'.cell? ⟨(ad232.add ((x9_1).toNat * 5)).block, (ad232.add ((x9_1).toNat * 5)).off + 2, none⟩ = some (.int .i64 ((rd_T53 l0 x9_1).f0.f2)) ∧ w'.cell? ⟨(ad232.add ((x9_1).toNat * 5)).block, (ad232.add ((x9_1).toNat * 5)).off + 3, none⟩ = some (.int .i64 ((rd_T53 l0 x9_1).f1.f0)) ∧ w'.cell? ⟨(ad232.add ((x9_1).toNat * 5)).block, (ad232.add ((x9_1).toNat * 5)).off + 4, none⟩ = some (.int .i64 ((rd_T53 l0 x9_1).f1.f1))) (ds := []) #[F,F,F,F,F,F,F] (by kernel_rfl) rfl rfl ⟨bC BK226 0 rfl, bC BK226 1 rfl, bC BK226 2 rfl, (kC HB hw232_0), (kC HB hw232_1), (kC HB hw232_2), (kC HB hw232_3), (kC HB hw232_4)⟩ (fun hHeld => ?_)
        generalize wr.drew = w16 at HO_7 BK226 BK227 HB hx232_0 hx232_1 hx232_2 hx232_3 hx232_4 hHeld ⊢
        refine pure_ (i := 0) (N := some 18) (v := ?_) (a' := ?_) #[T,F,F,F,F,F,F] rfl rfl (by kernel_rfl) (fun _ _ _ h => h) (Or.inl ⟨by rfl, ?_⟩) ?_ ?_
        rotate_left
        ·intro w'; go_simp; with_reducible rfl
        rotate_left
        ·simp only [sP]; rfl
        refine pure_ (i := 1) (N := some 19) (v := ?_) (a' := ?_) #[T,T,F,F,F,F,F] rfl rfl (by kernel_rfl) (fun _ _ _ h => h) (Or.inl ⟨by rfl, ?_⟩) ?_ ?_
        rotate_left
        ·intro w'; go_simp; with_reducible rfl
        rotate_left
        ·simp only [sP]; rfl
        refine pure_ (i := 2) (N := some 20) (v := ?_) (a' := ?_) #[T,T,T,F,F,F,F] rfl rfl (by kernel_rfl) (fun _ _ _ h => h) (Or.inl ⟨by rfl, ?_⟩) ?_ ?_
        rotate_left
        ·intro w'; go_simp; with_reducible rfl
        rotate_left
        ·simp only [sP]; rfl
        refine pure_ (i := 3) (N := some 21) (v := ?_) (a' := ?_) #[T,T,T,T,F,F,F] rfl rfl (by kernel_rfl) (fun _ _ _ h => h) (Or.inl ⟨by rfl, ?_⟩) ?_ ?_
        rotate_left
        ·intro w'; go_simp; with_reducible rfl
        rotate_left
        ·simp only [sP]; rfl
        refine take_ (i := 4) (N := some 22) (v := ?_) (a' := ?_) #[T,T,T,T,T,F,F] rfl rfl (by kernel_rfl) (fun _ _ _ h => h) (Or.inl ⟨by rfl, ?_⟩) hHeld ?_ ?_
        rotate_left
        ·rintro w' ⟨s0, s1, s2, s3, s4, s5, s6, s7⟩; go_simp; with_reducible rfl
        rotate_left
        ·simp only [sP]; rfl
        refine take_ (i := 5) (N := some 23) (v := ?_) (a' := ?_) #[T,T,T,T,T,T,F] rfl rfl (by kernel_rfl) (fun _ _ _ h => h) (Or.inl ⟨by rfl, ?_⟩) hHeld ?_ ?_
        rotate_left
        ·rintro w' ⟨s0, s1, s2, s3, s4, s5, s6, s7⟩; go_simp; with_reducible rfl
        rotate_left
        ·simp only [sP]; rfl
        refine pure_ (i := 6) (N := some 24) (v := ?_) (a' := ?_) #[T,T,T,T,T,T,T] rfl rfl (by kernel_rfl) (fun _ _ _ h => h) (Or.inl ⟨by rfl, ?_⟩) ?_ ?_
        rotate_left
        ·intro w'; go_simp; with_reducible rfl
        rotate_left
        ·simp only [sP]; rfl
        refine done_ (by kernel_rfl) ?_
        try go_wp2
        replace HO_7 := Aside0.mk (Kd.R_drew HO_7.out)
        replace BK226 := Aside0.mk (blk_drew BK226.out)
        replace BK227 := Aside0.mk (blk_drew BK227.out)
        replace HB := Aside0.mk (below_drew1 HB.out)
        refine start_ (n := 12) (S := fun w' => True) (ds := []) #[F,F,F,F,F,F,F,F,F,F,F,F] (by kernel_rfl) rfl rfl trivial (fun hHeld => ?_); refine with_tabW clusterlocksref10_Set.tab7 clusterlocksref10_Set.bits7 (fun HT_ HW_ => ?_)
        generalize w16.drew = w17 at HO_7 BK226 BK227 HB hHeld ⊢
        refine pu HT_ 0 25 #[T,F,F,F,F,F,F,F,F,F,F,F] rfl rfl (by kernel_rfl) (fun _ _ _ => id) (.inl ⟨by rfl, by intro w'; go_simp; with_reducible rfl⟩) (by simp only [sP]; rfl) ?_
        refine pu HT_ 1 26 #[T,T,F,F,F,F,F,F,F,F,F,F] rfl rfl (by kernel_rfl) (fun _ _ _ => id) (.inl ⟨by rfl, by intro w'; go_simp; with_reducible rfl⟩) (by simp only [sP]; rfl) ?_
        refine pu HT_ 2 27 #[T,T,T,F,F,F,F,F,F,F,F,F] rfl rfl (by kernel_rfl) (fun _ _ _ => id) (.inl ⟨by rfl, by intro w'; go_simp; with_reducible rfl⟩) (by simp only [sP]; rfl) ?_
        refine pu HT_ 3 28 #[T,T,T,T,F,F,F,F,F,F,F,F] rfl rfl (by kernel_rfl) (fun _ _ _ => id) (.inr ⟨by rfl, rfl⟩) (by simp only [sP]; rfl) ?_
        refine pu HT_ 4 29 #[T,T,T,T,T,F,F,F,F,F,F,F] rfl rfl (by kernel_rfl) (fun _ _ _ => id) (.inr ⟨by rfl, rfl⟩) (by simp only [sP]; rfl) ?_
        refine pu HT_ 5 30 #[T,T,T,T,T,T,F,F,F,F,F,F] rfl rfl (by kernel_rfl) (fun _ _ _ => id) (.inr ⟨by rfl, rfl⟩) (by simp only [sP]; rfl) ?_
        refine pu HT_ 6 31 #[T,T,T,T,T,T,T,F,F,F,F,F] rfl rfl (by kernel_rfl) (fun _ _ _ => id) (.inr ⟨by rfl, rfl⟩) (by simp only [sP]; rfl) ?_
        refine pu HT_ 7 32 #[T,T,T,T,T,T,T,T,F,F,F,F] rfl rfl (by kernel_rfl) (fun _ _ _ => id) (.inr ⟨by rfl, rfl⟩) (by simp only [sP]; rfl) ?_
        refine pu HT_ 8 33 #[T,T,T,T,T,T,T,T,T,F,F,F] rfl rfl (by kernel_rfl) (fun _ _ _ => id) (.inr ⟨by rfl, rfl⟩) (by simp only [sP]; rfl) ?_
        refine pu HT_ 9 34 #[T,T,T,T,T,T,T,T,T,T,F,F] rfl rfl (by kernel_rfl) (fun _ _ _ => id) (.inr ⟨by rfl, rfl⟩) (by simp only [sP]; rfl) ?_
        refine pu HT_ 10 35 #[T,T,T,T,T,T,T,T,T,T,T,F] rfl rfl (by kernel_rfl) (fun _ _ _ => id) (.inr ⟨by rfl, rfl⟩) (by simp only [sP]; rfl) ?_
        refine pu HT_ 11 36 #[T,T,T,T,T,T,T,T,T,T,T,T] rfl rfl (by kernel_rfl) (fun _ _ _ => id) (.inl ⟨by rfl, by intro w'; go_simp; with_reducible rfl⟩) (by simp only [sP]; rfl) ?_
        refine done_ (done_of HT_.out (by kernel_rfl)) ?_
        have p233 : 0 ≤ (x9_1 : Int) := of_decide_eq_true (by first | (with_reducible assumption) | assumption)
        have q233 : x9_1 < (l0.length : Int) := of_decide_eq_true (by first | (with_reducible assumption) | assumption)
        obtain ⟨ad233, e233, hx233_0, hx233_1, hx233_2, hx233_3, hx233_4⟩ := at_T53 HR0.out x9_1 p233 q233
        obtain rfl : ad232 = ad233 := (by injection e233)
        replace hx233_0 := kC HB hx233_0
        replace hx233_1 := kC HB hx233_1
        replace hx233_2 := kC HB hx233_2
        replace hx233_3 := kC HB hx233_3
        replace hx233_4 := kC HB hx233_4
        replace p233 := eq_true p233
        replace q233 := eq_true q233
        try go_wp2_with (first | ((with_reducible refine gate_builtin (b := .append) (xs := #[.tmp 43, .tmp 48]) rfl ?_); at_builtin; refine Kd.R_append k53 (w0 := w) w.heap.size rfl (.tmp 43) (.tmp 48) 22 53 (.agg #[(.int .i64 0), (.int .i64 0), (.int .i64 0), (.int .i64 0), (.int .i64 0)]) 40 rfl Tryd.underlying22 info53 rfl (by decide) (by omega) u7 x7_1 (⟨(⟨(rd_T53 l0 x9_1).f0.f0, (rd_T53 l0 x9_1).f0.f1, (rd_T53 l0 x9_1).f0.f2⟩ : S24), (⟨(rd_T53 l0 x9_1).f1.f0, (rd_T53 l0 x9_1).f1.f1⟩ : S26)⟩ : S53) [.int .i64 ((rd_T53 l0 x9_1).f0.f0), .int .i64 ((rd_T53 l0 x9_1).f0.f1), .int .i64 ((rd_T53 l0 x9_1).f0.f2), .int .i64 ((rd_T53 l0 x9_1).f1.f0), .int .i64 ((rd_T53 l0 x9_1).f1.f1)] (fun _ => True) (fun _ => False) rfl rfl ?aP (fun _ hk => hk.elim) ?aF ?aO ?aB ?aS ?aL ?_; (case aP => exact k53_mkM _ _ _ (⟨(⟨(rd_T53 l0 x9_1).f0.f0, (rd_T53 l0 x9_1).f0.f1, (rd_T53 l0 x9_1).f0.f2⟩ : S24), (⟨(rd_T53 l0 x9_1).f1.f0, (rd_T53 l0 x9_1).f1.f1⟩ : S26)⟩ : S53)); (case aB => exact (uB HB)); (case aF => exact (fun _ _ => trivial)); (case aO => exact (by (with_reducible repeat (first | apply Kd.R_alloc | apply Kd.R_drewN | apply Kd.R_drew)); exact HO_7.out)); (case aS => exact (below_size (uB HB))); (case aL => have := LMc15.out; omega); intro v235 w18 ho hb hg hat; rw [← Ny234.out] at ho; replace BK226 := Aside0.mk (blk_grown (g := gb226) (o := .cells #[.int .i64 a1_0, .int .i64 a1_1, .int .i64 a1_2] 24 (0, 0)) (uK BK226) hg (Kd.R_ne HO_7.out BK226.out (by decide))); replace BK227 := Aside0.mk (blk_grown (g := gb227) (o := .cells #[.int .i64 a2_0, .int .i64 a2_1] 26 (0, 0)) (uK BK227) hg (Kd.R_ne HO_7.out BK227.out (by decide))); replace HB := Aside0.mk (hb); have HO236 := Aside0.mk (ho); clear HO_7; clear ho hb hg hat))
        go_roundg k1
        case measure => have := HK1.out; omega
        case rel => exact ⟨(y234), (true), (wrap64 (x9_1 + 1)), (by first | rfl | (simp; done) | (simp [*]; done)), (by first | rfl | (simp; done) | (simp [*]; done)), H', ⟨by have := HK1.out; omega⟩, ⟨by (with_reducible repeat (first | apply Kd.R_alloc | apply Kd.R_drewN | apply Kd.R_drew)); exact HO236.out⟩, ⟨by (with_reducible repeat first | refine bN ?_ _ | refine bD ?_ | refine bA ?_ _); exact BK226.out⟩, ⟨by (with_reducible repeat first | refine bN ?_ _ | refine bD ?_ | refine bA ?_ _); exact BK227.out⟩, ⟨by repeat (first | (with_reducible first | exact HB.out | apply bL | apply bM | apply bR) | exact HB.out)⟩⟩
       ·rw [if_neg c15] at H
        exact absurd H (by simp)
      ·replace c14 := Bool.eq_false_iff.mpr c14
       subst c14
       rw [if_neg (show ¬ (false = true) by decide)] at H
       obtain ⟨t238, A190, H⟩ := Option.bind_eq_some_iff.mp H
       have A19 := Aside0.mk A190; clear A190
       by_cases c20 : t238 > 0
       ·rw [if_pos c20] at H
        have c20b0 : decide (0 < t238) = true := decide_eq_true c20
        clear c20
        by_cases c21 : x7_1.length < 3518437208883
        ·rw [if_pos c21] at H
         have LMc21 := Aside0.mk c21
         clear c21
         obtain ⟨y239, hy239⟩ : ∃ y_ : List (S53), y_ = (x7_1 ++ [(⟨(⟨a1_0, a1_1, a1_2⟩ : S24), (⟨a2_0, a2_1⟩ : S26)⟩ : S53)]) := ⟨_, rfl⟩
         replace H : (if y239.length < 3518437208883 then (clusterlocksref10_Set.l0 k1 l0 (y239 ++ [(⟨(⟨(rd_T53 l0 x9_1).f0.f0, (rd_T53 l0 x9_1).f0.f1, (rd_T53 l0 x9_1).f0.f2⟩ : S24), (⟨(rd_T53 l0 x9_1).f1.f0, (rd_T53 l0 x9_1).f1.f1⟩ : S26)⟩ : S53)]) true (wrap64 (x9_1 + 1)) a1_0 a1_1 a1_2 a2_0 a2_1) else (none)) = some r := by first | (rw [hy239]; with_reducible exact H) | (have H2_ := (Option.bind_some _ _).symm.trans H; rw [hy239]; with_reducible exact H2_) | (have H2_ := (Option.bind_some _ _).symm.trans H; with_reducible exact H2_) | with_reducible exact H | (rw [hy239]; exact H) | exact H
         have Ny239 := Aside0.mk hy239
         clear hy239
         by_cases c22 : y239.length < 3518437208883
         ·rw [if_pos c22] at H
          have LMc22 := Aside0.mk c22
          clear c22
          obtain ⟨y243, hy243⟩ : ∃ y_ : List (S53), y_ = (y239 ++ [(⟨(⟨(rd_T53 l0 x9_1).f0.f0, (rd_T53 l0 x9_1).f0.f1, (rd_T53 l0 x9_1).f0.f2⟩ : S24), (⟨(rd_T53 l0 x9_1).f1.f0, (rd_T53 l0 x9_1).f1.f1⟩ : S26)⟩ : S53)]) := ⟨_, rfl⟩
          replace H : (clusterlocksref10_Set.l0 k1 l0 y243 true (wrap64 (x9_1 + 1)) a1_0 a1_1 a1_2 a2_0 a2_1) = some r := by first | (rw [hy243]; with_reducible exact H) | (have H2_ := (Option.bind_some _ _).symm.trans H; rw [hy243]; with_reducible exact H2_) | (have H2_ := (Option.bind_some _ _).symm.trans H; with_reducible exact H2_) | with_reducible exact H | (rw [hy243]; exact H) | exact H
          have Ny243 := Aside0.mk hy243
          clear hy243
          have H' := Aside0.mk H
          clear H
          try go_wp2
          replace HO_7 := Aside0.mk (Kd.R_drew HO_7.out)
          replace BK226 := Aside0.mk (blk_drew BK226.out)
          replace BK227 := Aside0.mk (blk_drew BK227.out)
          replace HB := Aside0.mk (below_drew1 HB.out)
          have p232 : 0 ≤ (x9_1 : Int) := of_decide_eq_true (by first | (with_reducible assumption) | assumption)
          have q232 : x9_1 < (l0.length : Int) := of_decide_eq_true (by first | (with_reducible assumption) | assumption)
          obtain ⟨ad232, e232, hx232_0, hx232_1, hx232_2, hx232_3, hx232_4⟩ := at_T53 HR0.out x9_1 p232 q232
          have hw232_4 := hx232_4
          have hw232_3 := hx232_3
          have hw232_2 := hx232_2
          have hw232_1 := hx232_1
          have hw232_0 := hx232_0
          cases e232
          replace hx232_0 := kC HB hx232_0
          replace hx232_1 := kC HB hx232_1
          replace hx232_2 := kC HB hx232_2
          replace hx232_3 := kC HB hx232_3
          replace hx232_4 := kC HB hx232_4
          replace p232 := eq_true p232
          replace q232 := eq_true q232
          refine start_ (n := 7) (S := fun w' => w'.cell? ⟨gb226, 0, none⟩ = some (.int .i64 a1_0) ∧ w'.cell? ⟨gb226, 1, none⟩ = some (.int .i64 a1_1) ∧ w'.cell? ⟨gb226, 2, none⟩ = some (.int .i64 a1_2) ∧ w'.cell? (ad232.add ((x9_1).toNat * 5)) = some (.int .i64 ((rd_T53 l0 x9_1).f0.f0)) ∧ w'.cell? ⟨(ad232.add ((x9_1).toNat * 5)).block, (ad232.add ((x9_1).toNat * 5)).off + 1, none⟩ = some (.int .i64 ((rd_T53 l0 x9_1).f0.f1)) ∧ w'.cell? ⟨(ad232.add ((x9_1).toNat * 5)).block, (ad232.add ((x9_1).toNat * 5)).off + 2, none⟩ = some (.int .i64 ((rd_T53 l0 x9_1).f0.f2)) ∧ w'.cell? ⟨(ad232.add ((x9_1).toNat * 5)).block, (ad232.add ((x9_1).toNat * 5)).off + 3, none⟩ = some (.int .i64 ((rd_T53 l0 x9_1).f1.f0)) ∧ w'.cell? ⟨(ad232.add ((x9_1).toNat * 5)).block, (ad232.add ((x9_1).toNat * 5)).off + 4, none⟩ = some (.int .i64 ((rd_T53 l0 x9_1).f1.f1))) (ds := []) #[F,F,F,F,F,F,F] (by kernel_rfl) rfl rfl ⟨bC BK226 0 rfl, bC BK226 1 rfl, bC BK226 2 rfl, (kC HB hw232_0), (kC HB hw232_1), (kC HB hw232_2), (kC HB hw232_3), (kC HB hw232_4)⟩ (fun hHeld => ?_)
          generalize wr.drew = w23 at HO_7 BK226 BK227 HB hx232_0 hx232_1 hx232_2 hx232_3 hx232_4 hHeld ⊢
          refine pure_ (i := 0) (N := some 18) (v := ?_) (a' := ?_) #[T,F,F,F,F,F,F] rfl rfl (by kernel_rfl) (fun _ _ _ h => h) (Or.inl ⟨by rfl, ?_⟩) ?_ ?_
          rotate_left
          ·intro w'; go_simp; with_reducible rfl
          rotate_left
          ·simp only [sP]; rfl
          refine pure_ (i := 1) (N := some 19) (v := ?_) (a' := ?_) #[T,T,F,F,F,F,F] rfl rfl (by kernel_rfl) (fun _ _ _ h => h) (Or.inl ⟨by rfl, ?_⟩) ?_ ?_
          rotate_left
          ·intro w'; go_simp; with_reducible rfl
          rotate_left
          ·simp only [sP]; rfl
          refine pure_ (i := 2) (N := some 20) (v := ?_) (a' := ?_) #[T,T,T,F,F,F,F] rfl rfl (by kernel_rfl) (fun _ _ _ h => h) (Or.inl ⟨by rfl, ?_⟩) ?_ ?_
          rotate_left
          ·intro w'; go_simp; with_reducible rfl
          rotate_left
          ·simp only [sP]; rfl
          refine pure_ (i := 3) (N := some 21) (v := ?_) (a' := ?_) #[T,T,T,T,F,F,F] rfl rfl (by kernel_rfl) (fun _ _ _ h => h) (Or.inl ⟨by rfl, ?_⟩) ?_ ?_
          rotate_left
          ·intro w'; go_simp; with_reducible rfl
          rotate_left
          ·simp only [sP]; rfl
          refine take_ (i := 4) (N := some 22) (v := ?_) (a' := ?_) #[T,T,T,T,T,F,F] rfl rfl (by kernel_rfl) (fun _ _ _ h => h) (Or.inl ⟨by rfl, ?_⟩) hHeld ?_ ?_
          rotate_left
          ·rintro w' ⟨s0, s1, s2, s3, s4, s5, s6, s7⟩; go_simp; with_reducible rfl
          rotate_left
          ·simp only [sP]; rfl
          refine take_ (i := 5) (N := some 23) (v := ?_) (a' := ?_) #[T,T,T,T,T,T,F] rfl rfl (by kernel_rfl) (fun _ _ _ h => h) (Or.inl ⟨by rfl, ?_⟩) hHeld ?_ ?_
          rotate_left
          ·rintro w' ⟨s0, s1, s2, s3, s4, s5, s6, s7⟩; go_simp; with_reducible rfl
          rotate_left
          ·simp only [sP]; rfl
          refine pure_ (i := 6) (N := some 24) (v := ?_) (a' := ?_) #[T,T,T,T,T,T,T] rfl rfl (by kernel_rfl) (fun _ _ _ h => h) (Or.inl ⟨by rfl, ?_⟩) ?_ ?_
          rotate_left
          ·intro w'; go_simp; with_reducible rfl
          rotate_left
          ·simp only [sP]; rfl
          refine done_ (by kernel_rfl) ?_
          try go_wp2
          replace HO_7 := Aside0.mk (Kd.R_drew HO_7.out)
          replace BK226 := Aside0.mk (blk_drew BK226.out)
          replace BK227 := Aside0.mk (blk_drew BK227.out)
          replace HB := Aside0.mk (below_drew1 HB.out)
          have p237 : 0 ≤ (x9_1 : Int) := of_decide_eq_true (by first | (with_reducible assumption) | assumption)
          have q237 : x9_1 < (l0.length : Int) := of_decide_eq_true (by first | (with_reducible assumption) | assumption)
          obtain ⟨ad237, e237, hx237_0, hx237_1, hx237_2, hx237_3, hx237_4⟩ := at_T53 HR0.out x9_1 p237 q237
          have hw237_4 := hx237_4
          have hw237_3 := hx237_3
          have hw237_2 := hx237_2
          have hw237_1 := hx237_1
          have hw237_0 := hx237_0
          obtain rfl : ad232 = ad237 := (by injection e237)
          replace hx237_0 := kC HB hx237_0
          replace hx237_1 := kC HB hx237_1
          replace hx237_2 := kC HB hx237_2
          replace hx237_3 := kC HB hx237_3
          replace hx237_4 := kC HB hx237_4
          replace p237 := eq_true p237
          replace q237 := eq_true q237
          refine start_ (n := 12) (S := fun w' => w'.cell? ⟨gb226, 0, none⟩ = some (.int .i64 a1_0) ∧ w'.cell? ⟨gb226, 1, none⟩ = some (.int .i64 a1_1) ∧ w'.cell? ⟨gb226, 2, none⟩ = some (.int .i64 a1_2) ∧ w'.cell? (ad232.add ((x9_1).toNat * 5)) = some (.int .i64 ((rd_T53 l0 x9_1).f0.f0)) ∧ w'.cell? ⟨(ad232.add ((x9_1).toNat * 5)).block, (ad232.add ((x9_1).toNat * 5)).off + 1, none⟩ = some (.int .i64 ((rd_T53 l0 x9_1).f0.f1)) ∧ w'.cell? ⟨(ad232.add ((x9_1).toNat * 5)).block, (ad232.add ((x9_1).toNat * 5)).off + 2, none⟩ = some (.int .i64 ((rd_T53 l0 x9_1).f0.f2)) ∧ w'.cell? ⟨(ad232.add ((x9_1).toNat * 5)).block, (ad232.add ((x9_1).toNat * 5)).off + 3, none⟩ = some (.int .i64 ((rd_T53 l0 x9_1).f1.f0)) ∧ w'.cell? ⟨(ad232.add ((x9_1).toNat * 5)).block, (ad232.add ((x9_1).toNat * 5)).off + 4, none⟩ = some (.int .i64 ((rd_T53 l0 x9_1).f1.f1))) (ds := []) #[F,F,F,F,F,F,F,F,F,F,F,F] (by kernel_rfl) rfl rfl ⟨bC BK226 0 rfl, bC BK226 1 rfl, bC BK226 2 rfl, (kC HB hw237_0), (kC HB hw237_1), (kC HB hw237_2), (kC HB hw237_3), (kC HB hw237_4)⟩ (fun hHeld => ?_); refine with_tabW clusterlocksref10_Set.tab7 clusterlocksref10_Set.bits7 (fun HT_ HW_ => ?_)
          generalize w23.drew = w24 at HO_7 BK226 BK227 HB hx237_0 hx237_1 hx237_2 hx237_3 hx237_4 hHeld ⊢
          refine pu HT_ 0 25 #[T,F,F,F,F,F,F,F,F,F,F,F] rfl rfl (by kernel_rfl) (fun _ _ _ => id) (.inl ⟨by rfl, by intro w'; go_simp; with_reducible rfl⟩) (by simp only [sP]; rfl) ?_
          refine pu HT_ 1 26 #[T,T,F,F,F,F,F,F,F,F,F,F] rfl rfl (by kernel_rfl) (fun _ _ _ => id) (.inl ⟨by rfl, by intro w'; go_simp; with_reducible rfl⟩) (by simp only [sP]; rfl) ?_
          refine pu HT_ 2 27 #[T,T,T,F,F,F,F,F,F,F,F,F] rfl rfl (by kernel_rfl) (fun _ _ _ => id) (.inl ⟨by rfl, by intro w'; go_simp; with_reducible rfl⟩) (by simp only [sP]; rfl) ?_
          refine pu HT_ 3 28 #[T,T,T,T,F,F,F,F,F,F,F,F] rfl rfl (by kernel_rfl) (fun _ _ _ => id) (.inl ⟨by rfl, by intro w'; go_simp; with_reducible rfl⟩) (by simp only [sP]; rfl) ?_
          refine pu HT_ 4 29 #[T,T,T,T,T,F,F,F,F,F,F,F] rfl rfl (by kernel_rfl) (fun _ _ _ => id) (.inl ⟨by rfl, by intro w'; go_simp; with_reducible rfl⟩) (by simp only [sP]; rfl) ?_
          refine pu HT_ 5 30 #[T,T,T,T,T,T,F,F,F,F,F,F] rfl rfl (by kernel_rfl) (fun _ _ _ => id) (.inl ⟨by rfl, by intro w'; go_simp; with_reducible rfl⟩) (by simp only [sP]; rfl) ?_
          refine pu HT_ 6 31 #[T,T,T,T,T,T,T,F,F,F,F,F] rfl rfl (by kernel_rfl) (fun _ _ _ => id) (.inl ⟨by rfl, by intro w'; go_simp; with_reducible rfl⟩) (by simp only [sP]; rfl) ?_
          refine tk HT_ HW_ 7 32 #[T,T,T,T,T,T,T,T,F,F,F,F] rfl rfl (by kernel_rfl) (fun _ _ _ => id) (.inl ⟨by rfl, by rintro w' ⟨s0, s1, s2, s3, s4, s5, s6, s7⟩; go_simp; with_reducible rfl⟩) hHeld (by simp only [sP]; rfl) ?_
          refine tk HT_ HW_ 8 33 #[T,T,T,T,T,T,T,T,T,F,F,F] rfl rfl (by kernel_rfl) (fun _ _ _ => id) (.inl ⟨by rfl, by rintro w' ⟨s0, s1, s2, s3, s4, s5, s6, s7⟩; go_simp; with_reducible rfl⟩) hHeld (by simp only [sP]; rfl) ?_
          refine one_ (i := 9) (N := some 34) #[T,T,T,T,T,T,T,T,T,T,F,F] rfl rfl (one_of HT_.out (by kernel_rfl)) (by decide) (fun K hK => ?_)
          refine goes_ Tryd.func34 (by kernel_rfl) rfl #[.agg #[.int .i64 ((rd_T53 l0 x9_1).f0.f0), .int .i64 ((rd_T53 l0 x9_1).f0.f1), .int .i64 ((rd_T53 l0 x9_1).f0.f2)], .agg #[.int .i64 a1_0, .int .i64 a1_1, .int .i64 a1_2]] (by rfl) rfl rfl (by (try simp only [mA]); first | done | rfl) ?_
          with_reducible refine (clusterlocksref02_CompareProc.calls ((rd_T53 l0 x9_1).f0.f0) ((rd_T53 l0 x9_1).f0.f1) ((rd_T53 l0 x9_1).f0.f2) a1_0 a1_1 a1_2 t238 _ A19.out).mono ?_
          rintro e w25 ⟨rfl, hb⟩
          refine ⟨_, rfl, ?_⟩
          replace HO_7 := Aside0.mk (Kd.R_below (by (with_reducible repeat (first | apply Kd.R_alloc | apply Kd.R_drewN | apply Kd.R_drew)); exact HO_7.out) hb)
          replace BK226 := bK BK226 hb
          replace BK227 := bK BK227 hb
          replace HB := bB HB hb
          (try clear hb)
          (try clear hk)
          refine hK.out _ _ ⟨bC BK226 0 rfl, bC BK226 1 rfl, bC BK226 2 rfl, (kC HB hw237_0), (kC HB hw237_1), (kC HB hw237_2), (kC HB hw237_3), (kC HB hw237_4)⟩ (fun hHeld => ?_)
          clear hK K
          refine norm_ (a' := ?_) ?_ ?_
          rotate_left
          ·show Act.put _ (some 34) _ = _
           simp only [sP]
           rfl
          refine pu HT_ 10 35 #[T,T,T,T,T,T,T,T,T,T,T,F] rfl rfl (by kernel_rfl) (fun _ _ _ => id) (.inl ⟨by rfl, by intro w'; go_simp; with_reducible rfl⟩) (by simp only [sP]; rfl) ?_
          refine pu HT_ 11 36 #[T,T,T,T,T,T,T,T,T,T,T,T] rfl rfl (by kernel_rfl) (fun _ _ _ => id) (.inl ⟨by rfl, by intro w'; go_simp; with_reducible rfl⟩) (by simp only [sP]; rfl) ?_
          refine done_ (done_of HT_.out (by kernel_rfl)) ?_
          have hnb26 := NB226_227.out
          have hnc26 := NB227_226.out
          obtain ⟨hcz27_0, hcz27_1, hcz27_2, hfz27_0, hfz27_1, hfz27_2⟩ := d3 BK226
          obtain ⟨hcz28_0, hcz28_1, hfz28_0, hfz28_1⟩ := d2 BK227
          try go_wp2_with (first | ((with_reducible refine gate_builtin (b := .append) (xs := #[.tmp 37, .tmp 41]) rfl ?_); at_builtin; refine Kd.R_append k53 (w0 := w) w.heap.size rfl (.tmp 37) (.tmp 41) 22 53 (.agg #[(.int .i64 0), (.int .i64 0), (.int .i64 0), (.int .i64 0), (.int .i64 0)]) 40 rfl Tryd.underlying22 info53 rfl (by decide) (by omega) u7 x7_1 (⟨(⟨a1_0, a1_1, a1_2⟩ : S24), (⟨a2_0, a2_1⟩ : S26)⟩ : S53) [.int .i64 a1_0, .int .i64 a1_1, .int .i64 a1_2, .int .i64 a2_0, .int .i64 a2_1] (fun _ => True) (fun _ => False) rfl rfl ?aP (fun _ hk => hk.elim) ?aF ?aO ?aB ?aS ?aL ?_; (case aP => exact k53_mkM _ _ _ (⟨(⟨a1_0, a1_1, a1_2⟩ : S24), (⟨a2_0, a2_1⟩ : S26)⟩ : S53)); (case aB => exact (uB HB)); (case aF => exact (fun _ _ => trivial)); (case aO => exact (by (with_reducible repeat (first | apply Kd.R_alloc | apply Kd.R_drewN | apply Kd.R_drew)); exact HO_7.out)); (case aS => exact (below_size (uB HB))); (case aL => have := LMc21.out; omega); intro v240 w29 ho hb hg hat; rw [← Ny239.out] at ho; replace BK226 := Aside0.mk (blk_grown (g := gb226) (o := .cells #[.int .i64 a1_0, .int .i64 a1_1, .int .i64 a1_2] 24 (0, 0)) (uK BK226) hg (Kd.R_ne HO_7.out BK226.out (by decide))); replace BK227 := Aside0.mk (blk_grown (g := gb227) (o := .cells #[.int .i64 a2_0, .int .i64 a2_1] 26 (0, 0)) (uK BK227) hg (Kd.R_ne HO_7.out BK227.out (by decide))); replace HB := Aside0.mk (hb); have HO241 := Aside0.mk (ho); clear HO_7; clear ho hb hg hat; have p242 : 0 ≤ (x9_1 : Int) := of_decide_eq_true (by first | (with_reducible assumption) | assumption); have q242 : x9_1 < (l0.length : Int) := of_decide_eq_true (by first | (with_reducible assumption) | assumption); obtain ⟨ad242, e242, hx242_0, hx242_1, hx242_2, hx242_3, hx242_4⟩ := at_T53 HR0.out x9_1 p242 q242; obtain rfl : ad232 = ad242 := (by injection e242); replace hx242_0 := kC HB hx242_0; replace hx242_1 := kC HB hx242_1; replace hx242_2 := kC HB hx242_2; replace hx242_3 := kC HB hx242_3; replace hx242_4 := kC HB hx242_4; replace p242 := eq_true p242; replace q242 := eq_true q242) | ((with_reducible refine gate_builtin (b := .append) (xs := #[.tmp 43, .tmp 48]) rfl ?_); at_builtin; refine Kd.R_append k53 (w0 := w) w.heap.size rfl (.tmp 43) (.tmp 48) 22 53 (.agg #[(.int .i64 0), (.int .i64 0), (.int .i64 0), (.int .i64 0), (.int .i64 0)]) 40 rfl Tryd.underlying22 info53 rfl (by decide) (by omega) v240 y239 (⟨(⟨(rd_T53 l0 x9_1).f0.f0, (rd_T53 l0 x9_1).f0.f1, (rd_T53 l0 x9_1).f0.f2⟩ : S24), (⟨(rd_T53 l0 x9_1).f1.f0, (rd_T53 l0 x9_1).f1.f1⟩ : S26)⟩ : S53) [.int .i64 ((rd_T53 l0 x9_1).f0.f0), .int .i64 ((rd_T53 l0 x9_1).f0.f1), .int .i64 ((rd_T53 l0 x9_1).f0.f2), .int .i64 ((rd_T53 l0 x9_1).f1.f0), .int .i64 ((rd_T53 l0 x9_1).f1.f1)] (fun _ => True) (fun _ => False) rfl rfl ?aP (fun _ hk => hk.elim) ?aF ?aO ?aB ?aS ?aL ?_; (case aP => exact k53_mkM _ _ _ (⟨(⟨(rd_T53 l0 x9_1).f0.f0, (rd_T53 l0 x9_1).f0.f1, (rd_T53 l0 x9_1).f0.f2⟩ : S24), (⟨(rd_T53 l0 x9_1).f1.f0, (rd_T53 l0 x9_1).f1.f1⟩ : S26)⟩ : S53)); (case aB => exact (uB HB)); (case aF => exact (fun _ _ => trivial)); (case aO => exact (by (with_reducible repeat (first | apply Kd.R_alloc | apply Kd.R_drewN | apply Kd.R_drew)); exact HO241.out)); (case aS => exact (below_size (uB HB))); (case aL => have := LMc22.out; omega); intro v244 w30 ho hb hg hat; rw [← Ny243.out] at ho; replace BK226 := Aside0.mk (blk_grown (g := gb226) (o := .cells #[.int .i64 a1_0, .int .i64 a1_1, .int .i64 a1_2] 24 (0, 0)) (uK BK226) hg (Kd.R_ne HO241.out BK226.out (by decide))); replace BK227 := Aside0.mk (blk_grown (g := gb227) (o := .cells #[.int .i64 a2_0, .int .i64 a2_1] 26 (0, 0)) (uK BK227) hg (Kd.R_ne HO241.out BK227.out (by decide))); replace HB := Aside0.mk (hb); have HO245 := Aside0.mk (ho); clear HO241; clear ho hb hg hat))
          go_roundg k1
          case measure => have := HK1.out; omega
          case rel => exact ⟨(y243), (true), (wrap64 (x9_1 + 1)), (by first | rfl | (simp; done) | (simp [*]; done)), (by first | rfl | (simp; done) | (simp [*]; done)), H', ⟨by have := HK1.out; omega⟩, ⟨by (with_reducible repeat (first | apply Kd.R_alloc | apply Kd.R_drewN | apply Kd.R_drew)); exact HO245.out⟩, ⟨by (with_reducible repeat first | refine bN ?_ _ | refine bD ?_ | refine bA ?_ _); exact BK226.out⟩, ⟨by (with_reducible repeat first | refine bN ?_ _ | refine bD ?_ | refine bA ?_ _); exact BK227.out⟩, ⟨by repeat (first | (with_reducible first | exact HB.out | apply bL | apply bM | apply bR) | exact HB.out)⟩⟩
         ·rw [if_neg c22] at H
          exact absurd H (by simp)
        ·rw [if_neg c21] at H
         exact absurd H (by simp)
       ·rw [if_neg c20] at H
        have c20b0 : decide (0 < t238) = false := decide_eq_false c20
        clear c20
        by_cases c31 : x7_1.length < 3518437208883
        ·rw [if_pos c31] at H
         have LMc31 := Aside0.mk c31
         clear c31
         obtain ⟨y247, hy247⟩ : ∃ y_ : List (S53), y_ = (x7_1 ++ [(⟨(⟨(rd_T53 l0 x9_1).f0.f0, (rd_T53 l0 x9_1).f0.f1, (rd_T53 l0 x9_1).f0.f2⟩ : S24), (⟨(rd_T53 l0 x9_1).f1.f0, (rd_T53 l0 x9_1).f1.f1⟩ : S26)⟩ : S53)]) := ⟨_, rfl⟩
         replace H : (clusterlocksref10_Set.l0 k1 l0 y247 false (wrap64 (x9_1 + 1)) a1_0 a1_1 a1_2 a2_0 a2_1) = some r := by first | (rw [hy247]; with_reducible exact H) | (have H2_ := (Option.bind_some _ _).symm.trans H; rw [hy247]; with_reducible exact H2_) | (have H2_ := (Option.bind_some _ _).symm.trans H; with_reducible exact H2_) | with_reducible exact H | (rw [hy247]; exact H) | exact H
         have Ny247 := Aside0.mk hy247
         clear hy247
         have H' := Aside0.mk H
         clear H
         try go_wp2
         replace HO_7 := Aside0.mk (Kd.R_drew HO_7.out)
         replace BK226 := Aside0.mk (blk_drew BK226.out)
         replace BK227 := Aside0.mk (blk_drew BK227.out)
         replace HB := Aside0.mk (below_drew1 HB.out)
         have p232 : 0 ≤ (x9_1 : Int) := of_decide_eq_true (by first | (with_reducible assumption) | assumption)
         have q232 : x9_1 < (l0.length : Int) := of_decide_eq_true (by first | (with_reducible assumption) | assumption)
         obtain ⟨ad232, e232, hx232_0, hx232_1, hx232_2, hx232_3, hx232_4⟩ := at_T53 HR0.out x9_1 p232 q232
         have hw232_4 := hx232_4
         have hw232_3 := hx232_3
         have hw232_2 := hx232_2
         have hw232_1 := hx232_1
         have hw232_0 := hx232_0
         cases e232
         replace hx232_0 := kC HB hx232_0
         replace hx232_1 := kC HB hx232_1
         replace hx232_2 := kC HB hx232_2
         replace hx232_3 := kC HB hx232_3
         replace hx232_4 := kC HB hx232_4
         replace p232 := eq_true p232
         replace q232 := eq_true q232
         refine start_ (n := 7) (S := fun w' => w'.cell? ⟨gb226, 0, none⟩ = some (.int .i64 a1_0) ∧ w'.cell? ⟨gb226, 1, none⟩ = some (.int .i64 a1_1) ∧ w'.cell? ⟨gb226, 2, none⟩ = some (.int .i64 a1_2) ∧ w'.cell? (ad232.add ((x9_1).toNat * 5)) = some (.int .i64 ((rd_T53 l0 x9_1).f0.f0)) ∧ w'.cell? ⟨(ad232.add ((x9_1).toNat * 5)).block, (ad232.add ((x9_1).toNat * 5)).off + 1, none⟩ = some (.int .i64 ((rd_T53 l0 x9_1).f0.f1)) ∧ w'.cell? ⟨(ad232.add ((x9_1).toNat * 5)).block, (ad232.add ((x9_1).toNat * 5)).off + 2, none⟩ = some (.int .i64 ((rd_T53 l0 x9_1).f0.f2)) ∧ w'.cell? ⟨(ad232.add ((x9_1).toNat * 5)).block, (ad232.add ((x9_1).toNat * 5)).off + 3, none⟩ = some (.int .i64 ((rd_T53 l0 x9_1).f1.f0)) ∧ w'.cell? ⟨(ad232.add ((x9_1).toNat * 5)).block, (ad232.add ((x9_1).toNat * 5)).off + 4, none⟩ = some (.int .i64 ((rd_T53 l0 x9_1).f1.f1))) (ds := []) #[F,F,F,F,F,F,F] (by kernel_rfl) rfl rfl ⟨bC BK226 0 rfl, bC BK226 1 rfl, bC BK226 2 rfl, (kC HB hw232_0), (kC HB hw232_1), (kC HB hw232_2), (kC HB hw232_3), (kC HB hw232_4)⟩ (fun hHeld => ?_)
         generalize wr.drew = w32 at HO_7 BK226 BK227 HB hx232_0 hx232_1 hx232_2 hx232_3 hx232_4 hHeld ⊢
         refine pure_ (i := 0) (N := some 18) (v := ?_) (a' := ?_) #[T,F,F,F,F,F,F] rfl rfl (by kernel_rfl) (fun _ _ _ h => h) (Or.inl ⟨by rfl, ?_⟩) ?_ ?_
         rotate_left
         ·intro w'; go_simp; with_reducible rfl
         rotate_left
         ·simp only [sP]; rfl
         refine pure_ (i := 1) (N := some 19) (v := ?_) (a' := ?_) #[T,T,F,F,F,F,F] rfl rfl (by kernel_rfl) (fun _ _ _ h => h) (Or.inl ⟨by rfl, ?_⟩) ?_ ?_
         rotate_left
         ·intro w'; go_simp; with_reducible rfl
         rotate_left
         ·simp only [sP]; rfl
         refine pure_ (i := 2) (N := some 20) (v := ?_) (a' := ?_) #[T,T,T,F,F,F,F] rfl rfl (by kernel_rfl) (fun _ _ _ h => h) (Or.inl ⟨by rfl, ?_⟩) ?_ ?_
         rotate_left
         ·intro w'; go_simp; with_reducible rfl
         rotate_left
         ·simp only [sP]; rfl
         refine pure_ (i := 3) (N := some 21) (v := ?_) (a' := ?_) #[T,T,T,T,F,F,F] rfl rfl (by kernel_rfl) (fun _ _ _ h => h) (Or.inl ⟨by rfl, ?_⟩) ?_ ?_
         rotate_left
         ·intro w'; go_simp; with_reducible rfl
         rotate_left
         ·simp only [sP]; rfl
         refine take_ (i := 4) (N := some 22) (v := ?_) (a' := ?_) #[T,T,T,T,T,F,F] rfl rfl (by kernel_rfl) (fun _ _ _ h => h) (Or.inl ⟨by rfl, ?_⟩) hHeld ?_ ?_
         rotate_left
         ·rintro w' ⟨s0, s1, s2, s3, s4, s5, s6, s7⟩; go_simp; with_reducible rfl
         rotate_left
         ·simp only [sP]; rfl
         refine take_ (i := 5) (N := some 23) (v := ?_) (a' := ?_) #[T,T,T,T,T,T,F] rfl rfl (by kernel_rfl) (fun _ _ _ h => h) (Or.inl ⟨by rfl, ?_⟩) hHeld ?_ ?_
         rotate_left
         ·rintro w' ⟨s0, s1, s2, s3, s4, s5, s6, s7⟩; go_simp; with_reducible rfl
         rotate_left
         ·simp only [sP]; rfl
         refine pure_ (i := 6) (N := some 24) (v := ?_) (a' := ?_) #[T,T,T,T,T,T,T] rfl rfl (by kernel_rfl) (fun _ _ _ h => h) (Or.inl ⟨by rfl, ?_⟩) ?_ ?_
         rotate_left
         ·intro w'; go_simp; with_reducible rfl
         rotate_left
         ·simp only [sP]; rfl
         refine done_ (by kernel_rfl) ?_
         try go_wp2
         replace HO_7 := Aside0.mk (Kd.R_drew HO_7.out)
         replace BK226 := Aside0.mk (blk_drew BK226.out)
         replace BK227 := Aside0.mk (blk_drew BK227.out)
         replace HB := Aside0.mk (below_drew1 HB.out)
         have p237 : 0 ≤ (x9_1 : Int) := of_decide_eq_true (by first | (with_reducible assumption) | assumption)
         have q237 : x9_1 < (l0.length : Int) := of_decide_eq_true (by first | (with_reducible assumption) | assumption)
         obtain ⟨ad237, e237, hx237_0, hx237_1, hx237_2, hx237_3, hx237_4⟩ := at_T53 HR0.out x9_1 p237 q237
         have hw237_4 := hx237_4
         have hw237_3 := hx237_3
         have hw237_2 := hx237_2
         have hw237_1 := hx237_1
         have hw237_0 := hx237_0
         obtain rfl : ad232 = ad237 := (by injection e237)
         replace hx237_0 := kC HB hx237_0
         replace hx237_1 := kC HB hx237_1
         replace hx237_2 := kC HB hx237_2
         replace hx237_3 := kC HB hx237_3
         replace hx237_4 := kC HB hx237_4
         replace p237 := eq_true p237
         replace q237 := eq_true q237
         refine start_ (n := 12) (S := fun w' => w'.cell? ⟨gb226, 0, none⟩ = some (.int .i64 a1_0) ∧ w'.cell? ⟨gb226, 1, none⟩ = some (.int .i64 a1_1) ∧ w'.cell? ⟨gb226, 2, none⟩ = some (.int .i64 a1_2) ∧ w'.cell? (ad232.add ((x9_1).toNat * 5)) = some (.int .i64 ((rd_T53 l0 x9_1).f0.f0)) ∧ w'.cell? ⟨(ad232.add ((x9_1).toNat * 5)).block, (ad232.add ((x9_1).toNat * 5)).off + 1, none⟩ = some (.int .i64 ((rd_T53 l0 x9_1).f0.f1)) ∧ w'.cell? ⟨(ad232.add ((x9_1).toNat * 5)).block, (ad232.add ((x9_1).toNat * 5)).off + 2, none⟩ = some (.int .i64 ((rd_T53 l0 x9_1).f0.f2)) ∧ w'.cell? ⟨(ad232.add ((x9_1).toNat * 5)).block, (ad232.add ((x9_1).toNat * 5)).off + 3, none⟩ = some (.int .i64 ((rd_T53 l0 x9_1).f1.f0)) ∧ w'.cell? ⟨(ad232.add ((x9_1).toNat * 5)).block, (ad232.add ((x9_1).toNat * 5)).off + 4, none⟩ = some (.int .i64 ((rd_T53 l0 x9_1).f1.f1))) (ds := []) #[F,F,F,F,F,F,F,F,F,F,F,F] (by kernel_rfl) rfl rfl ⟨bC BK226 0 rfl, bC BK226 1 rfl, bC BK226 2 rfl, (kC HB hw237_0), (kC HB hw237_1), (kC HB hw237_2), (kC HB hw237_3), (kC HB hw237_4)⟩ (fun hHeld => ?_); refine with_tabW clusterlocksref10_Set.tab7 clusterlocksref10_Set.bits7 (fun HT_ HW_ => ?_)
         generalize w32.drew = w33 at HO_7 BK226 BK227 HB hx237_0 hx237_1 hx237_2 hx237_3 hx237_4 hHeld ⊢
         refine pu HT_ 0 25 #[T,F,F,F,F,F,F,F,F,F,F,F] rfl rfl (by kernel_rfl) (fun _ _ _ => id) (.inl ⟨by rfl, by intro w'; go_simp; with_reducible rfl⟩) (by simp only [sP]; rfl) ?_
         refine pu HT_ 1 26 #[T,T,F,F,F,F,F,F,F,F,F,F] rfl rfl (by kernel_rfl) (fun _ _ _ => id) (.inl ⟨by rfl, by intro w'; go_simp; with_reducible rfl⟩) (by simp only [sP]; rfl) ?_
         refine pu HT_ 2 27 #[T,T,T,F,F,F,F,F,F,F,F,F] rfl rfl (by kernel_rfl) (fun _ _ _ => id) (.inl ⟨by rfl, by intro w'; go_simp; with_reducible rfl⟩) (by simp only [sP]; rfl) ?_
         refine pu HT_ 3 28 #[T,T,T,T,F,F,F,F,F,F,F,F] rfl rfl (by kernel_rfl) (fun _ _ _ => id) (.inl ⟨by rfl, by intro w'; go_simp; with_reducible rfl⟩) (by simp only [sP]; rfl) ?_
         refine pu HT_ 4 29 #[T,T,T,T,T,F,F,F,F,F,F,F] rfl rfl (by kernel_rfl) (fun _ _ _ => id) (.inl ⟨by rfl, by intro w'; go_simp; with_reducible rfl⟩) (by simp only [sP]; rfl) ?_
         refine pu HT_ 5 30 #[T,T,T,T,T,T,F,F,F,F,F,F] rfl rfl (by kernel_rfl) (fun _ _ _ => id) (.inl ⟨by rfl, by intro w'; go_simp; with_reducible rfl⟩) (by simp only [sP]; rfl) ?_
         refine pu HT_ 6 31 #[T,T,T,T,T,T,T,F,F,F,F,F] rfl rfl (by kernel_rfl) (fun _ _ _ => id) (.inl ⟨by rfl, by intro w'; go_simp; with_reducible rfl⟩) (by simp only [sP]; rfl) ?_
         refine tk HT_ HW_ 7 32 #[T,T,T,T,T,T,T,T,F,F,F,F] rfl rfl (by kernel_rfl) (fun _ _ _ => id) (.inl ⟨by rfl, by rintro w' ⟨s0, s1, s2, s3, s4, s5, s6, s7⟩; go_simp; with_reducible rfl⟩) hHeld (by simp only [sP]; rfl) ?_
         refine tk HT_ HW_ 8 33 #[T,T,T,T,T,T,T,T,T,F,F,F] rfl rfl (by kernel_rfl) (fun _ _ _ => id) (.inl ⟨by rfl, by rintro w' ⟨s0, s1, s2, s3, s4, s5, s6, s7⟩; go_simp; with_reducible rfl⟩) hHeld (by simp only [sP]; rfl) ?_
         refine one_ (i := 9) (N := some 34) #[T,T,T,T,T,T,T,T,T,T,F,F] rfl rfl (one_of HT_.out (by kernel_rfl)) (by decide) (fun K hK => ?_)
         refine goes_ Tryd.func34 (by kernel_rfl) rfl #[.agg #[.int .i64 ((rd_T53 l0 x9_1).f0.f0), .int .i64 ((rd_T53 l0 x9_1).f0.f1), .int .i64 ((rd_T53 l0 x9_1).f0.f2)], .agg #[.int .i64 a1_0, .int .i64 a1_1, .int .i64 a1_2]] (by rfl) rfl rfl (by (try simp only [mA]); first | done | rfl) ?_
         with_reducible refine (clusterlocksref02_CompareProc.calls ((rd_T53 l0 x9_1).f0.f0) ((rd_T53 l0 x9_1).f0.f1) ((rd_T53 l0 x9_1).f0.f2) a1_0 a1_1 a1_2 t238 _ A19.out).mono ?_
         rintro e w34 ⟨rfl, hb⟩
         refine ⟨_, rfl, ?_⟩
         replace HO_7 := Aside0.mk (Kd.R_below (by (with_reducible repeat (first | apply Kd.R_alloc | apply Kd.R_drewN | apply Kd.R_drew)); exact HO_7.out) hb)
         replace BK226 := bK BK226 hb
         replace BK227 := bK BK227 hb
         replace HB := bB HB hb
         (try clear hb)
         (try clear hk)
         refine hK.out _ _ ⟨bC BK226 0 rfl, bC BK226 1 rfl, bC BK226 2 rfl, (kC HB hw237_0), (kC HB hw237_1), (kC HB hw237_2), (kC HB hw237_3), (kC HB hw237_4)⟩ (fun hHeld => ?_)
         clear hK K
         refine norm_ (a' := ?_) ?_ ?_
         rotate_left
         ·show Act.put _ (some 34) _ = _
          simp only [sP]
          rfl
         refine pu HT_ 10 35 #[T,T,T,T,T,T,T,T,T,T,T,F] rfl rfl (by kernel_rfl) (fun _ _ _ => id) (.inl ⟨by rfl, by intro w'; go_simp; with_reducible rfl⟩) (by simp only [sP]; rfl) ?_
         refine pu HT_ 11 36 #[T,T,T,T,T,T,T,T,T,T,T,T] rfl rfl (by kernel_rfl) (fun _ _ _ => id) (.inl ⟨by rfl, by intro w'; go_simp; with_reducible rfl⟩) (by simp only [sP]; rfl) ?_
         refine done_ (done_of HT_.out (by kernel_rfl)) ?_
         have p246 : 0 ≤ (x9_1 : Int) := of_decide_eq_true (by first | (with_reducible assumption) | assumption)
         have q246 : x9_1 < (l0.length : Int) := of_decide_eq_true (by first | (with_reducible assumption) | assumption)
         obtain ⟨ad246, e246, hx246_0, hx246_1, hx246_2, hx246_3, hx246_4⟩ := at_T53 HR0.out x9_1 p246 q246
         obtain rfl : ad232 = ad246 := (by injection e246)
         replace hx246_0 := kC HB hx246_0
         replace hx246_1 := kC HB hx246_1
         replace hx246_2 := kC HB hx246_2
         replace hx246_3 := kC HB hx246_3
         replace hx246_4 := kC HB hx246_4
         replace p246 := eq_true p246
         replace q246 := eq_true q246
         try go_wp2_with (first | ((with_reducible refine gate_builtin (b := .append) (xs := #[.tmp 43, .tmp 48]) rfl ?_); at_builtin; refine Kd.R_append k53 (w0 := w) w.heap.size rfl (.tmp 43) (.tmp 48) 22 53 (.agg #[(.int .i64 0), (.int .i64 0), (.int .i64 0), (.int .i64 0), (.int .i64 0)]) 40 rfl Tryd.underlying22 info53 rfl (by decide) (by omega) u7 x7_1 (⟨(⟨(rd_T53 l0 x9_1).f0.f0, (rd_T53 l0 x9_1).f0.f1, (rd_T53 l0 x9_1).f0.f2⟩ : S24), (⟨(rd_T53 l0 x9_1).f1.f0, (rd_T53 l0 x9_1).f1.f1⟩ : S26)⟩ : S53) [.int .i64 ((rd_T53 l0 x9_1).f0.f0), .int .i64 ((rd_T53 l0 x9_1).f0.f1), .int .i64 ((rd_T53 l0 x9_1).f0.f2), .int .i64 ((rd_T53 l0 x9_1).f1.f0), .int .i64 ((rd_T53 l0 x9_1).f1.f1)] (fun _ => True) (fun _ => False) rfl rfl ?aP (fun _ hk => hk.elim) ?aF ?aO ?aB ?aS ?aL ?_; (case aP => exact k53_mkM _ _ _ (⟨(⟨(rd_T53 l0 x9_1).f0.f0, (rd_T53 l0 x9_1).f0.f1, (rd_T53 l0 x9_1).f0.f2⟩ : S24), (⟨(rd_T53 l0 x9_1).f1.f0, (rd_T53 l0 x9_1).f1.f1⟩ : S26)⟩ : S53)); (case aB => exact (uB HB)); (case aF => exact (fun _ _ => trivial)); (case aO => exact (by (with_reducible repeat (first | apply Kd.R_alloc | apply Kd.R_drewN | apply Kd.R_drew)); exact HO_7.out)); (case aS => exact (below_size (uB HB))); (case aL => have := LMc31.out; omega); intro v248 w35 ho hb hg hat; rw [← Ny247.out] at ho; replace BK226 := Aside0.mk (blk_grown (g := gb226) (o := .cells #[.int .i64 a1_0, .int .i64 a1_1, .int .i64 a1_2] 24 (0, 0)) (uK BK226) hg (Kd.R_ne HO_7.out BK226.out (by decide))); replace BK227 := Aside0.mk (blk_grown (g := gb227) (o := .cells #[.int .i64 a2_0, .int .i64 a2_1] 26 (0, 0)) (uK BK227) hg (Kd.R_ne HO_7.out BK227.out (by decide))); replace HB := Aside0.mk (hb); have HO249 := Aside0.mk (ho); clear HO_7; clear ho hb hg hat))
         go_roundg k1
         case measure => have := HK1.out; omega
         case rel => exact ⟨(y247), (false), (wrap64 (x9_1 + 1)), (by first | rfl | (simp; done) | (simp [*]; done)), (by first | rfl | (simp; done) | (simp [*]; done)), H', ⟨by have := HK1.out; omega⟩, ⟨by (with_reducible repeat (first | apply Kd.R_alloc | apply Kd.R_drewN | apply Kd.R_drew)); exact HO249.out⟩, ⟨by (with_reducible repeat first | refine bN ?_ _ | refine bD ?_ | refine bA ?_ _); exact BK226.out⟩, ⟨by (with_reducible repeat first | refine bN ?_ _ | refine bD ?_ | refine bA ?_ _); exact BK227.out⟩, ⟨by repeat (first | (with_reducible first | exact HB.out | apply bL | apply bM | apply bR) | exact HB.out)⟩⟩
        ·rw [if_neg c31] at H
         exact absurd H (by simp)
    ·rw [if_neg c11] at H
     exact absurd H (by simp)
   ·rw [if_neg c10] at H
    have c10b0 : decide (x9_1 < (l0.length : Int)) = false := decide_eq_false c10
    clear c10
    by_cases c36 : x8_1 = true
    ·subst c36
     rw [if_pos rfl] at H
     obtain rfl := Option.some.inj H
     go_wp2
     go_ret
     exact ⟨_, by first | rfl | (simp [errW_none, errW_some] <;> rfl) | (simp [*, errW_none, errW_some] <;> rfl), by (with_reducible repeat (first | apply Kd.R_alloc | apply Kd.R_drewN | apply Kd.R_drew)); exact HO_7.out, by repeat (first | (with_reducible first | exact HB.out | apply bL | apply bM | apply bR) | exact HB.out)⟩
    ·replace c36 := Bool.eq_false_iff.mpr c36
     subst c36
     rw [if_neg (show ¬ (false = true) by decide)] at H
     by_cases c37 : x7_1.length < 3518437208883
     ·rw [if_pos c37] at H
      have LMc37 := Aside0.mk c37
      clear c37
      obtain ⟨y229, hy229⟩ : ∃ y_ : List (S53), y_ = (x7_1 ++ [(⟨(⟨a1_0, a1_1, a1_2⟩ : S24), (⟨a2_0, a2_1⟩ : S26)⟩ : S53)]) := ⟨_, rfl⟩
      replace H : (some y229) = some r := by first | (rw [hy229]; with_reducible exact H) | (have H2_ := (Option.bind_some _ _).symm.trans H; rw [hy229]; with_reducible exact H2_) | (have H2_ := (Option.bind_some _ _).symm.trans H; with_reducible exact H2_) | with_reducible exact H | (rw [hy229]; exact H) | exact H
      have Ny229 := Aside0.mk hy229
      clear hy229
      obtain rfl := Option.some.inj H
      have hnb38 := NB226_227.out
      have hnc38 := NB227_226.out
      obtain ⟨hcz39_0, hcz39_1, hcz39_2, hfz39_0, hfz39_1, hfz39_2⟩ := d3 BK226
      obtain ⟨hcz40_0, hcz40_1, hfz40_0, hfz40_1⟩ := d2 BK227
      go_wp2_with (first | ((with_reducible refine gate_builtin (b := .append) (xs := #[.tmp 52, .tmp 56]) rfl ?_); at_builtin; refine Kd.R_append k53 (w0 := w) w.heap.size rfl (.tmp 52) (.tmp 56) 22 53 (.agg #[(.int .i64 0), (.int .i64 0), (.int .i64 0), (.int .i64 0), (.int .i64 0)]) 40 rfl Tryd.underlying22 info53 rfl (by decide) (by omega) u7 x7_1 (⟨(⟨a1_0, a1_1, a1_2⟩ : S24), (⟨a2_0, a2_1⟩ : S26)⟩ : S53) [.int .i64 a1_0, .int .i64 a1_1, .int .i64 a1_2, .int .i64 a2_0, .int .i64 a2_1] (fun _ => True) (fun _ => False) rfl rfl ?aP (fun _ hk => hk.elim) ?aF ?aO ?aB ?aS ?aL ?_; (case aP => exact k53_mkM _ _ _ (⟨(⟨a1_0, a1_1, a1_2⟩ : S24), (⟨a2_0, a2_1⟩ : S26)⟩ : S53)); (case aB => exact (uB HB)); (case aF => exact (fun _ _ => trivial)); (case aO => exact (by (with_reducible repeat (first | apply Kd.R_alloc | apply Kd.R_drewN | apply Kd.R_drew)); exact HO_7.out)); (case aS => exact (below_size (uB HB))); (case aL => have := LMc37.out; omega); intro v230 w41 ho hb hg hat; rw [← Ny229.out] at ho; replace BK226 := Aside0.mk (blk_grown (g := gb226) (o := .cells #[.int .i64 a1_0, .int .i64 a1_1, .int .i64 a1_2] 24 (0, 0)) (uK BK226) hg (Kd.R_ne HO_7.out BK226.out (by decide))); replace BK227 := Aside0.mk (blk_grown (g := gb227) (o := .cells #[.int .i64 a2_0, .int .i64 a2_1] 26 (0, 0)) (uK BK227) hg (Kd.R_ne HO_7.out BK227.out (by decide))); replace HB := Aside0.mk (hb); have HO231 := Aside0.mk (ho); clear HO_7; clear ho hb hg hat))
      go_ret
      exact ⟨_, by first | rfl | (simp [errW_none, errW_some] <;> rfl) | (simp [*, errW_none, errW_some] <;> rfl), by (with_reducible repeat (first | apply Kd.R_alloc | apply Kd.R_drewN | apply Kd.R_drew)); exact HO231.out, by repeat (first | (with_reducible first | exact HB.out | apply bL | apply bM | apply bR) | exact HB.out)⟩
     ·rw [if_neg c37] at H
      exact absurd H (by simp)
end Go.Proofs.YtnmemkphfgdplaaDoor.PA
