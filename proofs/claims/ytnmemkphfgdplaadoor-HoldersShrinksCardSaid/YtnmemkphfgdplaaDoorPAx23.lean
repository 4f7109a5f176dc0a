-- Printed by wip/tool/myprint.py for this claim; Lean checks it.
import Derived.Test.YtnmemkphfgdplaaDoorPAx0
import Derived.Test.YtnmemkphfgdplaaDoorSlim
import Derived.Test.YtnmemkphfgdplaaDoorPAx11
import Derived.Test.YtnmemkphfgdplaaDoorPAx16
import Derived.Test.YtnmemkphfgdplaaDoorPAxM
namespace Go.Proofs.YtnmemkphfgdplaaDoor.PA
open Go.RowKit Go.Proofs.YtnmemkphfgdplaaDoorW.PrintWords Go.Proofs.YtnmemkphfgdplaaDoorW.PrintLast Go.Proofs.YtnmemkphfgdplaaDoorW.PrintMore
attribute [local go_sem] max2_int min2_int max_two min_two max_three min_three max_four min_four   -- for this text's walks alone
set_option linter.unusedVariables false
set_option linter.unusedSimpArgs false
abbrev q23_0 : Array Bool := #[T,T,T,T,T,T,T,T,T,T,T,T,T,T,F,F]
abbrev q23_1 : Array Bool := #[T,T,T,T,T,T,T,T,T,T,T,F,T,T,F,F]
abbrev q23_2 : Array Bool := #[T,T,T,T,T,T,T,T,T,T,T,T,T,F,F,F]
abbrev q23_3 : Array Bool := #[T,T,T,T,T,T,T,T,T,T,T,T,F,T,F,F]
abbrev q23_4 : Array Bool := #[T,T,T,T,T,T,T,T,T,T,T,F,T,F,F,F]
abbrev q23_5 : Array Bool := #[T,T,T,T,T,T,T,T,T,T,T,F,F,T,F,F]
abbrev q23_6 : Array Bool := #[T,T,T,T,F,T,T,T,T,T,T,F,T,T,F,F]
abbrev q23_7 : Array Bool := #[T,T,T,T,T,T,T,T,T,T,T,T,F,F,F,F]
abbrev q23_8 : Array Bool := #[T,T,T,T,T,T,T,T,T,T,T,F,F,F,F,F]
abbrev q23_9 : Array Bool := #[T,T,T,T,F,T,T,T,T,T,T,F,T,F,F,F]
abbrev q23_10 : Array Bool := #[T,T,T,T,F,T,T,T,T,T,T,F,F,T,F,F]

/-! ### clusterlockslaw10_made: function 22 -/
def clusterlockslaw10_made.l0 : Nat → List Int → List (S53) → Int → ByteArray → Int → Int → Int → Option ((List (S53)))
 | 0, _, _, _, _, _, _, _ => none
 | k + 1, x1, x5, x6, x426000, x426001, x426002, x426003 => if x6 < (x1.length : Int) then (if 0 ≤ x6 then ((clusterlocksmill_Proc.f (rd x1 x6)).bind fun bt427 => ((clusterlocksmill_Amount.f x426000 x426001 x426002 x426003 ((rd x1 x6) / 8)).bind fun bt431 => ((clusterlocksref10_Room.f k x426000 x426001 x426002 x426003 x5 bt427.1 bt427.2.1 bt427.2.2 bt431.1 bt431.2).bind fun t435 => (if t435 = true then ((clusterlocksref10_Set.f k x5 bt427.1 bt427.2.1 bt427.2.2 bt431.1 bt431.2).bind fun t436 => (clusterlockslaw10_made.l0 k x1 t436 (wrap64 (x6 + 1)) x426000 x426001 x426002 x426003)) else (clusterlockslaw10_made.l0 k x1 x5 (wrap64 (x6 + 1)) x426000 x426001 x426002 x426003))))) else (none)) else (some x5)
def clusterlockslaw10_made.f (k : Nat) (a0_0 : ByteArray) (a0_1 : Int) (a0_2 : Int) (a0_3 : Int) (l1 : List Int) : Option ((List (S53))) := clusterlockslaw10_made.l0 k l1 ([] : List (S53)) 0 a0_0 a0_1 a0_2 a0_3
theorem clusterlockslaw10_made.mono_l : ∀ k, (∀ y0 y1 y2 y3 y4 y5 y6, LeO (clusterlockslaw10_made.l0 k y0 y1 y2 y3 y4 y5 y6) (clusterlockslaw10_made.l0 (k + 1) y0 y1 y2 y3 y4 y5 y6))
 | 0 => fun _ _ _ _ _ _ _ r h => by simp [clusterlockslaw10_made.l0] at h
 | k + 1 => by
  have ih0 := clusterlockslaw10_made.mono_l k
  ·intro y0 y1 y2 y3 y4 y5 y6
   unfold clusterlockslaw10_made.l0
   repeat' first
   | (with_reducible exact ih0 _ _ _ _ _ _ _)
   | (with_reducible exact clusterlocksref10_Room.mono _ _ _ _ _ _ _ _ _ _ _)
   | (with_reducible exact clusterlocksref10_Set.mono _ _ _ _ _ _ _)
   | (with_reducible exact LeO.refl _)
   | (with_reducible exact LeO.none _)
   | (with_reducible refine LeO.ite ?_ ?_)
   | (with_reducible refine LeO.bind ?_ (fun _ => ?_))
   | exact ih0 _ _ _ _ _ _ _
   | exact clusterlocksref10_Room.mono _ _ _ _ _ _ _ _ _ _ _
   | exact clusterlocksref10_Set.mono _ _ _ _ _ _ _
   | exact LeO.none _
   | refine LeO.ite ?_ ?_
   | refine LeO.bind ?_ (fun _ => ?_)
theorem clusterlockslaw10_made.mono : ∀ a0 a1 a2 a3 a4 k, LeO (clusterlockslaw10_made.f k a0 a1 a2 a3 a4) (clusterlockslaw10_made.f (k + 1) a0 a1 a2 a3 a4) := by
 intro a0 a1 a2 a3 a4 k
 have ih0 := clusterlockslaw10_made.mono_l k
 unfold clusterlockslaw10_made.f
 repeat' first
   | (with_reducible exact ih0 _ _ _ _ _ _ _)
   | (with_reducible exact clusterlocksref10_Room.mono _ _ _ _ _ _ _ _ _ _ _)
   | (with_reducible exact clusterlocksref10_Set.mono _ _ _ _ _ _ _)
   | (with_reducible exact LeO.refl _)
   | (with_reducible exact LeO.none _)
   | (with_reducible refine LeO.ite ?_ ?_)
   | (with_reducible refine LeO.bind ?_ (fun _ => ?_))
   | exact ih0 _ _ _ _ _ _ _
   | exact clusterlocksref10_Room.mono _ _ _ _ _ _ _ _ _ _ _
   | exact clusterlocksref10_Set.mono _ _ _ _ _ _ _
   | exact LeO.none _
   | refine LeO.ite ?_ ?_
   | refine LeO.bind ?_ (fun _ => ?_)
def clusterlockslaw10_made.T5 : Bool × List (List Nat × List Nat) := (true, [([], []), ([], []), ([0, 1], [0, 1]), ([2], [2]), ([3], [3]), ([], []), ([], []), ([], []), ([6, 7], [6, 7]), ([8], [8]), ([9], [9]), ([5, 10, 4], [5, 10]), ([], []), ([], []), ([12, 4, 11, 0, 1, 2, 3, 4, 12, 13], [4, 12]), ([13, 11, 14, 0, 1, 2, 3, 4, 5, 6, 7, 8, 9, 10, 11, 12, 13, 14], [11, 13])])
def clusterlockslaw10_made.B5 : List Nat := [0, 0, 3, 7, 15, 0, 0, 0, 192, 448, 960, 2047, 0, 0, 16383, 32767]
theorem clusterlockslaw10_made.tab5 : rtab .any (opsOf Tryd.f22 5) = clusterlockslaw10_made.T5 := by kernel_rfl
theorem clusterlockslaw10_made.bits5 : waitsOk clusterlockslaw10_made.T5.2 clusterlockslaw10_made.B5 = true := by kernel_rfl
set_option maxHeartbeats 8000000 in
set_option maxRecDepth 100000 in
theorem clusterlockslaw10_made.calls (k : Nat) (a0_0 : ByteArray) (a0_1 : Int) (a0_2 : Int) (a0_3 : Int) (A1 : Option Addr) (c1 : Nat) (l1 : List Int) (r : List (S53)) (w : World) (hr1 : Kd.C (Kd.int .i64) w A1 l1.length l1) (hc1 : l1.length ≤ c1) (h : clusterlockslaw10_made.f k a0_0 a0_1 a0_2 a0_3 l1 = some r) :
  Calls Tryd.prog 22 #[.agg #[.string a0_0, .int .i64 a0_1, .int .i64 a0_2, .int .i64 a0_3], .slice A1 l1.length c1] w fun e w' => ∃ v0_ : Value, e = .returned (v0_) ∧ Kd.R k53 53 w' w.heap.size (fun _ => True) v0_ r ∧ Below w.heap.size w w' := by
 have hu32 := Tryd.underlying32
 have hu24 := Tryd.underlying24
 have hu26 := Tryd.underlying26
 have HR1 := Aside0.mk hr1
 have HC1 := Aside0.mk hc1
 clear hr1 hc1
 have HB := Aside0.mk (Below.refl w.heap.size w)
 have H : (clusterlockslaw10_made.l0 k l1 ([] : List (S53)) 0 a0_0 a0_1 a0_2 a0_3) = some r := h
 clear h
 have H' := Aside0.mk H
 clear H
 go_enter Tryd.func22, Tryd.ntmps22
 go_wp2_with (first | ((with_reducible refine gate_dst (N := 2) rfl ?_); refine box_event ?hg (N := 2) ?hd (cs := #[.string a0_0, .int .i64 a0_1, .int .i64 a0_2, .int .i64 a0_3]) (t := 32) ?hr ?_; (case hd => rfl); (case hg => rfl); (case hr => first | (go_simp; done) | (go_simp; rfl)); intro gb425 hg w3 hbox hb; have BK425 := Aside0.mk hbox; have GW425 := gE HB hg; replace HB := bB HB hb; have GE425 := GW425; clear hb hbox hg))
 go_loopg [5, 6] k (fun kq v5 v6 w' => ∃ (x5_1 : List (S53)) (x6_1 : Int), v6 = .int .i64 x6_1 ∧ Aside0 (clusterlockslaw10_made.l0 kq l1 x5_1 x6_1 a0_0 a0_1 a0_2 a0_3 = some r) ∧ Aside0 (kq ≤ k) ∧ Aside0 (Kd.R k53 53 w' w.heap.size (fun _ => True) v5 x5_1) ∧ Aside0 (w'.heap[gb425]? = some (.cells #[.string a0_0, .int .i64 a0_1, .int .i64 a0_2, .int .i64 a0_3] 32 (0, 0))) ∧ Aside0 (Below w.heap.size w w'))
 case atStart => exact ⟨(([] : List (S53))), (0), (by first | rfl | (simp; done) | (simp [*]; done)), H', ⟨Nat.le_refl _⟩, ⟨by first | exact Kd.R_nil _ _ _ _ _ | exact Kd.N_nil _ _ _ _ _ | exact Kd.V_nil _ _ _ _ _ | exact Kd.Q_nil _ _ _ _ _ | exact Kd.S_nil _ _ _ _ _⟩, ⟨by (with_reducible repeat first | refine bN ?_ _ | refine bD ?_ | refine bA ?_ _); exact BK425.out⟩, ⟨by repeat (first | (with_reducible first | exact HB.out | apply bL | apply bM | apply bR) | exact HB.out)⟩⟩
 case round =>
  clear H'
  try clear c1
  try clear c2
  try clear p2
  obtain ⟨x5_1, x6_1, rfl, HA, HK1, HO_5, BK425, HB⟩ := hrel
  cases gk with
  | zero => exact absurd HA.out (by simp [clusterlockslaw10_made.l0])
  | succ k1 =>
   have H := HA.out
   clear HA
   simp only [clusterlockslaw10_made.l0] at H
   by_cases c4 : x6_1 < (l1.length : Int)
   ·rw [if_pos c4] at H
    have c4b0 : decide (x6_1 < (l1.length : Int)) = true := decide_eq_true c4
    clear c4
    by_cases c5 : 0 ≤ x6_1
    ·rw [if_pos c5] at H
     have c5b0 : decide (0 ≤ x6_1) = true := decide_eq_true c5
     clear c5
     replace H := Option.bind_eq_some_iff.mp H
     obtain ⟨⟨t427, t428, t429⟩, A60, H⟩ := H
     replace H : ((clusterlocksmill_Amount.f a0_0 a0_1 a0_2 a0_3 ((rd l1 x6_1) / 8)).bind fun bt431 => ((clusterlocksref10_Room.f k1 a0_0 a0_1 a0_2 a0_3 x5_1 t427 t428 t429 bt431.1 bt431.2).bind fun t435 => (if t435 = true then ((clusterlocksref10_Set.f k1 x5_1 t427 t428 t429 bt431.1 bt431.2).bind fun t436 => (clusterlockslaw10_made.l0 k1 l1 t436 (wrap64 (x6_1 + 1)) a0_0 a0_1 a0_2 a0_3)) else (clusterlockslaw10_made.l0 k1 l1 x5_1 (wrap64 (x6_1 + 1)) a0_0 a0_1 a0_2 a0_3)))) = some r := H
     have A6 := Aside0.mk A60; clear A60
     replace H := Option.bind_eq_some_iff.mp H
     obtain ⟨⟨t431, t432⟩, A70, H⟩ := H
     replace H : ((clusterlocksref10_Room.f k1 a0_0 a0_1 a0_2 a0_3 x5_1 t427 t428 t429 t431 t432).bind fun t435 => (if t435 = true then ((clusterlocksref10_Set.f k1 x5_1 t427 t428 t429 t431 t432).bind fun t436 => (clusterlockslaw10_made.l0 k1 l1 t436 (wrap64 (x6_1 + 1)) a0_0 a0_1 a0_2 a0_3)) else (clusterlockslaw10_made.l0 k1 l1 x5_1 (wrap64 (x6_1 + 1)) a0_0 a0_1 a0_2 a0_3))) = some r := H
     have A7 := Aside0.mk A70; clear A70
     obtain ⟨t435, A80, H⟩ := Option.bind_eq_some_iff.mp H
     have A8 := Aside0.mk A80; clear A80
     have HH_ := Aside0.mk H
     clear H
     try go_wp2
     replace HO_5 := Aside0.mk (Kd.R_drew HO_5.out)
     replace BK425 := Aside0.mk (blk_drew BK425.out)
     replace HB := Aside0.mk (below_drew1 HB.out)
     have p426 : 0 ≤ (x6_1 : Int) := of_decide_eq_true (by first | (with_reducible assumption) | assumption)
     have q426 : x6_1 < (l1.length : Int) := of_decide_eq_true (by first | (with_reducible assumption) | assumption)
     obtain ⟨ad426, e426, hx426_0⟩ := Kd.at_int HR1.out x6_1 p426 q426
     have hw426_0 := hx426_0
     cases e426
     replace hx426_0 := kC HB hx426_0
     replace p426 := eq_true p426
     replace q426 := eq_true q426
     have p430 : 0 ≤ (x6_1 : Int) := of_decide_eq_true (by first | (with_reducible assumption) | assumption)
     have q430 : x6_1 < (l1.length : Int) := of_decide_eq_true (by first | (with_reducible assumption) | assumption)
     obtain ⟨ad430, e430, hx430_0⟩ := Kd.at_int HR1.out x6_1 p430 q430
     have hw430_0 := hx430_0
     obtain rfl : ad426 = ad430 := (by injection e430)
     replace hx430_0 := kC HB hx430_0
     replace p430 := eq_true p430
     replace q430 := eq_true q430
     refine start_ (n := 16) (S := fun w' => w'.cell? ⟨gb425, 0, none⟩ = some (.string a0_0) ∧ w'.cell? ⟨gb425, 1, none⟩ = some (.int .i64 a0_1) ∧ w'.cell? ⟨gb425, 2, none⟩ = some (.int .i64 a0_2) ∧ w'.cell? ⟨gb425, 3, none⟩ = some (.int .i64 a0_3) ∧ w'.cell? (ad426.add (x6_1).toNat) = some (.int .i64 (rd l1 x6_1)) ∧ w'.cell? (ad426.add (x6_1).toNat) = some (.int .i64 (rd l1 x6_1))) (ds := []) #[F,F,F,F,F,F,F,F,F,F,F,F,F,F,F,F] (by kernel_rfl) rfl rfl ⟨bC BK425 0 rfl, bC BK425 1 rfl, bC BK425 2 rfl, bC BK425 3 rfl, (kC HB hw426_0), (kC HB hw430_0)⟩ (fun hHeld => ?_); refine with_tabW clusterlockslaw10_made.tab5 clusterlockslaw10_made.bits5 (fun HT_ HW_ => ?_)
     generalize wr.drew = w11 at HO_5 BK425 HB hx426_0 hx430_0 hHeld ⊢
     refine pu HT_ 0 15 #[T,F,F,F,F,F,F,F,F,F,F,F,F,F,F,F] rfl rfl (by kernel_rfl) (fun _ _ _ => id) (.inl ⟨by rfl, by intro w'; go_simp; with_reducible rfl⟩) (by simp only [sP]; rfl) ?_
     refine pu HT_ 1 16 #[T,T,F,F,F,F,F,F,F,F,F,F,F,F,F,F] rfl rfl (by kernel_rfl) (fun _ _ _ => id) (.inl ⟨by rfl, by intro w'; go_simp; with_reducible rfl⟩) (by simp only [sP]; rfl) ?_
     refine pu HT_ 2 17 #[T,T,T,F,F,F,F,F,F,F,F,F,F,F,F,F] rfl rfl (by kernel_rfl) (fun _ _ _ => id) (.inl ⟨by rfl, by intro w'; go_simp; with_reducible rfl⟩) (by simp only [sP]; rfl) ?_
     refine pu HT_ 6 21 #[T,T,T,F,F,F,T,F,F,F,F,F,F,F,F,F] rfl rfl (by kernel_rfl) (fun _ _ _ => id) (.inl ⟨by rfl, by intro w'; go_simp; with_reducible rfl⟩) (by simp only [sP]; rfl) ?_
     refine pu HT_ 7 22 #[T,T,T,F,F,F,T,T,F,F,F,F,F,F,F,F] rfl rfl (by kernel_rfl) (fun _ _ _ => id) (.inl ⟨by rfl, by intro w'; go_simp; with_reducible rfl⟩) (by simp only [sP]; rfl) ?_
     refine pu HT_ 8 23 #[T,T,T,F,F,F,T,T,T,F,F,F,F,F,F,F] rfl rfl (by kernel_rfl) (fun _ _ _ => id) (.inl ⟨by rfl, by intro w'; go_simp; with_reducible rfl⟩) (by simp only [sP]; rfl) ?_
     refine tk HT_ HW_ 3 18 #[T,T,T,T,F,F,T,T,T,F,F,F,F,F,F,F] rfl rfl (by kernel_rfl) (fun _ _ _ => id) (.inl ⟨by rfl, by rintro w' ⟨s0, s1, s2, s3, s4, s5⟩; go_simp; with_reducible rfl⟩) hHeld (by simp only [sP]; rfl) ?_
     refine tk HT_ HW_ 5 20 #[T,T,T,T,F,T,T,T,T,F,F,F,F,F,F,F] rfl rfl (by kernel_rfl) (fun _ _ _ => id) (.inl ⟨by rfl, by rintro w' ⟨s0, s1, s2, s3, s4, s5⟩; go_simp; with_reducible rfl⟩) hHeld (by simp only [sP]; rfl) ?_
     refine tk HT_ HW_ 9 24 #[T,T,T,T,F,T,T,T,T,T,F,F,F,F,F,F] rfl rfl (by kernel_rfl) (fun _ _ _ => id) (.inl ⟨by rfl, by rintro w' ⟨s0, s1, s2, s3, s4, s5⟩; go_simp; with_reducible rfl⟩) hHeld (by simp only [sP]; rfl) ?_
     refine pu HT_ 10 25 #[T,T,T,T,F,T,T,T,T,T,T,F,F,F,F,F] rfl rfl (by kernel_rfl) (fun _ _ _ => id) (.inl ⟨by rfl, by intro w'; go_simp; with_reducible rfl⟩) (by simp only [sP]; rfl) ?_
     refine join_ (σ := Nat × Nat) 2 q23_0 (fun s_ => [(19, .agg #[.int .i64 t427, .int .i64 t428, .int .i64 t429]), (26, .agg #[.int .i64 t431, .int .i64 t432]), (7, .pointer (some ⟨s_.1, 0, none⟩)), (8, .pointer (some ⟨s_.2, 0, none⟩))]) (fun s_ w' => (w'.cell? ⟨gb425, 0, none⟩ = some (.string a0_0) ∧ w'.cell? ⟨gb425, 1, none⟩ = some (.int .i64 a0_1) ∧ w'.cell? ⟨gb425, 2, none⟩ = some (.int .i64 a0_2) ∧ w'.cell? ⟨gb425, 3, none⟩ = some (.int .i64 a0_3) ∧ w'.cell? (ad426.add (x6_1).toNat) = some (.int .i64 (rd l1 x6_1)) ∧ w'.cell? (ad426.add (x6_1).toNat) = some (.int .i64 (rd l1 x6_1))) ∧ (Kd.R k53 53 w' w.heap.size (fun _ => True) u5 x5_1) ∧ (w'.heap[gb425]? = some (.cells #[.string a0_0, .int .i64 a0_1, .int .i64 a0_2, .int .i64 a0_3] 32 (0, 0))) ∧ (w'.heap[s_.1]? = some (.cells #[.int .i64 0, .int .i64 0, .int .i64 0] 24 (0, 0))) ∧ (w'.heap[s_.2]? = some (.cells #[.int .i64 0, .int .i64 0] 26 (0, 0))) ∧ (w.heap.size ≤ s_.1) ∧ (w.heap.size ≤ s_.1) ∧ (gb425 ≠ s_.1) ∧ (s_.1 ≠ gb425) ∧ (s_.2 ≠ s_.1) ∧ (s_.1 ≠ s_.2) ∧ (w.heap.size ≤ s_.2) ∧ (w.heap.size ≤ s_.2) ∧ (gb425 ≠ s_.2) ∧ (s_.2 ≠ gb425) ∧ (Below w.heap.size w w')) ?_ ?_
     rotate_left
     ·intro hJ4_11_12_13
      refine join_ (σ := Nat) 3 q23_2 (fun s_ => [(19, .agg #[.int .i64 t427, .int .i64 t428, .int .i64 t429]), (26, .agg #[.int .i64 t431, .int .i64 t432]), (7, .pointer (some ⟨s_, 0, none⟩))]) (fun s_ w' => (w'.cell? ⟨gb425, 0, none⟩ = some (.string a0_0) ∧ w'.cell? ⟨gb425, 1, none⟩ = some (.int .i64 a0_1) ∧ w'.cell? ⟨gb425, 2, none⟩ = some (.int .i64 a0_2) ∧ w'.cell? ⟨gb425, 3, none⟩ = some (.int .i64 a0_3) ∧ w'.cell? (ad426.add (x6_1).toNat) = some (.int .i64 (rd l1 x6_1)) ∧ w'.cell? (ad426.add (x6_1).toNat) = some (.int .i64 (rd l1 x6_1))) ∧ (Kd.R k53 53 w' w.heap.size (fun _ => True) u5 x5_1) ∧ (w'.heap[gb425]? = some (.cells #[.string a0_0, .int .i64 a0_1, .int .i64 a0_2, .int .i64 a0_3] 32 (0, 0))) ∧ (w'.heap[s_]? = some (.cells #[.int .i64 0, .int .i64 0, .int .i64 0] 24 (0, 0))) ∧ (w.heap.size ≤ s_) ∧ (w.heap.size ≤ s_) ∧ (gb425 ≠ s_) ∧ (s_ ≠ gb425) ∧ (Below w.heap.size w w')) ?_ ?_
      rotate_left
      ·intro hJ4_11_12
       refine join_ (σ := Nat) 3 q23_3 (fun s_ => [(19, .agg #[.int .i64 t427, .int .i64 t428, .int .i64 t429]), (26, .agg #[.int .i64 t431, .int .i64 t432]), (8, .pointer (some ⟨s_, 0, none⟩))]) (fun s_ w' => (w'.cell? ⟨gb425, 0, none⟩ = some (.string a0_0) ∧ w'.cell? ⟨gb425, 1, none⟩ = some (.int .i64 a0_1) ∧ w'.cell? ⟨gb425, 2, none⟩ = some (.int .i64 a0_2) ∧ w'.cell? ⟨gb425, 3, none⟩ = some (.int .i64 a0_3) ∧ w'.cell? (ad426.add (x6_1).toNat) = some (.int .i64 (rd l1 x6_1)) ∧ w'.cell? (ad426.add (x6_1).toNat) = some (.int .i64 (rd l1 x6_1))) ∧ (Kd.R k53 53 w' w.heap.size (fun _ => True) u5 x5_1) ∧ (w'.heap[gb425]? = some (.cells #[.string a0_0, .int .i64 a0_1, .int .i64 a0_2, .int .i64 a0_3] 32 (0, 0))) ∧ (w'.heap[s_]? = some (.cells #[.int .i64 0, .int .i64 0] 26 (0, 0))) ∧ (w.heap.size ≤ s_) ∧ (w.heap.size ≤ s_) ∧ (gb425 ≠ s_) ∧ (s_ ≠ gb425) ∧ (Below w.heap.size w w')) ?_ ?_
       rotate_left
       ·intro hJ4_11_13
        refine join_ (σ := Nat × Nat) 3 q23_1 (fun s_ => [(19, .agg #[.int .i64 t427, .int .i64 t428, .int .i64 t429]), (7, .pointer (some ⟨s_.1, 0, none⟩)), (8, .pointer (some ⟨s_.2, 0, none⟩))]) (fun s_ w' => (w'.cell? ⟨gb425, 0, none⟩ = some (.string a0_0) ∧ w'.cell? ⟨gb425, 1, none⟩ = some (.int .i64 a0_1) ∧ w'.cell? ⟨gb425, 2, none⟩ = some (.int .i64 a0_2) ∧ w'.cell? ⟨gb425, 3, none⟩ = some (.int .i64 a0_3) ∧ w'.cell? (ad426.add (x6_1).toNat) = some (.int .i64 (rd l1 x6_1)) ∧ w'.cell? (ad426.add (x6_1).toNat) = some (.int .i64 (rd l1 x6_1))) ∧ (Kd.R k53 53 w' w.heap.size (fun _ => True) u5 x5_1) ∧ (w'.heap[gb425]? = some (.cells #[.string a0_0, .int .i64 a0_1, .int .i64 a0_2, .int .i64 a0_3] 32 (0, 0))) ∧ (w'.heap[s_.1]? = some (.cells #[.int .i64 0, .int .i64 0, .int .i64 0] 24 (0, 0))) ∧ (w'.heap[s_.2]? = some (.cells #[.int .i64 0, .int .i64 0] 26 (0, 0))) ∧ (w.heap.size ≤ s_.1) ∧ (w.heap.size ≤ s_.1) ∧ (gb425 ≠ s_.1) ∧ (s_.1 ≠ gb425) ∧ (s_.2 ≠ s_.1) ∧ (s_.1 ≠ s_.2) ∧ (w.heap.size ≤ s_.2) ∧ (w.heap.size ≤ s_.2) ∧ (gb425 ≠ s_.2) ∧ (s_.2 ≠ gb425) ∧ (Below w.heap.size w w')) ?_ ?_
        rotate_left
        ·intro hJ4_12_13
         refine join_ (σ := Unit) 4 q23_7 (fun s_ => [(19, .agg #[.int .i64 t427, .int .i64 t428, .int .i64 t429]), (26, .agg #[.int .i64 t431, .int .i64 t432])]) (fun s_ w' => (w'.cell? ⟨gb425, 0, none⟩ = some (.string a0_0) ∧ w'.cell? ⟨gb425, 1, none⟩ = some (.int .i64 a0_1) ∧ w'.cell? ⟨gb425, 2, none⟩ = some (.int .i64 a0_2) ∧ w'.cell? ⟨gb425, 3, none⟩ = some (.int .i64 a0_3) ∧ w'.cell? (ad426.add (x6_1).toNat) = some (.int .i64 (rd l1 x6_1)) ∧ w'.cell? (ad426.add (x6_1).toNat) = some (.int .i64 (rd l1 x6_1))) ∧ (Kd.R k53 53 w' w.heap.size (fun _ => True) u5 x5_1) ∧ (w'.heap[gb425]? = some (.cells #[.string a0_0, .int .i64 a0_1, .int .i64 a0_2, .int .i64 a0_3] 32 (0, 0))) ∧ (Below w.heap.size w w')) ?_ ?_
         rotate_left
         ·intro hJ4_11
          refine join_ (σ := Nat) 4 q23_4 (fun s_ => [(19, .agg #[.int .i64 t427, .int .i64 t428, .int .i64 t429]), (7, .pointer (some ⟨s_, 0, none⟩))]) (fun s_ w' => (w'.cell? ⟨gb425, 0, none⟩ = some (.string a0_0) ∧ w'.cell? ⟨gb425, 1, none⟩ = some (.int .i64 a0_1) ∧ w'.cell? ⟨gb425, 2, none⟩ = some (.int .i64 a0_2) ∧ w'.cell? ⟨gb425, 3, none⟩ = some (.int .i64 a0_3) ∧ w'.cell? (ad426.add (x6_1).toNat) = some (.int .i64 (rd l1 x6_1)) ∧ w'.cell? (ad426.add (x6_1).toNat) = some (.int .i64 (rd l1 x6_1))) ∧ (Kd.R k53 53 w' w.heap.size (fun _ => True) u5 x5_1) ∧ (w'.heap[gb425]? = some (.cells #[.string a0_0, .int .i64 a0_1, .int .i64 a0_2, .int .i64 a0_3] 32 (0, 0))) ∧ (w'.heap[s_]? = some (.cells #[.int .i64 0, .int .i64 0, .int .i64 0] 24 (0, 0))) ∧ (w.heap.size ≤ s_) ∧ (w.heap.size ≤ s_) ∧ (gb425 ≠ s_) ∧ (s_ ≠ gb425) ∧ (Below w.heap.size w w')) ?_ ?_
          rotate_left
          ·intro hJ4_12
           refine join_ (σ := Nat) 4 q23_5 (fun s_ => [(19, .agg #[.int .i64 t427, .int .i64 t428, .int .i64 t429]), (8, .pointer (some ⟨s_, 0, none⟩))]) (fun s_ w' => (w'.cell? ⟨gb425, 0, none⟩ = some (.string a0_0) ∧ w'.cell? ⟨gb425, 1, none⟩ = some (.int .i64 a0_1) ∧ w'.cell? ⟨gb425, 2, none⟩ = some (.int .i64 a0_2) ∧ w'.cell? ⟨gb425, 3, none⟩ = some (.int .i64 a0_3) ∧ w'.cell? (ad426.add (x6_1).toNat) = some (.int .i64 (rd l1 x6_1)) ∧ w'.cell? (ad426.add (x6_1).toNat) = some (.int .i64 (rd l1 x6_1))) ∧ (Kd.R k53 53 w' w.heap.size (fun _ => True) u5 x5_1) ∧ (w'.heap[gb425]? = some (.cells #[.string a0_0, .int .i64 a0_1, .int .i64 a0_2, .int .i64 a0_3] 32 (0, 0))) ∧ (w'.heap[s_]? = some (.cells #[.int .i64 0, .int .i64 0] 26 (0, 0))) ∧ (w.heap.size ≤ s_) ∧ (w.heap.size ≤ s_) ∧ (gb425 ≠ s_) ∧ (s_ ≠ gb425) ∧ (Below w.heap.size w w')) ?_ ?_
           rotate_left
           ·intro hJ4_13
            refine join_ (σ := Nat × Nat) 4 q23_6 (fun s_ => [(7, .pointer (some ⟨s_.1, 0, none⟩)), (8, .pointer (some ⟨s_.2, 0, none⟩))]) (fun s_ w' => (w'.cell? ⟨gb425, 0, none⟩ = some (.string a0_0) ∧ w'.cell? ⟨gb425, 1, none⟩ = some (.int .i64 a0_1) ∧ w'.cell? ⟨gb425, 2, none⟩ = some (.int .i64 a0_2) ∧ w'.cell? ⟨gb425, 3, none⟩ = some (.int .i64 a0_3) ∧ w'.cell? (ad426.add (x6_1).toNat) = some (.int .i64 (rd l1 x6_1)) ∧ w'.cell? (ad426.add (x6_1).toNat) = some (.int .i64 (rd l1 x6_1))) ∧ (Kd.R k53 53 w' w.heap.size (fun _ => True) u5 x5_1) ∧ (w'.heap[gb425]? = some (.cells #[.string a0_0, .int .i64 a0_1, .int .i64 a0_2, .int .i64 a0_3] 32 (0, 0))) ∧ (w'.heap[s_.1]? = some (.cells #[.int .i64 0, .int .i64 0, .int .i64 0] 24 (0, 0))) ∧ (w'.heap[s_.2]? = some (.cells #[.int .i64 0, .int .i64 0] 26 (0, 0))) ∧ (w.heap.size ≤ s_.1) ∧ (w.heap.size ≤ s_.1) ∧ (gb425 ≠ s_.1) ∧ (s_.1 ≠ gb425) ∧ (s_.2 ≠ s_.1) ∧ (s_.1 ≠ s_.2) ∧ (w.heap.size ≤ s_.2) ∧ (w.heap.size ≤ s_.2) ∧ (gb425 ≠ s_.2) ∧ (s_.2 ≠ gb425) ∧ (Below w.heap.size w w')) ?_ ?_
            rotate_left
            ·intro hJ12_13
             refine join_ (σ := Unit) 5 q23_8 (fun s_ => [(19, .agg #[.int .i64 t427, .int .i64 t428, .int .i64 t429])]) (fun s_ w' => (w'.cell? ⟨gb425, 0, none⟩ = some (.string a0_0) ∧ w'.cell? ⟨gb425, 1, none⟩ = some (.int .i64 a0_1) ∧ w'.cell? ⟨gb425, 2, none⟩ = some (.int .i64 a0_2) ∧ w'.cell? ⟨gb425, 3, none⟩ = some (.int .i64 a0_3) ∧ w'.cell? (ad426.add (x6_1).toNat) = some (.int .i64 (rd l1 x6_1)) ∧ w'.cell? (ad426.add (x6_1).toNat) = some (.int .i64 (rd l1 x6_1))) ∧ (Kd.R k53 53 w' w.heap.size (fun _ => True) u5 x5_1) ∧ (w'.heap[gb425]? = some (.cells #[.string a0_0, .int .i64 a0_1, .int .i64 a0_2, .int .i64 a0_3] 32 (0, 0))) ∧ (Below w.heap.size w w')) ?_ ?_
             rotate_left
             ·intro hJ4
              refine join_ (σ := Nat) 5 q23_9 (fun s_ => [(7, .pointer (some ⟨s_, 0, none⟩))]) (fun s_ w' => (w'.cell? ⟨gb425, 0, none⟩ = some (.string a0_0) ∧ w'.cell? ⟨gb425, 1, none⟩ = some (.int .i64 a0_1) ∧ w'.cell? ⟨gb425, 2, none⟩ = some (.int .i64 a0_2) ∧ w'.cell? ⟨gb425, 3, none⟩ = some (.int .i64 a0_3) ∧ w'.cell? (ad426.add (x6_1).toNat) = some (.int .i64 (rd l1 x6_1)) ∧ w'.cell? (ad426.add (x6_1).toNat) = some (.int .i64 (rd l1 x6_1))) ∧ (Kd.R k53 53 w' w.heap.size (fun _ => True) u5 x5_1) ∧ (w'.heap[gb425]? = some (.cells #[.string a0_0, .int .i64 a0_1, .int .i64 a0_2, .int .i64 a0_3] 32 (0, 0))) ∧ (w'.heap[s_]? = some (.cells #[.int .i64 0, .int .i64 0, .int .i64 0] 24 (0, 0))) ∧ (w.heap.size ≤ s_) ∧ (w.heap.size ≤ s_) ∧ (gb425 ≠ s_) ∧ (s_ ≠ gb425) ∧ (Below w.heap.size w w')) ?_ ?_
              rotate_left
              ·intro hJ12
               refine join_ (σ := Nat) 5 q23_10 (fun s_ => [(8, .pointer (some ⟨s_, 0, none⟩))]) (fun s_ w' => (w'.cell? ⟨gb425, 0, none⟩ = some (.string a0_0) ∧ w'.cell? ⟨gb425, 1, none⟩ = some (.int .i64 a0_1) ∧ w'.cell? ⟨gb425, 2, none⟩ = some (.int .i64 a0_2) ∧ w'.cell? ⟨gb425, 3, none⟩ = some (.int .i64 a0_3) ∧ w'.cell? (ad426.add (x6_1).toNat) = some (.int .i64 (rd l1 x6_1)) ∧ w'.cell? (ad426.add (x6_1).toNat) = some (.int .i64 (rd l1 x6_1))) ∧ (Kd.R k53 53 w' w.heap.size (fun _ => True) u5 x5_1) ∧ (w'.heap[gb425]? = some (.cells #[.string a0_0, .int .i64 a0_1, .int .i64 a0_2, .int .i64 a0_3] 32 (0, 0))) ∧ (w'.heap[s_]? = some (.cells #[.int .i64 0, .int .i64 0] 26 (0, 0))) ∧ (w.heap.size ≤ s_) ∧ (w.heap.size ≤ s_) ∧ (gb425 ≠ s_) ∧ (s_ ≠ gb425) ∧ (Below w.heap.size w w')) ?_ ?_
               rotate_left
               ·intro hJ13
                refine three_ (i := 4) (j := 12) (k := 13) (Ni := some 19) (Nj := some 7) (Nk := some 8) q23_8 q23_9 q23_10 rfl rfl rfl rfl rfl rfl (three_of HT_.out (by kernel_rfl)) (by decide) (by decide) (by decide) (fun K hK => ?_) (fun K hK => ?_) (fun K hK => ?_)
                ·skip
                 refine goes_ Tryd.func23 (by kernel_rfl) rfl #[.int .i64 (rd l1 x6_1)] (by rfl) rfl rfl (by (try simp only [mA]); first | done | rfl) ?_
                 with_reducible refine (clusterlocksmill_Proc.calls (rd l1 x6_1) t427 t428 t429 _ A6.out).mono ?_
                 rintro e w12 ⟨rfl, hb⟩
                 refine ⟨_, rfl, ?_⟩
                 replace HO_5 := Aside0.mk (Kd.R_below (by (with_reducible repeat (first | apply Kd.R_alloc | apply Kd.R_drewN | apply Kd.R_drew)); exact HO_5.out) hb)
                 replace BK425 := bK BK425 hb
                 replace HB := bB HB hb
                 (try clear hb)
                 (try clear hk)
                 refine hK.out _ _ ⟨bC BK425 0 rfl, bC BK425 1 rfl, bC BK425 2 rfl, bC BK425 3 rfl, (kC HB hw426_0), (kC HB hw430_0)⟩ (fun hHeld => ?_)
                 clear hK K
                 refine norm_ (a' := ?_) ?_ ?_
                 rotate_left
                 ·show Act.put _ (some 19) _ = _
                  simp only [sP]
                  rfl
                 exact norm_ (by first | (simp only [putAll, sP]; done) | (simp only [putAll, sP]; rfl)) (hJ4 () _ ⟨hHeld, (by (with_reducible repeat (first | apply Kd.R_alloc | apply Kd.R_drewN | apply Kd.R_drew)); exact HO_5.out), (uK BK425), (uB HB)⟩)
                ·skip
                 refine box_step ?hg (N := 7) ?hd (cs := #[.int .i64 0, .int .i64 0, .int .i64 0]) (t := 24) ?hr ?_; (case hd => rfl); (case hg => rfl); (case hr => first | (go_simp; done) | (go_simp; rfl))
                 intro gb433 hg w12 hbox hb
                 replace HO_5 := Aside0.mk (Kd.R_below (by (with_reducible repeat (first | apply Kd.R_alloc | apply Kd.R_drewN | apply Kd.R_drew)); exact HO_5.out) hb)
                 have BK433 := Aside0.mk hbox
                 have GW433 := gE HB hg
                 have GE433 := gE HB hg
                 replace HB := bB HB hb
                 have NB425_433 := gN BK425 hg
                 replace BK425 := bK BK425 hb
                 have NB433_425 := Aside0.mk NB425_433.out.symm
                 clear hb hbox hg
                 refine hK.out _ _ ⟨bC BK425 0 rfl, bC BK425 1 rfl, bC BK425 2 rfl, bC BK425 3 rfl, (kC HB hw426_0), (kC HB hw430_0)⟩ (fun hHeld => ?_)
                 clear hK K
                 refine norm_ (a' := ?_) ?_ ?_
                 rotate_left
                 ·show Act.put _ (some 7) _ = _
                  simp only [sP]
                  rfl
                 exact norm_ (by first | (simp only [putAll, sP]; done) | (simp only [putAll, sP]; rfl)) (hJ12 (gb433) _ ⟨hHeld, (by (with_reducible repeat (first | apply Kd.R_alloc | apply Kd.R_drewN | apply Kd.R_drew)); exact HO_5.out), (uK BK425), (uK BK433), GW433.out, GE433.out, NB425_433.out, NB433_425.out, (by repeat (first | (with_reducible first | exact HB.out | apply bL | apply bM | apply bR | refine bS ?_ GE433.out) | exact HB.out))⟩)
                ·skip
                 refine box_step ?hg (N := 8) ?hd (cs := #[.int .i64 0, .int .i64 0]) (t := 26) ?hr ?_; (case hd => rfl); (case hg => rfl); (case hr => first | (go_simp; done) | (go_simp; rfl))
                 intro gb434 hg w12 hbox hb
                 replace HO_5 := Aside0.mk (Kd.R_below (by (with_reducible repeat (first | apply Kd.R_alloc | apply Kd.R_drewN | apply Kd.R_drew)); exact HO_5.out) hb)
                 have BK434 := Aside0.mk hbox
                 have GW434 := gE HB hg
                 have GE434 := gE HB hg
                 replace HB := bB HB hb
                 have NB425_434 := gN BK425 hg
                 replace BK425 := bK BK425 hb
                 have NB434_425 := Aside0.mk NB425_434.out.symm
                 clear hb hbox hg
                 refine hK.out _ _ ⟨bC BK425 0 rfl, bC BK425 1 rfl, bC BK425 2 rfl, bC BK425 3 rfl, (kC HB hw426_0), (kC HB hw430_0)⟩ (fun hHeld => ?_)
                 clear hK K
                 refine norm_ (a' := ?_) ?_ ?_
                 rotate_left
                 ·show Act.put _ (some 8) _ = _
                  simp only [sP]
                  rfl
                 exact norm_ (by first | (simp only [putAll, sP]; done) | (simp only [putAll, sP]; rfl)) (hJ13 (gb434) _ ⟨hHeld, (by (with_reducible repeat (first | apply Kd.R_alloc | apply Kd.R_drewN | apply Kd.R_drew)); exact HO_5.out), (uK BK425), (uK BK434), GW434.out, GE434.out, NB425_434.out, NB434_425.out, (by repeat (first | (with_reducible first | exact HB.out | apply bL | apply bM | apply bR | refine bS ?_ GE434.out) | exact HB.out))⟩)
               ·skip
                rintro gb434 w13 ⟨hS_, h0_, h1_, h2_, h3_, h4_, h5_, h6_, h7_⟩
                have n0_ : Aside0 (Kd.R k53 53 w13 w.heap.size (fun _ => True) u5 x5_1) := ⟨h0_⟩
                have n1_ : Aside0 (w13.heap[gb425]? = some (.cells #[.string a0_0, .int .i64 a0_1, .int .i64 a0_2, .int .i64 a0_3] 32 (0, 0))) := ⟨h1_⟩
                have n2_ : Aside0 (w13.heap[gb434]? = some (.cells #[.int .i64 0, .int .i64 0] 26 (0, 0))) := ⟨h2_⟩
                have n3_ : Aside0 (w.heap.size ≤ gb434) := ⟨h3_⟩
                have n4_ : Aside0 (w.heap.size ≤ gb434) := ⟨h4_⟩
                have n5_ : Aside0 (gb425 ≠ gb434) := ⟨h5_⟩
                have n6_ : Aside0 (gb434 ≠ gb425) := ⟨h6_⟩
                have n7_ : Aside0 (Below w.heap.size w w13) := ⟨h7_⟩
                clear HO_5
                clear BK425
                clear HB
                clear h0_ h1_ h2_ h3_ h4_ h5_ h6_ h7_
                have HO_5 := n0_
                have BK425 := n1_
                have BK434 := n2_
                have GW434 := n3_
                have GE434 := n4_
                have NB425_434 := n5_
                have NB434_425 := n6_
                have HB := n7_
                clear n0_ n1_ n2_ n3_ n4_ n5_ n6_ n7_
                have hHeld : w13.cell? ⟨gb425, 0, none⟩ = some (.string a0_0) ∧ w13.cell? ⟨gb425, 1, none⟩ = some (.int .i64 a0_1) ∧ w13.cell? ⟨gb425, 2, none⟩ = some (.int .i64 a0_2) ∧ w13.cell? ⟨gb425, 3, none⟩ = some (.int .i64 a0_3) ∧ w13.cell? (ad426.add (x6_1).toNat) = some (.int .i64 (rd l1 x6_1)) ∧ w13.cell? (ad426.add (x6_1).toNat) = some (.int .i64 (rd l1 x6_1)) := hS_
                refine norm_ (a' := ?_) ?_ ?_
                rotate_left
                ·simp only [putAll, sP]
                 rfl
                refine two_ (i := 4) (j := 12) (Ni := some 19) (Nj := some 7) q23_5 q23_6 rfl rfl rfl rfl (two_of HT_.out (by kernel_rfl)) (by decide) (by decide) (fun K hK => ?_) (fun K hK => ?_)
                ·skip
                 refine goes_ Tryd.func23 (by kernel_rfl) rfl #[.int .i64 (rd l1 x6_1)] (by rfl) rfl rfl (by (try simp only [mA]); first | done | rfl) ?_
                 with_reducible refine (clusterlocksmill_Proc.calls (rd l1 x6_1) t427 t428 t429 _ A6.out).mono ?_
                 rintro e w14 ⟨rfl, hb⟩
                 refine ⟨_, rfl, ?_⟩
                 replace HO_5 := Aside0.mk (Kd.R_below (by (with_reducible repeat (first | apply Kd.R_alloc | apply Kd.R_drewN | apply Kd.R_drew)); exact HO_5.out) hb)
                 replace BK425 := bK BK425 hb
                 replace BK434 := bK BK434 hb
                 replace HB := Aside0.mk (below_step (by repeat (first | (with_reducible first | exact HB.out | apply bL | apply bM | apply bR | refine bS ?_ GE434.out) | exact HB.out)) hb)
                 (try clear hb)
                 (try clear hk)
                 refine hK.out _ _ ⟨bC BK425 0 rfl, bC BK425 1 rfl, bC BK425 2 rfl, bC BK425 3 rfl, (kC HB hw426_0), (kC HB hw430_0)⟩ (fun hHeld => ?_)
                 clear hK K
                 refine norm_ (a' := ?_) ?_ ?_
                 rotate_left
                 ·show Act.put _ (some 19) _ = _
                  simp only [sP]
                  rfl
                 exact norm_ (by first | (simp only [putAll, sP]; done) | (simp only [putAll, sP]; rfl)) (hJ4_13 (gb434) _ ⟨hHeld, (by (with_reducible repeat (first | apply Kd.R_alloc | apply Kd.R_drewN | apply Kd.R_drew)); exact HO_5.out), (uK BK425), (uK BK434), GW434.out, GE434.out, NB425_434.out, NB434_425.out, (by repeat (first | (with_reducible first | exact HB.out | apply bL | apply bM | apply bR | refine bS ?_ GE434.out) | exact HB.out))⟩)
                ·skip
                 refine box_step ?hg (N := 7) ?hd (cs := #[.int .i64 0, .int .i64 0, .int .i64 0]) (t := 24) ?hr ?_; (case hd => rfl); (case hg => rfl); (case hr => first | (go_simp; done) | (go_simp; rfl))
                 intro gb433 hg w14 hbox hb
                 replace HO_5 := Aside0.mk (Kd.R_below (by (with_reducible repeat (first | apply Kd.R_alloc | apply Kd.R_drewN | apply Kd.R_drew)); exact HO_5.out) hb)
                 have BK433 := Aside0.mk hbox
                 have GW433 := Aside0.mk ((by rw [hg]; exact (below_size (by repeat (first | (with_reducible first | exact HB.out | apply bL | apply bM | apply bR | refine bS ?_ GE434.out) | exact HB.out))) : w.heap.size ≤ gb433))
                 have GE433 := Aside0.mk ((by rw [hg]; exact (below_size (by repeat (first | (with_reducible first | exact HB.out | apply bL | apply bM | apply bR | refine bS ?_ GE434.out) | exact HB.out))) : w.heap.size ≤ gb433))
                 replace HB := Aside0.mk (below_step (by repeat (first | (with_reducible first | exact HB.out | apply bL | apply bM | apply bR | refine bS ?_ GE434.out) | exact HB.out)) hb)
                 have NB425_433 := gN BK425 hg
                 replace BK425 := bK BK425 hb
                 have NB433_425 := Aside0.mk NB425_433.out.symm
                 have NB434_433 := gN BK434 hg
                 replace BK434 := bK BK434 hb
                 have NB433_434 := Aside0.mk NB434_433.out.symm
                 clear hb hbox hg
                 refine hK.out _ _ ⟨bC BK425 0 rfl, bC BK425 1 rfl, bC BK425 2 rfl, bC BK425 3 rfl, (kC HB hw426_0), (kC HB hw430_0)⟩ (fun hHeld => ?_)
                 clear hK K
                 refine norm_ (a' := ?_) ?_ ?_
                 rotate_left
                 ·show Act.put _ (some 7) _ = _
                  simp only [sP]
                  rfl
                 exact norm_ (by first | (simp only [putAll, sP]; done) | (simp only [putAll, sP]; rfl)) (hJ12_13 (gb433, gb434) _ ⟨hHeld, (by (with_reducible repeat (first | apply Kd.R_alloc | apply Kd.R_drewN | apply Kd.R_drew)); exact HO_5.out), (uK BK425), (uK BK433), (uK BK434), GW433.out, GE433.out, NB425_433.out, NB433_425.out, NB434_433.out, NB433_434.out, GW434.out, GE434.out, NB425_434.out, NB434_425.out, (by repeat (first | (with_reducible first | exact HB.out | apply bL | apply bM | apply bR | refine bS ?_ GE434.out | refine bS ?_ GE433.out) | exact HB.out))⟩)
              ·skip
               rintro gb433 w13 ⟨hS_, h0_, h1_, h2_, h3_, h4_, h5_, h6_, h7_⟩
               have n0_ : Aside0 (Kd.R k53 53 w13 w.heap.size (fun _ => True) u5 x5_1) := ⟨h0_⟩
               have n1_ : Aside0 (w13.heap[gb425]? = some (.cells #[.string a0_0, .int .i64 a0_1, .int .i64 a0_2, .int .i64 a0_3] 32 (0, 0))) := ⟨h1_⟩
               have n2_ : Aside0 (w13.heap[gb433]? = some (.cells #[.int .i64 0, .int .i64 0, .int .i64 0] 24 (0, 0))) := ⟨h2_⟩
               have n3_ : Aside0 (w.heap.size ≤ gb433) := ⟨h3_⟩
               have n4_ : Aside0 (w.heap.size ≤ gb433) := ⟨h4_⟩
               have n5_ : Aside0 (gb425 ≠ gb433) := ⟨h5_⟩
               have n6_ : Aside0 (gb433 ≠ gb425) := ⟨h6_⟩
               have n7_ : Aside0 (Below w.heap.size w w13) := ⟨h7_⟩
               clear HO_5
               clear BK425
               clear HB
               clear h0_ h1_ h2_ h3_ h4_ h5_ h6_ h7_
               have HO_5 := n0_
               have BK425 := n1_
               have BK433 := n2_
               have GW433 := n3_
               have GE433 := n4_
               have NB425_433 := n5_
               have NB433_425 := n6_
               have HB := n7_
               clear n0_ n1_ n2_ n3_ n4_ n5_ n6_ n7_
               have hHeld : w13.cell? ⟨gb425, 0, none⟩ = some (.string a0_0) ∧ w13.cell? ⟨gb425, 1, none⟩ = some (.int .i64 a0_1) ∧ w13.cell? ⟨gb425, 2, none⟩ = some (.int .i64 a0_2) ∧ w13.cell? ⟨gb425, 3, none⟩ = some (.int .i64 a0_3) ∧ w13.cell? (ad426.add (x6_1).toNat) = some (.int .i64 (rd l1 x6_1)) ∧ w13.cell? (ad426.add (x6_1).toNat) = some (.int .i64 (rd l1 x6_1)) := hS_
               refine norm_ (a' := ?_) ?_ ?_
               rotate_left
               ·simp only [putAll, sP]
                rfl
               refine two_ (i := 4) (j := 13) (Ni := some 19) (Nj := some 8) q23_4 q23_6 rfl rfl rfl rfl (two_of HT_.out (by kernel_rfl)) (by decide) (by decide) (fun K hK => ?_) (fun K hK => ?_)
               ·skip
                refine goes_ Tryd.func23 (by kernel_rfl) rfl #[.int .i64 (rd l1 x6_1)] (by rfl) rfl rfl (by (try simp only [mA]); first | done | rfl) ?_
                with_reducible refine (clusterlocksmill_Proc.calls (rd l1 x6_1) t427 t428 t429 _ A6.out).mono ?_
                rintro e w14 ⟨rfl, hb⟩
                refine ⟨_, rfl, ?_⟩
                replace HO_5 := Aside0.mk (Kd.R_below (by (with_reducible repeat (first | apply Kd.R_alloc | apply Kd.R_drewN | apply Kd.R_drew)); exact HO_5.out) hb)
                replace BK425 := bK BK425 hb
                replace BK433 := bK BK433 hb
                replace HB := Aside0.mk (below_step (by repeat (first | (with_reducible first | exact HB.out | apply bL | apply bM | apply bR | refine bS ?_ GE433.out) | exact HB.out)) hb)
                (try clear hb)
                (try clear hk)
                refine hK.out _ _ ⟨bC BK425 0 rfl, bC BK425 1 rfl, bC BK425 2 rfl, bC BK425 3 rfl, (kC HB hw426_0), (kC HB hw430_0)⟩ (fun hHeld => ?_)
                clear hK K
                refine norm_ (a' := ?_) ?_ ?_
                rotate_left
                ·show Act.put _ (some 19) _ = _
                 simp only [sP]
                 rfl
                exact norm_ (by first | (simp only [putAll, sP]; done) | (simp only [putAll, sP]; rfl)) (hJ4_12 (gb433) _ ⟨hHeld, (by (with_reducible repeat (first | apply Kd.R_alloc | apply Kd.R_drewN | apply Kd.R_drew)); exact HO_5.out), (uK BK425), (uK BK433), GW433.out, GE433.out, NB425_433.out, NB433_425.out, (by repeat (first | (with_reducible first | exact HB.out | apply bL | apply bM | apply bR | refine bS ?_ GE433.out) | exact HB.out))⟩)
               ·skip
                refine box_step ?hg (N := 8) ?hd (cs := #[.int .i64 0, .int .i64 0]) (t := 26) ?hr ?_; (case hd => rfl); (case hg => rfl); (case hr => first | (go_simp; done) | (go_simp; rfl))
                intro gb434 hg w14 hbox hb
                replace HO_5 := Aside0.mk (Kd.R_below (by (with_reducible repeat (first | apply Kd.R_alloc | apply Kd.R_drewN | apply Kd.R_drew)); exact HO_5.out) hb)
                have BK434 := Aside0.mk hbox
                have GW434 := Aside0.mk ((by rw [hg]; exact (below_size (by repeat (first | (with_reducible first | exact HB.out | apply bL | apply bM | apply bR | refine bS ?_ GE433.out) | exact HB.out))) : w.heap.size ≤ gb434))
                have GE434 := Aside0.mk ((by rw [hg]; exact (below_size (by repeat (first | (with_reducible first | exact HB.out | apply bL | apply bM | apply bR | refine bS ?_ GE433.out) | exact HB.out))) : w.heap.size ≤ gb434))
                replace HB := Aside0.mk (below_step (by repeat (first | (with_reducible first | exact HB.out | apply bL | apply bM | apply bR | refine bS ?_ GE433.out) | exact HB.out)) hb)
                have NB425_434 := gN BK425 hg
                replace BK425 := bK BK425 hb
                have NB434_425 := Aside0.mk NB425_434.out.symm
                have NB433_434 := gN BK433 hg
                replace BK433 := bK BK433 hb
                have NB434_433 := Aside0.mk NB433_434.out.symm
                clear hb hbox hg
                refine hK.out _ _ ⟨bC BK425 0 rfl, bC BK425 1 rfl, bC BK425 2 rfl, bC BK425 3 rfl, (kC HB hw426_0), (kC HB hw430_0)⟩ (fun hHeld => ?_)
                clear hK K
                refine norm_ (a' := ?_) ?_ ?_
                rotate_left
                ·show Act.put _ (some 8) _ = _
                 simp only [sP]
                 rfl
                exact norm_ (by first | (simp only [putAll, sP]; done) | (simp only [putAll, sP]; rfl)) (hJ12_13 (gb433, gb434) _ ⟨hHeld, (by (with_reducible repeat (first | apply Kd.R_alloc | apply Kd.R_drewN | apply Kd.R_drew)); exact HO_5.out), (uK BK425), (uK BK433), (uK BK434), GW433.out, GE433.out, NB425_433.out, NB433_425.out, NB434_433.out, NB433_434.out, GW434.out, GE434.out, NB425_434.out, NB434_425.out, (by repeat (first | (with_reducible first | exact HB.out | apply bL | apply bM | apply bR | refine bS ?_ GE433.out | refine bS ?_ GE434.out) | exact HB.out))⟩)
             ·skip
              rintro _ w13 ⟨hS_, h0_, h1_, h2_⟩
              have n0_ : Aside0 (Kd.R k53 53 w13 w.heap.size (fun _ => True) u5 x5_1) := ⟨h0_⟩
              have n1_ : Aside0 (w13.heap[gb425]? = some (.cells #[.string a0_0, .int .i64 a0_1, .int .i64 a0_2, .int .i64 a0_3] 32 (0, 0))) := ⟨h1_⟩
              have n2_ : Aside0 (Below w.heap.size w w13) := ⟨h2_⟩
              clear HO_5
              clear BK425
              clear HB
              clear h0_ h1_ h2_
              have HO_5 := n0_
              have BK425 := n1_
              have HB := n2_
              clear n0_ n1_ n2_
              have hHeld : w13.cell? ⟨gb425, 0, none⟩ = some (.string a0_0) ∧ w13.cell? ⟨gb425, 1, none⟩ = some (.int .i64 a0_1) ∧ w13.cell? ⟨gb425, 2, none⟩ = some (.int .i64 a0_2) ∧ w13.cell? ⟨gb425, 3, none⟩ = some (.int .i64 a0_3) ∧ w13.cell? (ad426.add (x6_1).toNat) = some (.int .i64 (rd l1 x6_1)) ∧ w13.cell? (ad426.add (x6_1).toNat) = some (.int .i64 (rd l1 x6_1)) := hS_
              refine norm_ (a' := ?_) ?_ ?_
              rotate_left
              ·simp only [putAll, sP]
               rfl
              refine three_ (i := 11) (j := 12) (k := 13) (Ni := some 26) (Nj := some 7) (Nk := some 8) q23_7 q23_4 q23_5 rfl rfl rfl rfl rfl rfl (three_of HT_.out (by kernel_rfl)) (by decide) (by decide) (by decide) (fun K hK => ?_) (fun K hK => ?_) (fun K hK => ?_)
              ·skip
               refine goes_ Tryd.func24 (by kernel_rfl) rfl #[.agg #[.string a0_0, .int .i64 a0_1, .int .i64 a0_2, .int .i64 a0_3], .int .i64 ((rd l1 x6_1) / 8)] (by rfl) rfl rfl (by (try simp only [mA]); first | done | rfl) ?_
               with_reducible refine (clusterlocksmill_Amount.calls a0_0 a0_1 a0_2 a0_3 ((rd l1 x6_1) / 8) t431 t432 _ A7.out).mono ?_
               rintro e w14 ⟨rfl, hb⟩
               refine ⟨_, rfl, ?_⟩
               replace HO_5 := Aside0.mk (Kd.R_below (by (with_reducible repeat (first | apply Kd.R_alloc | apply Kd.R_drewN | apply Kd.R_drew)); exact HO_5.out) hb)
               replace BK425 := bK BK425 hb
               replace HB := bB HB hb
               (try clear hb)
               (try clear hk)
               refine hK.out _ _ ⟨bC BK425 0 rfl, bC BK425 1 rfl, bC BK425 2 rfl, bC BK425 3 rfl, (kC HB hw426_0), (kC HB hw430_0)⟩ (fun hHeld => ?_)
               clear hK K
               refine norm_ (a' := ?_) ?_ ?_
               rotate_left
               ·show Act.put _ (some 26) _ = _
                simp only [sP]
                rfl
               exact norm_ (by first | (simp only [putAll, sP]; done) | (simp only [putAll, sP]; rfl)) (hJ4_11 () _ ⟨hHeld, (by (with_reducible repeat (first | apply Kd.R_alloc | apply Kd.R_drewN | apply Kd.R_drew)); exact HO_5.out), (uK BK425), (uB HB)⟩)
              ·skip
               refine box_step ?hg (N := 7) ?hd (cs := #[.int .i64 0, .int .i64 0, .int .i64 0]) (t := 24) ?hr ?_; (case hd => rfl); (case hg => rfl); (case hr => first | (go_simp; done) | (go_simp; rfl))
               intro gb433 hg w14 hbox hb
               replace HO_5 := Aside0.mk (Kd.R_below (by (with_reducible repeat (first | apply Kd.R_alloc | apply Kd.R_drewN | apply Kd.R_drew)); exact HO_5.out) hb)
               have BK433 := Aside0.mk hbox
               have GW433 := gE HB hg
               have GE433 := gE HB hg
               replace HB := bB HB hb
               have NB425_433 := gN BK425 hg
               replace BK425 := bK BK425 hb
               have NB433_425 := Aside0.mk NB425_433.out.symm
               clear hb hbox hg
               refine hK.out _ _ ⟨bC BK425 0 rfl, bC BK425 1 rfl, bC BK425 2 rfl, bC BK425 3 rfl, (kC HB hw426_0), (kC HB hw430_0)⟩ (fun hHeld => ?_)
               clear hK K
               refine norm_ (a' := ?_) ?_ ?_
               rotate_left
               ·show Act.put _ (some 7) _ = _
                simp only [sP]
                rfl
               exact norm_ (by first | (simp only [putAll, sP]; done) | (simp only [putAll, sP]; rfl)) (hJ4_12 (gb433) _ ⟨hHeld, (by (with_reducible repeat (first | apply Kd.R_alloc | apply Kd.R_drewN | apply Kd.R_drew)); exact HO_5.out), (uK BK425), (uK BK433), GW433.out, GE433.out, NB425_433.out, NB433_425.out, (by repeat (first | (with_reducible first | exact HB.out | apply bL | apply bM | apply bR | refine bS ?_ GE433.out) | exact HB.out))⟩)
              ·skip
               refine box_step ?hg (N := 8) ?hd (cs := #[.int .i64 0, .int .i64 0]) (t := 26) ?hr ?_; (case hd => rfl); (case hg => rfl); (case hr => first | (go_simp; done) | (go_simp; rfl))
               intro gb434 hg w14 hbox hb
               replace HO_5 := Aside0.mk (Kd.R_below (by (with_reducible repeat (first | apply Kd.R_alloc | apply Kd.R_drewN | apply Kd.R_drew)); exact HO_5.out) hb)
               have BK434 := Aside0.mk hbox
               have GW434 := gE HB hg
               have GE434 := gE HB hg
               replace HB := bB HB hb
               have NB425_434 := gN BK425 hg
               replace BK425 := bK BK425 hb
               have NB434_425 := Aside0.mk NB425_434.out.symm
               clear hb hbox hg
               refine hK.out _ _ ⟨bC BK425 0 rfl, bC BK425 1 rfl, bC BK425 2 rfl, bC BK425 3 rfl, (kC HB hw426_0), (kC HB hw430_0)⟩ (fun hHeld => ?_)
               clear hK K
               refine norm_ (a' := ?_) ?_ ?_
               rotate_left
               ·show Act.put _ (some 8) _ = _
                simp only [sP]
                rfl
               exact norm_ (by first | (simp only [putAll, sP]; done) | (simp only [putAll, sP]; rfl)) (hJ4_13 (gb434) _ ⟨hHeld, (by (with_reducible repeat (first | apply Kd.R_alloc | apply Kd.R_drewN | apply Kd.R_drew)); exact HO_5.out), (uK BK425), (uK BK434), GW434.out, GE434.out, NB425_434.out, NB434_425.out, (by repeat (first | (with_reducible first | exact HB.out | apply bL | apply bM | apply bR | refine bS ?_ GE434.out) | exact HB.out))⟩)
            ·skip
             rintro ⟨gb433, gb434⟩ w14 ⟨hS_, h0_, h1_, h2_, h3_, h4_, h5_, h6_, h7_, h8_, h9_, h10_, h11_, h12_, h13_, h14_⟩
             have n0_ : Aside0 (Kd.R k53 53 w14 w.heap.size (fun _ => True) u5 x5_1) := ⟨h0_⟩
             have n1_ : Aside0 (w14.heap[gb425]? = some (.cells #[.string a0_0, .int .i64 a0_1, .int .i64 a0_2, .int .i64 a0_3] 32 (0, 0))) := ⟨h1_⟩
             have n2_ : Aside0 (w14.heap[gb433]? = some (.cells #[.int .i64 0, .int .i64 0, .int .i64 0] 24 (0, 0))) := ⟨h2_⟩
             have n3_ : Aside0 (w14.heap[gb434]? = some (.cells #[.int .i64 0, .int .i64 0] 26 (0, 0))) := ⟨h3_⟩
             have n4_ : Aside0 (w.heap.size ≤ gb433) := ⟨h4_⟩
             have n5_ : Aside0 (w.heap.size ≤ gb433) := ⟨h5_⟩
             have n6_ : Aside0 (gb425 ≠ gb433) := ⟨h6_⟩
             have n7_ : Aside0 (gb433 ≠ gb425) := ⟨h7_⟩
             have n8_ : Aside0 (gb434 ≠ gb433) := ⟨h8_⟩
             have n9_ : Aside0 (gb433 ≠ gb434) := ⟨h9_⟩
             have n10_ : Aside0 (w.heap.size ≤ gb434) := ⟨h10_⟩
             have n11_ : Aside0 (w.heap.size ≤ gb434) := ⟨h11_⟩
             have n12_ : Aside0 (gb425 ≠ gb434) := ⟨h12_⟩
             have n13_ : Aside0 (gb434 ≠ gb425) := ⟨h13_⟩
             have n14_ : Aside0 (Below w.heap.size w w14) := ⟨h14_⟩
             clear HO_5
             clear BK425
             clear HB
             clear h0_ h1_ h2_ h3_ h4_ h5_ h6_ h7_ h8_ h9_ h10_ h11_ h12_ h13_ h14_
             have HO_5 := n0_
             have BK425 := n1_
             have BK433 := n2_
             have BK434 := n3_
             have GW433 := n4_
             have GE433 := n5_
             have NB425_433 := n6_
             have NB433_425 := n7_
             have NB434_433 := n8_
             have NB433_434 := n9_
             have GW434 := n10_
             have GE434 := n11_
             have NB425_434 := n12_
             have NB434_425 := n13_
             have HB := n14_
             clear n0_ n1_ n2_ n3_ n4_ n5_ n6_ n7_ n8_ n9_ n10_ n11_ n12_ n13_ n14_
             have hHeld : w14.cell? ⟨gb425, 0, none⟩ = some (.string a0_0) ∧ w14.cell? ⟨gb425, 1, none⟩ = some (.int .i64 a0_1) ∧ w14.cell? ⟨gb425, 2, none⟩ = some (.int .i64 a0_2) ∧ w14.cell? ⟨gb425, 3, none⟩ = some (.int .i64 a0_3) ∧ w14.cell? (ad426.add (x6_1).toNat) = some (.int .i64 (rd l1 x6_1)) ∧ w14.cell? (ad426.add (x6_1).toNat) = some (.int .i64 (rd l1 x6_1)) := hS_
             refine norm_ (a' := ?_) ?_ ?_
             rotate_left
             ·simp only [putAll, sP]
              rfl
             refine one_ (i := 4) (N := some 19) q23_1 rfl rfl (one_of HT_.out (by kernel_rfl)) (by decide) (fun K hK => ?_)
             refine goes_ Tryd.func23 (by kernel_rfl) rfl #[.int .i64 (rd l1 x6_1)] (by rfl) rfl rfl (by (try simp only [mA]); first | done | rfl) ?_
             with_reducible refine (clusterlocksmill_Proc.calls (rd l1 x6_1) t427 t428 t429 _ A6.out).mono ?_
             rintro e w15 ⟨rfl, hb⟩
             refine ⟨_, rfl, ?_⟩
             replace HO_5 := Aside0.mk (Kd.R_below (by (with_reducible repeat (first | apply Kd.R_alloc | apply Kd.R_drewN | apply Kd.R_drew)); exact HO_5.out) hb)
             replace BK425 := bK BK425 hb
             replace BK433 := bK BK433 hb
             replace BK434 := bK BK434 hb
             replace HB := Aside0.mk (below_step (by repeat (first | (with_reducible first | exact HB.out | apply bL | apply bM | apply bR | refine bS ?_ GE433.out | refine bS ?_ GE434.out) | exact HB.out)) hb)
             (try clear hb)
             (try clear hk)
             refine hK.out _ _ ⟨bC BK425 0 rfl, bC BK425 1 rfl, bC BK425 2 rfl, bC BK425 3 rfl, (kC HB hw426_0), (kC HB hw430_0)⟩ (fun hHeld => ?_)
             clear hK K
             refine norm_ (a' := ?_) ?_ ?_
             rotate_left
             ·show Act.put _ (some 19) _ = _
              simp only [sP]
              rfl
             exact norm_ (by first | (simp only [putAll, sP]; done) | (simp only [putAll, sP]; rfl)) (hJ4_12_13 (gb433, gb434) _ ⟨hHeld, (by (with_reducible repeat (first | apply Kd.R_alloc | apply Kd.R_drewN | apply Kd.R_drew)); exact HO_5.out), (uK BK425), (uK BK433), (uK BK434), GW433.out, GE433.out, NB425_433.out, NB433_425.out, NB434_433.out, NB433_434.out, GW434.out, GE434.out, NB425_434.out, NB434_425.out, (by repeat (first | (with_reducible first | exact HB.out | apply bL | apply bM | apply bR | refine bS ?_ GE433.out | refine bS ?_ GE434.out) | exact HB.out))⟩)
           ·skip
            rintro gb434 w14 ⟨hS_, h0_, h1_, h2_, h3_, h4_, h5_, h6_, h7_⟩
            have n0_ : Aside0 (Kd.R k53 53 w14 w.heap.size (fun _ => True) u5 x5_1) := ⟨h0_⟩
            have n1_ : Aside0 (w14.heap[gb425]? = some (.cells #[.string a0_0, .int .i64 a0_1, .int .i64 a0_2, .int .i64 a0_3] 32 (0, 0))) := ⟨h1_⟩
            have n2_ : Aside0 (w14.heap[gb434]? = some (.cells #[.int .i64 0, .int .i64 0] 26 (0, 0))) := ⟨h2_⟩
            have n3_ : Aside0 (w.heap.size ≤ gb434) := ⟨h3_⟩
            have n4_ : Aside0 (w.heap.size ≤ gb434) := ⟨h4_⟩
            have n5_ : Aside0 (gb425 ≠ gb434) := ⟨h5_⟩
            have n6_ : Aside0 (gb434 ≠ gb425) := ⟨h6_⟩
            have n7_ : Aside0 (Below w.heap.size w w14) := ⟨h7_⟩
            clear HO_5
            clear BK425
            clear HB
            clear h0_ h1_ h2_ h3_ h4_ h5_ h6_ h7_
            have HO_5 := n0_
            have BK425 := n1_
            have BK434 := n2_
            have GW434 := n3_
            have GE434 := n4_
            have NB425_434 := n5_
            have NB434_425 := n6_
            have HB := n7_
            clear n0_ n1_ n2_ n3_ n4_ n5_ n6_ n7_
            have hHeld : w14.cell? ⟨gb425, 0, none⟩ = some (.string a0_0) ∧ w14.cell? ⟨gb425, 1, none⟩ = some (.int .i64 a0_1) ∧ w14.cell? ⟨gb425, 2, none⟩ = some (.int .i64 a0_2) ∧ w14.cell? ⟨gb425, 3, none⟩ = some (.int .i64 a0_3) ∧ w14.cell? (ad426.add (x6_1).toNat) = some (.int .i64 (rd l1 x6_1)) ∧ w14.cell? (ad426.add (x6_1).toNat) = some (.int .i64 (rd l1 x6_1)) := hS_
            refine norm_ (a' := ?_) ?_ ?_
            rotate_left
            ·simp only [putAll, sP]
             rfl
            refine two_ (i := 11) (j := 12) (Ni := some 26) (Nj := some 7) q23_3 q23_1 rfl rfl rfl rfl (two_of HT_.out (by kernel_rfl)) (by decide) (by decide) (fun K hK => ?_) (fun K hK => ?_)
            ·skip
             refine goes_ Tryd.func24 (by kernel_rfl) rfl #[.agg #[.string a0_0, .int .i64 a0_1, .int .i64 a0_2, .int .i64 a0_3], .int .i64 ((rd l1 x6_1) / 8)] (by rfl) rfl rfl (by (try simp only [mA]); first | done | rfl) ?_
             with_reducible refine (clusterlocksmill_Amount.calls a0_0 a0_1 a0_2 a0_3 ((rd l1 x6_1) / 8) t431 t432 _ A7.out).mono ?_
             rintro e w15 ⟨rfl, hb⟩
             refine ⟨_, rfl, ?_⟩
             replace HO_5 := Aside0.mk (Kd.R_below (by (with_reducible repeat (first | apply Kd.R_alloc | apply Kd.R_drewN | apply Kd.R_drew)); exact HO_5.out) hb)
             replace BK425 := bK BK425 hb
             replace BK434 := bK BK434 hb
             replace HB := Aside0.mk (below_step (by repeat (first | (with_reducible first | exact HB.out | apply bL | apply bM | apply bR | refine bS ?_ GE434.out) | exact HB.out)) hb)
             (try clear hb)
             (try clear hk)
             refine hK.out _ _ ⟨bC BK425 0 rfl, bC BK425 1 rfl, bC BK425 2 rfl, bC BK425 3 rfl, (kC HB hw426_0), (kC HB hw430_0)⟩ (fun hHeld => ?_)
             clear hK K
             refine norm_ (a' := ?_) ?_ ?_
             rotate_left
             ·show Act.put _ (some 26) _ = _
              simp only [sP]
              rfl
             exact norm_ (by first | (simp only [putAll, sP]; done) | (simp only [putAll, sP]; rfl)) (hJ4_11_13 (gb434) _ ⟨hHeld, (by (with_reducible repeat (first | apply Kd.R_alloc | apply Kd.R_drewN | apply Kd.R_drew)); exact HO_5.out), (uK BK425), (uK BK434), GW434.out, GE434.out, NB425_434.out, NB434_425.out, (by repeat (first | (with_reducible first | exact HB.out | apply bL | apply bM | apply bR | refine bS ?_ GE434.out) | exact HB.out))⟩)
            ·skip
             refine box_step ?hg (N := 7) ?hd (cs := #[.int .i64 0, .int .i64 0, .int .i64 0]) (t := 24) ?hr ?_; (case hd => rfl); (case hg => rfl); (case hr => first | (go_simp; done) | (go_simp; rfl))
             intro gb433 hg w15 hbox hb
             replace HO_5 := Aside0.mk (Kd.R_below (by (with_reducible repeat (first | apply Kd.R_alloc | apply Kd.R_drewN | apply Kd.R_drew)); exact HO_5.out) hb)
             have BK433 := Aside0.mk hbox
             have GW433 := Aside0.mk ((by rw [hg]; exact (below_size (by repeat (first | (with_reducible first | exact HB.out | apply bL | apply bM | apply bR | refine bS ?_ GE434.out) | exact HB.out))) : w.heap.size ≤ gb433))
             have GE433 := Aside0.mk ((by rw [hg]; exact (below_size (by repeat (first | (with_reducible first | exact HB.out | apply bL | apply bM | apply bR | refine bS ?_ GE434.out) | exact HB.out))) : w.heap.size ≤ gb433))
             replace HB := Aside0.mk (below_step (by repeat (first | (with_reducible first | exact HB.out | apply bL | apply bM | apply bR | refine bS ?_ GE434.out) | exact HB.out)) hb)
             have NB425_433 := gN BK425 hg
             replace BK425 := bK BK425 hb
             have NB433_425 := Aside0.mk NB425_433.out.symm
             have NB434_433 := gN BK434 hg
             replace BK434 := bK BK434 hb
             have NB433_434 := Aside0.mk NB434_433.out.symm
             clear hb hbox hg
             refine hK.out _ _ ⟨bC BK425 0 rfl, bC BK425 1 rfl, bC BK425 2 rfl, bC BK425 3 rfl, (kC HB hw426_0), (kC HB hw430_0)⟩ (fun hHeld => ?_)
             clear hK K
             refine norm_ (a' := ?_) ?_ ?_
             rotate_left
             ·show Act.put _ (some 7) _ = _
              simp only [sP]
              rfl
             exact norm_ (by first | (simp only [putAll, sP]; done) | (simp only [putAll, sP]; rfl)) (hJ4_12_13 (gb433, gb434) _ ⟨hHeld, (by (with_reducible repeat (first | apply Kd.R_alloc | apply Kd.R_drewN | apply Kd.R_drew)); exact HO_5.out), (uK BK425), (uK BK433), (uK BK434), GW433.out, GE433.out, NB425_433.out, NB433_425.out, NB434_433.out, NB433_434.out, GW434.out, GE434.out, NB425_434.out, NB434_425.out, (by repeat (first | (with_reducible first | exact HB.out | apply bL | apply bM | apply bR | refine bS ?_ GE434.out | refine bS ?_ GE433.out) | exact HB.out))⟩)
          ·skip
           rintro gb433 w14 ⟨hS_, h0_, h1_, h2_, h3_, h4_, h5_, h6_, h7_⟩
           have n0_ : Aside0 (Kd.R k53 53 w14 w.heap.size (fun _ => True) u5 x5_1) := ⟨h0_⟩
           have n1_ : Aside0 (w14.heap[gb425]? = some (.cells #[.string a0_0, .int .i64 a0_1, .int .i64 a0_2, .int .i64 a0_3] 32 (0, 0))) := ⟨h1_⟩
           have n2_ : Aside0 (w14.heap[gb433]? = some (.cells #[.int .i64 0, .int .i64 0, .int .i64 0] 24 (0, 0))) := ⟨h2_⟩
           have n3_ : Aside0 (w.heap.size ≤ gb433) := ⟨h3_⟩
           have n4_ : Aside0 (w.heap.size ≤ gb433) := ⟨h4_⟩
           have n5_ : Aside0 (gb425 ≠ gb433) := ⟨h5_⟩
           have n6_ : Aside0 (gb433 ≠ gb425) := ⟨h6_⟩
           have n7_ : Aside0 (Below w.heap.size w w14) := ⟨h7_⟩
           clear HO_5
           clear BK425
           clear HB
           clear h0_ h1_ h2_ h3_ h4_ h5_ h6_ h7_
           have HO_5 := n0_
           have BK425 := n1_
           have BK433 := n2_
           have GW433 := n3_
           have GE433 := n4_
           have NB425_433 := n5_
           have NB433_425 := n6_
           have HB := n7_
           clear n0_ n1_ n2_ n3_ n4_ n5_ n6_ n7_
           have hHeld : w14.cell? ⟨gb425, 0, none⟩ = some (.string a0_0) ∧ w14.cell? ⟨gb425, 1, none⟩ = some (.int .i64 a0_1) ∧ w14.cell? ⟨gb425, 2, none⟩ = some (.int .i64 a0_2) ∧ w14.cell? ⟨gb425, 3, none⟩ = some (.int .i64 a0_3) ∧ w14.cell? (ad426.add (x6_1).toNat) = some (.int .i64 (rd l1 x6_1)) ∧ w14.cell? (ad426.add (x6_1).toNat) = some (.int .i64 (rd l1 x6_1)) := hS_
           refine norm_ (a' := ?_) ?_ ?_
           rotate_left
           ·simp only [putAll, sP]
            rfl
           refine two_ (i := 11) (j := 13) (Ni := some 26) (Nj := some 8) q23_2 q23_1 rfl rfl rfl rfl (two_of HT_.out (by kernel_rfl)) (by decide) (by decide) (fun K hK => ?_) (fun K hK => ?_)
           ·skip
            refine goes_ Tryd.func24 (by kernel_rfl) rfl #[.agg #[.string a0_0, .int .i64 a0_1, .int .i64 a0_2, .int .i64 a0_3], .int .i64 ((rd l1 x6_1) / 8)] (by rfl) rfl rfl (by (try simp only [mA]); first | done | rfl) ?_
            with_reducible refine (clusterlocksmill_Amount.calls a0_0 a0_1 a0_2 a0_3 ((rd l1 x6_1) / 8) t431 t432 _ A7.out).mono ?_
            rintro e w15 ⟨rfl, hb⟩
            refine ⟨_, rfl, ?_⟩
            replace HO_5 := Aside0.mk (Kd.R_below (by (with_reducible repeat (first | apply Kd.R_alloc | apply Kd.R_drewN | apply Kd.R_drew)); exact HO_5.out) hb)
            replace BK425 := bK BK425 hb
            replace BK433 := bK BK433 hb
            replace HB := Aside0.mk (below_step (by repeat (first | (with_reducible first | exact HB.out | apply bL | apply bM | apply bR | refine bS ?_ GE433.out) | exact HB.out)) hb)
            (try clear hb)
            (try clear hk)
            refine hK.out _ _ ⟨bC BK425 0 rfl, bC BK425 1 rfl, bC BK425 2 rfl, bC BK425 3 rfl, (kC HB hw426_0), (kC HB hw430_0)⟩ (fun hHeld => ?_)
            clear hK K
            refine norm_ (a' := ?_) ?_ ?_
            rotate_left
            ·show Act.put _ (some 26) _ = _
             simp only [sP]
             rfl
            exact norm_ (by first | (simp only [putAll, sP]; done) | (simp only [putAll, sP]; rfl)) (hJ4_11_12 (gb433) _ ⟨hHeld, (by (with_reducible repeat (first | apply Kd.R_alloc | apply Kd.R_drewN | apply Kd.R_drew)); exact HO_5.out), (uK BK425), (uK BK433), GW433.out, GE433.out, NB425_433.out, NB433_425.out, (by repeat (first | (with_reducible first | exact HB.out | apply bL | apply bM | apply bR | refine bS ?_ GE433.out) | exact HB.out))⟩)
           ·skip
            refine box_step ?hg (N := 8) ?hd (cs := #[.int .i64 0, .int .i64 0]) (t := 26) ?hr ?_; (case hd => rfl); (case hg => rfl); (case hr => first | (go_simp; done) | (go_simp; rfl))
            intro gb434 hg w15 hbox hb
            replace HO_5 := Aside0.mk (Kd.R_below (by (with_reducible repeat (first | apply Kd.R_alloc | apply Kd.R_drewN | apply Kd.R_drew)); exact HO_5.out) hb)
            have BK434 := Aside0.mk hbox
            have GW434 := Aside0.mk ((by rw [hg]; exact (below_size (by repeat (first | (with_reducible first | exact HB.out | apply bL | apply bM | apply bR | refine bS ?_ GE433.out) | exact HB.out))) : w.heap.size ≤ gb434))
            have GE434 := Aside0.mk ((by rw [hg]; exact (below_size (by repeat (first | (with_reducible first | exact HB.out | apply bL | apply bM | apply bR | refine bS ?_ GE433.out) | exact HB.out))) : w.heap.size ≤ gb434))
            replace HB := Aside0.mk (below_step (by repeat (first | (with_reducible first | exact HB.out | apply bL | apply bM | apply bR | refine bS ?_ GE433.out) | exact HB.out)) hb)
            have NB425_434 := gN BK425 hg
            replace BK425 := bK BK425 hb
            have NB434_425 := Aside0.mk NB425_434.out.symm
            have NB433_434 := gN BK433 hg
            replace BK433 := bK BK433 hb
            have NB434_433 := Aside0.mk NB433_434.out.symm
            clear hb hbox hg
            refine hK.out _ _ ⟨bC BK425 0 rfl, bC BK425 1 rfl, bC BK425 2 rfl, bC BK425 3 rfl, (kC HB hw426_0), (kC HB hw430_0)⟩ (fun hHeld => ?_)
            clear hK K
            refine norm_ (a' := ?_) ?_ ?_
            rotate_left
            ·show Act.put _ (some 8) _ = _
             simp only [sP]
             rfl
            exact norm_ (by first | (simp only [putAll, sP]; done) | (simp only [putAll, sP]; rfl)) (hJ4_12_13 (gb433, gb434) _ ⟨hHeld, (by (with_reducible repeat (first | apply Kd.R_alloc | apply Kd.R_drewN | apply Kd.R_drew)); exact HO_5.out), (uK BK425), (uK BK433), (uK BK434), GW433.out, GE433.out, NB425_433.out, NB433_425.out, NB434_433.out, NB433_434.out, GW434.out, GE434.out, NB425_434.out, NB434_425.out, (by repeat (first | (with_reducible first | exact HB.out | apply bL | apply bM | apply bR | refine bS ?_ GE433.out | refine bS ?_ GE434.out) | exact HB.out))⟩)
         ·skip
          rintro _ w14 ⟨hS_, h0_, h1_, h2_⟩
          have n0_ : Aside0 (Kd.R k53 53 w14 w.heap.size (fun _ => True) u5 x5_1) := ⟨h0_⟩
          have n1_ : Aside0 (w14.heap[gb425]? = some (.cells #[.string a0_0, .int .i64 a0_1, .int .i64 a0_2, .int .i64 a0_3] 32 (0, 0))) := ⟨h1_⟩
          have n2_ : Aside0 (Below w.heap.size w w14) := ⟨h2_⟩
          clear HO_5
          clear BK425
          clear HB
          clear h0_ h1_ h2_
          have HO_5 := n0_
          have BK425 := n1_
          have HB := n2_
          clear n0_ n1_ n2_
          have hHeld : w14.cell? ⟨gb425, 0, none⟩ = some (.string a0_0) ∧ w14.cell? ⟨gb425, 1, none⟩ = some (.int .i64 a0_1) ∧ w14.cell? ⟨gb425, 2, none⟩ = some (.int .i64 a0_2) ∧ w14.cell? ⟨gb425, 3, none⟩ = some (.int .i64 a0_3) ∧ w14.cell? (ad426.add (x6_1).toNat) = some (.int .i64 (rd l1 x6_1)) ∧ w14.cell? (ad426.add (x6_1).toNat) = some (.int .i64 (rd l1 x6_1)) := hS_
          refine norm_ (a' := ?_) ?_ ?_
          rotate_left
          ·simp only [putAll, sP]
           rfl
          refine two_ (i := 12) (j := 13) (Ni := some 7) (Nj := some 8) q23_2 q23_3 rfl rfl rfl rfl (two_of HT_.out (by kernel_rfl)) (by decide) (by decide) (fun K hK => ?_) (fun K hK => ?_)
          ·skip
           refine box_step ?hg (N := 7) ?hd (cs := #[.int .i64 0, .int .i64 0, .int .i64 0]) (t := 24) ?hr ?_; (case hd => rfl); (case hg => rfl); (case hr => first | (go_simp; done) | (go_simp; rfl))
           intro gb433 hg w15 hbox hb
           replace HO_5 := Aside0.mk (Kd.R_below (by (with_reducible repeat (first | apply Kd.R_alloc | apply Kd.R_drewN | apply Kd.R_drew)); exact HO_5.out) hb)
           have BK433 := Aside0.mk hbox
           have GW433 := gE HB hg
           have GE433 := gE HB hg
           replace HB := bB HB hb
           have NB425_433 := gN BK425 hg
           replace BK425 := bK BK425 hb
           have NB433_425 := Aside0.mk NB425_433.out.symm
           clear hb hbox hg
           refine hK.out _ _ ⟨bC BK425 0 rfl, bC BK425 1 rfl, bC BK425 2 rfl, bC BK425 3 rfl, (kC HB hw426_0), (kC HB hw430_0)⟩ (fun hHeld => ?_)
           clear hK K
           refine norm_ (a' := ?_) ?_ ?_
           rotate_left
           ·show Act.put _ (some 7) _ = _
            simp only [sP]
            rfl
           exact norm_ (by first | (simp only [putAll, sP]; done) | (simp only [putAll, sP]; rfl)) (hJ4_11_12 (gb433) _ ⟨hHeld, (by (with_reducible repeat (first | apply Kd.R_alloc | apply Kd.R_drewN | apply Kd.R_drew)); exact HO_5.out), (uK BK425), (uK BK433), GW433.out, GE433.out, NB425_433.out, NB433_425.out, (by repeat (first | (with_reducible first | exact HB.out | apply bL | apply bM | apply bR | refine bS ?_ GE433.out) | exact HB.out))⟩)
          ·skip
           refine box_step ?hg (N := 8) ?hd (cs := #[.int .i64 0, .int .i64 0]) (t := 26) ?hr ?_; (case hd => rfl); (case hg => rfl); (case hr => first | (go_simp; done) | (go_simp; rfl))
           intro gb434 hg w15 hbox hb
           replace HO_5 := Aside0.mk (Kd.R_below (by (with_reducible repeat (first | apply Kd.R_alloc | apply Kd.R_drewN | apply Kd.R_drew)); exact HO_5.out) hb)
           have BK434 := Aside0.mk hbox
           have GW434 := gE HB hg
           have GE434 := gE HB hg
           replace HB := bB HB hb
           have NB425_434 := gN BK425 hg
           replace BK425 := bK BK425 hb
           have NB434_425 := Aside0.mk NB425_434.out.symm
           clear hb hbox hg
           refine hK.out _ _ ⟨bC BK425 0 rfl, bC BK425 1 rfl, bC BK425 2 rfl, bC BK425 3 rfl, (kC HB hw426_0), (kC HB hw430_0)⟩ (fun hHeld => ?_)
           clear hK K
           refine norm_ (a' := ?_) ?_ ?_
           rotate_left
           ·show Act.put _ (some 8) _ = _
            simp only [sP]
            rfl
           exact norm_ (by first | (simp only [putAll, sP]; done) | (simp only [putAll, sP]; rfl)) (hJ4_11_13 (gb434) _ ⟨hHeld, (by (with_reducible repeat (first | apply Kd.R_alloc | apply Kd.R_drewN | apply Kd.R_drew)); exact HO_5.out), (uK BK425), (uK BK434), GW434.out, GE434.out, NB425_434.out, NB434_425.out, (by repeat (first | (with_reducible first | exact HB.out | apply bL | apply bM | apply bR | refine bS ?_ GE434.out) | exact HB.out))⟩)
        ·skip
         rintro ⟨gb433, gb434⟩ w15 ⟨hS_, h0_, h1_, h2_, h3_, h4_, h5_, h6_, h7_, h8_, h9_, h10_, h11_, h12_, h13_, h14_⟩
         have n0_ : Aside0 (Kd.R k53 53 w15 w.heap.size (fun _ => True) u5 x5_1) := ⟨h0_⟩
         have n1_ : Aside0 (w15.heap[gb425]? = some (.cells #[.string a0_0, .int .i64 a0_1, .int .i64 a0_2, .int .i64 a0_3] 32 (0, 0))) := ⟨h1_⟩
         have n2_ : Aside0 (w15.heap[gb433]? = some (.cells #[.int .i64 0, .int .i64 0, .int .i64 0] 24 (0, 0))) := ⟨h2_⟩
         have n3_ : Aside0 (w15.heap[gb434]? = some (.cells #[.int .i64 0, .int .i64 0] 26 (0, 0))) := ⟨h3_⟩
         have n4_ : Aside0 (w.heap.size ≤ gb433) := ⟨h4_⟩
         have n5_ : Aside0 (w.heap.size ≤ gb433) := ⟨h5_⟩
         have n6_ : Aside0 (gb425 ≠ gb433) := ⟨h6_⟩
         have n7_ : Aside0 (gb433 ≠ gb425) := ⟨h7_⟩
         have n8_ : Aside0 (gb434 ≠ gb433) := ⟨h8_⟩
         have n9_ : Aside0 (gb433 ≠ gb434) := ⟨h9_⟩
         have n10_ : Aside0 (w.heap.size ≤ gb434) := ⟨h10_⟩
         have n11_ : Aside0 (w.heap.size ≤ gb434) := ⟨h11_⟩
         have n12_ : Aside0 (gb425 ≠ gb434) := ⟨h12_⟩
         have n13_ : Aside0 (gb434 ≠ gb425) := ⟨h13_⟩
         have n14_ : Aside0 (Below w.heap.size w w15) := ⟨h14_⟩
         clear HO_5
         clear BK425
         clear HB
         clear h0_ h1_ h2_ h3_ h4_ h5_ h6_ h7_ h8_ h9_ h10_ h11_ h12_ h13_ h14_
         have HO_5 := n0_
         have BK425 := n1_
         have BK433 := n2_
         have BK434 := n3_
         have GW433 := n4_
         have GE433 := n5_
         have NB425_433 := n6_
         have NB433_425 := n7_
         have NB434_433 := n8_
         have NB433_434 := n9_
         have GW434 := n10_
         have GE434 := n11_
         have NB425_434 := n12_
         have NB434_425 := n13_
         have HB := n14_
         clear n0_ n1_ n2_ n3_ n4_ n5_ n6_ n7_ n8_ n9_ n10_ n11_ n12_ n13_ n14_
         have hHeld : w15.cell? ⟨gb425, 0, none⟩ = some (.string a0_0) ∧ w15.cell? ⟨gb425, 1, none⟩ = some (.int .i64 a0_1) ∧ w15.cell? ⟨gb425, 2, none⟩ = some (.int .i64 a0_2) ∧ w15.cell? ⟨gb425, 3, none⟩ = some (.int .i64 a0_3) ∧ w15.cell? (ad426.add (x6_1).toNat) = some (.int .i64 (rd l1 x6_1)) ∧ w15.cell? (ad426.add (x6_1).toNat) = some (.int .i64 (rd l1 x6_1)) := hS_
         refine norm_ (a' := ?_) ?_ ?_
         rotate_left
         ·simp only [putAll, sP]
          rfl
         refine one_ (i := 11) (N := some 26) q23_0 rfl rfl (one_of HT_.out (by kernel_rfl)) (by decide) (fun K hK => ?_)
         refine goes_ Tryd.func24 (by kernel_rfl) rfl #[.agg #[.string a0_0, .int .i64 a0_1, .int .i64 a0_2, .int .i64 a0_3], .int .i64 ((rd l1 x6_1) / 8)] (by rfl) rfl rfl (by (try simp only [mA]); first | done | rfl) ?_
         with_reducible refine (clusterlocksmill_Amount.calls a0_0 a0_1 a0_2 a0_3 ((rd l1 x6_1) / 8) t431 t432 _ A7.out).mono ?_
         rintro e w16 ⟨rfl, hb⟩
         refine ⟨_, rfl, ?_⟩
         replace HO_5 := Aside0.mk (Kd.R_below (by (with_reducible repeat (first | apply Kd.R_alloc | apply Kd.R_drewN | apply Kd.R_drew)); exact HO_5.out) hb)
         replace BK425 := bK BK425 hb
         replace BK433 := bK BK433 hb
         replace BK434 := bK BK434 hb
         replace HB := Aside0.mk (below_step (by repeat (first | (with_reducible first | exact HB.out | apply bL | apply bM | apply bR | refine bS ?_ GE433.out | refine bS ?_ GE434.out) | exact HB.out)) hb)
         (try clear hb)
         (try clear hk)
         refine hK.out _ _ ⟨bC BK425 0 rfl, bC BK425 1 rfl, bC BK425 2 rfl, bC BK425 3 rfl, (kC HB hw426_0), (kC HB hw430_0)⟩ (fun hHeld => ?_)
         clear hK K
         refine norm_ (a' := ?_) ?_ ?_
         rotate_left
         ·show Act.put _ (some 26) _ = _
          simp only [sP]
          rfl
         exact norm_ (by first | (simp only [putAll, sP]; done) | (simp only [putAll, sP]; rfl)) (hJ4_11_12_13 (gb433, gb434) _ ⟨hHeld, (by (with_reducible repeat (first | apply Kd.R_alloc | apply Kd.R_drewN | apply Kd.R_drew)); exact HO_5.out), (uK BK425), (uK BK433), (uK BK434), GW433.out, GE433.out, NB425_433.out, NB433_425.out, NB434_433.out, NB433_434.out, GW434.out, GE434.out, NB425_434.out, NB434_425.out, (by repeat (first | (with_reducible first | exact HB.out | apply bL | apply bM | apply bR | refine bS ?_ GE433.out | refine bS ?_ GE434.out) | exact HB.out))⟩)
       ·skip
        rintro gb434 w15 ⟨hS_, h0_, h1_, h2_, h3_, h4_, h5_, h6_, h7_⟩
        have n0_ : Aside0 (Kd.R k53 53 w15 w.heap.size (fun _ => True) u5 x5_1) := ⟨h0_⟩
        have n1_ : Aside0 (w15.heap[gb425]? = some (.cells #[.string a0_0, .int .i64 a0_1, .int .i64 a0_2, .int .i64 a0_3] 32 (0, 0))) := ⟨h1_⟩
        have n2_ : Aside0 (w15.heap[gb434]? = some (.cells #[.int .i64 0, .int .i64 0] 26 (0, 0))) := ⟨h2_⟩
        have n3_ : Aside0 (w.heap.size ≤ gb434) := ⟨h3_⟩
        have n4_ : Aside0 (w.heap.size ≤ gb434) := ⟨h4_⟩
        have n5_ : Aside0 (gb425 ≠ gb434) := ⟨h5_⟩
        have n6_ : Aside0 (gb434 ≠ gb425) := ⟨h6_⟩
        have n7_ : Aside0 (Below w.heap.size w w15) := ⟨h7_⟩
        clear HO_5
        clear BK425
        clear HB
        clear h0_ h1_ h2_ h3_ h4_ h5_ h6_ h7_
        have HO_5 := n0_
        have BK425 := n1_
        have BK434 := n2_
        have GW434 := n3_
        have GE434 := n4_
        have NB425_434 := n5_
        have NB434_425 := n6_
        have HB := n7_
        clear n0_ n1_ n2_ n3_ n4_ n5_ n6_ n7_
        have hHeld : w15.cell? ⟨gb425, 0, none⟩ = some (.string a0_0) ∧ w15.cell? ⟨gb425, 1, none⟩ = some (.int .i64 a0_1) ∧ w15.cell? ⟨gb425, 2, none⟩ = some (.int .i64 a0_2) ∧ w15.cell? ⟨gb425, 3, none⟩ = some (.int .i64 a0_3) ∧ w15.cell? (ad426.add (x6_1).toNat) = some (.int .i64 (rd l1 x6_1)) ∧ w15.cell? (ad426.add (x6_1).toNat) = some (.int .i64 (rd l1 x6_1)) := hS_
        refine norm_ (a' := ?_) ?_ ?_
        rotate_left
        ·simp only [putAll, sP]
         rfl
        refine one_ (i := 12) (N := some 7) q23_0 rfl rfl (one_of HT_.out (by kernel_rfl)) (by decide) (fun K hK => ?_)
        refine box_step ?hg (N := 7) ?hd (cs := #[.int .i64 0, .int .i64 0, .int .i64 0]) (t := 24) ?hr ?_; (case hd => rfl); (case hg => rfl); (case hr => first | (go_simp; done) | (go_simp; rfl))
        intro gb433 hg w16 hbox hb
        replace HO_5 := Aside0.mk (Kd.R_below (by (with_reducible repeat (first | apply Kd.R_alloc | apply Kd.R_drewN | apply Kd.R_drew)); exact HO_5.out) hb)
        have BK433 := Aside0.mk hbox
        have GW433 := Aside0.mk ((by rw [hg]; exact (below_size (by repeat (first | (with_reducible first | exact HB.out | apply bL | apply bM | apply bR | refine bS ?_ GE434.out) | exact HB.out))) : w.heap.size ≤ gb433))
        have GE433 := Aside0.mk ((by rw [hg]; exact (below_size (by repeat (first | (with_reducible first | exact HB.out | apply bL | apply bM | apply bR | refine bS ?_ GE434.out) | exact HB.out))) : w.heap.size ≤ gb433))
        replace HB := Aside0.mk (below_step (by repeat (first | (with_reducible first | exact HB.out | apply bL | apply bM | apply bR | refine bS ?_ GE434.out) | exact HB.out)) hb)
        have NB425_433 := gN BK425 hg
        replace BK425 := bK BK425 hb
        have NB433_425 := Aside0.mk NB425_433.out.symm
        have NB434_433 := gN BK434 hg
        replace BK434 := bK BK434 hb
        have NB433_434 := Aside0.mk NB434_433.out.symm
        clear hb hbox hg
        refine hK.out _ _ ⟨bC BK425 0 rfl, bC BK425 1 rfl, bC BK425 2 rfl, bC BK425 3 rfl, (kC HB hw426_0), (kC HB hw430_0)⟩ (fun hHeld => ?_)
        clear hK K
        refine norm_ (a' := ?_) ?_ ?_
        rotate_left
        ·show Act.put _ (some 7) _ = _
         simp only [sP]
         rfl
        exact norm_ (by first | (simp only [putAll, sP]; done) | (simp only [putAll, sP]; rfl)) (hJ4_11_12_13 (gb433, gb434) _ ⟨hHeld, (by (with_reducible repeat (first | apply Kd.R_alloc | apply Kd.R_drewN | apply Kd.R_drew)); exact HO_5.out), (uK BK425), (uK BK433), (uK BK434), GW433.out, GE433.out, NB425_433.out, NB433_425.out, NB434_433.out, NB433_434.out, GW434.out, GE434.out, NB425_434.out, NB434_425.out, (by repeat (first | (with_reducible first | exact HB.out | apply bL | apply bM | apply bR | refine bS ?_ GE434.out | refine bS ?_ GE433.out) | exact HB.out))⟩)
      ·skip
       rintro gb433 w15 ⟨hS_, h0_, h1_, h2_, h3_, h4_, h5_, h6_, h7_⟩
       have n0_ : Aside0 (Kd.R k53 53 w15 w.heap.size (fun _ => True) u5 x5_1) := ⟨h0_⟩
       have n1_ : Aside0 (w15.heap[gb425]? = some (.cells #[.string a0_0, .int .i64 a0_1, .int .i64 a0_2, .int .i64 a0_3] 32 (0, 0))) := ⟨h1_⟩
       have n2_ : Aside0 (w15.heap[gb433]? = some (.cells #[.int .i64 0, .int .i64 0, .int .i64 0] 24 (0, 0))) := ⟨h2_⟩
       have n3_ : Aside0 (w.heap.size ≤ gb433) := ⟨h3_⟩
       have n4_ : Aside0 (w.heap.size ≤ gb433) := ⟨h4_⟩
       have n5_ : Aside0 (gb425 ≠ gb433) := ⟨h5_⟩
       have n6_ : Aside0 (gb433 ≠ gb425) := ⟨h6_⟩
       have n7_ : Aside0 (Below w.heap.size w w15) := ⟨h7_⟩
       clear HO_5
       clear BK425
       clear HB
       clear h0_ h1_ h2_ h3_ h4_ h5_ h6_ h7_
       have HO_5 := n0_
       have BK425 := n1_
       have BK433 := n2_
       have GW433 := n3_
       have GE433 := n4_
       have NB425_433 := n5_
       have NB433_425 := n6_
       have HB := n7_
       clear n0_ n1_ n2_ n3_ n4_ n5_ n6_ n7_
       have hHeld : w15.cell? ⟨gb425, 0, none⟩ = some (.string a0_0) ∧ w15.cell? ⟨gb425, 1, none⟩ = some (.int .i64 a0_1) ∧ w15.cell? ⟨gb425, 2, none⟩ = some (.int .i64 a0_2) ∧ w15.cell? ⟨gb425, 3, none⟩ = some (.int .i64 a0_3) ∧ w15.cell? (ad426.add (x6_1).toNat) = some (.int .i64 (rd l1 x6_1)) ∧ w15.cell? (ad426.add (x6_1).toNat) = some (.int .i64 (rd l1 x6_1)) := hS_
       refine norm_ (a' := ?_) ?_ ?_
       rotate_left
       ·simp only [putAll, sP]
        rfl
       refine one_ (i := 13) (N := some 8) q23_0 rfl rfl (one_of HT_.out (by kernel_rfl)) (by decide) (fun K hK => ?_)
       refine box_step ?hg (N := 8) ?hd (cs := #[.int .i64 0, .int .i64 0]) (t := 26) ?hr ?_; (case hd => rfl); (case hg => rfl); (case hr => first | (go_simp; done) | (go_simp; rfl))
       intro gb434 hg w16 hbox hb
       replace HO_5 := Aside0.mk (Kd.R_below (by (with_reducible repeat (first | apply Kd.R_alloc | apply Kd.R_drewN | apply Kd.R_drew)); exact HO_5.out) hb)
       have BK434 := Aside0.mk hbox
       have GW434 := Aside0.mk ((by rw [hg]; exact (below_size (by repeat (first | (with_reducible first | exact HB.out | apply bL | apply bM | apply bR | refine bS ?_ GE433.out) | exact HB.out))) : w.heap.size ≤ gb434))
       have GE434 := Aside0.mk ((by rw [hg]; exact (below_size (by repeat (first | (with_reducible first | exact HB.out | apply bL | apply bM | apply bR | refine bS ?_ GE433.out) | exact HB.out))) : w.heap.size ≤ gb434))
       replace HB := Aside0.mk (below_step (by repeat (first | (with_reducible first | exact HB.out | apply bL | apply bM | apply bR | refine bS ?_ GE433.out) | exact HB.out)) hb)
       have NB425_434 := gN BK425 hg
       replace BK425 := bK BK425 hb
       have NB434_425 := Aside0.mk NB425_434.out.symm
       have NB433_434 := gN BK433 hg
       replace BK433 := bK BK433 hb
       have NB434_433 := Aside0.mk NB433_434.out.symm
       clear hb hbox hg
       refine hK.out _ _ ⟨bC BK425 0 rfl, bC BK425 1 rfl, bC BK425 2 rfl, bC BK425 3 rfl, (kC HB hw426_0), (kC HB hw430_0)⟩ (fun hHeld => ?_)
       clear hK K
       refine norm_ (a' := ?_) ?_ ?_
       rotate_left
       ·show Act.put _ (some 8) _ = _
        simp only [sP]
        rfl
       exact norm_ (by first | (simp only [putAll, sP]; done) | (simp only [putAll, sP]; rfl)) (hJ4_11_12_13 (gb433, gb434) _ ⟨hHeld, (by (with_reducible repeat (first | apply Kd.R_alloc | apply Kd.R_drewN | apply Kd.R_drew)); exact HO_5.out), (uK BK425), (uK BK433), (uK BK434), GW433.out, GE433.out, NB425_433.out, NB433_425.out, NB434_433.out, NB433_434.out, GW434.out, GE434.out, NB425_434.out, NB434_425.out, (by repeat (first | (with_reducible first | exact HB.out | apply bL | apply bM | apply bR | refine bS ?_ GE433.out | refine bS ?_ GE434.out) | exact HB.out))⟩)
     rintro ⟨gb433, gb434⟩ w16 ⟨hS_, h0_, h1_, h2_, h3_, h4_, h5_, h6_, h7_, h8_, h9_, h10_, h11_, h12_, h13_, h14_⟩
     have n0_ : Aside0 (Kd.R k53 53 w16 w.heap.size (fun _ => True) u5 x5_1) := ⟨h0_⟩
     have n1_ : Aside0 (w16.heap[gb425]? = some (.cells #[.string a0_0, .int .i64 a0_1, .int .i64 a0_2, .int .i64 a0_3] 32 (0, 0))) := ⟨h1_⟩
     have n2_ : Aside0 (w16.heap[gb433]? = some (.cells #[.int .i64 0, .int .i64 0, .int .i64 0] 24 (0, 0))) := ⟨h2_⟩
     have n3_ : Aside0 (w16.heap[gb434]? = some (.cells #[.int .i64 0, .int .i64 0] 26 (0, 0))) := ⟨h3_⟩
     have n4_ : Aside0 (w.heap.size ≤ gb433) := ⟨h4_⟩
     have n5_ : Aside0 (w.heap.size ≤ gb433) := ⟨h5_⟩
     have n6_ : Aside0 (gb425 ≠ gb433) := ⟨h6_⟩
     have n7_ : Aside0 (gb433 ≠ gb425) := ⟨h7_⟩
     have n8_ : Aside0 (gb434 ≠ gb433) := ⟨h8_⟩
     have n9_ : Aside0 (gb433 ≠ gb434) := ⟨h9_⟩
     have n10_ : Aside0 (w.heap.size ≤ gb434) := ⟨h10_⟩
     have n11_ : Aside0 (w.heap.size ≤ gb434) := ⟨h11_⟩
     have n12_ : Aside0 (gb425 ≠ gb434) := ⟨h12_⟩
     have n13_ : Aside0 (gb434 ≠ gb425) := ⟨h13_⟩
     have n14_ : Aside0 (Below w.heap.size w w16) := ⟨h14_⟩
     clear HO_5
     clear BK425
     clear HB
     clear h0_ h1_ h2_ h3_ h4_ h5_ h6_ h7_ h8_ h9_ h10_ h11_ h12_ h13_ h14_
     have HO_5 := n0_
     have BK425 := n1_
     have BK433 := n2_
     have BK434 := n3_
     have GW433 := n4_
     have GE433 := n5_
     have NB425_433 := n6_
     have NB433_425 := n7_
     have NB434_433 := n8_
     have NB433_434 := n9_
     have GW434 := n10_
     have GE434 := n11_
     have NB425_434 := n12_
     have NB434_425 := n13_
     have HB := n14_
     clear n0_ n1_ n2_ n3_ n4_ n5_ n6_ n7_ n8_ n9_ n10_ n11_ n12_ n13_ n14_
     have hHeld : w16.cell? ⟨gb425, 0, none⟩ = some (.string a0_0) ∧ w16.cell? ⟨gb425, 1, none⟩ = some (.int .i64 a0_1) ∧ w16.cell? ⟨gb425, 2, none⟩ = some (.int .i64 a0_2) ∧ w16.cell? ⟨gb425, 3, none⟩ = some (.int .i64 a0_3) ∧ w16.cell? (ad426.add (x6_1).toNat) = some (.int .i64 (rd l1 x6_1)) ∧ w16.cell? (ad426.add (x6_1).toNat) = some (.int .i64 (rd l1 x6_1)) := hS_
     refine norm_ (a' := ?_) ?_ ?_
     rotate_left
     ·simp only [putAll, sP]
      rfl
     refine one_ (i := 14) (N := none) #[T,T,T,T,T,T,T,T,T,T,T,T,T,T,T,F] rfl rfl (one_of HT_.out (by kernel_rfl)) (by decide) (fun K hK => ?_)
     have hs17 : w16.cell? ⟨gb433, 0, none⟩ = some (.int .i64 0) := bC BK433 0 rfl
     have hfs17 := bF BK433 0
     have hns17_0 := NB425_433.out
     have hns17_2 := NB434_433.out
     have hms17_0 := NB433_425.out
     have hms17_2 := NB433_434.out
     have hs18 : w16.cell? ⟨gb433, 1, none⟩ = some (.int .i64 0) := bC BK433 1 rfl
     have hfs18 := bF BK433 1
     have hns18_0 := NB425_433.out
     have hns18_2 := NB434_433.out
     have hms18_0 := NB433_425.out
     have hms18_2 := NB433_434.out
     have hs19 : w16.cell? ⟨gb433, 2, none⟩ = some (.int .i64 0) := bC BK433 2 rfl
     have hfs19 := bF BK433 2
     have hns19_0 := NB425_433.out
     have hns19_2 := NB434_433.out
     have hms19_0 := NB433_425.out
     have hms19_2 := NB433_434.out
     refine skip_ (w1 := ?_) (by rfl) rfl ?_ ?_
     rotate_left
     ·go_simp
      rfl
     refine hK.out _ _ ⟨((cell_far (p := ⟨gb433, _, none⟩) NB425_433.out _).trans (((cell_far (p := ⟨gb433, _, none⟩) NB425_433.out _).trans (((cell_far (p := ⟨gb433, _, none⟩) NB425_433.out _).trans (hHeld.1)))))), ((cell_far (p := ⟨gb433, _, none⟩) NB425_433.out _).trans (((cell_far (p := ⟨gb433, _, none⟩) NB425_433.out _).trans (((cell_far (p := ⟨gb433, _, none⟩) NB425_433.out _).trans (hHeld.2.1)))))), ((cell_far (p := ⟨gb433, _, none⟩) NB425_433.out _).trans (((cell_far (p := ⟨gb433, _, none⟩) NB425_433.out _).trans (((cell_far (p := ⟨gb433, _, none⟩) NB425_433.out _).trans (hHeld.2.2.1)))))), ((cell_far (p := ⟨gb433, _, none⟩) NB425_433.out _).trans (((cell_far (p := ⟨gb433, _, none⟩) NB425_433.out _).trans (((cell_far (p := ⟨gb433, _, none⟩) NB425_433.out _).trans (hHeld.2.2.2.1)))))), ((cell_far (p := ⟨gb433, _, none⟩) (by first | exact Nat.ne_of_lt (Nat.lt_of_lt_of_le (by have := World.block_lt_of_cell? _ _ hw426_0; first | rwa [add_block] at this | exact this) GW433.out) | (rw [add_block]; exact Nat.ne_of_lt (Nat.lt_of_lt_of_le (by have := World.block_lt_of_cell? _ _ hw426_0; first | rwa [add_block] at this | exact this) GW433.out)) | (show (Addr.add _ _).block ≠ _; rw [add_block]; exact Nat.ne_of_lt (Nat.lt_of_lt_of_le (by have := World.block_lt_of_cell? _ _ hw426_0; first | rwa [add_block] at this | exact this) GW433.out)) | (dsimp only; exact Nat.ne_of_lt (Nat.lt_of_lt_of_le (by have := World.block_lt_of_cell? _ _ hw426_0; first | rwa [add_block] at this | exact this) GW433.out))) _).trans (((cell_far (p := ⟨gb433, _, none⟩) (by first | exact Nat.ne_of_lt (Nat.lt_of_lt_of_le (by have := World.block_lt_of_cell? _ _ hw426_0; first | rwa [add_block] at this | exact this) GW433.out) | (rw [add_block]; exact Nat.ne_of_lt (Nat.lt_of_lt_of_le (by have := World.block_lt_of_cell? _ _ hw426_0; first | rwa [add_block] at this | exact this) GW433.out)) | (show (Addr.add _ _).block ≠ _; rw [add_block]; exact Nat.ne_of_lt (Nat.lt_of_lt_of_le (by have := World.block_lt_of_cell? _ _ hw426_0; first | rwa [add_block] at this | exact this) GW433.out)) | (dsimp only; exact Nat.ne_of_lt (Nat.lt_of_lt_of_le (by have := World.block_lt_of_cell? _ _ hw426_0; first | rwa [add_block] at this | exact this) GW433.out))) _).trans (((cell_far (p := ⟨gb433, _, none⟩) (by first | exact Nat.ne_of_lt (Nat.lt_of_lt_of_le (by have := World.block_lt_of_cell? _ _ hw426_0; first | rwa [add_block] at this | exact this) GW433.out) | (rw [add_block]; exact Nat.ne_of_lt (Nat.lt_of_lt_of_le (by have := World.block_lt_of_cell? _ _ hw426_0; first | rwa [add_block] at this | exact this) GW433.out)) | (show (Addr.add _ _).block ≠ _; rw [add_block]; exact Nat.ne_of_lt (Nat.lt_of_lt_of_le (by have := World.block_lt_of_cell? _ _ hw426_0; first | rwa [add_block] at this | exact this) GW433.out)) | (dsimp only; exact Nat.ne_of_lt (Nat.lt_of_lt_of_le (by have := World.block_lt_of_cell? _ _ hw426_0; first | rwa [add_block] at this | exact this) GW433.out))) _).trans (hHeld.2.2.2.2.1)))))), ((cell_far (p := ⟨gb433, _, none⟩) (by first | exact Nat.ne_of_lt (Nat.lt_of_lt_of_le (by have := World.block_lt_of_cell? _ _ hw430_0; first | rwa [add_block] at this | exact this) GW433.out) | (rw [add_block]; exact Nat.ne_of_lt (Nat.lt_of_lt_of_le (by have := World.block_lt_of_cell? _ _ hw430_0; first | rwa [add_block] at this | exact this) GW433.out)) | (show (Addr.add _ _).block ≠ _; rw [add_block]; exact Nat.ne_of_lt (Nat.lt_of_lt_of_le (by have := World.block_lt_of_cell? _ _ hw430_0; first | rwa [add_block] at this | exact this) GW433.out)) | (dsimp only; exact Nat.ne_of_lt (Nat.lt_of_lt_of_le (by have := World.block_lt_of_cell? _ _ hw430_0; first | rwa [add_block] at this | exact this) GW433.out))) _).trans (((cell_far (p := ⟨gb433, _, none⟩) (by first | exact Nat.ne_of_lt (Nat.lt_of_lt_of_le (by have := World.block_lt_of_cell? _ _ hw430_0; first | rwa [add_block] at this | exact this) GW433.out) | (rw [add_block]; exact Nat.ne_of_lt (Nat.lt_of_lt_of_le (by have := World.block_lt_of_cell? _ _ hw430_0; first | rwa [add_block] at this | exact this) GW433.out)) | (show (Addr.add _ _).block ≠ _; rw [add_block]; exact Nat.ne_of_lt (Nat.lt_of_lt_of_le (by have := World.block_lt_of_cell? _ _ hw430_0; first | rwa [add_block] at this | exact this) GW433.out)) | (dsimp only; exact Nat.ne_of_lt (Nat.lt_of_lt_of_le (by have := World.block_lt_of_cell? _ _ hw430_0; first | rwa [add_block] at this | exact this) GW433.out))) _).trans (((cell_far (p := ⟨gb433, _, none⟩) (by first | exact Nat.ne_of_lt (Nat.lt_of_lt_of_le (by have := World.block_lt_of_cell? _ _ hw430_0; first | rwa [add_block] at this | exact this) GW433.out) | (rw [add_block]; exact Nat.ne_of_lt (Nat.lt_of_lt_of_le (by have := World.block_lt_of_cell? _ _ hw430_0; first | rwa [add_block] at this | exact this) GW433.out)) | (show (Addr.add _ _).block ≠ _; rw [add_block]; exact Nat.ne_of_lt (Nat.lt_of_lt_of_le (by have := World.block_lt_of_cell? _ _ hw430_0; first | rwa [add_block] at this | exact this) GW433.out)) | (dsimp only; exact Nat.ne_of_lt (Nat.lt_of_lt_of_le (by have := World.block_lt_of_cell? _ _ hw430_0; first | rwa [add_block] at this | exact this) GW433.out))) _).trans (hHeld.2.2.2.2.2))))))⟩ (fun hHeld => ?_)
     clear hK K
     refine one_ (i := 15) (N := none) #[T,T,T,T,T,T,T,T,T,T,T,T,T,T,T,T] rfl rfl (one_of HT_.out (by kernel_rfl)) (by decide) (fun K hK => ?_)
     have hs20 : w16.cell? ⟨gb434, 0, none⟩ = some (.int .i64 0) := bC BK434 0 rfl
     have hfs20 := bF BK434 0
     have hns20_0 := NB425_434.out
     have hns20_1 := NB433_434.out
     have hms20_0 := NB434_425.out
     have hms20_1 := NB434_433.out
     have hs21 : w16.cell? ⟨gb434, 1, none⟩ = some (.int .i64 0) := bC BK434 1 rfl
     have hfs21 := bF BK434 1
     have hns21_0 := NB425_434.out
     have hns21_1 := NB433_434.out
     have hms21_0 := NB434_425.out
     have hms21_1 := NB434_433.out
     refine skip_ (w1 := ?_) (by rfl) rfl ?_ ?_
     rotate_left
     ·go_simp
      rfl
     refine hK.out _ _ ⟨((cell_far (p := ⟨gb434, _, none⟩) NB425_434.out _).trans (((cell_far (p := ⟨gb434, _, none⟩) NB425_434.out _).trans (hHeld.1)))), ((cell_far (p := ⟨gb434, _, none⟩) NB425_434.out _).trans (((cell_far (p := ⟨gb434, _, none⟩) NB425_434.out _).trans (hHeld.2.1)))), ((cell_far (p := ⟨gb434, _, none⟩) NB425_434.out _).trans (((cell_far (p := ⟨gb434, _, none⟩) NB425_434.out _).trans (hHeld.2.2.1)))), ((cell_far (p := ⟨gb434, _, none⟩) NB425_434.out _).trans (((cell_far (p := ⟨gb434, _, none⟩) NB425_434.out _).trans (hHeld.2.2.2.1)))), ((cell_far (p := ⟨gb434, _, none⟩) (by first | exact Nat.ne_of_lt (Nat.lt_of_lt_of_le (by have := World.block_lt_of_cell? _ _ hw426_0; first | rwa [add_block] at this | exact this) GW434.out) | (rw [add_block]; exact Nat.ne_of_lt (Nat.lt_of_lt_of_le (by have := World.block_lt_of_cell? _ _ hw426_0; first | rwa [add_block] at this | exact this) GW434.out)) | (show (Addr.add _ _).block ≠ _; rw [add_block]; exact Nat.ne_of_lt (Nat.lt_of_lt_of_le (by have := World.block_lt_of_cell? _ _ hw426_0; first | rwa [add_block] at this | exact this) GW434.out)) | (dsimp only; exact Nat.ne_of_lt (Nat.lt_of_lt_of_le (by have := World.block_lt_of_cell? _ _ hw426_0; first | rwa [add_block] at this | exact this) GW434.out))) _).trans (((cell_far (p := ⟨gb434, _, none⟩) (by first | exact Nat.ne_of_lt (Nat.lt_of_lt_of_le (by have := World.block_lt_of_cell? _ _ hw426_0; first | rwa [add_block] at this | exact this) GW434.out) | (rw [add_block]; exact Nat.ne_of_lt (Nat.lt_of_lt_of_le (by have := World.block_lt_of_cell? _ _ hw426_0; first | rwa [add_block] at this | exact this) GW434.out)) | (show (Addr.add _ _).block ≠ _; rw [add_block]; exact Nat.ne_of_lt (Nat.lt_of_lt_of_le (by have := World.block_lt_of_cell? _ _ hw426_0; first | rwa [add_block] at this | exact this) GW434.out)) | (dsimp only; exact Nat.ne_of_lt (Nat.lt_of_lt_of_le (by have := World.block_lt_of_cell? _ _ hw426_0; first | rwa [add_block] at this | exact this) GW434.out))) _).trans (hHeld.2.2.2.2.1)))), ((cell_far (p := ⟨gb434, _, none⟩) (by first | exact Nat.ne_of_lt (Nat.lt_of_lt_of_le (by have := World.block_lt_of_cell? _ _ hw430_0; first | rwa [add_block] at this | exact this) GW434.out) | (rw [add_block]; exact Nat.ne_of_lt (Nat.lt_of_lt_of_le (by have := World.block_lt_of_cell? _ _ hw430_0; first | rwa [add_block] at this | exact this) GW434.out)) | (show (Addr.add _ _).block ≠ _; rw [add_block]; exact Nat.ne_of_lt (Nat.lt_of_lt_of_le (by have := World.block_lt_of_cell? _ _ hw430_0; first | rwa [add_block] at this | exact this) GW434.out)) | (dsimp only; exact Nat.ne_of_lt (Nat.lt_of_lt_of_le (by have := World.block_lt_of_cell? _ _ hw430_0; first | rwa [add_block] at this | exact this) GW434.out))) _).trans (((cell_far (p := ⟨gb434, _, none⟩) (by first | exact Nat.ne_of_lt (Nat.lt_of_lt_of_le (by have := World.block_lt_of_cell? _ _ hw430_0; first | rwa [add_block] at this | exact this) GW434.out) | (rw [add_block]; exact Nat.ne_of_lt (Nat.lt_of_lt_of_le (by have := World.block_lt_of_cell? _ _ hw430_0; first | rwa [add_block] at this | exact this) GW434.out)) | (show (Addr.add _ _).block ≠ _; rw [add_block]; exact Nat.ne_of_lt (Nat.lt_of_lt_of_le (by have := World.block_lt_of_cell? _ _ hw430_0; first | rwa [add_block] at this | exact this) GW434.out)) | (dsimp only; exact Nat.ne_of_lt (Nat.lt_of_lt_of_le (by have := World.block_lt_of_cell? _ _ hw430_0; first | rwa [add_block] at this | exact this) GW434.out))) _).trans (hHeld.2.2.2.2.2))))⟩ (fun hHeld => ?_)
     clear hK K
     refine done_ (done_of HT_.out (by kernel_rfl)) ?_
     have hnb22 := NB425_433.out
     have hnc22 := NB433_425.out
     have hnb23 := NB425_434.out
     have hnc23 := NB434_425.out
     obtain ⟨hcz24_0, hcz24_1, hcz24_2, hcz24_3, hfz24_0, hfz24_1, hfz24_2, hfz24_3⟩ := d4 BK425
     have hnb25 := NB433_434.out
     have hnc25 := NB434_433.out
     obtain ⟨hcz26_0, hcz26_1, hcz26_2, hfz26_0, hfz26_1, hfz26_2⟩ := d3 BK433
     obtain ⟨hcz27_0, hcz27_1, hfz27_0, hfz27_1⟩ := d2 BK434
     obtain ⟨Ao28, co28, eo28⟩ := Kd.R_slice HO_5.out
     subst eo28
     have H := HH_.out
     clear HH_
     by_cases c9 : t435 = true
     ·subst c9
      rw [if_pos rfl] at H
      obtain ⟨t436, A100, H⟩ := Option.bind_eq_some_iff.mp H
      have A10 := Aside0.mk A100; clear A100
      have H' := Aside0.mk H
      clear H
      try go_wp2_with (first | ((with_reducible refine gate_callee (f := 16) rfl ?_); refine goesL_ (some 31) rfl rfl Tryd.func16 (by kernel_rfl) rfl #[.agg #[.string a0_0, .int .i64 a0_1, .int .i64 a0_2, .int .i64 a0_3], .slice Ao28 x5_1.length co28, .agg #[.int .i64 t427, .int .i64 t428, .int .i64 t429], .agg #[.int .i64 t431, .int .i64 t432]] rfl (by (try simp only [mA]); first | done | rfl) ?_; (with_reducible refine (clusterlocksref10_Room.calls k1 a0_0 a0_1 a0_2 a0_3 _ _ x5_1 t427 t428 t429 t431 t432 true _ ?side1 ?side2 A8.out).mono ?_); (case side1 => refine (Kd.R_reads' (e := 53) (base := w.heap.size) (ok := fun k_ => True) (n := x5_1.length) (c := co28) ?_).2.2; exact (by (with_reducible repeat (first | apply Kd.R_alloc | apply Kd.R_drewN | apply Kd.R_drew)); exact (Kd.R_mono (Kd.R_mono (Kd.R_far (p := ⟨gb434, 1, none⟩) (Kd.R_far (p := ⟨gb434, 0, none⟩) (Kd.R_far (p := ⟨gb433, 2, none⟩) (Kd.R_far (p := ⟨gb433, 1, none⟩) (Kd.R_far (p := ⟨gb433, 0, none⟩) (Kd.R_types (Kd.R_types HO_5.out BK433.out (by decide)) BK434.out (by decide)) (fun _ hk => hk.1.2) (.int .i64 t427)) (fun _ hk => hk.1.2) (.int .i64 t428)) (fun _ hk => hk.1.2) (.int .i64 t429)) (fun _ hk => hk.2) (.int .i64 t431)) (fun _ hk => hk.2) (.int .i64 t432)) (fun _ h_ => h_.1)) (fun _ h_ => h_.1)))); (case side2 => exact (Kd.R_reads' HO_5.out).2.1); rintro e w29 ⟨rfl, hb⟩; refine ⟨_, rfl, ?_⟩; replace HO_5 := Aside0.mk (Kd.R_below (by (with_reducible repeat (first | apply Kd.R_alloc | apply Kd.R_drewN | apply Kd.R_drew)); exact (Kd.R_mono (Kd.R_mono (Kd.R_far (p := ⟨gb434, 1, none⟩) (Kd.R_far (p := ⟨gb434, 0, none⟩) (Kd.R_far (p := ⟨gb433, 2, none⟩) (Kd.R_far (p := ⟨gb433, 1, none⟩) (Kd.R_far (p := ⟨gb433, 0, none⟩) (Kd.R_types (Kd.R_types HO_5.out BK433.out (by decide)) BK434.out (by decide)) (fun _ hk => hk.1.2) (.int .i64 t427)) (fun _ hk => hk.1.2) (.int .i64 t428)) (fun _ hk => hk.1.2) (.int .i64 t429)) (fun _ hk => hk.2) (.int .i64 t431)) (fun _ hk => hk.2) (.int .i64 t432)) (fun _ h_ => h_.1)) (fun _ h_ => h_.1))) hb); replace BK425 := Aside0.mk (blk_below (g := gb425) (o := .cells #[.string a0_0, .int .i64 a0_1, .int .i64 a0_2, .int .i64 a0_3] 32 (0, 0)) (by (with_reducible repeat first | refine bN ?_ _ | refine bD ?_ | refine bA ?_ _); refine blk_far ?_ NB425_434.out _; (with_reducible repeat first | refine bN ?_ _ | refine bD ?_ | refine bA ?_ _); refine blk_far ?_ NB425_434.out _; (with_reducible repeat first | refine bN ?_ _ | refine bD ?_ | refine bA ?_ _); refine blk_far ?_ NB425_433.out _; (with_reducible repeat first | refine bN ?_ _ | refine bD ?_ | refine bA ?_ _); refine blk_far ?_ NB425_433.out _; (with_reducible repeat first | refine bN ?_ _ | refine bD ?_ | refine bA ?_ _); refine blk_far ?_ NB425_433.out _; (with_reducible repeat first | refine bN ?_ _ | refine bD ?_ | refine bA ?_ _); exact BK425.out) hb); replace BK433 := Aside0.mk (blk_below (g := gb433) (o := .cells #[.int .i64 t427, .int .i64 t428, .int .i64 t429] 24 (0, 0)) (by (with_reducible repeat first | refine bN ?_ _ | refine bD ?_ | refine bA ?_ _); refine blk_far ?_ NB433_434.out _; (with_reducible repeat first | refine bN ?_ _ | refine bD ?_ | refine bA ?_ _); refine blk_far ?_ NB433_434.out _; (with_reducible repeat first | refine bN ?_ _ | refine bD ?_ | refine bA ?_ _); refine blk_put (cs := #[.int .i64 t427, .int .i64 t428, .int .i64 0]) ?_ 2 _ rfl; (with_reducible repeat first | refine bN ?_ _ | refine bD ?_ | refine bA ?_ _); refine blk_put (cs := #[.int .i64 t427, .int .i64 0, .int .i64 0]) ?_ 1 _ rfl; (with_reducible repeat first | refine bN ?_ _ | refine bD ?_ | refine bA ?_ _); refine blk_put (cs := #[.int .i64 0, .int .i64 0, .int .i64 0]) ?_ 0 _ rfl; (with_reducible repeat first | refine bN ?_ _ | refine bD ?_ | refine bA ?_ _); exact BK433.out) hb); replace BK434 := Aside0.mk (blk_below (g := gb434) (o := .cells #[.int .i64 t431, .int .i64 t432] 26 (0, 0)) (by (with_reducible repeat first | refine bN ?_ _ | refine bD ?_ | refine bA ?_ _); refine blk_put (cs := #[.int .i64 t431, .int .i64 0]) ?_ 1 _ rfl; (with_reducible repeat first | refine bN ?_ _ | refine bD ?_ | refine bA ?_ _); refine blk_put (cs := #[.int .i64 0, .int .i64 0]) ?_ 0 _ rfl; (with_reducible repeat first | refine bN ?_ _ | refine bD ?_ | refine bA ?_ _); refine blk_far ?_ NB434_433.out _; (with_reducible repeat first | refine bN ?_ _ | refine bD ?_ | refine bA ?_ _); refine blk_far ?_ NB434_433.out _; (with_reducible repeat first | refine bN ?_ _ | refine bD ?_ | refine bA ?_ _); refine blk_far ?_ NB434_433.out _; (with_reducible repeat first | refine bN ?_ _ | refine bD ?_ | refine bA ?_ _); exact BK434.out) hb); replace HB := Aside0.mk (below_step (by repeat (first | (with_reducible first | exact HB.out | apply bL | apply bM | apply bR | refine bS ?_ GE433.out | refine bS ?_ GE434.out) | exact HB.out)) hb); (try clear hb); (try clear hk); obtain ⟨hcz30_0, hcz30_1, hcz30_2, hfz30_0, hfz30_1, hfz30_2⟩ := d3 BK433; have hcz31_0 : w29.cell? ⟨gb434, 0, none⟩ = some (.int .i64 t431) := bC BK434 0 rfl; have hcz31_1 : w29.cell? ⟨gb434, 1, none⟩ = some (.int .i64 t432) := bC BK434 1 rfl; have hfz31_0 := bF BK434 0; have hfz31_1 := bF BK434 1) | ((with_reducible refine gate_callee (f := 14) rfl ?_); refine goesL_ (some 35) rfl rfl Tryd.func14 (by kernel_rfl) rfl #[.slice Ao28 x5_1.length co28, .agg #[.int .i64 t427, .int .i64 t428, .int .i64 t429], .agg #[.int .i64 t431, .int .i64 t432]] rfl (by (try simp only [mA]); first | done | rfl) ?_; (with_reducible refine (clusterlocksref10_Set.calls k1 _ _ x5_1 t427 t428 t429 t431 t432 t436 _ ?side1 ?side2 A10.out).mono ?_); (case side1 => repeat (first | exact (Kd.R_reads' HO_5.out).2.2 | (with_reducible refine Kd.C_alloc ?_ _) | (with_reducible refine Kd.C_drewN ?_ _) | (with_reducible refine Kd.C_drew ?_))); (case side2 => exact (Kd.R_reads' HO_5.out).2.1); rintro e w32 ⟨v437, rfl, ho0, hb⟩; refine ⟨_, rfl, ?_⟩; have HO438 := Aside0.mk (Kd.R_lower (Kd.R_new' ho0 (Kd.R_lt (by (with_reducible repeat (first | apply Kd.R_alloc | apply Kd.R_drewN | apply Kd.R_drew)); exact HO_5.out))) (below_size (by repeat (first | (with_reducible first | exact HB.out | apply bL | apply bM | apply bR | refine bS ?_ GE433.out | refine bS ?_ GE434.out) | exact HB.out)))); replace HO_5 := Aside0.mk (Kd.R_elder' (by (with_reducible repeat (first | apply Kd.R_alloc | apply Kd.R_drewN | apply Kd.R_drew)); exact HO_5.out) (Kd.R_base ho0) hb); replace BK425 := bK BK425 hb; replace BK433 := bK BK433 hb; replace BK434 := bK BK434 hb; replace HB := Aside0.mk (below_step (by repeat (first | (with_reducible first | exact HB.out | apply bL | apply bM | apply bR | refine bS ?_ GE433.out | refine bS ?_ GE434.out) | exact HB.out)) hb); (try clear hb); (try clear hk); (try clear ho0)))
      go_roundg k1
      case measure => have := HK1.out; omega
      case rel => exact ⟨(t436), (wrap64 (x6_1 + 1)), (by first | rfl | (simp; done) | (simp [*]; done)), H', ⟨by have := HK1.out; omega⟩, ⟨by (with_reducible repeat (first | apply Kd.R_alloc | apply Kd.R_drewN | apply Kd.R_drew)); exact Kd.R_mono HO438.out (fun _ hk => trivial)⟩, ⟨by (with_reducible repeat first | refine bN ?_ _ | refine bD ?_ | refine bA ?_ _); exact BK425.out⟩, ⟨by repeat (first | (with_reducible first | exact HB.out | apply bL | apply bM | apply bR | refine bS ?_ GE433.out | refine bS ?_ GE434.out) | exact HB.out)⟩⟩
     ·replace c9 := Bool.eq_false_iff.mpr c9
      subst c9
      rw [if_neg (show ¬ (false = true) by decide)] at H
      have H' := Aside0.mk H
      clear H
      try go_wp2_with (first | ((with_reducible refine gate_callee (f := 16) rfl ?_); refine goesL_ (some 31) rfl rfl Tryd.func16 (by kernel_rfl) rfl #[.agg #[.string a0_0, .int .i64 a0_1, .int .i64 a0_2, .int .i64 a0_3], .slice Ao28 x5_1.length co28, .agg #[.int .i64 t427, .int .i64 t428, .int .i64 t429], .agg #[.int .i64 t431, .int .i64 t432]] rfl (by (try simp only [mA]); first | done | rfl) ?_; (with_reducible refine (clusterlocksref10_Room.calls k1 a0_0 a0_1 a0_2 a0_3 _ _ x5_1 t427 t428 t429 t431 t432 false _ ?side1 ?side2 A8.out).mono ?_); (case side1 => refine (Kd.R_reads' (e := 53) (base := w.heap.size) (ok := fun k_ => True) (n := x5_1.length) (c := co28) ?_).2.2; exact (by (with_reducible repeat (first | apply Kd.R_alloc | apply Kd.R_drewN | apply Kd.R_drew)); exact (Kd.R_mono (Kd.R_mono (Kd.R_far (p := ⟨gb434, 1, none⟩) (Kd.R_far (p := ⟨gb434, 0, none⟩) (Kd.R_far (p := ⟨gb433, 2, none⟩) (Kd.R_far (p := ⟨gb433, 1, none⟩) (Kd.R_far (p := ⟨gb433, 0, none⟩) (Kd.R_types (Kd.R_types HO_5.out BK433.out (by decide)) BK434.out (by decide)) (fun _ hk => hk.1.2) (.int .i64 t427)) (fun _ hk => hk.1.2) (.int .i64 t428)) (fun _ hk => hk.1.2) (.int .i64 t429)) (fun _ hk => hk.2) (.int .i64 t431)) (fun _ hk => hk.2) (.int .i64 t432)) (fun _ h_ => h_.1)) (fun _ h_ => h_.1)))); (case side2 => exact (Kd.R_reads' HO_5.out).2.1); rintro e w51 ⟨rfl, hb⟩; refine ⟨_, rfl, ?_⟩; replace HO_5 := Aside0.mk (Kd.R_below (by (with_reducible repeat (first | apply Kd.R_alloc | apply Kd.R_drewN | apply Kd.R_drew)); exact (Kd.R_mono (Kd.R_mono (Kd.R_far (p := ⟨gb434, 1, none⟩) (Kd.R_far (p := ⟨gb434, 0, none⟩) (Kd.R_far (p := ⟨gb433, 2, none⟩) (Kd.R_far (p := ⟨gb433, 1, none⟩) (Kd.R_far (p := ⟨gb433, 0, none⟩) (Kd.R_types (Kd.R_types HO_5.out BK433.out (by decide)) BK434.out (by decide)) (fun _ hk => hk.1.2) (.int .i64 t427)) (fun _ hk => hk.1.2) (.int .i64 t428)) (fun _ hk => hk.1.2) (.int .i64 t429)) (fun _ hk => hk.2) (.int .i64 t431)) (fun _ hk => hk.2) (.int .i64 t432)) (fun _ h_ => h_.1)) (fun _ h_ => h_.1))) hb); replace BK425 := Aside0.mk (blk_below (g := gb425) (o := .cells #[.string a0_0, .int .i64 a0_1, .int .i64 a0_2, .int .i64 a0_3] 32 (0, 0)) (by (with_reducible repeat first | refine bN ?_ _ | refine bD ?_ | refine bA ?_ _); refine blk_far ?_ NB425_434.out _; (with_reducible repeat first | refine bN ?_ _ | refine bD ?_ | refine bA ?_ _); refine blk_far ?_ NB425_434.out _; (with_reducible repeat first | refine bN ?_ _ | refine bD ?_ | refine bA ?_ _); refine blk_far ?_ NB425_433.out _; (with_reducible repeat first | refine bN ?_ _ | refine bD ?_ | refine bA ?_ _); refine blk_far ?_ NB425_433.out _; (with_reducible repeat first | refine bN ?_ _ | refine bD ?_ | refine bA ?_ _); refine blk_far ?_ NB425_433.out _; (with_reducible repeat first | refine bN ?_ _ | refine bD ?_ | refine bA ?_ _); exact BK425.out) hb); replace BK433 := Aside0.mk (blk_below (g := gb433) (o := .cells #[.int .i64 t427, .int .i64 t428, .int .i64 t429] 24 (0, 0)) (by (with_reducible repeat first | refine bN ?_ _ | refine bD ?_ | refine bA ?_ _); refine blk_far ?_ NB433_434.out _; (with_reducible repeat first | refine bN ?_ _ | refine bD ?_ | refine bA ?_ _); refine blk_far ?_ NB433_434.out _; (with_reducible repeat first | refine bN ?_ _ | refine bD ?_ | refine bA ?_ _); refine blk_put (cs := #[.int .i64 t427, .int .i64 t428, .int .i64 0]) ?_ 2 _ rfl; (with_reducible repeat first | refine bN ?_ _ | refine bD ?_ | refine bA ?_ _); refine blk_put (cs := #[.int .i64 t427, .int .i64 0, .int .i64 0]) ?_ 1 _ rfl; (with_reducible repeat first | refine bN ?_ _ | refine bD ?_ | refine bA ?_ _); refine blk_put (cs := #[.int .i64 0, .int .i64 0, .int .i64 0]) ?_ 0 _ rfl; (with_reducible repeat first | refine bN ?_ _ | refine bD ?_ | refine bA ?_ _); exact BK433.out) hb); replace BK434 := Aside0.mk (blk_below (g := gb434) (o := .cells #[.int .i64 t431, .int .i64 t432] 26 (0, 0)) (by (with_reducible repeat first | refine bN ?_ _ | refine bD ?_ | refine bA ?_ _); refine blk_put (cs := #[.int .i64 t431, .int .i64 0]) ?_ 1 _ rfl; (with_reducible repeat first | refine bN ?_ _ | refine bD ?_ | refine bA ?_ _); refine blk_put (cs := #[.int .i64 0, .int .i64 0]) ?_ 0 _ rfl; (with_reducible repeat first | refine bN ?_ _ | refine bD ?_ | refine bA ?_ _); refine blk_far ?_ NB434_433.out _; (with_reducible repeat first | refine bN ?_ _ | refine bD ?_ | refine bA ?_ _); refine blk_far ?_ NB434_433.out _; (with_reducible repeat first | refine bN ?_ _ | refine bD ?_ | refine bA ?_ _); refine blk_far ?_ NB434_433.out _; (with_reducible repeat first | refine bN ?_ _ | refine bD ?_ | refine bA ?_ _); exact BK434.out) hb); replace HB := Aside0.mk (below_step (by repeat (first | (with_reducible first | exact HB.out | apply bL | apply bM | apply bR | refine bS ?_ GE433.out | refine bS ?_ GE434.out) | exact HB.out)) hb); (try clear hb); (try clear hk)))
      go_roundg k1
      case measure => have := HK1.out; omega
      case rel => exact ⟨(x5_1), (wrap64 (x6_1 + 1)), (by first | rfl | (simp; done) | (simp [*]; done)), H', ⟨by have := HK1.out; omega⟩, ⟨by (with_reducible repeat (first | apply Kd.R_alloc | apply Kd.R_drewN | apply Kd.R_drew)); exact HO_5.out⟩, ⟨by (with_reducible repeat first | refine bN ?_ _ | refine bD ?_ | refine bA ?_ _); exact BK425.out⟩, ⟨by repeat (first | (with_reducible first | exact HB.out | apply bL | apply bM | apply bR | refine bS ?_ GE433.out | refine bS ?_ GE434.out) | exact HB.out)⟩⟩
    ·rw [if_neg c5] at H
     exact absurd H (by simp)
   ·rw [if_neg c4] at H
    have c4b0 : decide (x6_1 < (l1.length : Int)) = false := decide_eq_false c4
    clear c4
    obtain rfl := Option.some.inj H
    go_wp2
    go_ret
    exact ⟨_, by first | rfl | (simp [errW_none, errW_some] <;> rfl) | (simp [*, errW_none, errW_some] <;> rfl), by (with_reducible repeat (first | apply Kd.R_alloc | apply Kd.R_drewN | apply Kd.R_drew)); exact HO_5.out, by repeat (first | (with_reducible first | exact HB.out | apply bL | apply bM | apply bR) | exact HB.out)⟩
end Go.Proofs.YtnmemkphfgdplaaDoor.PA
