-- Printed by wip/tool/myprint.py for this claim; Lean checks it.
import Derived.Test.YtbiapfjhdggkpaaDoorPAx0
import Derived.Test.YtbiapfjhdggkpaaDoorPAx2
import Derived.Test.YtbiapfjhdggkpaaDoorSlim
namespace Go.Proofs.YtbiapfjhdggkpaaDoor.PA
open Go.RowKit Go.Proofs.YtbiapfjhdggkpaaDoorW.PrintWords Go.Proofs.YtbiapfjhdggkpaaDoorW.PrintLast Go.Proofs.YtbiapfjhdggkpaaDoorW.PrintMore
attribute [local go_sem] max2_int min2_int max_two min_two max_three min_three max_four min_four   -- for this text's walks alone
set_option linter.unusedVariables false
set_option linter.unusedSimpArgs false
abbrev q3_0 : Array Bool := #[F,F,F,F,F,F,F,F,F,F,F,F,F,F,F,F,F,F]
abbrev q3_1 : Array Bool := #[T,F,F,F,F,F,F,F,F,F,F,F,F,F,F,F,F,F]
abbrev q3_2 : Array Bool := #[T,T,F,F,F,F,F,F,F,F,F,F,F,F,F,F,F,F]
abbrev q3_3 : Array Bool := #[T,T,T,F,F,F,F,F,F,F,F,F,F,F,F,F,F,F]
abbrev q3_4 : Array Bool := #[T,T,T,T,F,F,F,F,F,F,F,F,F,F,F,F,F,F]
abbrev q3_5 : Array Bool := #[T,T,T,T,T,F,F,F,F,F,F,F,F,F,F,F,F,F]
abbrev q3_6 : Array Bool := #[T,T,T,T,T,T,F,F,F,F,F,F,F,F,F,F,F,F]
abbrev q3_7 : Array Bool := #[T,T,T,T,T,T,T,F,F,F,F,F,F,F,F,F,F,F]
abbrev q3_8 : Array Bool := #[T,T,T,T,T,T,T,T,F,F,F,F,F,F,F,F,F,F]
abbrev q3_9 : Array Bool := #[T,T,T,T,T,T,T,T,T,F,F,F,F,F,F,F,F,F]
abbrev q3_10 : Array Bool := #[T,T,T,T,T,T,T,T,T,T,F,F,F,F,F,F,F,F]
abbrev q3_11 : Array Bool := #[T,T,T,T,T,T,T,T,T,T,T,F,F,F,F,F,F,F]
abbrev q3_12 : Array Bool := #[T,T,T,T,T,T,T,T,T,T,T,T,F,F,F,F,F,F]
abbrev q3_13 : Array Bool := #[T,T,T,T,T,T,T,T,T,T,T,T,T,T,F,F,F,F]
abbrev q3_14 : Array Bool := #[T,T,T,T,T,T,T,T,T,T,T,T,T,T,T,F,F,F]
abbrev q3_15 : Array Bool := #[T,T,T,T,T,T,T,T,T,T,T,T,T,T,T,T,F,F]
abbrev q3_16 : Array Bool := #[T,T,T,T,T,T,T,T,T,T,T,T,T,T,T,T,T,F]
abbrev q3_17 : Array Bool := #[T,T,T,T,T,T,T,T,T,T,T,T,T,T,T,T,T,T]

/-! ### catalog_Valid: function 20 -/
def catalog_Valid.l0 : Nat → List (S26) → List (S26) → Int → Int → Option (Bool)
 | 0, _, _, _, _ => none
 | k + 1, x0, x8, x9, x10 => if x10 < x9 then (if 0 ≤ x10 then (if x10 < (x8.length : Int) then ((catalog_ValidResource.f k ((rd_T26 x8 x10).f0) ((rd_T26 x8 x10).f1) ((rd_T26 x8 x10).f2) ((rd_T26 x8 x10).f3)).bind fun t108 => (if t108 = true then (if x10 > 0 then (if 0 ≤ (wrap64 (x10 - 1)) then (if (wrap64 (x10 - 1)) < (x0.length : Int) then (if ((Op.bytesLess (((rd_T26 x0 (wrap64 (x10 - 1))).f0).toList) (((rd_T26 x8 x10).f0).toList)) = true) then (catalog_Valid.l0 k x0 x8 x9 (wrap64 (x10 + 1))) else (some false)) else (none)) else (none)) else (catalog_Valid.l0 k x0 x8 x9 (wrap64 (x10 + 1)))) else (some false))) else (none)) else (none)) else (some true)
def catalog_Valid.f (k : Nat) (l0 : List (S26)) : Option (Bool) := if (l0.length : Int) > 8 then (some false) else (catalog_Valid.l0 k l0 l0 (l0.length : Int) 0)
theorem catalog_Valid.mono_l : ∀ k, (∀ y0 y1 y2 y3, LeO (catalog_Valid.l0 k y0 y1 y2 y3) (catalog_Valid.l0 (k + 1) y0 y1 y2 y3))
 | 0 => fun _ _ _ _ r h => by simp [catalog_Valid.l0] at h
 | k + 1 => by
  have ih0 := catalog_Valid.mono_l k
  ·intro y0 y1 y2 y3
   unfold catalog_Valid.l0
   repeat' first
   | (with_reducible exact ih0 _ _ _ _)
   | (with_reducible exact catalog_ValidResource.mono _ _ _ _ _)
   | (with_reducible exact LeO.refl _)
   | (with_reducible exact LeO.none _)
   | (with_reducible refine LeO.ite ?_ ?_)
   | (with_reducible refine LeO.bind ?_ (fun _ => ?_))
   | exact ih0 _ _ _ _
   | exact catalog_ValidResource.mono _ _ _ _ _
   | exact LeO.none _
   | refine LeO.ite ?_ ?_
   | refine LeO.bind ?_ (fun _ => ?_)
theorem catalog_Valid.mono : ∀ a0 k, LeO (catalog_Valid.f k a0) (catalog_Valid.f (k + 1) a0) := by
 intro a0 k
 have ih0 := catalog_Valid.mono_l k
 unfold catalog_Valid.f
 repeat' first
   | (with_reducible exact ih0 _ _ _ _)
   | (with_reducible exact catalog_ValidResource.mono _ _ _ _ _)
   | (with_reducible exact LeO.refl _)
   | (with_reducible exact LeO.none _)
   | (with_reducible refine LeO.ite ?_ ?_)
   | (with_reducible refine LeO.bind ?_ (fun _ => ?_))
   | exact ih0 _ _ _ _
   | exact catalog_ValidResource.mono _ _ _ _ _
   | exact LeO.none _
   | refine LeO.ite ?_ ?_
   | refine LeO.bind ?_ (fun _ => ?_)
def catalog_Valid.T6 : Bool × List (List Nat × List Nat) := (true, [([], []), ([0], [0]), ([1], [1]), ([2, 1], [2]), ([3], [3]), ([4, 3], [3, 4]), ([5, 3, 3], [3, 5]), ([6], [6]), ([6], [6]), ([8, 6], [6, 8]), ([7, 9, 6], [6, 7, 9]), ([10, 6], [6, 10]), ([11, 6], [6, 11]), ([6], [6]), ([13, 6], [6, 13]), ([12, 14, 6], [6, 12, 14]), ([6, 15, 3], [3, 6, 15]), ([3, 16], [3, 16])])
def catalog_Valid.B6 : List Nat := [0, 1, 3, 7, 15, 31, 63, 127, 127, 383, 1023, 2047, 4095, 127, 8319, 32767, 65535, 131071]
theorem catalog_Valid.tab6 : rtab .any (opsOf Tryd.f20 6) = catalog_Valid.T6 := by kernel_rfl
theorem catalog_Valid.bits6 : waitsOk catalog_Valid.T6.2 catalog_Valid.B6 = true := by kernel_rfl
set_option maxHeartbeats 8000000 in
set_option maxRecDepth 100000 in
theorem catalog_Valid.calls (k : Nat) (A0 : Option Addr) (c0 : Nat) (l0 : List (S26)) (r : Bool) (w : World) (hr0 : Kd.C k26 w A0 l0.length l0) (hc0 : l0.length ≤ c0) (h : catalog_Valid.f k l0 = some r) :
  Calls Tryd.prog 20 #[.slice A0 l0.length c0] w fun e w' => e = .returned (.bool r) ∧ Below w.heap.size w w' := by
 have hu26 := Tryd.underlying26
 have HR0 := Aside0.mk hr0
 have HC0 := Aside0.mk hc0
 clear hr0 hc0
 have HB := Aside0.mk (Below.refl w.heap.size w)
 have H : (if (l0.length : Int) > 8 then (some false) else (catalog_Valid.l0 k l0 l0 (l0.length : Int) 0)) = some r := h
 clear h
 by_cases c2 : (l0.length : Int) > 8
 ·rw [if_pos c2] at H
  have c2b0 : decide (8 < (l0.length : Int)) = true := decide_eq_true c2
  have c2b1 : decide (8 < l0.length) = true := decide_eq_true (by omega)
  clear c2
  obtain rfl := Option.some.inj H
  go_enter Tryd.func20, Tryd.ntmps20
  go_wp2
  go_ret
  exact ⟨by first | rfl | (simp [errW_none, errW_some] <;> rfl) | (simp [*, errW_none, errW_some] <;> rfl), (uS HB)⟩
 ·rw [if_neg c2] at H
  have c2b0 : decide (8 < (l0.length : Int)) = false := decide_eq_false c2
  have c2b1 : decide (8 < l0.length) = false := decide_eq_false (by omega)
  clear c2
  have H' := Aside0.mk H
  clear H
  go_enter Tryd.func20, Tryd.ntmps20
  go_wp2
  go_loopg [10] k (fun kq v10 w' => ∃ (x10_1 : Int), v10 = .int .i64 x10_1 ∧ Aside0 (catalog_Valid.l0 kq l0 l0 (l0.length : Int) x10_1 = some r) ∧ Aside0 (kq ≤ k) ∧ Aside0 (Below w.heap.size w w'))
  case atStart => exact ⟨(0), (by first | rfl | (simp; done) | (simp [*]; done)), H', ⟨Nat.le_refl _⟩, ⟨(uS HB)⟩⟩
  case round =>
   clear H'
   try clear c2
   try clear c2b0
   try clear c2b1
   try clear p2
   obtain ⟨x10_1, rfl, HA, HK1, HB⟩ := hrel
   cases gk with
   | zero => exact absurd HA.out (by simp [catalog_Valid.l0])
   | succ k1 =>
    have H := HA.out
    clear HA
    simp only [catalog_Valid.l0] at H
    by_cases c3 : x10_1 < (l0.length : Int)
    ·rw [if_pos c3] at H
     have c3b0 : decide (x10_1 < (l0.length : Int)) = true := decide_eq_true c3
     clear c3
     by_cases c4 : 0 ≤ x10_1
     ·rw [if_pos c4] at H
      have c4b0 : decide (0 ≤ x10_1) = true := decide_eq_true c4
      clear c4
      have HH_ := Aside0.mk H
      clear H
      have p106 : 0 ≤ (x10_1 : Int) := of_decide_eq_true (by first | (with_reducible assumption) | assumption)
      have H := HH_.out
      clear HH_
      by_cases c5 : x10_1 < (l0.length : Int)
      ·rw [if_pos c5] at H
       have c5b0 : decide (x10_1 < (l0.length : Int)) = true := decide_eq_true c5
       clear c5
       obtain ⟨t108, A60, H⟩ := Option.bind_eq_some_iff.mp H
       have A6 := Aside0.mk A60; clear A60
       (try simp only [c5b0])
       have HH_ := Aside0.mk H
       clear H
       have q106 : x10_1 < (l0.length : Int) := of_decide_eq_true (by first | (with_reducible assumption) | assumption)
       obtain ⟨ad106, e106, hx106_0, hx106_1, hx106_2, hx106_3⟩ := at_T26 HR0.out x10_1 p106 q106
       cases e106
       replace hx106_0 := kC HB hx106_0
       replace hx106_1 := kC HB hx106_1
       replace hx106_2 := kC HB hx106_2
       replace hx106_3 := kC HB hx106_3
       replace p106 := eq_true p106
       replace q106 := eq_true q106
       try go_wp2_with (first | ((with_reducible refine gate_dst (N := 4) rfl ?_); refine box_event ?hg (N := 4) ?hd (cs := #[.string (⟨#[]⟩ : ByteArray), .int .i64 0, .int .i64 0, .int .i64 0]) (t := 26) ?hr ?_; (case hd => rfl); (case hg => rfl); (case hr => first | (go_simp; done) | (go_simp; rfl)); intro gb107 hg w13 hbox hb; have BK107 := Aside0.mk hbox; have GW107 := gE HB hg; replace HB := bB HB hb; have GE107 := GW107; clear hb hbox hg; have hcz14_0 : w13.cell? ⟨gb107, 0, none⟩ = some (.string (⟨#[]⟩ : ByteArray)) := bC BK107 0 rfl; have hcz14_1 : w13.cell? ⟨gb107, 1, none⟩ = some (.int .i64 0) := bC BK107 1 rfl; have hcz14_2 : w13.cell? ⟨gb107, 2, none⟩ = some (.int .i64 0) := bC BK107 2 rfl; have hcz14_3 : w13.cell? ⟨gb107, 3, none⟩ = some (.int .i64 0) := bC BK107 3 rfl; have hfz14_0 := bF BK107 0; have hfz14_1 := bF BK107 1; have hfz14_2 := bF BK107 2; have hfz14_3 := bF BK107 3))
       have n0_ : Aside0 (((((w13.setCell ⟨gb107, 0, none⟩ (.string ((rd_T26 l0 x10_1).f0))).setCell ⟨gb107, 1, none⟩ (.int .i64 ((rd_T26 l0 x10_1).f1))).setCell ⟨gb107, 2, none⟩ (.int .i64 ((rd_T26 l0 x10_1).f2))).setCell ⟨gb107, 3, none⟩ (.int .i64 ((rd_T26 l0 x10_1).f3))).heap[gb107]? = some (.cells #[.string ((rd_T26 l0 x10_1).f0), .int .i64 ((rd_T26 l0 x10_1).f1), .int .i64 ((rd_T26 l0 x10_1).f2), .int .i64 ((rd_T26 l0 x10_1).f3)] 26 (0, 0))) := ⟨by (with_reducible repeat first | refine bN ?_ _ | refine bD ?_ | refine bA ?_ _); refine blk_put (cs := #[.string ((rd_T26 l0 x10_1).f0), .int .i64 ((rd_T26 l0 x10_1).f1), .int .i64 ((rd_T26 l0 x10_1).f2), .int .i64 0]) ?_ 3 _ rfl; (with_reducible repeat first | refine bN ?_ _ | refine bD ?_ | refine bA ?_ _); refine blk_put (cs := #[.string ((rd_T26 l0 x10_1).f0), .int .i64 ((rd_T26 l0 x10_1).f1), .int .i64 0, .int .i64 0]) ?_ 2 _ rfl; (with_reducible repeat first | refine bN ?_ _ | refine bD ?_ | refine bA ?_ _); refine blk_put (cs := #[.string ((rd_T26 l0 x10_1).f0), .int .i64 0, .int .i64 0, .int .i64 0]) ?_ 1 _ rfl; (with_reducible repeat first | refine bN ?_ _ | refine bD ?_ | refine bA ?_ _); refine blk_put (cs := #[.string (⟨#[]⟩ : ByteArray), .int .i64 0, .int .i64 0, .int .i64 0]) ?_ 0 _ rfl; (with_reducible repeat first | refine bN ?_ _ | refine bD ?_ | refine bA ?_ _); exact BK107.out⟩
       have n1_ : Aside0 (Below w.heap.size w ((((w13.setCell ⟨gb107, 0, none⟩ (.string ((rd_T26 l0 x10_1).f0))).setCell ⟨gb107, 1, none⟩ (.int .i64 ((rd_T26 l0 x10_1).f1))).setCell ⟨gb107, 2, none⟩ (.int .i64 ((rd_T26 l0 x10_1).f2))).setCell ⟨gb107, 3, none⟩ (.int .i64 ((rd_T26 l0 x10_1).f3)))) := ⟨(haveI := gI GE107; uS HB)⟩
       (try clear BK107)
       (try clear HB)
       generalize ((((w13.setCell ⟨gb107, 0, none⟩ (.string ((rd_T26 l0 x10_1).f0))).setCell ⟨gb107, 1, none⟩ (.int .i64 ((rd_T26 l0 x10_1).f1))).setCell ⟨gb107, 2, none⟩ (.int .i64 ((rd_T26 l0 x10_1).f2))).setCell ⟨gb107, 3, none⟩ (.int .i64 ((rd_T26 l0 x10_1).f3))) = w15 at n0_ n1_ ⊢
       have BK107 := n0_
       have HB := n1_
       clear n0_ n1_
       replace BK107 := Aside0.mk (blk_drew BK107.out)
       replace HB := Aside0.mk (below_drew1 HB.out)
       have H := HH_.out
       clear HH_
       by_cases c7 : t108 = true
       ·subst c7
        rw [if_pos rfl] at H
        by_cases c8 : x10_1 > 0
        ·rw [if_pos c8] at H
         have c8b0 : decide (0 < x10_1) = true := decide_eq_true c8
         clear c8
         obtain ⟨ji9, hji9⟩ : ∃ j_ : Int, (wrap64 (x10_1 - 1)) = j_ := ⟨_, rfl⟩
         replace H : (if 0 ≤ (ji9) then (if (ji9) < (l0.length : Int) then (if ((Op.bytesLess (((rd_T26 l0 (ji9)).f0).toList) (((rd_T26 l0 x10_1).f0).toList)) = true) then (catalog_Valid.l0 k1 l0 l0 (l0.length : Int) (wrap64 (x10_1 + 1))) else (some false)) else (none)) else (none)) = some r := by first | (rw [hji9] at H; exact H) | (simp only [hji9] at H ⊢; exact H)
         (try rw [hji9] at A6)
         have hji9w : (IntKind.i64.wrap (x10_1 - 1)) = ji9 := (i64_w _).trans hji9
         (try simp only [c8b0])
         by_cases c10 : 0 ≤ (ji9)
         ·rw [if_pos c10] at H
          have c10b0 : decide (0 ≤ (ji9)) = true := decide_eq_true c10
          clear c10
          (try simp only [c10b0])
          have HH_ := Aside0.mk H
          clear H
          have p109 : 0 ≤ ((ji9) : Int) := of_decide_eq_true (by first | (with_reducible assumption) | assumption)
          have H := HH_.out
          clear HH_
          by_cases c11 : (ji9) < (l0.length : Int)
          ·rw [if_pos c11] at H
           have c11b0 : decide ((ji9) < (l0.length : Int)) = true := decide_eq_true c11
           clear c11
           (try simp only [c11b0])
           have HH_ := Aside0.mk H
           clear H
           have q109 : (ji9) < (l0.length : Int) := of_decide_eq_true (by first | (with_reducible assumption) | assumption)
           obtain ⟨ad109, e109, hx109_0, hx109_1, hx109_2, hx109_3⟩ := at_T26 HR0.out (ji9) p109 q109
           have hw109_3 := hx109_3
           have hw109_2 := hx109_2
           have hw109_1 := hx109_1
           have hw109_0 := hx109_0
           obtain rfl : ad106 = ad109 := (by injection e109)
           replace hx109_0 := kC HB hx109_0
           replace hx109_1 := kC HB hx109_1
           replace hx109_2 := kC HB hx109_2
           replace hx109_3 := kC HB hx109_3
           replace p109 := eq_true p109
           replace q109 := eq_true q109
           refine start_ (n := 18) (S := fun w' => w'.cell? ⟨gb107, 0, none⟩ = some (.string ((rd_T26 l0 x10_1).f0)) ∧ w'.cell? ⟨gb107, 1, none⟩ = some (.int .i64 ((rd_T26 l0 x10_1).f1)) ∧ w'.cell? ⟨gb107, 2, none⟩ = some (.int .i64 ((rd_T26 l0 x10_1).f2)) ∧ w'.cell? ⟨gb107, 3, none⟩ = some (.int .i64 ((rd_T26 l0 x10_1).f3)) ∧ w'.cell? (ad106.add (((ji9)).toNat * 4)) = some (.string ((rd_T26 l0 (ji9)).f0)) ∧ w'.cell? ⟨(ad106.add (((ji9)).toNat * 4)).block, (ad106.add (((ji9)).toNat * 4)).off + 1, none⟩ = some (.int .i64 ((rd_T26 l0 (ji9)).f1)) ∧ w'.cell? ⟨(ad106.add (((ji9)).toNat * 4)).block, (ad106.add (((ji9)).toNat * 4)).off + 2, none⟩ = some (.int .i64 ((rd_T26 l0 (ji9)).f2)) ∧ w'.cell? ⟨(ad106.add (((ji9)).toNat * 4)).block, (ad106.add (((ji9)).toNat * 4)).off + 3, none⟩ = some (.int .i64 ((rd_T26 l0 (ji9)).f3))) (ds := []) q3_0 (by kernel_rfl) rfl rfl ⟨bC BK107 0 rfl, bC BK107 1 rfl, bC BK107 2 rfl, bC BK107 3 rfl, (kC HB hw109_0), (kC HB hw109_1), (kC HB hw109_2), (kC HB hw109_3)⟩ (fun hHeld => ?_); refine with_tabW catalog_Valid.tab6 catalog_Valid.bits6 (fun HT_ HW_ => ?_)
           generalize w15.drew = w16 at BK107 HB hx109_0 hx109_1 hx109_2 hx109_3 hHeld ⊢
           refine tk HT_ HW_ 0 15 q3_1 rfl rfl (by kernel_rfl) (fun _ _ _ => id) (.inl ⟨by rfl, by rintro w' ⟨s0, s1, s2, s3, s4, s5, s6, s7⟩; go_simp; with_reducible rfl⟩) hHeld (by simp only [sP]; rfl) ?_
           refine one_ (i := 1) (N := some 16) q3_2 rfl rfl (one_of HT_.out (by kernel_rfl)) (by decide) (fun K hK => ?_)
           refine goes_ Tryd.func18 (by kernel_rfl) rfl #[.agg #[.string ((rd_T26 l0 x10_1).f0), .int .i64 ((rd_T26 l0 x10_1).f1), .int .i64 ((rd_T26 l0 x10_1).f2), .int .i64 ((rd_T26 l0 x10_1).f3)]] (by rfl) rfl rfl (by (try simp only [mA]); first | done | rfl) ?_
           with_reducible refine (catalog_ValidResource.calls k1 ((rd_T26 l0 x10_1).f0) ((rd_T26 l0 x10_1).f1) ((rd_T26 l0 x10_1).f2) ((rd_T26 l0 x10_1).f3) true _ A6.out).mono ?_
           rintro e w17 ⟨rfl, hb⟩
           refine ⟨_, rfl, ?_⟩
           replace BK107 := bK BK107 hb
           replace HB := (haveI := gI GE107; bT HB hb)
           (try clear hb)
           refine hK.out _ _ ⟨bC BK107 0 rfl, bC BK107 1 rfl, bC BK107 2 rfl, bC BK107 3 rfl, (kC HB hw109_0), (kC HB hw109_1), (kC HB hw109_2), (kC HB hw109_3)⟩ (fun hHeld => ?_)
           clear hK K
           refine norm_ (a' := ?_) ?_ ?_
           rotate_left
           ·show Act.put _ (some 16) _ = _
            simp only [sP]
            rfl
           refine pu HT_ 2 17 q3_3 rfl rfl (by kernel_rfl) (fun _ _ _ => id) (.inl ⟨by rfl, by intro w'; go_simp; with_reducible rfl⟩) (by simp only [sP]; rfl) ?_
           refine pu HT_ 3 18 q3_4 rfl rfl (by kernel_rfl) (fun _ _ _ => id) (.inl ⟨by rfl, by intro w'; go_simp; with_reducible rfl⟩) (by simp only [sP]; rfl) ?_
           refine pu HT_ 4 19 q3_5 rfl rfl (by kernel_rfl) (fun _ _ _ => id) (.inl ⟨by rfl, by intro w'; go_simp; with_reducible rfl⟩) (by simp only [sP]; rfl) ?_
           refine pu HT_ 5 20 q3_6 rfl rfl (by kernel_rfl) (fun _ _ _ => id) (.inl ⟨by rfl, by intro w'; go_simp; with_reducible rfl⟩) (by simp only [sP]; rfl) ?_
           refine pu HT_ 6 21 q3_7 rfl rfl (by kernel_rfl) (fun _ _ _ => id) (.inl ⟨by rfl, by intro w'; go_simp; with_reducible rfl⟩) (by simp only [sP]; rfl) ?_
           refine pu HT_ 7 22 q3_8 rfl rfl (by kernel_rfl) (fun _ _ _ => id) (.inl ⟨by rfl, by intro w'; go_simp; with_reducible rfl⟩) (by simp only [sP]; rfl) ?_
           refine pu HT_ 8 23 q3_9 rfl rfl (by kernel_rfl) (fun _ _ _ => id) (.inl ⟨by rfl, by intro w'; go_simp; with_reducible rfl⟩) (by simp only [sP]; rfl) ?_
           refine pu HT_ 9 24 q3_10 rfl rfl (by kernel_rfl) (fun _ _ _ => id) (.inl ⟨by rfl, by intro w'; go_simp; with_reducible rfl⟩) (by simp only [sP]; rfl) ?_
           refine pu HT_ 10 25 q3_11 rfl rfl (by kernel_rfl) (fun _ _ _ => id) (.inl ⟨by rfl, by intro w'; go_simp; with_reducible rfl⟩) (by simp only [sP]; rfl) ?_
           refine pu HT_ 11 26 q3_12 rfl rfl (by kernel_rfl) (fun _ _ _ => id) (.inl ⟨by rfl, by intro w'; go_simp; with_reducible rfl⟩) (by simp only [sP]; rfl) ?_
           refine pu HT_ 13 28 #[T,T,T,T,T,T,T,T,T,T,T,T,F,T,F,F,F,F] rfl rfl (by kernel_rfl) (fun _ _ _ => id) (.inl ⟨by rfl, by intro w'; go_simp; with_reducible rfl⟩) (by simp only [sP]; rfl) ?_
           refine tk HT_ HW_ 12 27 q3_13 rfl rfl (by kernel_rfl) (fun _ _ _ => id) (.inl ⟨by rfl, by rintro w' ⟨s0, s1, s2, s3, s4, s5, s6, s7⟩; go_simp; with_reducible rfl⟩) hHeld (by simp only [sP]; rfl) ?_
           refine tk HT_ HW_ 14 29 q3_14 rfl rfl (by kernel_rfl) (fun _ _ _ => id) (.inl ⟨by rfl, by rintro w' ⟨s0, s1, s2, s3, s4, s5, s6, s7⟩; go_simp; with_reducible rfl⟩) hHeld (by simp only [sP]; rfl) ?_
           refine pu HT_ 15 30 q3_15 rfl rfl (by kernel_rfl) (fun _ _ _ => id) (.inl ⟨by rfl, by intro w'; go_simp; with_reducible rfl⟩) (by simp only [sP]; rfl) ?_
           refine pu HT_ 16 31 q3_16 rfl rfl (by kernel_rfl) (fun _ _ _ => id) (.inl ⟨by rfl, by intro w'; go_simp; with_reducible rfl⟩) (by simp only [sP]; rfl) ?_
           refine pu HT_ 17 32 q3_17 rfl rfl (by kernel_rfl) (fun _ _ _ => id) (.inl ⟨by rfl, by intro w'; go_simp; with_reducible rfl⟩) (by simp only [sP]; rfl) ?_
           refine done_ (done_of HT_.out (by kernel_rfl)) ?_
           have H := HH_.out
           clear HH_
           by_cases c12 : ((Op.bytesLess (((rd_T26 l0 (ji9)).f0).toList) (((rd_T26 l0 x10_1).f0).toList)) = true)
           ·rw [if_pos c12] at H
            have c12b0 : (Op.bytesLess (((rd_T26 l0 (ji9)).f0).toList) (((rd_T26 l0 x10_1).f0).toList)) = true := c12
            clear c12
            have H' := Aside0.mk H
            clear H
            (try simp only [c12b0])
            try go_wp2
            go_roundg k1
            case measure => have := HK1.out; omega
            case rel => exact ⟨(wrap64 (x10_1 + 1)), (by first | rfl | (simp; done) | (simp [*]; done)), H', ⟨by have := HK1.out; omega⟩, ⟨(haveI := gI GE107; uS HB)⟩⟩
           ·rw [if_neg c12] at H
            have c12b0 : (Op.bytesLess (((rd_T26 l0 (ji9)).f0).toList) (((rd_T26 l0 x10_1).f0).toList)) = false := by simpa using c12
            clear c12
            obtain rfl := Option.some.inj H
            (try simp only [c12b0])
            try go_wp2
            go_ret
            exact ⟨by first | rfl | (simp [errW_none, errW_some] <;> rfl) | (simp only [← hji9]; first | rfl | (simp [errW_none, errW_some] <;> rfl)) | (simp [*, errW_none, errW_some] <;> rfl), (haveI := gI GE107; uS HB)⟩
          ·rw [if_neg c11] at H
           exact absurd H (by simp)
         ·rw [if_neg c10] at H
          exact absurd H (by simp)
        ·rw [if_neg c8] at H
         have c8b0 : decide (0 < x10_1) = false := decide_eq_false c8
         clear c8
         have H' := Aside0.mk H
         clear H
         (try simp only [c8b0])
         refine start_ (n := 18) (S := fun w' => w'.cell? ⟨gb107, 0, none⟩ = some (.string ((rd_T26 l0 x10_1).f0)) ∧ w'.cell? ⟨gb107, 1, none⟩ = some (.int .i64 ((rd_T26 l0 x10_1).f1)) ∧ w'.cell? ⟨gb107, 2, none⟩ = some (.int .i64 ((rd_T26 l0 x10_1).f2)) ∧ w'.cell? ⟨gb107, 3, none⟩ = some (.int .i64 ((rd_T26 l0 x10_1).f3))) (ds := []) q3_0 (by kernel_rfl) rfl rfl ⟨bC BK107 0 rfl, bC BK107 1 rfl, bC BK107 2 rfl, bC BK107 3 rfl⟩ (fun hHeld => ?_); refine with_tabW catalog_Valid.tab6 catalog_Valid.bits6 (fun HT_ HW_ => ?_)
         generalize w15.drew = w26 at BK107 HB hHeld ⊢
         refine tk HT_ HW_ 0 15 q3_1 rfl rfl (by kernel_rfl) (fun _ _ _ => id) (.inl ⟨by rfl, by rintro w' ⟨s0, s1, s2, s3⟩; go_simp; with_reducible rfl⟩) hHeld (by simp only [sP]; rfl) ?_
         refine one_ (i := 1) (N := some 16) q3_2 rfl rfl (one_of HT_.out (by kernel_rfl)) (by decide) (fun K hK => ?_)
         refine goes_ Tryd.func18 (by kernel_rfl) rfl #[.agg #[.string ((rd_T26 l0 x10_1).f0), .int .i64 ((rd_T26 l0 x10_1).f1), .int .i64 ((rd_T26 l0 x10_1).f2), .int .i64 ((rd_T26 l0 x10_1).f3)]] (by rfl) rfl rfl (by (try simp only [mA]); first | done | rfl) ?_
         with_reducible refine (catalog_ValidResource.calls k1 ((rd_T26 l0 x10_1).f0) ((rd_T26 l0 x10_1).f1) ((rd_T26 l0 x10_1).f2) ((rd_T26 l0 x10_1).f3) true _ A6.out).mono ?_
         rintro e w27 ⟨rfl, hb⟩
         refine ⟨_, rfl, ?_⟩
         replace BK107 := bK BK107 hb
         replace HB := (haveI := gI GE107; bT HB hb)
         (try clear hb)
         refine hK.out _ _ ⟨bC BK107 0 rfl, bC BK107 1 rfl, bC BK107 2 rfl, bC BK107 3 rfl⟩ (fun hHeld => ?_)
         clear hK K
         refine norm_ (a' := ?_) ?_ ?_
         rotate_left
         ·show Act.put _ (some 16) _ = _
          simp only [sP]
          rfl
         refine pu HT_ 2 17 q3_3 rfl rfl (by kernel_rfl) (fun _ _ _ => id) (.inl ⟨by rfl, by intro w'; go_simp; with_reducible rfl⟩) (by simp only [sP]; rfl) ?_
         refine pu HT_ 3 18 q3_4 rfl rfl (by kernel_rfl) (fun _ _ _ => id) (.inl ⟨by rfl, by intro w'; go_simp; with_reducible rfl⟩) (by simp only [sP]; rfl) ?_
         refine pu HT_ 4 19 q3_5 rfl rfl (by kernel_rfl) (fun _ _ _ => id) (.inl ⟨by rfl, by intro w'; go_simp; with_reducible rfl⟩) (by simp only [sP]; rfl) ?_
         refine pu HT_ 5 20 q3_6 rfl rfl (by kernel_rfl) (fun _ _ _ => id) (.inl ⟨by rfl, by intro w'; go_simp; with_reducible rfl⟩) (by simp only [sP]; rfl) ?_
         refine pu HT_ 6 21 q3_7 rfl rfl (by kernel_rfl) (fun _ _ _ => id) (.inl ⟨by rfl, by intro w'; go_simp; with_reducible rfl⟩) (by simp only [sP]; rfl) ?_
         refine pu HT_ 7 22 q3_8 rfl rfl (by kernel_rfl) (fun _ _ _ => id) (.inr ⟨by rfl, rfl⟩) (by simp only [sP]; rfl) ?_
         refine pu HT_ 8 23 q3_9 rfl rfl (by kernel_rfl) (fun _ _ _ => id) (.inr ⟨by rfl, rfl⟩) (by simp only [sP]; rfl) ?_
         refine pu HT_ 9 24 q3_10 rfl rfl (by kernel_rfl) (fun _ _ _ => id) (.inr ⟨by rfl, rfl⟩) (by simp only [sP]; rfl) ?_
         refine pu HT_ 10 25 q3_11 rfl rfl (by kernel_rfl) (fun _ _ _ => id) (.inr ⟨by rfl, rfl⟩) (by simp only [sP]; rfl) ?_
         refine pu HT_ 11 26 q3_12 rfl rfl (by kernel_rfl) (fun _ _ _ => id) (.inr ⟨by rfl, rfl⟩) (by simp only [sP]; rfl) ?_
         refine pu HT_ 12 27 #[T,T,T,T,T,T,T,T,T,T,T,T,T,F,F,F,F,F] rfl rfl (by kernel_rfl) (fun _ _ _ => id) (.inr ⟨by rfl, rfl⟩) (by simp only [sP]; rfl) ?_
         refine pu HT_ 13 28 q3_13 rfl rfl (by kernel_rfl) (fun _ _ _ => id) (.inr ⟨by rfl, rfl⟩) (by simp only [sP]; rfl) ?_
         refine pu HT_ 14 29 q3_14 rfl rfl (by kernel_rfl) (fun _ _ _ => id) (.inr ⟨by rfl, rfl⟩) (by simp only [sP]; rfl) ?_
         refine pu HT_ 15 30 q3_15 rfl rfl (by kernel_rfl) (fun _ _ _ => id) (.inr ⟨by rfl, rfl⟩) (by simp only [sP]; rfl) ?_
         refine pu HT_ 16 31 q3_16 rfl rfl (by kernel_rfl) (fun _ _ _ => id) (.inl ⟨by rfl, by intro w'; go_simp; with_reducible rfl⟩) (by simp only [sP]; rfl) ?_
         refine pu HT_ 17 32 q3_17 rfl rfl (by kernel_rfl) (fun _ _ _ => id) (.inl ⟨by rfl, by intro w'; go_simp; with_reducible rfl⟩) (by simp only [sP]; rfl) ?_
         refine done_ (done_of HT_.out (by kernel_rfl)) ?_
         try go_wp2
         go_roundg k1
         case measure => have := HK1.out; omega
         case rel => exact ⟨(wrap64 (x10_1 + 1)), (by first | rfl | (simp; done) | (simp [*]; done)), H', ⟨by have := HK1.out; omega⟩, ⟨(haveI := gI GE107; uS HB)⟩⟩
       ·replace c7 := Bool.eq_false_iff.mpr c7
        subst c7
        rw [if_neg (show ¬ (false = true) by decide)] at H
        obtain rfl := Option.some.inj H
        refine start_ (n := 18) (S := fun w' => w'.cell? ⟨gb107, 0, none⟩ = some (.string ((rd_T26 l0 x10_1).f0)) ∧ w'.cell? ⟨gb107, 1, none⟩ = some (.int .i64 ((rd_T26 l0 x10_1).f1)) ∧ w'.cell? ⟨gb107, 2, none⟩ = some (.int .i64 ((rd_T26 l0 x10_1).f2)) ∧ w'.cell? ⟨gb107, 3, none⟩ = some (.int .i64 ((rd_T26 l0 x10_1).f3))) (ds := []) q3_0 (by kernel_rfl) rfl rfl ⟨bC BK107 0 rfl, bC BK107 1 rfl, bC BK107 2 rfl, bC BK107 3 rfl⟩ (fun hHeld => ?_); refine with_tabW catalog_Valid.tab6 catalog_Valid.bits6 (fun HT_ HW_ => ?_)
        generalize w15.drew = w31 at BK107 HB hHeld ⊢
        refine tk HT_ HW_ 0 15 q3_1 rfl rfl (by kernel_rfl) (fun _ _ _ => id) (.inl ⟨by rfl, by rintro w' ⟨s0, s1, s2, s3⟩; go_simp; with_reducible rfl⟩) hHeld (by simp only [sP]; rfl) ?_
        refine one_ (i := 1) (N := some 16) q3_2 rfl rfl (one_of HT_.out (by kernel_rfl)) (by decide) (fun K hK => ?_)
        refine goes_ Tryd.func18 (by kernel_rfl) rfl #[.agg #[.string ((rd_T26 l0 x10_1).f0), .int .i64 ((rd_T26 l0 x10_1).f1), .int .i64 ((rd_T26 l0 x10_1).f2), .int .i64 ((rd_T26 l0 x10_1).f3)]] (by rfl) rfl rfl (by (try simp only [mA]); first | done | rfl) ?_
        with_reducible refine (catalog_ValidResource.calls k1 ((rd_T26 l0 x10_1).f0) ((rd_T26 l0 x10_1).f1) ((rd_T26 l0 x10_1).f2) ((rd_T26 l0 x10_1).f3) false _ A6.out).mono ?_
        rintro e w32 ⟨rfl, hb⟩
        refine ⟨_, rfl, ?_⟩
        replace BK107 := bK BK107 hb
        replace HB := (haveI := gI GE107; bT HB hb)
        (try clear hb)
        refine hK.out _ _ ⟨bC BK107 0 rfl, bC BK107 1 rfl, bC BK107 2 rfl, bC BK107 3 rfl⟩ (fun hHeld => ?_)
        clear hK K
        refine norm_ (a' := ?_) ?_ ?_
        rotate_left
        ·show Act.put _ (some 16) _ = _
         simp only [sP]
         rfl
        refine pu HT_ 2 17 q3_3 rfl rfl (by kernel_rfl) (fun _ _ _ => id) (.inl ⟨by rfl, by intro w'; go_simp; with_reducible rfl⟩) (by simp only [sP]; rfl) ?_
        refine pu HT_ 3 18 q3_4 rfl rfl (by kernel_rfl) (fun _ _ _ => id) (.inl ⟨by rfl, by intro w'; go_simp; with_reducible rfl⟩) (by simp only [sP]; rfl) ?_
        refine pu HT_ 4 19 q3_5 rfl rfl (by kernel_rfl) (fun _ _ _ => id) (.inr ⟨by rfl, rfl⟩) (by simp only [sP]; rfl) ?_
        refine pu HT_ 5 20 q3_6 rfl rfl (by kernel_rfl) (fun _ _ _ => id) (.inr ⟨by rfl, rfl⟩) (by simp only [sP]; rfl) ?_
        refine pu HT_ 6 21 q3_7 rfl rfl (by kernel_rfl) (fun _ _ _ => id) (.inr ⟨by rfl, rfl⟩) (by simp only [sP]; rfl) ?_
        refine pu HT_ 7 22 q3_8 rfl rfl (by kernel_rfl) (fun _ _ _ => id) (.inr ⟨by rfl, rfl⟩) (by simp only [sP]; rfl) ?_
        refine pu HT_ 8 23 q3_9 rfl rfl (by kernel_rfl) (fun _ _ _ => id) (.inr ⟨by rfl, rfl⟩) (by simp only [sP]; rfl) ?_
        refine pu HT_ 9 24 q3_10 rfl rfl (by kernel_rfl) (fun _ _ _ => id) (.inr ⟨by rfl, rfl⟩) (by simp only [sP]; rfl) ?_
        refine pu HT_ 10 25 q3_11 rfl rfl (by kernel_rfl) (fun _ _ _ => id) (.inr ⟨by rfl, rfl⟩) (by simp only [sP]; rfl) ?_
        refine pu HT_ 11 26 q3_12 rfl rfl (by kernel_rfl) (fun _ _ _ => id) (.inr ⟨by rfl, rfl⟩) (by simp only [sP]; rfl) ?_
        refine pu HT_ 12 27 #[T,T,T,T,T,T,T,T,T,T,T,T,T,F,F,F,F,F] rfl rfl (by kernel_rfl) (fun _ _ _ => id) (.inr ⟨by rfl, rfl⟩) (by simp only [sP]; rfl) ?_
        refine pu HT_ 13 28 q3_13 rfl rfl (by kernel_rfl) (fun _ _ _ => id) (.inr ⟨by rfl, rfl⟩) (by simp only [sP]; rfl) ?_
        refine pu HT_ 14 29 q3_14 rfl rfl (by kernel_rfl) (fun _ _ _ => id) (.inr ⟨by rfl, rfl⟩) (by simp only [sP]; rfl) ?_
        refine pu HT_ 15 30 q3_15 rfl rfl (by kernel_rfl) (fun _ _ _ => id) (.inr ⟨by rfl, rfl⟩) (by simp only [sP]; rfl) ?_
        refine pu HT_ 16 31 q3_16 rfl rfl (by kernel_rfl) (fun _ _ _ => id) (.inr ⟨by rfl, rfl⟩) (by simp only [sP]; rfl) ?_
        refine pu HT_ 17 32 q3_17 rfl rfl (by kernel_rfl) (fun _ _ _ => id) (.inl ⟨by rfl, by intro w'; go_simp; with_reducible rfl⟩) (by simp only [sP]; rfl) ?_
        refine done_ (done_of HT_.out (by kernel_rfl)) ?_
        try go_wp2
        go_ret
        exact ⟨by first | rfl | (simp [errW_none, errW_some] <;> rfl) | (simp [*, errW_none, errW_some] <;> rfl), (haveI := gI GE107; uS HB)⟩
      ·rw [if_neg c5] at H
       exact absurd H (by simp)
     ·rw [if_neg c4] at H
      exact absurd H (by simp)
    ·rw [if_neg c3] at H
     have c3b0 : decide (x10_1 < (l0.length : Int)) = false := decide_eq_false c3
     clear c3
     obtain rfl := Option.some.inj H
     go_wp2
     go_ret
     exact ⟨by first | rfl | (simp [errW_none, errW_some] <;> rfl) | (simp [*, errW_none, errW_some] <;> rfl), (uS HB)⟩
/-! ### catalog_Insert: function 22 -/

/-! ### catalog_Format: function 33 -/

end Go.Proofs.YtbiapfjhdggkpaaDoor.PA
