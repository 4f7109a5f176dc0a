-- Printed by wip/tool/myprint.py for this claim; Lean checks it.
import Derived.Test.YtnmemkphfgdplaaDoorPAx0
import Derived.Test.YtnmemkphfgdplaaDoorSlim
import Derived.Test.YtnmemkphfgdplaaDoorPAx4
import Derived.Test.YtnmemkphfgdplaaDoorPAx5
namespace Go.Proofs.YtnmemkphfgdplaaDoor.PA
open Go.RowKit Go.Proofs.YtnmemkphfgdplaaDoorW.PrintWords Go.Proofs.YtnmemkphfgdplaaDoorW.PrintLast Go.Proofs.YtnmemkphfgdplaaDoorW.PrintMore
attribute [local go_sem] max2_int min2_int max_two min_two max_three min_three max_four min_four   -- for this text's walks alone
set_option linter.unusedVariables false
set_option linter.unusedSimpArgs false
abbrev q6_0 : Array Bool := #[F,F,F,F,F,F,F,F,F,F,F,F,F,F,F,F,F,F,F,F,F,F,F,F,F,F,F]
abbrev q6_1 : Array Bool := #[T,F,F,F,F,F,F,F,F,F,F,F,F,F,F,F,F,F,F,F,F,F,F,F,F,F,F]
abbrev q6_2 : Array Bool := #[T,T,F,F,F,F,F,F,F,F,F,F,F,F,F,F,F,F,F,F,F,F,F,F,F,F,F]
abbrev q6_3 : Array Bool := #[T,T,T,F,F,F,F,F,F,F,F,F,F,F,F,F,F,F,F,F,F,F,F,F,F,F,F]
abbrev q6_4 : Array Bool := #[T,T,T,T,F,F,F,F,F,F,F,F,F,F,F,F,F,F,F,F,F,F,F,F,F,F,F]
abbrev q6_5 : Array Bool := #[T,T,T,T,T,F,F,F,F,F,F,F,F,F,F,F,F,F,F,F,F,F,F,F,F,F,F]
abbrev q6_6 : Array Bool := #[T,T,T,T,T,T,T,F,F,F,F,F,F,F,F,F,F,F,F,F,F,F,F,F,F,F,F]
abbrev q6_7 : Array Bool := #[T,T,T,T,T,T,T,T,F,F,F,F,F,F,F,F,F,F,F,F,F,F,F,F,F,F,F]
abbrev q6_8 : Array Bool := #[T,T,T,T,T,T,T,T,T,F,F,F,F,F,F,F,F,F,F,F,F,F,F,F,F,F,F]
abbrev q6_9 : Array Bool := #[T,T,T,T,T,T,T,T,T,T,F,F,F,F,F,F,F,F,F,F,F,F,F,F,F,F,F]
abbrev q6_10 : Array Bool := #[T,T,T,T,T,T,T,T,T,T,T,F,F,F,F,F,F,F,F,F,F,F,F,F,F,F,F]
abbrev q6_11 : Array Bool := #[T,T,T,T,T,T,T,T,T,T,T,T,F,F,F,F,F,F,F,F,F,F,F,F,F,F,F]
abbrev q6_12 : Array Bool := #[T,T,T,T,T,T,T,T,T,T,T,T,T,F,F,F,F,F,F,F,F,F,F,F,F,F,F]
abbrev q6_13 : Array Bool := #[T,T,T,T,T,T,T,T,T,T,T,T,T,T,F,F,F,F,F,F,F,F,F,F,F,F,F]
abbrev q6_14 : Array Bool := #[T,T,T,T,T,T,T,T,T,T,T,T,T,T,T,F,F,F,F,F,F,F,F,F,F,F,F]
abbrev q6_15 : Array Bool := #[T,T,T,T,T,T,T,T,T,T,T,T,T,T,T,T,F,F,F,F,F,F,F,F,F,F,F]
abbrev q6_16 : Array Bool := #[T,T,T,T,T,T,T,T,T,T,T,T,T,T,T,T,T,F,F,F,F,F,F,F,F,F,F]
abbrev q6_17 : Array Bool := #[T,T,T,T,T,T,T,T,T,T,T,T,T,T,T,T,T,T,F,F,F,F,F,F,F,F,F]
abbrev q6_18 : Array Bool := #[T,T,T,T,T,T,T,T,T,T,T,T,T,T,T,T,T,T,T,F,F,F,F,F,F,F,F]
abbrev q6_19 : Array Bool := #[T,T,T,T,T,T,T,T,T,T,T,T,T,T,T,T,T,T,T,T,F,F,F,F,F,F,F]
abbrev q6_20 : Array Bool := #[T,T,T,T,T,T,T,T,T,T,T,T,T,T,T,T,T,T,T,T,T,T,F,F,F,F,F]
abbrev q6_21 : Array Bool := #[T,T,T,T,T,T,T,T,T,T,T,T,T,T,T,T,T,T,T,T,T,T,T,F,F,F,F]
abbrev q6_22 : Array Bool := #[T,T,T,T,T,T,T,T,T,T,T,T,T,T,T,T,T,T,T,T,T,T,T,T,F,F,F]
abbrev q6_23 : Array Bool := #[T,T,T,T,T,T,T,T,T,T,T,T,T,T,T,T,T,T,T,T,T,T,T,T,T,F,F]
abbrev q6_24 : Array Bool := #[T,T,T,T,T,T,T,T,T,T,T,T,T,T,T,T,T,T,T,T,T,T,T,T,T,T,F]
abbrev q6_25 : Array Bool := #[T,T,T,T,T,T,T,T,T,T,T,T,T,T,T,T,T,T,T,T,T,T,T,T,T,T,T]
abbrev q6_26 : Array Bool := #[T,T,T,T,T,F,T,F,F,F,F,F,F,F,F,F,F,F,F,F,F,F,F,F,F,F,F]
abbrev q6_27 : Array Bool := #[T,T,T,T,T,T,T,T,T,T,T,T,T,T,T,T,T,T,T,T,T,F,F,F,F,F,F]

/-! ### holders_Valid: function 25 -/
mutual
def holders_Valid.j0 : Nat → List (S53) → Bool → ByteArray → Int → Int → Int → Option (Bool)
 | 0, _, _, _, _, _, _ => none
 | k + 1, x1, x14, x160000, x160001, x160002, x160003 => if x14 = true then (some false) else (holders_Valid.l0 k x1 x1 (x1.length : Int) 0 x160000 x160001 x160002 x160003)
def holders_Valid.l0 : Nat → List (S53) → List (S53) → Int → Int → ByteArray → Int → Int → Int → Option (Bool)
 | 0, _, _, _, _, _, _, _, _ => none
 | k + 1, x1, x15, x16, x17, x160000, x160001, x160002, x160003 => if x17 < x16 then (if 0 ≤ x17 then (if x17 < (x15.length : Int) then ((ident_ValidProc.f ((rd_T53 x15 x17).f0.f0) ((rd_T53 x15 x17).f0.f1) ((rd_T53 x15 x17).f0.f2)).bind fun t167 => (if t167 = true then ((amount_Fits.f x160000 x160001 x160002 x160003 ((rd_T53 x15 x17).f1.f0) ((rd_T53 x15 x17).f1.f1)).bind fun t168 => (if t168 = true then (if x17 > 0 then (if 0 ≤ (wrap64 (x17 - 1)) then (if (wrap64 (x17 - 1)) < (x1.length : Int) then ((ident_CompareProc.f ((rd_T53 x1 (wrap64 (x17 - 1))).f0.f0) ((rd_T53 x1 (wrap64 (x17 - 1))).f0.f1) ((rd_T53 x1 (wrap64 (x17 - 1))).f0.f2) ((rd_T53 x15 x17).f0.f0) ((rd_T53 x15 x17).f0.f1) ((rd_T53 x15 x17).f0.f2)).bind fun t170 => (if t170 ≥ 0 then (some false) else (holders_Valid.l0 k x1 x15 x16 (wrap64 (x17 + 1)) x160000 x160001 x160002 x160003))) else (none)) else (none)) else (holders_Valid.l0 k x1 x15 x16 (wrap64 (x17 + 1)) x160000 x160001 x160002 x160003)) else (some false))) else (some false))) else (none)) else (none)) else ((holders_amounts.f k x1).bind fun t161 => ((amount_Compatible.f k x160000 x160001 x160002 x160003 t161).bind fun t164 => (some t164)))
end
def holders_Valid.f (k : Nat) (a0_0 : ByteArray) (a0_1 : Int) (a0_2 : Int) (a0_3 : Int) (l1 : List (S53)) : Option (Bool) := (amount_Shaped.f a0_0 a0_1 a0_2 a0_3).bind fun t160 => (if t160 = true then (holders_Valid.j0 k l1 (decide ((l1.length : Int) > 8)) a0_0 a0_1 a0_2 a0_3) else (holders_Valid.j0 k l1 true a0_0 a0_1 a0_2 a0_3))
theorem holders_Valid.mono_l : ∀ k, (∀ y0 y1 y2 y3 y4 y5, LeO (holders_Valid.j0 k y0 y1 y2 y3 y4 y5) (holders_Valid.j0 (k + 1) y0 y1 y2 y3 y4 y5)) ∧ (∀ y0 y1 y2 y3 y4 y5 y6 y7, LeO (holders_Valid.l0 k y0 y1 y2 y3 y4 y5 y6 y7) (holders_Valid.l0 (k + 1) y0 y1 y2 y3 y4 y5 y6 y7))
 | 0 => ⟨fun _ _ _ _ _ _ r h => by simp [holders_Valid.j0] at h, fun _ _ _ _ _ _ _ _ r h => by simp [holders_Valid.l0] at h⟩
 | k + 1 => by
  obtain ⟨ih0, ih1⟩ := holders_Valid.mono_l k
  refine ⟨?_, ?_⟩
  ·intro y0 y1 y2 y3 y4 y5
   unfold holders_Valid.j0
   repeat' first
   | (with_reducible exact ih0 _ _ _ _ _ _)
   | (with_reducible exact ih1 _ _ _ _ _ _ _ _)
   | (with_reducible exact amount_Compatible.mono _ _ _ _ _ _)
   | (with_reducible exact holders_amounts.mono _ _)
   | (with_reducible exact LeO.refl _)
   | (with_reducible exact LeO.none _)
   | (with_reducible refine LeO.ite ?_ ?_)
   | (with_reducible refine LeO.bind ?_ (fun _ => ?_))
   | exact ih0 _ _ _ _ _ _
   | exact ih1 _ _ _ _ _ _ _ _
   | exact amount_Compatible.mono _ _ _ _ _ _
   | exact holders_amounts.mono _ _
   | exact LeO.none _
   | refine LeO.ite ?_ ?_
   | refine LeO.bind ?_ (fun _ => ?_)
  ·intro y0 y1 y2 y3 y4 y5 y6 y7
   unfold holders_Valid.l0
   repeat' first
   | (with_reducible exact ih0 _ _ _ _ _ _)
   | (with_reducible exact ih1 _ _ _ _ _ _ _ _)
   | (with_reducible exact amount_Compatible.mono _ _ _ _ _ _)
   | (with_reducible exact holders_amounts.mono _ _)
   | (with_reducible exact LeO.refl _)
   | (with_reducible exact LeO.none _)
   | (with_reducible refine LeO.ite ?_ ?_)
   | (with_reducible refine LeO.bind ?_ (fun _ => ?_))
   | exact ih0 _ _ _ _ _ _
   | exact ih1 _ _ _ _ _ _ _ _
   | exact amount_Compatible.mono _ _ _ _ _ _
   | exact holders_amounts.mono _ _
   | exact LeO.none _
   | refine LeO.ite ?_ ?_
   | refine LeO.bind ?_ (fun _ => ?_)
theorem holders_Valid.mono : ∀ a0 a1 a2 a3 a4 k, LeO (holders_Valid.f k a0 a1 a2 a3 a4) (holders_Valid.f (k + 1) a0 a1 a2 a3 a4) := by
 intro a0 a1 a2 a3 a4 k
 obtain ⟨ih0, ih1⟩ := holders_Valid.mono_l k
 unfold holders_Valid.f
 repeat' first
   | (with_reducible exact ih0 _ _ _ _ _ _)
   | (with_reducible exact ih1 _ _ _ _ _ _ _ _)
   | (with_reducible exact amount_Compatible.mono _ _ _ _ _ _)
   | (with_reducible exact holders_amounts.mono _ _)
   | (with_reducible exact LeO.refl _)
   | (with_reducible exact LeO.none _)
   | (with_reducible refine LeO.ite ?_ ?_)
   | (with_reducible refine LeO.bind ?_ (fun _ => ?_))
   | exact ih0 _ _ _ _ _ _
   | exact ih1 _ _ _ _ _ _ _ _
   | exact amount_Compatible.mono _ _ _ _ _ _
   | exact holders_amounts.mono _ _
   | exact LeO.none _
   | refine LeO.ite ?_ ?_
   | refine LeO.bind ?_ (fun _ => ?_)
def holders_Valid.T6 : Bool × List (List Nat × List Nat) := (true, [([], []), ([0], [0]), ([1], [1]), ([2], [2]), ([3, 2], [3]), ([4], [4]), ([4], [4]), ([6, 4], [4, 6]), ([5, 7, 4, 4], [4, 5, 7]), ([8, 4], [4, 8]), ([4, 9], [4, 9]), ([10, 8], [10]), ([11], [11]), ([12, 11], [11, 12]), ([13, 11, 11], [11, 13]), ([14], [14]), ([14], [14]), ([16, 14], [14, 16]), ([15, 17, 14], [14, 15, 17]), ([18, 14], [14, 18]), ([19, 14], [14, 19]), ([14], [14]), ([21, 14], [14, 21]), ([20, 22, 14, 14], [14, 20, 22]), ([23, 14], [14, 23]), ([14, 24, 11], [11, 14, 24]), ([11, 25], [11, 25])])
def holders_Valid.B6 : List Nat := [0, 1, 3, 7, 15, 31, 31, 95, 255, 511, 1023, 2047, 4095, 8191, 16383, 32767, 32767, 98303, 262143, 524287, 1048575, 32767, 2129919, 8388607, 16777215, 33554431, 67108863]
theorem holders_Valid.tab6 : rtab .any (opsOf Tryd.f25 6) = holders_Valid.T6 := by kernel_rfl
theorem holders_Valid.bits6 : waitsOk holders_Valid.T6.2 holders_Valid.B6 = true := by kernel_rfl
set_option maxHeartbeats 8000000 in
set_option maxRecDepth 100000 in
theorem holders_Valid.calls (k : Nat) (a0_0 : ByteArray) (a0_1 : Int) (a0_2 : Int) (a0_3 : Int) (A1 : Option Addr) (c1 : Nat) (l1 : List (S53)) (r : Bool) (w : World) (hr1 : Kd.C k53 w A1 l1.length l1) (hc1 : l1.length ≤ c1) (hG : GL w) (h : holders_Valid.f k a0_0 a0_1 a0_2 a0_3 l1 = some r) :
  Calls Tryd.prog 25 #[.agg #[.string a0_0, .int .i64 a0_1, .int .i64 a0_2, .int .i64 a0_3], .slice A1 l1.length c1] w fun e w' => e = .returned (.bool r) ∧ Below w.heap.size w w' := by
 have hu32 := Tryd.underlying32
 have hu53 := Tryd.underlying53
 have hu24 := Tryd.underlying24
 have hu26 := Tryd.underlying26
 have HG := Aside0.mk hG
 clear hG
 have HR1 := Aside0.mk hr1
 have HC1 := Aside0.mk hc1
 clear hr1 hc1
 have HB := Aside0.mk (Below.refl w.heap.size w)
 have H : ((amount_Shaped.f a0_0 a0_1 a0_2 a0_3).bind fun t160 => (if t160 = true then (holders_Valid.j0 k l1 (decide ((l1.length : Int) > 8)) a0_0 a0_1 a0_2 a0_3) else (holders_Valid.j0 k l1 true a0_0 a0_1 a0_2 a0_3))) = some r := h
 clear h
 have HC3 := Aside0.mk H
 clear H
 go_enter Tryd.func25, Tryd.ntmps25
 go_upto_region 1 with (first | ((with_reducible refine gate_dst (N := 2) rfl ?_); (try (refine gate_guard (by rfl) ?_; dsimp only)); refine box_event ?hg (N := 2) ?hd (cs := #[.string a0_0, .int .i64 a0_1, .int .i64 a0_2, .int .i64 a0_3]) (t := 32) ?hr ?_; (case hd => rfl); (case hg => rfl); (case hr => first | (go_simp; done) | (go_simp; rfl)); intro gb159 hg w4 hbox hb; have BK159 := Aside0.mk hbox; have GW159 := gE HB hg; replace HB := bB HB hb; have GE159 := GW159; clear hb hbox hg))
 (try simp only [Act.put, List.setIfInBounds_toArray, List.set_cons_zero, List.set_cons_succ])
 go_cut [14] (fun v14 wc => ∃ (kq : Nat) (x14_2 : Bool), v14 = .bool x14_2 ∧ Aside0 (holders_Valid.j0 kq l1 x14_2 a0_0 a0_1 a0_2 a0_3 = some r) ∧ Aside0 (kq ≤ k) ∧ Aside0 (wc.heap[gb159]? = some (.cells #[.string a0_0, .int .i64 a0_1, .int .i64 a0_2, .int .i64 a0_3] 32 (0, 0))) ∧ Aside0 (Below w.heap.size w wc))
 case first =>
  have H := HC3.out
  clear HC3
  obtain ⟨t160, A50, H⟩ := Option.bind_eq_some_iff.mp H
  have A5 := Aside0.mk A50; clear A50
  by_cases c6 : t160 = true
  ·subst c6
   rw [if_pos rfl] at H
   have H' := Aside0.mk H
   clear H
   obtain ⟨hcz7_0, hcz7_1, hcz7_2, hcz7_3, hfz7_0, hfz7_1, hfz7_2, hfz7_3⟩ := d4 BK159
   go_wp2_with (first | ((with_reducible refine gate_callee (f := 43) rfl ?_); refine goesL_ (some 8) rfl rfl Tryd.func43 (by kernel_rfl) rfl #[.agg #[.string a0_0, .int .i64 a0_1, .int .i64 a0_2, .int .i64 a0_3]] rfl (by (try simp only [mA]); first | done | rfl) ?_; (with_reducible refine (amount_Shaped.calls a0_0 a0_1 a0_2 a0_3 true _ A5.out).mono ?_); rintro e w8 ⟨rfl, hb⟩; refine ⟨_, rfl, ?_⟩; replace BK159 := bK BK159 hb; replace HB := Aside0.mk (below_step (by repeat (first | (with_reducible first | exact HB.out | apply bL | apply bM | apply bR | refine bS ?_ GE159.out) | exact HB.out)) hb); (try clear hb)))
   go_meet
   case rel => exact ⟨_, (decide ((l1.length : Int) > 8)), (by first | rfl | (simp; done) | (simp [*]; done)), H', ⟨by first | omega | exact Nat.le_refl _⟩, ⟨by (with_reducible repeat first | refine bN ?_ _ | refine bD ?_ | refine bA ?_ _); exact BK159.out⟩, ⟨by repeat (first | (with_reducible first | exact HB.out | apply bL | apply bM | apply bR | refine bS ?_ GE159.out) | exact HB.out)⟩⟩
  ·replace c6 := Bool.eq_false_iff.mpr c6
   subst c6
   rw [if_neg (show ¬ (false = true) by decide)] at H
   have H' := Aside0.mk H
   clear H
   obtain ⟨hcz9_0, hcz9_1, hcz9_2, hcz9_3, hfz9_0, hfz9_1, hfz9_2, hfz9_3⟩ := d4 BK159
   go_wp2_with (first | ((with_reducible refine gate_callee (f := 43) rfl ?_); refine goesL_ (some 8) rfl rfl Tryd.func43 (by kernel_rfl) rfl #[.agg #[.string a0_0, .int .i64 a0_1, .int .i64 a0_2, .int .i64 a0_3]] rfl (by (try simp only [mA]); first | done | rfl) ?_; (with_reducible refine (amount_Shaped.calls a0_0 a0_1 a0_2 a0_3 false _ A5.out).mono ?_); rintro e w10 ⟨rfl, hb⟩; refine ⟨_, rfl, ?_⟩; replace BK159 := bK BK159 hb; replace HB := Aside0.mk (below_step (by repeat (first | (with_reducible first | exact HB.out | apply bL | apply bM | apply bR | refine bS ?_ GE159.out) | exact HB.out)) hb); (try clear hb)))
   go_meet
   case rel => exact ⟨_, (true), (by first | rfl | (simp; done) | (simp [*]; done)), H', ⟨by first | omega | exact Nat.le_refl _⟩, ⟨by (with_reducible repeat first | refine bN ?_ _ | refine bD ?_ | refine bA ?_ _); exact BK159.out⟩, ⟨by repeat (first | (with_reducible first | exact HB.out | apply bL | apply bM | apply bR | refine bS ?_ GE159.out) | exact HB.out)⟩⟩
 case rest =>
  clear HC3
  try clear c1
  try clear c2
  try clear p2
  try clear c4
  try clear c6
  try clear hcz7_0
  try clear hcz7_1
  try clear hcz7_2
  try clear hcz7_3
  try clear hcz9_0
  try clear hcz9_1
  try clear hcz9_2
  try clear hcz9_3
  try clear hfz7_0
  try clear hfz7_1
  try clear hfz7_2
  try clear hfz7_3
  try clear hfz9_0
  try clear hfz9_1
  try clear hfz9_2
  try clear hfz9_3
  obtain ⟨kq, x14_2, rfl, HA, HJ2, BK159, HB⟩ := hcut
  cases kq with
  | zero => exact absurd HA.out (by simp [holders_Valid.j0])
  | succ kj2 =>
   have H := HA.out
   clear HA
   simp only [holders_Valid.j0] at H
   by_cases c11 : x14_2 = true
   ·subst c11
    rw [if_pos rfl] at H
    obtain rfl := Option.some.inj H
    go_wp2
    go_ret
    exact ⟨by first | rfl | (simp [errW_none, errW_some] <;> rfl) | (simp [*, errW_none, errW_some] <;> rfl), by repeat (first | (with_reducible first | exact HB.out | apply bL | apply bM | apply bR | refine bS ?_ GE159.out) | exact HB.out)⟩
   ·replace c11 := Bool.eq_false_iff.mpr c11
    subst c11
    rw [if_neg (show ¬ (false = true) by decide)] at H
    have H' := Aside0.mk H
    clear H
    go_wp2
    go_loopg [17] kj2 (fun kq v17 w' => ∃ (x17_2 : Int), v17 = .int .i64 x17_2 ∧ Aside0 (holders_Valid.l0 kq l1 l1 (l1.length : Int) x17_2 a0_0 a0_1 a0_2 a0_3 = some r) ∧ Aside0 (kq ≤ kj2) ∧ Aside0 (w'.heap[gb159]? = some (.cells #[.string a0_0, .int .i64 a0_1, .int .i64 a0_2, .int .i64 a0_3] 32 (0, 0))) ∧ Aside0 (Below w.heap.size w w'))
    case atStart => exact ⟨(0), (by first | rfl | (simp; done) | (simp [*]; done)), H', ⟨Nat.le_refl _⟩, ⟨by (with_reducible repeat first | refine bN ?_ _ | refine bD ?_ | refine bA ?_ _); exact BK159.out⟩, ⟨by repeat (first | (with_reducible first | exact HB.out | apply bL | apply bM | apply bR | refine bS ?_ GE159.out) | exact HB.out)⟩⟩
    case round =>
     clear H'
     try clear c1
     try clear c2
     try clear p2
     try clear c4
     try clear c6
     try clear c11
     try clear hcz7_0
     try clear hcz7_1
     try clear hcz7_2
     try clear hcz7_3
     try clear hcz9_0
     try clear hcz9_1
     try clear hcz9_2
     try clear hcz9_3
     try clear hfz7_0
     try clear hfz7_1
     try clear hfz7_2
     try clear hfz7_3
     try clear hfz9_0
     try clear hfz9_1
     try clear hfz9_2
     try clear hfz9_3
     try clear p2
     obtain ⟨x17_2, rfl, HA, HK2, BK159, HB⟩ := hrel
     cases gk with
     | zero => exact absurd HA.out (by simp [holders_Valid.l0])
     | succ k2 =>
      have H := HA.out
      clear HA
      simp only [holders_Valid.l0] at H
      by_cases c12 : x17_2 < (l1.length : Int)
      ·rw [if_pos c12] at H
       have c12b0 : decide (x17_2 < (l1.length : Int)) = true := decide_eq_true c12
       clear c12
       by_cases c13 : 0 ≤ x17_2
       ·rw [if_pos c13] at H
        have c13b0 : decide (0 ≤ x17_2) = true := decide_eq_true c13
        clear c13
        have HH_ := Aside0.mk H
        clear H
        have p165 : 0 ≤ (x17_2 : Int) := of_decide_eq_true (by first | (with_reducible assumption) | assumption)
        have H := HH_.out
        clear HH_
        by_cases c14 : x17_2 < (l1.length : Int)
        ·rw [if_pos c14] at H
         have c14b0 : decide (x17_2 < (l1.length : Int)) = true := decide_eq_true c14
         clear c14
         obtain ⟨t167, A150, H⟩ := Option.bind_eq_some_iff.mp H
         have A15 := Aside0.mk A150; clear A150
         (try simp only [c14b0])
         have HH_ := Aside0.mk H
         clear H
         have q165 : x17_2 < (l1.length : Int) := of_decide_eq_true (by first | (with_reducible assumption) | assumption)
         obtain ⟨ad165, e165, hx165_0, hx165_1, hx165_2, hx165_3, hx165_4⟩ := at_T53 HR1.out x17_2 p165 q165
         cases e165
         replace hx165_0 := kC HB hx165_0
         replace hx165_1 := kC HB hx165_1
         replace hx165_2 := kC HB hx165_2
         replace hx165_3 := kC HB hx165_3
         replace hx165_4 := kC HB hx165_4
         replace p165 := eq_true p165
         replace q165 := eq_true q165
         try go_wp2_with (first | ((with_reducible refine gate_dst (N := 6) rfl ?_); (try (refine gate_guard (by rfl) ?_; dsimp only)); refine box_event ?hg (N := 6) ?hd (cs := #[.int .i64 0, .int .i64 0, .int .i64 0, .int .i64 0, .int .i64 0]) (t := 53) ?hr ?_; (case hd => rfl); (case hg => rfl); (case hr => first | (go_simp; done) | (go_simp; rfl)); intro gb166 hg w25 hbox hb; have BK166 := Aside0.mk hbox; have GW166 := Aside0.mk ((by rw [hg]; exact (below_size (by repeat (first | (with_reducible first | exact HB.out | apply bL | apply bM | apply bR | refine bS ?_ GE159.out) | exact HB.out))) : w.heap.size ≤ gb166)); replace HB := Aside0.mk (below_step (by repeat (first | (with_reducible first | exact HB.out | apply bL | apply bM | apply bR | refine bS ?_ GE159.out) | exact HB.out)) hb); have GE166 := GW166; have NB159_166 := gN BK159 hg; replace BK159 := bK BK159 hb; have NB166_159 := Aside0.mk NB159_166.out.symm; clear hb hbox hg; have hnb26 := NB166_159.out; have hnc26 := NB159_166.out; have hcz27_0 : w25.cell? ⟨gb166, 0, none⟩ = some (.int .i64 0) := bC BK166 0 rfl; have hcz27_1 : w25.cell? ⟨gb166, 1, none⟩ = some (.int .i64 0) := bC BK166 1 rfl; have hcz27_2 : w25.cell? ⟨gb166, 2, none⟩ = some (.int .i64 0) := bC BK166 2 rfl; have hcz27_3 : w25.cell? ⟨gb166, 3, none⟩ = some (.int .i64 0) := bC BK166 3 rfl; have hcz27_4 : w25.cell? ⟨gb166, 4, none⟩ = some (.int .i64 0) := bC BK166 4 rfl; have hfz27_0 := bF BK166 0; have hfz27_1 := bF BK166 1; have hfz27_2 := bF BK166 2; have hfz27_3 := bF BK166 3; have hfz27_4 := bF BK166 4))
         have n0_ : Aside0 ((((((w25.setCell ⟨gb166, 0, none⟩ (.int .i64 ((rd_T53 l1 x17_2).f0.f0))).setCell ⟨gb166, 1, none⟩ (.int .i64 ((rd_T53 l1 x17_2).f0.f1))).setCell ⟨gb166, 2, none⟩ (.int .i64 ((rd_T53 l1 x17_2).f0.f2))).setCell ⟨gb166, 3, none⟩ (.int .i64 ((rd_T53 l1 x17_2).f1.f0))).setCell ⟨gb166, 4, none⟩ (.int .i64 ((rd_T53 l1 x17_2).f1.f1))).heap[gb159]? = some (.cells #[.string a0_0, .int .i64 a0_1, .int .i64 a0_2, .int .i64 a0_3] 32 (0, 0))) := ⟨by (with_reducible repeat first | refine bN ?_ _ | refine bD ?_ | refine bA ?_ _); refine blk_far ?_ NB159_166.out _; (with_reducible repeat first | refine bN ?_ _ | refine bD ?_ | refine bA ?_ _); refine blk_far ?_ NB159_166.out _; (with_reducible repeat first | refine bN ?_ _ | refine bD ?_ | refine bA ?_ _); refine blk_far ?_ NB159_166.out _; (with_reducible repeat first | refine bN ?_ _ | refine bD ?_ | refine bA ?_ _); refine blk_far ?_ NB159_166.out _; (with_reducible repeat first | refine bN ?_ _ | refine bD ?_ | refine bA ?_ _); refine blk_far ?_ NB159_166.out _; (with_reducible repeat first | refine bN ?_ _ | refine bD ?_ | refine bA ?_ _); exact BK159.out⟩
         have n1_ : Aside0 ((((((w25.setCell ⟨gb166, 0, none⟩ (.int .i64 ((rd_T53 l1 x17_2).f0.f0))).setCell ⟨gb166, 1, none⟩ (.int .i64 ((rd_T53 l1 x17_2).f0.f1))).setCell ⟨gb166, 2, none⟩ (.int .i64 ((rd_T53 l1 x17_2).f0.f2))).setCell ⟨gb166, 3, none⟩ (.int .i64 ((rd_T53 l1 x17_2).f1.f0))).setCell ⟨gb166, 4, none⟩ (.int .i64 ((rd_T53 l1 x17_2).f1.f1))).heap[gb166]? = some (.cells #[.int .i64 ((rd_T53 l1 x17_2).f0.f0), .int .i64 ((rd_T53 l1 x17_2).f0.f1), .int .i64 ((rd_T53 l1 x17_2).f0.f2), .int .i64 ((rd_T53 l1 x17_2).f1.f0), .int .i64 ((rd_T53 l1 x17_2).f1.f1)] 53 (0, 0))) := ⟨by (with_reducible repeat first | refine bN ?_ _ | refine bD ?_ | refine bA ?_ _); refine blk_put (cs := #[.int .i64 ((rd_T53 l1 x17_2).f0.f0), .int .i64 ((rd_T53 l1 x17_2).f0.f1), .int .i64 ((rd_T53 l1 x17_2).f0.f2), .int .i64 ((rd_T53 l1 x17_2).f1.f0), .int .i64 0]) ?_ 4 _ rfl; (with_reducible repeat first | refine bN ?_ _ | refine bD ?_ | refine bA ?_ _); refine blk_put (cs := #[.int .i64 ((rd_T53 l1 x17_2).f0.f0), .int .i64 ((rd_T53 l1 x17_2).f0.f1), .int .i64 ((rd_T53 l1 x17_2).f0.f2), .int .i64 0, .int .i64 0]) ?_ 3 _ rfl; (with_reducible repeat first | refine bN ?_ _ | refine bD ?_ | refine bA ?_ _); refine blk_put (cs := #[.int .i64 ((rd_T53 l1 x17_2).f0.f0), .int .i64 ((rd_T53 l1 x17_2).f0.f1), .int .i64 0, .int .i64 0, .int .i64 0]) ?_ 2 _ rfl; (with_reducible repeat first | refine bN ?_ _ | refine bD ?_ | refine bA ?_ _); refine blk_put (cs := #[.int .i64 ((rd_T53 l1 x17_2).f0.f0), .int .i64 0, .int .i64 0, .int .i64 0, .int .i64 0]) ?_ 1 _ rfl; (with_reducible repeat first | refine bN ?_ _ | refine bD ?_ | refine bA ?_ _); refine blk_put (cs := #[.int .i64 0, .int .i64 0, .int .i64 0, .int .i64 0, .int .i64 0]) ?_ 0 _ rfl; (with_reducible repeat first | refine bN ?_ _ | refine bD ?_ | refine bA ?_ _); exact BK166.out⟩
         have n2_ : Aside0 (Below w.heap.size w (((((w25.setCell ⟨gb166, 0, none⟩ (.int .i64 ((rd_T53 l1 x17_2).f0.f0))).setCell ⟨gb166, 1, none⟩ (.int .i64 ((rd_T53 l1 x17_2).f0.f1))).setCell ⟨gb166, 2, none⟩ (.int .i64 ((rd_T53 l1 x17_2).f0.f2))).setCell ⟨gb166, 3, none⟩ (.int .i64 ((rd_T53 l1 x17_2).f1.f0))).setCell ⟨gb166, 4, none⟩ (.int .i64 ((rd_T53 l1 x17_2).f1.f1)))) := ⟨by repeat (first | (with_reducible first | exact HB.out | apply bL | apply bM | apply bR | refine bS ?_ GE159.out | refine bS ?_ GE166.out) | exact HB.out)⟩
         (try clear BK159)
         (try clear BK166)
         (try clear HB)
         generalize (((((w25.setCell ⟨gb166, 0, none⟩ (.int .i64 ((rd_T53 l1 x17_2).f0.f0))).setCell ⟨gb166, 1, none⟩ (.int .i64 ((rd_T53 l1 x17_2).f0.f1))).setCell ⟨gb166, 2, none⟩ (.int .i64 ((rd_T53 l1 x17_2).f0.f2))).setCell ⟨gb166, 3, none⟩ (.int .i64 ((rd_T53 l1 x17_2).f1.f0))).setCell ⟨gb166, 4, none⟩ (.int .i64 ((rd_T53 l1 x17_2).f1.f1))) = w28 at n0_ n1_ n2_ ⊢
         have BK159 := n0_
         have BK166 := n1_
         have HB := n2_
         clear n0_ n1_ n2_
         replace BK159 := Aside0.mk (blk_drew BK159.out)
         replace BK166 := Aside0.mk (blk_drew BK166.out)
         replace HB := Aside0.mk (below_drew1 HB.out)
         have H := HH_.out
         clear HH_
         by_cases c16 : t167 = true
         ·subst c16
          rw [if_pos rfl] at H
          obtain ⟨t168, A170, H⟩ := Option.bind_eq_some_iff.mp H
          have A17 := Aside0.mk A170; clear A170
          by_cases c18 : t168 = true
          ·subst c18
           rw [if_pos rfl] at H
           by_cases c19 : x17_2 > 0
           ·rw [if_pos c19] at H
            have c19b0 : decide (0 < x17_2) = true := decide_eq_true c19
            clear c19
            obtain ⟨ji20, hji20⟩ : ∃ j_ : Int, (wrap64 (x17_2 - 1)) = j_ := ⟨_, rfl⟩
            replace H : (if 0 ≤ (ji20) then (if (ji20) < (l1.length : Int) then ((ident_CompareProc.f ((rd_T53 l1 (ji20)).f0.f0) ((rd_T53 l1 (ji20)).f0.f1) ((rd_T53 l1 (ji20)).f0.f2) ((rd_T53 l1 x17_2).f0.f0) ((rd_T53 l1 x17_2).f0.f1) ((rd_T53 l1 x17_2).f0.f2)).bind fun t170 => (if t170 ≥ 0 then (some false) else (holders_Valid.l0 k2 l1 l1 (l1.length : Int) (wrap64 (x17_2 + 1)) a0_0 a0_1 a0_2 a0_3))) else (none)) else (none)) = some r := by first | (rw [hji20] at H; exact H) | (simp only [hji20] at H ⊢; exact H)
            (try rw [hji20] at A15)
            (try rw [hji20] at A17)
            have hji20w : (IntKind.i64.wrap (x17_2 - 1)) = ji20 := (i64_w _).trans hji20
            (try simp only [c19b0])
            by_cases c21 : 0 ≤ (ji20)
            ·rw [if_pos c21] at H
             have c21b0 : decide (0 ≤ (ji20)) = true := decide_eq_true c21
             clear c21
             (try simp only [c21b0])
             have HH_ := Aside0.mk H
             clear H
             have p169 : 0 ≤ ((ji20) : Int) := of_decide_eq_true (by first | (with_reducible assumption) | assumption)
             have H := HH_.out
             clear HH_
             by_cases c22 : (ji20) < (l1.length : Int)
             ·rw [if_pos c22] at H
              have c22b0 : decide ((ji20) < (l1.length : Int)) = true := decide_eq_true c22
              clear c22
              obtain ⟨t170, A230, H⟩ := Option.bind_eq_some_iff.mp H
              have A23 := Aside0.mk A230; clear A230
              (try simp only [c22b0])
              have HH_ := Aside0.mk H
              clear H
              have q169 : (ji20) < (l1.length : Int) := of_decide_eq_true (by first | (with_reducible assumption) | assumption)
              obtain ⟨ad169, e169, hx169_0, hx169_1, hx169_2, hx169_3, hx169_4⟩ := at_T53 HR1.out (ji20) p169 q169
              have hw169_4 := hx169_4
              have hw169_3 := hx169_3
              have hw169_2 := hx169_2
              have hw169_1 := hx169_1
              have hw169_0 := hx169_0
              obtain rfl : ad165 = ad169 := (by injection e169)
              replace hx169_0 := kC HB hx169_0
              replace hx169_1 := kC HB hx169_1
              replace hx169_2 := kC HB hx169_2
              replace hx169_3 := kC HB hx169_3
              replace hx169_4 := kC HB hx169_4
              replace p169 := eq_true p169
              replace q169 := eq_true q169
              refine start_ (n := 27) (S := fun w' => w'.cell? ⟨gb166, 0, none⟩ = some (.int .i64 ((rd_T53 l1 x17_2).f0.f0)) ∧ w'.cell? ⟨gb166, 1, none⟩ = some (.int .i64 ((rd_T53 l1 x17_2).f0.f1)) ∧ w'.cell? ⟨gb166, 2, none⟩ = some (.int .i64 ((rd_T53 l1 x17_2).f0.f2)) ∧ w'.cell? ⟨gb166, 3, none⟩ = some (.int .i64 ((rd_T53 l1 x17_2).f1.f0)) ∧ w'.cell? ⟨gb166, 4, none⟩ = some (.int .i64 ((rd_T53 l1 x17_2).f1.f1)) ∧ w'.cell? ⟨gb159, 0, none⟩ = some (.string a0_0) ∧ w'.cell? ⟨gb159, 1, none⟩ = some (.int .i64 a0_1) ∧ w'.cell? ⟨gb159, 2, none⟩ = some (.int .i64 a0_2) ∧ w'.cell? ⟨gb159, 3, none⟩ = some (.int .i64 a0_3) ∧ w'.cell? (ad165.add (((ji20)).toNat * 5)) = some (.int .i64 ((rd_T53 l1 (ji20)).f0.f0)) ∧ w'.cell? ⟨(ad165.add (((ji20)).toNat * 5)).block, (ad165.add (((ji20)).toNat * 5)).off + 1, none⟩ = some (.int .i64 ((rd_T53 l1 (ji20)).f0.f1)) ∧ w'.cell? ⟨(ad165.add (((ji20)).toNat * 5)).block, (ad165.add (((ji20)).toNat * 5)).off + 2, none⟩ = some (.int .i64 ((rd_T53 l1 (ji20)).f0.f2)) ∧ w'.cell? ⟨(ad165.add (((ji20)).toNat * 5)).block, (ad165.add (((ji20)).toNat * 5)).off + 3, none⟩ = some (.int .i64 ((rd_T53 l1 (ji20)).f1.f0)) ∧ w'.cell? ⟨(ad165.add (((ji20)).toNat * 5)).block, (ad165.add (((ji20)).toNat * 5)).off + 4, none⟩ = some (.int .i64 ((rd_T53 l1 (ji20)).f1.f1))) (ds := []) q6_0 (by kernel_rfl) rfl rfl ⟨bC BK166 0 rfl, bC BK166 1 rfl, bC BK166 2 rfl, bC BK166 3 rfl, bC BK166 4 rfl, bC BK159 0 rfl, bC BK159 1 rfl, bC BK159 2 rfl, bC BK159 3 rfl, (kC HB hw169_0), (kC HB hw169_1), (kC HB hw169_2), (kC HB hw169_3), (kC HB hw169_4)⟩ (fun hHeld => ?_); refine with_tabW holders_Valid.tab6 holders_Valid.bits6 (fun HT_ HW_ => ?_)
              generalize w28.drew = w29 at BK159 BK166 HB hx169_0 hx169_1 hx169_2 hx169_3 hx169_4 hHeld ⊢
              refine pu HT_ 0 22 q6_1 rfl rfl (by kernel_rfl) (fun _ _ _ => id) (.inl ⟨by rfl, by intro w'; go_simp; with_reducible rfl⟩) (by simp only [sP]; rfl) ?_
              refine tk HT_ HW_ 1 23 q6_2 rfl rfl (by kernel_rfl) (fun _ _ _ => id) (.inl ⟨by rfl, by rintro w' ⟨s0, s1, s2, s3, s4, s5, s6, s7, s8, s9, s10, s11, s12, s13⟩; go_simp; with_reducible rfl⟩) hHeld (by simp only [sP]; rfl) ?_
              refine one_ (i := 2) (N := some 24) q6_3 rfl rfl (one_of HT_.out (by kernel_rfl)) (by decide) (fun K hK => ?_)
              refine goes_ Tryd.func44 (by kernel_rfl) rfl #[.agg #[.int .i64 ((rd_T53 l1 x17_2).f0.f0), .int .i64 ((rd_T53 l1 x17_2).f0.f1), .int .i64 ((rd_T53 l1 x17_2).f0.f2)]] (by rfl) rfl rfl (by (try simp only [mA]); first | done | rfl) ?_
              with_reducible refine (ident_ValidProc.calls ((rd_T53 l1 x17_2).f0.f0) ((rd_T53 l1 x17_2).f0.f1) ((rd_T53 l1 x17_2).f0.f2) true _ A15.out).mono ?_
              rintro e w30 ⟨rfl, hb⟩
              refine ⟨_, rfl, ?_⟩
              replace BK159 := bK BK159 hb
              replace BK166 := bK BK166 hb
              replace HB := Aside0.mk (below_step (by repeat (first | (with_reducible first | exact HB.out | apply bL | apply bM | apply bR | refine bS ?_ GE159.out | refine bS ?_ GE166.out) | exact HB.out)) hb)
              (try clear hb)
              refine hK.out _ _ ⟨bC BK166 0 rfl, bC BK166 1 rfl, bC BK166 2 rfl, bC BK166 3 rfl, bC BK166 4 rfl, bC BK159 0 rfl, bC BK159 1 rfl, bC BK159 2 rfl, bC BK159 3 rfl, (kC HB hw169_0), (kC HB hw169_1), (kC HB hw169_2), (kC HB hw169_3), (kC HB hw169_4)⟩ (fun hHeld => ?_)
              clear hK K
              refine norm_ (a' := ?_) ?_ ?_
              rotate_left
              ·show Act.put _ (some 24) _ = _
               simp only [sP]
               rfl
              refine pu HT_ 3 25 q6_4 rfl rfl (by kernel_rfl) (fun _ _ _ => id) (.inl ⟨by rfl, by intro w'; go_simp; with_reducible rfl⟩) (by simp only [sP]; rfl) ?_
              refine pu HT_ 4 26 q6_5 rfl rfl (by kernel_rfl) (fun _ _ _ => id) (.inl ⟨by rfl, by intro w'; go_simp; with_reducible rfl⟩) (by simp only [sP]; rfl) ?_
              refine pu HT_ 6 28 q6_26 rfl rfl (by kernel_rfl) (fun _ _ _ => id) (.inl ⟨by rfl, by intro w'; go_simp; with_reducible rfl⟩) (by simp only [sP]; rfl) ?_
              refine tk HT_ HW_ 5 27 q6_6 rfl rfl (by kernel_rfl) (fun _ _ _ => id) (.inl ⟨by rfl, by rintro w' ⟨s0, s1, s2, s3, s4, s5, s6, s7, s8, s9, s10, s11, s12, s13⟩; go_simp; with_reducible rfl⟩) hHeld (by simp only [sP]; rfl) ?_
              refine tk HT_ HW_ 7 29 q6_7 rfl rfl (by kernel_rfl) (fun _ _ _ => id) (.inl ⟨by rfl, by rintro w' ⟨s0, s1, s2, s3, s4, s5, s6, s7, s8, s9, s10, s11, s12, s13⟩; go_simp; with_reducible rfl⟩) hHeld (by simp only [sP]; rfl) ?_
              refine one_ (i := 8) (N := some 30) q6_8 rfl rfl (one_of HT_.out (by kernel_rfl)) (by decide) (fun K hK => ?_)
              refine goes_ Tryd.func45 (by kernel_rfl) rfl #[.agg #[.string a0_0, .int .i64 a0_1, .int .i64 a0_2, .int .i64 a0_3], .agg #[.int .i64 ((rd_T53 l1 x17_2).f1.f0), .int .i64 ((rd_T53 l1 x17_2).f1.f1)]] (by rfl) rfl rfl (by (try simp only [mA]); first | done | rfl) ?_
              with_reducible refine (amount_Fits.calls a0_0 a0_1 a0_2 a0_3 ((rd_T53 l1 x17_2).f1.f0) ((rd_T53 l1 x17_2).f1.f1) true _ A17.out).mono ?_
              rintro e w31 ⟨rfl, hb⟩
              refine ⟨_, rfl, ?_⟩
              replace BK159 := bK BK159 hb
              replace BK166 := bK BK166 hb
              replace HB := Aside0.mk (below_step (by repeat (first | (with_reducible first | exact HB.out | apply bL | apply bM | apply bR | refine bS ?_ GE159.out | refine bS ?_ GE166.out) | exact HB.out)) hb)
              (try clear hb)
              refine hK.out _ _ ⟨bC BK166 0 rfl, bC BK166 1 rfl, bC BK166 2 rfl, bC BK166 3 rfl, bC BK166 4 rfl, bC BK159 0 rfl, bC BK159 1 rfl, bC BK159 2 rfl, bC BK159 3 rfl, (kC HB hw169_0), (kC HB hw169_1), (kC HB hw169_2), (kC HB hw169_3), (kC HB hw169_4)⟩ (fun hHeld => ?_)
              clear hK K
              refine norm_ (a' := ?_) ?_ ?_
              rotate_left
              ·show Act.put _ (some 30) _ = _
               simp only [sP]
               rfl
              refine pu HT_ 9 31 q6_9 rfl rfl (by kernel_rfl) (fun _ _ _ => id) (.inl ⟨by rfl, by intro w'; go_simp; with_reducible rfl⟩) (by simp only [sP]; rfl) ?_
              refine pu HT_ 10 32 q6_10 rfl rfl (by kernel_rfl) (fun _ _ _ => id) (.inl ⟨by rfl, by intro w'; go_simp; with_reducible rfl⟩) (by simp only [sP]; rfl) ?_
              refine pu HT_ 11 33 q6_11 rfl rfl (by kernel_rfl) (fun _ _ _ => id) (.inl ⟨by rfl, by intro w'; go_simp; with_reducible rfl⟩) (by simp only [sP]; rfl) ?_
              refine pu HT_ 12 34 q6_12 rfl rfl (by kernel_rfl) (fun _ _ _ => id) (.inl ⟨by rfl, by intro w'; go_simp; with_reducible rfl⟩) (by simp only [sP]; rfl) ?_
              refine pu HT_ 13 35 q6_13 rfl rfl (by kernel_rfl) (fun _ _ _ => id) (.inl ⟨by rfl, by intro w'; go_simp; with_reducible rfl⟩) (by simp only [sP]; rfl) ?_
              refine pu HT_ 14 36 q6_14 rfl rfl (by kernel_rfl) (fun _ _ _ => id) (.inl ⟨by rfl, by intro w'; go_simp; with_reducible rfl⟩) (by simp only [sP]; rfl) ?_
              refine pu HT_ 15 37 q6_15 rfl rfl (by kernel_rfl) (fun _ _ _ => id) (.inl ⟨by rfl, by intro w'; go_simp; with_reducible rfl⟩) (by simp only [sP]; rfl) ?_
              refine pu HT_ 16 38 q6_16 rfl rfl (by kernel_rfl) (fun _ _ _ => id) (.inl ⟨by rfl, by intro w'; go_simp; with_reducible rfl⟩) (by simp only [sP]; rfl) ?_
              refine pu HT_ 17 39 q6_17 rfl rfl (by kernel_rfl) (fun _ _ _ => id) (.inl ⟨by rfl, by intro w'; go_simp; with_reducible rfl⟩) (by simp only [sP]; rfl) ?_
              refine pu HT_ 18 40 q6_18 rfl rfl (by kernel_rfl) (fun _ _ _ => id) (.inl ⟨by rfl, by intro w'; go_simp; with_reducible rfl⟩) (by simp only [sP]; rfl) ?_
              refine pu HT_ 19 41 q6_19 rfl rfl (by kernel_rfl) (fun _ _ _ => id) (.inl ⟨by rfl, by intro w'; go_simp; with_reducible rfl⟩) (by simp only [sP]; rfl) ?_
              refine pu HT_ 21 43 #[T,T,T,T,T,T,T,T,T,T,T,T,T,T,T,T,T,T,T,T,F,T,F,F,F,F,F] rfl rfl (by kernel_rfl) (fun _ _ _ => id) (.inl ⟨by rfl, by intro w'; go_simp; with_reducible rfl⟩) (by simp only [sP]; rfl) ?_
              refine tk HT_ HW_ 20 42 q6_20 rfl rfl (by kernel_rfl) (fun _ _ _ => id) (.inl ⟨by rfl, by rintro w' ⟨s0, s1, s2, s3, s4, s5, s6, s7, s8, s9, s10, s11, s12, s13⟩; go_simp; with_reducible rfl⟩) hHeld (by simp only [sP]; rfl) ?_
              refine tk HT_ HW_ 22 44 q6_21 rfl rfl (by kernel_rfl) (fun _ _ _ => id) (.inl ⟨by rfl, by rintro w' ⟨s0, s1, s2, s3, s4, s5, s6, s7, s8, s9, s10, s11, s12, s13⟩; go_simp; with_reducible rfl⟩) hHeld (by simp only [sP]; rfl) ?_
              refine one_ (i := 23) (N := some 45) q6_22 rfl rfl (one_of HT_.out (by kernel_rfl)) (by decide) (fun K hK => ?_)
              refine goes_ Tryd.func46 (by kernel_rfl) rfl #[.agg #[.int .i64 ((rd_T53 l1 (ji20)).f0.f0), .int .i64 ((rd_T53 l1 (ji20)).f0.f1), .int .i64 ((rd_T53 l1 (ji20)).f0.f2)], .agg #[.int .i64 ((rd_T53 l1 x17_2).f0.f0), .int .i64 ((rd_T53 l1 x17_2).f0.f1), .int .i64 ((rd_T53 l1 x17_2).f0.f2)]] (by rfl) rfl rfl (by (try simp only [List.map_toArray, List.map_cons, List.map_nil]); first | done | (simp only [hji20]; rfl) | rfl | (simp only [List.length_drop, List.length_take]; rfl)) ?_
              with_reducible refine (ident_CompareProc.calls ((rd_T53 l1 (ji20)).f0.f0) ((rd_T53 l1 (ji20)).f0.f1) ((rd_T53 l1 (ji20)).f0.f2) ((rd_T53 l1 x17_2).f0.f0) ((rd_T53 l1 x17_2).f0.f1) ((rd_T53 l1 x17_2).f0.f2) t170 _ A23.out).mono ?_
              rintro e w32 ⟨rfl, hb⟩
              refine ⟨_, rfl, ?_⟩
              replace BK159 := bK BK159 hb
              replace BK166 := bK BK166 hb
              replace HB := Aside0.mk (below_step (by repeat (first | (with_reducible first | exact HB.out | apply bL | apply bM | apply bR | refine bS ?_ GE159.out | refine bS ?_ GE166.out) | exact HB.out)) hb)
              (try clear hb)
              refine hK.out _ _ ⟨bC BK166 0 rfl, bC BK166 1 rfl, bC BK166 2 rfl, bC BK166 3 rfl, bC BK166 4 rfl, bC BK159 0 rfl, bC BK159 1 rfl, bC BK159 2 rfl, bC BK159 3 rfl, (kC HB hw169_0), (kC HB hw169_1), (kC HB hw169_2), (kC HB hw169_3), (kC HB hw169_4)⟩ (fun hHeld => ?_)
              clear hK K
              refine norm_ (a' := ?_) ?_ ?_
              rotate_left
              ·show Act.put _ (some 45) _ = _
               simp only [sP]
               rfl
              refine pu HT_ 24 46 q6_23 rfl rfl (by kernel_rfl) (fun _ _ _ => id) (.inl ⟨by rfl, by intro w'; go_simp; with_reducible rfl⟩) (by simp only [sP]; rfl) ?_
              refine pu HT_ 25 47 q6_24 rfl rfl (by kernel_rfl) (fun _ _ _ => id) (.inl ⟨by rfl, by intro w'; go_simp; with_reducible rfl⟩) (by simp only [sP]; rfl) ?_
              refine pu HT_ 26 48 q6_25 rfl rfl (by kernel_rfl) (fun _ _ _ => id) (.inl ⟨by rfl, by intro w'; go_simp; with_reducible rfl⟩) (by simp only [sP]; rfl) ?_
              refine done_ (done_of HT_.out (by kernel_rfl)) ?_
              have H := HH_.out
              clear HH_
              by_cases c24 : t170 ≥ 0
              ·rw [if_pos c24] at H
               have c24b0 : decide (0 ≤ t170) = true := decide_eq_true c24
               clear c24
               obtain rfl := Option.some.inj H
               (try simp only [c24b0])
               try go_wp2
               go_ret
               exact ⟨by first | rfl | (simp [errW_none, errW_some] <;> rfl) | (simp only [← hji20]; first | rfl | (simp [errW_none, errW_some] <;> rfl)) | (simp [*, errW_none, errW_some] <;> rfl), by repeat (first | (with_reducible first | exact HB.out | apply bL | apply bM | apply bR | refine bS ?_ GE159.out | refine bS ?_ GE166.out) | exact HB.out)⟩
              ·rw [if_neg c24] at H
               have c24b0 : decide (0 ≤ t170) = false := decide_eq_false c24
               clear c24
               have H' := Aside0.mk H
               clear H
               (try simp only [c24b0])
               try go_wp2
               go_roundg k2
               case measure => have := HJ2.out; have := HK2.out; omega
               case rel => exact ⟨(wrap64 (x17_2 + 1)), (by first | rfl | (simp; done) | (simp [*]; done)), H', ⟨by have := HJ2.out; have := HK2.out; omega⟩, ⟨by (with_reducible repeat first | refine bN ?_ _ | refine bD ?_ | refine bA ?_ _); exact BK159.out⟩, ⟨by repeat (first | (with_reducible first | exact HB.out | apply bL | apply bM | apply bR | refine bS ?_ GE159.out | refine bS ?_ GE166.out) | exact HB.out)⟩⟩
             ·rw [if_neg c22] at H
              exact absurd H (by simp)
            ·rw [if_neg c21] at H
             exact absurd H (by simp)
           ·rw [if_neg c19] at H
            have c19b0 : decide (0 < x17_2) = false := decide_eq_false c19
            clear c19
            have H' := Aside0.mk H
            clear H
            (try simp only [c19b0])
            refine start_ (n := 27) (S := fun w' => w'.cell? ⟨gb166, 0, none⟩ = some (.int .i64 ((rd_T53 l1 x17_2).f0.f0)) ∧ w'.cell? ⟨gb166, 1, none⟩ = some (.int .i64 ((rd_T53 l1 x17_2).f0.f1)) ∧ w'.cell? ⟨gb166, 2, none⟩ = some (.int .i64 ((rd_T53 l1 x17_2).f0.f2)) ∧ w'.cell? ⟨gb166, 3, none⟩ = some (.int .i64 ((rd_T53 l1 x17_2).f1.f0)) ∧ w'.cell? ⟨gb166, 4, none⟩ = some (.int .i64 ((rd_T53 l1 x17_2).f1.f1)) ∧ w'.cell? ⟨gb159, 0, none⟩ = some (.string a0_0) ∧ w'.cell? ⟨gb159, 1, none⟩ = some (.int .i64 a0_1) ∧ w'.cell? ⟨gb159, 2, none⟩ = some (.int .i64 a0_2) ∧ w'.cell? ⟨gb159, 3, none⟩ = some (.int .i64 a0_3)) (ds := []) q6_0 (by kernel_rfl) rfl rfl ⟨bC BK166 0 rfl, bC BK166 1 rfl, bC BK166 2 rfl, bC BK166 3 rfl, bC BK166 4 rfl, bC BK159 0 rfl, bC BK159 1 rfl, bC BK159 2 rfl, bC BK159 3 rfl⟩ (fun hHeld => ?_); refine with_tabW holders_Valid.tab6 holders_Valid.bits6 (fun HT_ HW_ => ?_)
            generalize w28.drew = w45 at BK159 BK166 HB hHeld ⊢
            refine pu HT_ 0 22 q6_1 rfl rfl (by kernel_rfl) (fun _ _ _ => id) (.inl ⟨by rfl, by intro w'; go_simp; with_reducible rfl⟩) (by simp only [sP]; rfl) ?_
            refine tk HT_ HW_ 1 23 q6_2 rfl rfl (by kernel_rfl) (fun _ _ _ => id) (.inl ⟨by rfl, by rintro w' ⟨s0, s1, s2, s3, s4, s5, s6, s7, s8⟩; go_simp; with_reducible rfl⟩) hHeld (by simp only [sP]; rfl) ?_
            refine one_ (i := 2) (N := some 24) q6_3 rfl rfl (one_of HT_.out (by kernel_rfl)) (by decide) (fun K hK => ?_)
            refine goes_ Tryd.func44 (by kernel_rfl) rfl #[.agg #[.int .i64 ((rd_T53 l1 x17_2).f0.f0), .int .i64 ((rd_T53 l1 x17_2).f0.f1), .int .i64 ((rd_T53 l1 x17_2).f0.f2)]] (by rfl) rfl rfl (by (try simp only [mA]); first | done | rfl) ?_
            with_reducible refine (ident_ValidProc.calls ((rd_T53 l1 x17_2).f0.f0) ((rd_T53 l1 x17_2).f0.f1) ((rd_T53 l1 x17_2).f0.f2) true _ A15.out).mono ?_
            rintro e w46 ⟨rfl, hb⟩
            refine ⟨_, rfl, ?_⟩
            replace BK159 := bK BK159 hb
            replace BK166 := bK BK166 hb
            replace HB := Aside0.mk (below_step (by repeat (first | (with_reducible first | exact HB.out | apply bL | apply bM | apply bR | refine bS ?_ GE159.out | refine bS ?_ GE166.out) | exact HB.out)) hb)
            (try clear hb)
            refine hK.out _ _ ⟨bC BK166 0 rfl, bC BK166 1 rfl, bC BK166 2 rfl, bC BK166 3 rfl, bC BK166 4 rfl, bC BK159 0 rfl, bC BK159 1 rfl, bC BK159 2 rfl, bC BK159 3 rfl⟩ (fun hHeld => ?_)
            clear hK K
            refine norm_ (a' := ?_) ?_ ?_
            rotate_left
            ·show Act.put _ (some 24) _ = _
             simp only [sP]
             rfl
            refine pu HT_ 3 25 q6_4 rfl rfl (by kernel_rfl) (fun _ _ _ => id) (.inl ⟨by rfl, by intro w'; go_simp; with_reducible rfl⟩) (by simp only [sP]; rfl) ?_
            refine pu HT_ 4 26 q6_5 rfl rfl (by kernel_rfl) (fun _ _ _ => id) (.inl ⟨by rfl, by intro w'; go_simp; with_reducible rfl⟩) (by simp only [sP]; rfl) ?_
            refine pu HT_ 6 28 q6_26 rfl rfl (by kernel_rfl) (fun _ _ _ => id) (.inl ⟨by rfl, by intro w'; go_simp; with_reducible rfl⟩) (by simp only [sP]; rfl) ?_
            refine tk HT_ HW_ 5 27 q6_6 rfl rfl (by kernel_rfl) (fun _ _ _ => id) (.inl ⟨by rfl, by rintro w' ⟨s0, s1, s2, s3, s4, s5, s6, s7, s8⟩; go_simp; with_reducible rfl⟩) hHeld (by simp only [sP]; rfl) ?_
            refine tk HT_ HW_ 7 29 q6_7 rfl rfl (by kernel_rfl) (fun _ _ _ => id) (.inl ⟨by rfl, by rintro w' ⟨s0, s1, s2, s3, s4, s5, s6, s7, s8⟩; go_simp; with_reducible rfl⟩) hHeld (by simp only [sP]; rfl) ?_
            refine one_ (i := 8) (N := some 30) q6_8 rfl rfl (one_of HT_.out (by kernel_rfl)) (by decide) (fun K hK => ?_)
            refine goes_ Tryd.func45 (by kernel_rfl) rfl #[.agg #[.string a0_0, .int .i64 a0_1, .int .i64 a0_2, .int .i64 a0_3], .agg #[.int .i64 ((rd_T53 l1 x17_2).f1.f0), .int .i64 ((rd_T53 l1 x17_2).f1.f1)]] (by rfl) rfl rfl (by (try simp only [mA]); first | done | rfl) ?_
            with_reducible refine (amount_Fits.calls a0_0 a0_1 a0_2 a0_3 ((rd_T53 l1 x17_2).f1.f0) ((rd_T53 l1 x17_2).f1.f1) true _ A17.out).mono ?_
            rintro e w47 ⟨rfl, hb⟩
            refine ⟨_, rfl, ?_⟩
            replace BK159 := bK BK159 hb
            replace BK166 := bK BK166 hb
            replace HB := Aside0.mk (below_step (by repeat (first | (with_reducible first | exact HB.out | apply bL | apply bM | apply bR | refine bS ?_ GE159.out | refine bS ?_ GE166.out) | exact HB.out)) hb)
            (try clear hb)
            refine hK.out _ _ ⟨bC BK166 0 rfl, bC BK166 1 rfl, bC BK166 2 rfl, bC BK166 3 rfl, bC BK166 4 rfl, bC BK159 0 rfl, bC BK159 1 rfl, bC BK159 2 rfl, bC BK159 3 rfl⟩ (fun hHeld => ?_)
            clear hK K
            refine norm_ (a' := ?_) ?_ ?_
            rotate_left
            ·show Act.put _ (some 30) _ = _
             simp only [sP]
             rfl
            refine pu HT_ 9 31 q6_9 rfl rfl (by kernel_rfl) (fun _ _ _ => id) (.inl ⟨by rfl, by intro w'; go_simp; with_reducible rfl⟩) (by simp only [sP]; rfl) ?_
            refine pu HT_ 10 32 q6_10 rfl rfl (by kernel_rfl) (fun _ _ _ => id) (.inl ⟨by rfl, by intro w'; go_simp; with_reducible rfl⟩) (by simp only [sP]; rfl) ?_
            refine pu HT_ 11 33 q6_11 rfl rfl (by kernel_rfl) (fun _ _ _ => id) (.inl ⟨by rfl, by intro w'; go_simp; with_reducible rfl⟩) (by simp only [sP]; rfl) ?_
            refine pu HT_ 12 34 q6_12 rfl rfl (by kernel_rfl) (fun _ _ _ => id) (.inl ⟨by rfl, by intro w'; go_simp; with_reducible rfl⟩) (by simp only [sP]; rfl) ?_
            refine pu HT_ 13 35 q6_13 rfl rfl (by kernel_rfl) (fun _ _ _ => id) (.inl ⟨by rfl, by intro w'; go_simp; with_reducible rfl⟩) (by simp only [sP]; rfl) ?_
            refine pu HT_ 14 36 q6_14 rfl rfl (by kernel_rfl) (fun _ _ _ => id) (.inl ⟨by rfl, by intro w'; go_simp; with_reducible rfl⟩) (by simp only [sP]; rfl) ?_
            refine pu HT_ 15 37 q6_15 rfl rfl (by kernel_rfl) (fun _ _ _ => id) (.inr ⟨by rfl, rfl⟩) (by simp only [sP]; rfl) ?_
            refine pu HT_ 16 38 q6_16 rfl rfl (by kernel_rfl) (fun _ _ _ => id) (.inr ⟨by rfl, rfl⟩) (by simp only [sP]; rfl) ?_
            refine pu HT_ 17 39 q6_17 rfl rfl (by kernel_rfl) (fun _ _ _ => id) (.inr ⟨by rfl, rfl⟩) (by simp only [sP]; rfl) ?_
            refine pu HT_ 18 40 q6_18 rfl rfl (by kernel_rfl) (fun _ _ _ => id) (.inr ⟨by rfl, rfl⟩) (by simp only [sP]; rfl) ?_
            refine pu HT_ 19 41 q6_19 rfl rfl (by kernel_rfl) (fun _ _ _ => id) (.inr ⟨by rfl, rfl⟩) (by simp only [sP]; rfl) ?_
            refine pu HT_ 20 42 q6_27 rfl rfl (by kernel_rfl) (fun _ _ _ => id) (.inr ⟨by rfl, rfl⟩) (by simp only [sP]; rfl) ?_
            refine pu HT_ 21 43 q6_20 rfl rfl (by kernel_rfl) (fun _ _ _ => id) (.inr ⟨by rfl, rfl⟩) (by simp only [sP]; rfl) ?_
            refine pu HT_ 22 44 q6_21 rfl rfl (by kernel_rfl) (fun _ _ _ => id) (.inr ⟨by rfl, rfl⟩) (by simp only [sP]; rfl) ?_
            refine pu HT_ 23 45 q6_22 rfl rfl (by kernel_rfl) (fun _ _ _ => id) (.inr ⟨by rfl, rfl⟩) (by simp only [sP]; rfl) ?_
            refine pu HT_ 24 46 q6_23 rfl rfl (by kernel_rfl) (fun _ _ _ => id) (.inr ⟨by rfl, rfl⟩) (by simp only [sP]; rfl) ?_
            refine pu HT_ 25 47 q6_24 rfl rfl (by kernel_rfl) (fun _ _ _ => id) (.inl ⟨by rfl, by intro w'; go_simp; with_reducible rfl⟩) (by simp only [sP]; rfl) ?_
            refine pu HT_ 26 48 q6_25 rfl rfl (by kernel_rfl) (fun _ _ _ => id) (.inl ⟨by rfl, by intro w'; go_simp; with_reducible rfl⟩) (by simp only [sP]; rfl) ?_
            refine done_ (done_of HT_.out (by kernel_rfl)) ?_
            try go_wp2
            go_roundg k2
            case measure => have := HJ2.out; have := HK2.out; omega
            case rel => exact ⟨(wrap64 (x17_2 + 1)), (by first | rfl | (simp; done) | (simp [*]; done)), H', ⟨by have := HJ2.out; have := HK2.out; omega⟩, ⟨by (with_reducible repeat first | refine bN ?_ _ | refine bD ?_ | refine bA ?_ _); exact BK159.out⟩, ⟨by repeat (first | (with_reducible first | exact HB.out | apply bL | apply bM | apply bR | refine bS ?_ GE159.out | refine bS ?_ GE166.out) | exact HB.out)⟩⟩
          ·replace c18 := Bool.eq_false_iff.mpr c18
           subst c18
           rw [if_neg (show ¬ (false = true) by decide)] at H
           obtain rfl := Option.some.inj H
           refine start_ (n := 27) (S := fun w' => w'.cell? ⟨gb166, 0, none⟩ = some (.int .i64 ((rd_T53 l1 x17_2).f0.f0)) ∧ w'.cell? ⟨gb166, 1, none⟩ = some (.int .i64 ((rd_T53 l1 x17_2).f0.f1)) ∧ w'.cell? ⟨gb166, 2, none⟩ = some (.int .i64 ((rd_T53 l1 x17_2).f0.f2)) ∧ w'.cell? ⟨gb166, 3, none⟩ = some (.int .i64 ((rd_T53 l1 x17_2).f1.f0)) ∧ w'.cell? ⟨gb166, 4, none⟩ = some (.int .i64 ((rd_T53 l1 x17_2).f1.f1)) ∧ w'.cell? ⟨gb159, 0, none⟩ = some (.string a0_0) ∧ w'.cell? ⟨gb159, 1, none⟩ = some (.int .i64 a0_1) ∧ w'.cell? ⟨gb159, 2, none⟩ = some (.int .i64 a0_2) ∧ w'.cell? ⟨gb159, 3, none⟩ = some (.int .i64 a0_3)) (ds := []) q6_0 (by kernel_rfl) rfl rfl ⟨bC BK166 0 rfl, bC BK166 1 rfl, bC BK166 2 rfl, bC BK166 3 rfl, bC BK166 4 rfl, bC BK159 0 rfl, bC BK159 1 rfl, bC BK159 2 rfl, bC BK159 3 rfl⟩ (fun hHeld => ?_); refine with_tabW holders_Valid.tab6 holders_Valid.bits6 (fun HT_ HW_ => ?_)
           generalize w28.drew = w52 at BK159 BK166 HB hHeld ⊢
           refine pu HT_ 0 22 q6_1 rfl rfl (by kernel_rfl) (fun _ _ _ => id) (.inl ⟨by rfl, by intro w'; go_simp; with_reducible rfl⟩) (by simp only [sP]; rfl) ?_
           refine tk HT_ HW_ 1 23 q6_2 rfl rfl (by kernel_rfl) (fun _ _ _ => id) (.inl ⟨by rfl, by rintro w' ⟨s0, s1, s2, s3, s4, s5, s6, s7, s8⟩; go_simp; with_reducible rfl⟩) hHeld (by simp only [sP]; rfl) ?_
           refine one_ (i := 2) (N := some 24) q6_3 rfl rfl (one_of HT_.out (by kernel_rfl)) (by decide) (fun K hK => ?_)
           refine goes_ Tryd.func44 (by kernel_rfl) rfl #[.agg #[.int .i64 ((rd_T53 l1 x17_2).f0.f0), .int .i64 ((rd_T53 l1 x17_2).f0.f1), .int .i64 ((rd_T53 l1 x17_2).f0.f2)]] (by rfl) rfl rfl (by (try simp only [mA]); first | done | rfl) ?_
           with_reducible refine (ident_ValidProc.calls ((rd_T53 l1 x17_2).f0.f0) ((rd_T53 l1 x17_2).f0.f1) ((rd_T53 l1 x17_2).f0.f2) true _ A15.out).mono ?_
           rintro e w53 ⟨rfl, hb⟩
           refine ⟨_, rfl, ?_⟩
           replace BK159 := bK BK159 hb
           replace BK166 := bK BK166 hb
           replace HB := Aside0.mk (below_step (by repeat (first | (with_reducible first | exact HB.out | apply bL | apply bM | apply bR | refine bS ?_ GE159.out | refine bS ?_ GE166.out) | exact HB.out)) hb)
           (try clear hb)
           refine hK.out _ _ ⟨bC BK166 0 rfl, bC BK166 1 rfl, bC BK166 2 rfl, bC BK166 3 rfl, bC BK166 4 rfl, bC BK159 0 rfl, bC BK159 1 rfl, bC BK159 2 rfl, bC BK159 3 rfl⟩ (fun hHeld => ?_)
           clear hK K
           refine norm_ (a' := ?_) ?_ ?_
           rotate_left
           ·show Act.put _ (some 24) _ = _
            simp only [sP]
            rfl
           refine pu HT_ 3 25 q6_4 rfl rfl (by kernel_rfl) (fun _ _ _ => id) (.inl ⟨by rfl, by intro w'; go_simp; with_reducible rfl⟩) (by simp only [sP]; rfl) ?_
           refine pu HT_ 4 26 q6_5 rfl rfl (by kernel_rfl) (fun _ _ _ => id) (.inl ⟨by rfl, by intro w'; go_simp; with_reducible rfl⟩) (by simp only [sP]; rfl) ?_
           refine pu HT_ 6 28 q6_26 rfl rfl (by kernel_rfl) (fun _ _ _ => id) (.inl ⟨by rfl, by intro w'; go_simp; with_reducible rfl⟩) (by simp only [sP]; rfl) ?_
           refine tk HT_ HW_ 5 27 q6_6 rfl rfl (by kernel_rfl) (fun _ _ _ => id) (.inl ⟨by rfl, by rintro w' ⟨s0, s1, s2, s3, s4, s5, s6, s7, s8⟩; go_simp; with_reducible rfl⟩) hHeld (by simp only [sP]; rfl) ?_
           refine tk HT_ HW_ 7 29 q6_7 rfl rfl (by kernel_rfl) (fun _ _ _ => id) (.inl ⟨by rfl, by rintro w' ⟨s0, s1, s2, s3, s4, s5, s6, s7, s8⟩; go_simp; with_reducible rfl⟩) hHeld (by simp only [sP]; rfl) ?_
           refine one_ (i := 8) (N := some 30) q6_8 rfl rfl (one_of HT_.out (by kernel_rfl)) (by decide) (fun K hK => ?_)
           refine goes_ Tryd.func45 (by kernel_rfl) rfl #[.agg #[.string a0_0, .int .i64 a0_1, .int .i64 a0_2, .int .i64 a0_3], .agg #[.int .i64 ((rd_T53 l1 x17_2).f1.f0), .int .i64 ((rd_T53 l1 x17_2).f1.f1)]] (by rfl) rfl rfl (by (try simp only [mA]); first | done | rfl) ?_
           with_reducible refine (amount_Fits.calls a0_0 a0_1 a0_2 a0_3 ((rd_T53 l1 x17_2).f1.f0) ((rd_T53 l1 x17_2).f1.f1) false _ A17.out).mono ?_
           rintro e w54 ⟨rfl, hb⟩
           refine ⟨_, rfl, ?_⟩
           replace BK159 := bK BK159 hb
           replace BK166 := bK BK166 hb
           replace HB := Aside0.mk (below_step (by repeat (first | (with_reducible first | exact HB.out | apply bL | apply bM | apply bR | refine bS ?_ GE159.out | refine bS ?_ GE166.out) | exact HB.out)) hb)
           (try clear hb)
           refine hK.out _ _ ⟨bC BK166 0 rfl, bC BK166 1 rfl, bC BK166 2 rfl, bC BK166 3 rfl, bC BK166 4 rfl, bC BK159 0 rfl, bC BK159 1 rfl, bC BK159 2 rfl, bC BK159 3 rfl⟩ (fun hHeld => ?_)
           clear hK K
           refine norm_ (a' := ?_) ?_ ?_
           rotate_left
           ·show Act.put _ (some 30) _ = _
            simp only [sP]
            rfl
           refine pu HT_ 9 31 q6_9 rfl rfl (by kernel_rfl) (fun _ _ _ => id) (.inl ⟨by rfl, by intro w'; go_simp; with_reducible rfl⟩) (by simp only [sP]; rfl) ?_
           refine pu HT_ 10 32 q6_10 rfl rfl (by kernel_rfl) (fun _ _ _ => id) (.inl ⟨by rfl, by intro w'; go_simp; with_reducible rfl⟩) (by simp only [sP]; rfl) ?_
           refine pu HT_ 11 33 q6_11 rfl rfl (by kernel_rfl) (fun _ _ _ => id) (.inl ⟨by rfl, by intro w'; go_simp; with_reducible rfl⟩) (by simp only [sP]; rfl) ?_
           refine pu HT_ 12 34 q6_12 rfl rfl (by kernel_rfl) (fun _ _ _ => id) (.inr ⟨by rfl, rfl⟩) (by simp only [sP]; rfl) ?_
           refine pu HT_ 13 35 q6_13 rfl rfl (by kernel_rfl) (fun _ _ _ => id) (.inr ⟨by rfl, rfl⟩) (by simp only [sP]; rfl) ?_
           refine pu HT_ 14 36 q6_14 rfl rfl (by kernel_rfl) (fun _ _ _ => id) (.inr ⟨by rfl, rfl⟩) (by simp only [sP]; rfl) ?_
           refine pu HT_ 15 37 q6_15 rfl rfl (by kernel_rfl) (fun _ _ _ => id) (.inr ⟨by rfl, rfl⟩) (by simp only [sP]; rfl) ?_
           refine pu HT_ 16 38 q6_16 rfl rfl (by kernel_rfl) (fun _ _ _ => id) (.inr ⟨by rfl, rfl⟩) (by simp only [sP]; rfl) ?_
           refine pu HT_ 17 39 q6_17 rfl rfl (by kernel_rfl) (fun _ _ _ => id) (.inr ⟨by rfl, rfl⟩) (by simp only [sP]; rfl) ?_
           refine pu HT_ 18 40 q6_18 rfl rfl (by kernel_rfl) (fun _ _ _ => id) (.inr ⟨by rfl, rfl⟩) (by simp only [sP]; rfl) ?_
           refine pu HT_ 19 41 q6_19 rfl rfl (by kernel_rfl) (fun _ _ _ => id) (.inr ⟨by rfl, rfl⟩) (by simp only [sP]; rfl) ?_
           refine pu HT_ 20 42 q6_27 rfl rfl (by kernel_rfl) (fun _ _ _ => id) (.inr ⟨by rfl, rfl⟩) (by simp only [sP]; rfl) ?_
           refine pu HT_ 21 43 q6_20 rfl rfl (by kernel_rfl) (fun _ _ _ => id) (.inr ⟨by rfl, rfl⟩) (by simp only [sP]; rfl) ?_
           refine pu HT_ 22 44 q6_21 rfl rfl (by kernel_rfl) (fun _ _ _ => id) (.inr ⟨by rfl, rfl⟩) (by simp only [sP]; rfl) ?_
           refine pu HT_ 23 45 q6_22 rfl rfl (by kernel_rfl) (fun _ _ _ => id) (.inr ⟨by rfl, rfl⟩) (by simp only [sP]; rfl) ?_
           refine pu HT_ 24 46 q6_23 rfl rfl (by kernel_rfl) (fun _ _ _ => id) (.inr ⟨by rfl, rfl⟩) (by simp only [sP]; rfl) ?_
           refine pu HT_ 25 47 q6_24 rfl rfl (by kernel_rfl) (fun _ _ _ => id) (.inr ⟨by rfl, rfl⟩) (by simp only [sP]; rfl) ?_
           refine pu HT_ 26 48 q6_25 rfl rfl (by kernel_rfl) (fun _ _ _ => id) (.inl ⟨by rfl, by intro w'; go_simp; with_reducible rfl⟩) (by simp only [sP]; rfl) ?_
           refine done_ (done_of HT_.out (by kernel_rfl)) ?_
           try go_wp2
           go_ret
           exact ⟨by first | rfl | (simp [errW_none, errW_some] <;> rfl) | (simp [*, errW_none, errW_some] <;> rfl), by repeat (first | (with_reducible first | exact HB.out | apply bL | apply bM | apply bR | refine bS ?_ GE159.out | refine bS ?_ GE166.out) | exact HB.out)⟩
         ·replace c16 := Bool.eq_false_iff.mpr c16
          subst c16
          rw [if_neg (show ¬ (false = true) by decide)] at H
          obtain rfl := Option.some.inj H
          refine start_ (n := 27) (S := fun w' => w'.cell? ⟨gb166, 0, none⟩ = some (.int .i64 ((rd_T53 l1 x17_2).f0.f0)) ∧ w'.cell? ⟨gb166, 1, none⟩ = some (.int .i64 ((rd_T53 l1 x17_2).f0.f1)) ∧ w'.cell? ⟨gb166, 2, none⟩ = some (.int .i64 ((rd_T53 l1 x17_2).f0.f2)) ∧ w'.cell? ⟨gb166, 3, none⟩ = some (.int .i64 ((rd_T53 l1 x17_2).f1.f0)) ∧ w'.cell? ⟨gb166, 4, none⟩ = some (.int .i64 ((rd_T53 l1 x17_2).f1.f1))) (ds := []) q6_0 (by kernel_rfl) rfl rfl ⟨bC BK166 0 rfl, bC BK166 1 rfl, bC BK166 2 rfl, bC BK166 3 rfl, bC BK166 4 rfl⟩ (fun hHeld => ?_); refine with_tabW holders_Valid.tab6 holders_Valid.bits6 (fun HT_ HW_ => ?_)
          generalize w28.drew = w59 at BK159 BK166 HB hHeld ⊢
          refine pu HT_ 0 22 q6_1 rfl rfl (by kernel_rfl) (fun _ _ _ => id) (.inl ⟨by rfl, by intro w'; go_simp; with_reducible rfl⟩) (by simp only [sP]; rfl) ?_
          refine tk HT_ HW_ 1 23 q6_2 rfl rfl (by kernel_rfl) (fun _ _ _ => id) (.inl ⟨by rfl, by rintro w' ⟨s0, s1, s2, s3, s4⟩; go_simp; with_reducible rfl⟩) hHeld (by simp only [sP]; rfl) ?_
          refine one_ (i := 2) (N := some 24) q6_3 rfl rfl (one_of HT_.out (by kernel_rfl)) (by decide) (fun K hK => ?_)
          refine goes_ Tryd.func44 (by kernel_rfl) rfl #[.agg #[.int .i64 ((rd_T53 l1 x17_2).f0.f0), .int .i64 ((rd_T53 l1 x17_2).f0.f1), .int .i64 ((rd_T53 l1 x17_2).f0.f2)]] (by rfl) rfl rfl (by (try simp only [mA]); first | done | rfl) ?_
          with_reducible refine (ident_ValidProc.calls ((rd_T53 l1 x17_2).f0.f0) ((rd_T53 l1 x17_2).f0.f1) ((rd_T53 l1 x17_2).f0.f2) false _ A15.out).mono ?_
          rintro e w60 ⟨rfl, hb⟩
          refine ⟨_, rfl, ?_⟩
          replace BK159 := bK BK159 hb
          replace BK166 := bK BK166 hb
          replace HB := Aside0.mk (below_step (by repeat (first | (with_reducible first | exact HB.out | apply bL | apply bM | apply bR | refine bS ?_ GE159.out | refine bS ?_ GE166.out) | exact HB.out)) hb)
          (try clear hb)
          refine hK.out _ _ ⟨bC BK166 0 rfl, bC BK166 1 rfl, bC BK166 2 rfl, bC BK166 3 rfl, bC BK166 4 rfl⟩ (fun hHeld => ?_)
          clear hK K
          refine norm_ (a' := ?_) ?_ ?_
          rotate_left
          ·show Act.put _ (some 24) _ = _
           simp only [sP]
           rfl
          refine pu HT_ 3 25 q6_4 rfl rfl (by kernel_rfl) (fun _ _ _ => id) (.inl ⟨by rfl, by intro w'; go_simp; with_reducible rfl⟩) (by simp only [sP]; rfl) ?_
          refine pu HT_ 4 26 q6_5 rfl rfl (by kernel_rfl) (fun _ _ _ => id) (.inl ⟨by rfl, by intro w'; go_simp; with_reducible rfl⟩) (by simp only [sP]; rfl) ?_
          refine pu HT_ 5 27 #[T,T,T,T,T,T,F,F,F,F,F,F,F,F,F,F,F,F,F,F,F,F,F,F,F,F,F] rfl rfl (by kernel_rfl) (fun _ _ _ => id) (.inr ⟨by rfl, rfl⟩) (by simp only [sP]; rfl) ?_
          refine pu HT_ 6 28 q6_6 rfl rfl (by kernel_rfl) (fun _ _ _ => id) (.inr ⟨by rfl, rfl⟩) (by simp only [sP]; rfl) ?_
          refine pu HT_ 7 29 q6_7 rfl rfl (by kernel_rfl) (fun _ _ _ => id) (.inr ⟨by rfl, rfl⟩) (by simp only [sP]; rfl) ?_
          refine pu HT_ 8 30 q6_8 rfl rfl (by kernel_rfl) (fun _ _ _ => id) (.inr ⟨by rfl, rfl⟩) (by simp only [sP]; rfl) ?_
          refine pu HT_ 9 31 q6_9 rfl rfl (by kernel_rfl) (fun _ _ _ => id) (.inr ⟨by rfl, rfl⟩) (by simp only [sP]; rfl) ?_
          refine pu HT_ 10 32 q6_10 rfl rfl (by kernel_rfl) (fun _ _ _ => id) (.inl ⟨by rfl, by intro w'; go_simp; with_reducible rfl⟩) (by simp only [sP]; rfl) ?_
          refine pu HT_ 11 33 q6_11 rfl rfl (by kernel_rfl) (fun _ _ _ => id) (.inl ⟨by rfl, by intro w'; go_simp; with_reducible rfl⟩) (by simp only [sP]; rfl) ?_
          refine pu HT_ 12 34 q6_12 rfl rfl (by kernel_rfl) (fun _ _ _ => id) (.inr ⟨by rfl, rfl⟩) (by simp only [sP]; rfl) ?_
          refine pu HT_ 13 35 q6_13 rfl rfl (by kernel_rfl) (fun _ _ _ => id) (.inr ⟨by rfl, rfl⟩) (by simp only [sP]; rfl) ?_
          refine pu HT_ 14 36 q6_14 rfl rfl (by kernel_rfl) (fun _ _ _ => id) (.inr ⟨by rfl, rfl⟩) (by simp only [sP]; rfl) ?_
          refine pu HT_ 15 37 q6_15 rfl rfl (by kernel_rfl) (fun _ _ _ => id) (.inr ⟨by rfl, rfl⟩) (by simp only [sP]; rfl) ?_
          refine pu HT_ 16 38 q6_16 rfl rfl (by kernel_rfl) (fun _ _ _ => id) (.inr ⟨by rfl, rfl⟩) (by simp only [sP]; rfl) ?_
          refine pu HT_ 17 39 q6_17 rfl rfl (by kernel_rfl) (fun _ _ _ => id) (.inr ⟨by rfl, rfl⟩) (by simp only [sP]; rfl) ?_
          refine pu HT_ 18 40 q6_18 rfl rfl (by kernel_rfl) (fun _ _ _ => id) (.inr ⟨by rfl, rfl⟩) (by simp only [sP]; rfl) ?_
          refine pu HT_ 19 41 q6_19 rfl rfl (by kernel_rfl) (fun _ _ _ => id) (.inr ⟨by rfl, rfl⟩) (by simp only [sP]; rfl) ?_
          refine pu HT_ 20 42 q6_27 rfl rfl (by kernel_rfl) (fun _ _ _ => id) (.inr ⟨by rfl, rfl⟩) (by simp only [sP]; rfl) ?_
          refine pu HT_ 21 43 q6_20 rfl rfl (by kernel_rfl) (fun _ _ _ => id) (.inr ⟨by rfl, rfl⟩) (by simp only [sP]; rfl) ?_
          refine pu HT_ 22 44 q6_21 rfl rfl (by kernel_rfl) (fun _ _ _ => id) (.inr ⟨by rfl, rfl⟩) (by simp only [sP]; rfl) ?_
          refine pu HT_ 23 45 q6_22 rfl rfl (by kernel_rfl) (fun _ _ _ => id) (.inr ⟨by rfl, rfl⟩) (by simp only [sP]; rfl) ?_
          refine pu HT_ 24 46 q6_23 rfl rfl (by kernel_rfl) (fun _ _ _ => id) (.inr ⟨by rfl, rfl⟩) (by simp only [sP]; rfl) ?_
          refine pu HT_ 25 47 q6_24 rfl rfl (by kernel_rfl) (fun _ _ _ => id) (.inr ⟨by rfl, rfl⟩) (by simp only [sP]; rfl) ?_
          refine pu HT_ 26 48 q6_25 rfl rfl (by kernel_rfl) (fun _ _ _ => id) (.inl ⟨by rfl, by intro w'; go_simp; with_reducible rfl⟩) (by simp only [sP]; rfl) ?_
          refine done_ (done_of HT_.out (by kernel_rfl)) ?_
          try go_wp2
          go_ret
          exact ⟨by first | rfl | (simp [errW_none, errW_some] <;> rfl) | (simp [*, errW_none, errW_some] <;> rfl), by repeat (first | (with_reducible first | exact HB.out | apply bL | apply bM | apply bR | refine bS ?_ GE159.out | refine bS ?_ GE166.out) | exact HB.out)⟩
        ·rw [if_neg c14] at H
         exact absurd H (by simp)
       ·rw [if_neg c13] at H
        exact absurd H (by simp)
      ·rw [if_neg c12] at H
       have c12b0 : decide (x17_2 < (l1.length : Int)) = false := decide_eq_false c12
       clear c12
       obtain ⟨t161, A610, H⟩ := Option.bind_eq_some_iff.mp H
       have A61 := Aside0.mk A610; clear A610
       obtain ⟨t164, A620, H⟩ := Option.bind_eq_some_iff.mp H
       have A62 := Aside0.mk A620; clear A620
       obtain rfl := Option.some.inj H
       try go_wp2
       replace BK159 := Aside0.mk (blk_drew BK159.out)
       replace HB := Aside0.mk (below_drew1 HB.out)
       refine start_ (n := 5) (S := fun w' => w'.cell? ⟨gb159, 0, none⟩ = some (.string a0_0) ∧ w'.cell? ⟨gb159, 1, none⟩ = some (.int .i64 a0_1) ∧ w'.cell? ⟨gb159, 2, none⟩ = some (.int .i64 a0_2) ∧ w'.cell? ⟨gb159, 3, none⟩ = some (.int .i64 a0_3)) (ds := []) #[F,F,F,F,F] (by kernel_rfl) rfl rfl ⟨bC BK159 0 rfl, bC BK159 1 rfl, bC BK159 2 rfl, bC BK159 3 rfl⟩ (fun hHeld => ?_)
       generalize wr.drew = w63 at BK159 HB hHeld ⊢
       refine pure_ (i := 1) (N := some 51) (v := ?_) (a' := ?_) #[F,T,F,F,F] rfl rfl (by kernel_rfl) (fun _ _ _ h => h) (Or.inl ⟨by rfl, ?_⟩) ?_ ?_
       rotate_left
       ·intro w'; go_simp; with_reducible rfl
       rotate_left
       ·simp only [sP]; rfl
       refine take_ (i := 0) (N := some 50) (v := ?_) (a' := ?_) #[T,T,F,F,F] rfl rfl (by kernel_rfl) (fun _ _ _ h => h) (Or.inl ⟨by rfl, ?_⟩) hHeld ?_ ?_
       rotate_left
       ·rintro w' ⟨s0, s1, s2, s3⟩; go_simp; with_reducible rfl
       rotate_left
       ·simp only [sP]; rfl
       refine one_ (i := 2) (N := some 52) #[T,T,T,F,F] rfl rfl (by kernel_rfl) (by decide) (fun K hK => ?_)
       refine goes_ Tryd.func47 (by kernel_rfl) rfl #[.slice A1 l1.length c1] (by rfl) rfl rfl (by (try simp only [mA]); first | done | rfl) ?_
       with_reducible refine (holders_amounts.calls k2 _ _ l1 t161 _ ?side1 ?side2 A61.out).mono ?_
       (case side1 => repeat (first | exact (Kd.C_below HR1.out HB.out) | (with_reducible refine Kd.C_alloc ?_ _) | (with_reducible refine Kd.C_drewN ?_ _) | (with_reducible refine Kd.C_drew ?_)))
       (case side2 => exact HC1.out)
       rintro e w64 ⟨v162, rfl, ho0, hb⟩
       refine ⟨_, rfl, ?_⟩
       have HO163 := Aside0.mk (Kd.R_lower ho0 (below_size (by repeat (first | (with_reducible first | exact HB.out | apply bL | apply bM | apply bR | refine bS ?_ GE159.out) | exact HB.out))))
       replace BK159 := bK BK159 hb
       replace HB := Aside0.mk (below_step (by repeat (first | (with_reducible first | exact HB.out | apply bL | apply bM | apply bR | refine bS ?_ GE159.out) | exact HB.out)) hb)
       (try clear hb)
       (try clear ho0)
       obtain ⟨Ao65, co65, eo65⟩ := Kd.R_slice HO163.out
       (first | subst eo65 | (injection eo65 with f1_ f2_ f3_; have f4_ := f1_.symm; have f5_ := f3_.symm; clear f1_ f2_ f3_; subst f4_; subst f5_))
       refine hK.out _ _ ⟨bC BK159 0 rfl, bC BK159 1 rfl, bC BK159 2 rfl, bC BK159 3 rfl⟩ (fun hHeld => ?_)
       clear hK K
       refine norm_ (a' := ?_) ?_ ?_
       rotate_left
       ·show Act.put _ (some 52) _ = _
        simp only [sP]
        rfl
       refine one_ (i := 3) (N := some 53) #[T,T,T,T,F] rfl rfl (by kernel_rfl) (by decide) (fun K hK => ?_)
       refine goes_ Tryd.func38 (by kernel_rfl) rfl #[.agg #[.string a0_0, .int .i64 a0_1, .int .i64 a0_2, .int .i64 a0_3], .slice Ao65 t161.length co65] (by rfl) rfl rfl (by (try simp only [mA]); first | done | rfl) ?_
       with_reducible refine (amount_Compatible.calls k2 a0_0 a0_1 a0_2 a0_3 _ _ t161 t164 _ ?side1 ?side2 ?side3 A62.out).mono ?_
       (case side1 => repeat (first | exact (Kd.R_reads' HO163.out).2.2 | (with_reducible refine Kd.C_alloc ?_ _) | (with_reducible refine Kd.C_drewN ?_ _) | (with_reducible refine Kd.C_drew ?_)))
       (case side2 => exact (Kd.R_reads' HO163.out).2.1)
       (case side3 => exact GL.below HG.out (by repeat (first | (with_reducible first | exact HB.out | apply bL | apply bM | apply bR | refine bS ?_ GE159.out) | exact HB.out)))
       rintro e w66 ⟨rfl, hb⟩
       refine ⟨_, rfl, ?_⟩
       replace HO163 := Aside0.mk (Kd.R_below (by (with_reducible repeat (first | apply Kd.R_alloc | apply Kd.R_drewN | apply Kd.R_drew)); exact HO163.out) hb)
       replace BK159 := bK BK159 hb
       replace HB := Aside0.mk (below_step (by repeat (first | (with_reducible first | exact HB.out | apply bL | apply bM | apply bR | refine bS ?_ GE159.out) | exact HB.out)) hb)
       (try clear hb)
       refine hK.out _ _ ⟨bC BK159 0 rfl, bC BK159 1 rfl, bC BK159 2 rfl, bC BK159 3 rfl⟩ (fun hHeld => ?_)
       clear hK K
       refine norm_ (a' := ?_) ?_ ?_
       rotate_left
       ·show Act.put _ (some 53) _ = _
        simp only [sP]
        rfl
       refine pure_ (i := 4) (N := some 4) (v := ?_) (a' := ?_) #[T,T,T,T,T] rfl rfl (by kernel_rfl) (fun _ _ _ h => h) (Or.inl ⟨by rfl, ?_⟩) ?_ ?_
       rotate_left
       ·intro w'; go_simp; with_reducible rfl
       rotate_left
       ·simp only [sP]; rfl
       refine done_ (by kernel_rfl) ?_
       try go_wp2
       go_ret
       exact ⟨by first | rfl | (simp [errW_none, errW_some] <;> rfl) | (simp [*, errW_none, errW_some] <;> rfl), by repeat (first | (with_reducible first | exact HB.out | apply bL | apply bM | apply bR | refine bS ?_ GE159.out) | exact HB.out)⟩
end Go.Proofs.YtnmemkphfgdplaaDoor.PA
