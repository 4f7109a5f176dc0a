-- Printed by wip/tool/myprint.py for this claim; Lean checks it.
import Derived.Test.YtnmemkphfgdplaaDoorPAx0
import Derived.Test.YtnmemkphfgdplaaDoorSlim
import Derived.Test.YtnmemkphfgdplaaDoorPAx1
import Derived.Test.YtnmemkphfgdplaaDoorPAx5
import Derived.Test.YtnmemkphfgdplaaDoorPAx7
namespace Go.Proofs.YtnmemkphfgdplaaDoor.PA
open Go.RowKit Go.Proofs.YtnmemkphfgdplaaDoorW.PrintWords Go.Proofs.YtnmemkphfgdplaaDoorW.PrintLast Go.Proofs.YtnmemkphfgdplaaDoorW.PrintMore
attribute [local go_sem] max2_int min2_int max_two min_two max_three min_three max_four min_four   -- for this text's walks alone
set_option linter.unusedVariables false
set_option linter.unusedSimpArgs false

attribute [local go_sem high] eqA24
/-! ### holders_Against: function 18 -/
mutual
def holders_Against.j0 : Nat → List (S53) → Bool → ByteArray → Int → Int → Int → Int → Int → Int → Int → Int → Option ((List (S24)))
 | 0, _, _, _, _, _, _, _, _, _, _, _ => none
 | k + 1, x1, x24, x186000, x186001, x186002, x186003, x187000, x187001, x187002, x188000, x188001 => if x24 = true then (some ([] : List (S24))) else (holders_Against.l0 k ([] : List (S24)) x1 (x1.length : Int) 0 x186000 x186001 x186002 x186003 x187000 x187001 x187002 x188000 x188001)
def holders_Against.l0 : Nat → List (S24) → List (S53) → Int → Int → ByteArray → Int → Int → Int → Int → Int → Int → Int → Int → Option ((List (S24)))
 | 0, _, _, _, _, _, _, _, _, _, _, _, _, _ => none
 | k + 1, x9, x25, x26, x27, x186000, x186001, x186002, x186003, x187000, x187001, x187002, x188000, x188001 => if x27 < x26 then (if 0 ≤ x27 then (if x27 < (x25.length : Int) then (if (!(((rd_T53 x25 x27).f0.f0) == x187000) || (!(((rd_T53 x25 x27).f0.f1) == x187001) || (!(((rd_T53 x25 x27).f0.f2) == x187002)))) = true then (if x186001 = 2 then (if x9.length < 5864062014805 then (holders_Against.l0 k (x9 ++ [(⟨(rd_T53 x25 x27).f0.f0, (rd_T53 x25 x27).f0.f1, (rd_T53 x25 x27).f0.f2⟩ : S24)]) x25 x26 (wrap64 (x27 + 1)) x186000 x186001 x186002 x186003 x187000 x187001 x187002 x188000 x188001) else (none)) else ((amount_Compatible.f k x186000 x186001 x186002 x186003 (([(⟨(rd_T53 x25 x27).f1.f0, (rd_T53 x25 x27).f1.f1⟩ : S26), (⟨x188000, x188001⟩ : S26)] : List (S26)))).bind fun t198 => (if t198 = true then (holders_Against.l0 k x9 x25 x26 (wrap64 (x27 + 1)) x186000 x186001 x186002 x186003 x187000 x187001 x187002 x188000 x188001) else (if x9.length < 5864062014805 then (holders_Against.l0 k (x9 ++ [(⟨(rd_T53 x25 x27).f0.f0, (rd_T53 x25 x27).f0.f1, (rd_T53 x25 x27).f0.f2⟩ : S24)]) x25 x26 (wrap64 (x27 + 1)) x186000 x186001 x186002 x186003 x187000 x187001 x187002 x188000 x188001) else (none))))) else (holders_Against.l0 k x9 x25 x26 (wrap64 (x27 + 1)) x186000 x186001 x186002 x186003 x187000 x187001 x187002 x188000 x188001)) else (none)) else (none)) else (some x9)
end
def holders_Against.f (k : Nat) (a0_0 : ByteArray) (a0_1 : Int) (a0_2 : Int) (a0_3 : Int) (l1 : List (S53)) (a2_0 : Int) (a2_1 : Int) (a2_2 : Int) (a3_0 : Int) (a3_1 : Int) : Option ((List (S24))) := (holders_fit.f k a0_0 a0_1 a0_2 a0_3 l1 a2_0 a2_1 a2_2 a3_0 a3_1).bind fun t188 => (if t188 = true then ((holders_Room.f k a0_0 a0_1 a0_2 a0_3 l1 a2_0 a2_1 a2_2 a3_0 a3_1).bind fun t189 => (holders_Against.j0 k l1 t189 a0_0 a0_1 a0_2 a0_3 a2_0 a2_1 a2_2 a3_0 a3_1)) else (holders_Against.j0 k l1 true a0_0 a0_1 a0_2 a0_3 a2_0 a2_1 a2_2 a3_0 a3_1))
theorem holders_Against.mono_l : ∀ k, (∀ y0 y1 y2 y3 y4 y5 y6 y7 y8 y9 y10, LeO (holders_Against.j0 k y0 y1 y2 y3 y4 y5 y6 y7 y8 y9 y10) (holders_Against.j0 (k + 1) y0 y1 y2 y3 y4 y5 y6 y7 y8 y9 y10)) ∧ (∀ y0 y1 y2 y3 y4 y5 y6 y7 y8 y9 y10 y11 y12, LeO (holders_Against.l0 k y0 y1 y2 y3 y4 y5 y6 y7 y8 y9 y10 y11 y12) (holders_Against.l0 (k + 1) y0 y1 y2 y3 y4 y5 y6 y7 y8 y9 y10 y11 y12))
 | 0 => ⟨fun _ _ _ _ _ _ _ _ _ _ _ r h => by simp [holders_Against.j0] at h, fun _ _ _ _ _ _ _ _ _ _ _ _ _ r h => by simp [holders_Against.l0] at h⟩
 | k + 1 => by
  obtain ⟨ih0, ih1⟩ := holders_Against.mono_l k
  refine ⟨?_, ?_⟩
  ·intro y0 y1 y2 y3 y4 y5 y6 y7 y8 y9 y10
   unfold holders_Against.j0
   repeat' first
   | (with_reducible exact ih0 _ _ _ _ _ _ _ _ _ _ _)
   | (with_reducible exact ih1 _ _ _ _ _ _ _ _ _ _ _ _ _)
   | (with_reducible exact amount_Compatible.mono _ _ _ _ _ _)
   | (with_reducible exact holders_Room.mono _ _ _ _ _ _ _ _ _ _ _)
   | (with_reducible exact holders_fit.mono _ _ _ _ _ _ _ _ _ _ _)
   | (with_reducible exact LeO.refl _)
   | (with_reducible exact LeO.none _)
   | (with_reducible refine LeO.ite ?_ ?_)
   | (with_reducible refine LeO.bind ?_ (fun _ => ?_))
   | exact ih0 _ _ _ _ _ _ _ _ _ _ _
   | exact ih1 _ _ _ _ _ _ _ _ _ _ _ _ _
   | exact amount_Compatible.mono _ _ _ _ _ _
   | exact holders_Room.mono _ _ _ _ _ _ _ _ _ _ _
   | exact holders_fit.mono _ _ _ _ _ _ _ _ _ _ _
   | exact LeO.none _
   | refine LeO.ite ?_ ?_
   | refine LeO.bind ?_ (fun _ => ?_)
  ·intro y0 y1 y2 y3 y4 y5 y6 y7 y8 y9 y10 y11 y12
   unfold holders_Against.l0
   repeat' first
   | (with_reducible exact ih0 _ _ _ _ _ _ _ _ _ _ _)
   | (with_reducible exact ih1 _ _ _ _ _ _ _ _ _ _ _ _ _)
   | (with_reducible exact amount_Compatible.mono _ _ _ _ _ _)
   | (with_reducible exact holders_Room.mono _ _ _ _ _ _ _ _ _ _ _)
   | (with_reducible exact holders_fit.mono _ _ _ _ _ _ _ _ _ _ _)
   | (with_reducible exact LeO.refl _)
   | (with_reducible exact LeO.none _)
   | (with_reducible refine LeO.ite ?_ ?_)
   | (with_reducible refine LeO.bind ?_ (fun _ => ?_))
   | exact ih0 _ _ _ _ _ _ _ _ _ _ _
   | exact ih1 _ _ _ _ _ _ _ _ _ _ _ _ _
   | exact amount_Compatible.mono _ _ _ _ _ _
   | exact holders_Room.mono _ _ _ _ _ _ _ _ _ _ _
   | exact holders_fit.mono _ _ _ _ _ _ _ _ _ _ _
   | exact LeO.none _
   | refine LeO.ite ?_ ?_
   | refine LeO.bind ?_ (fun _ => ?_)
theorem holders_Against.mono : ∀ a0 a1 a2 a3 a4 a5 a6 a7 a8 a9 k, LeO (holders_Against.f k a0 a1 a2 a3 a4 a5 a6 a7 a8 a9) (holders_Against.f (k + 1) a0 a1 a2 a3 a4 a5 a6 a7 a8 a9) := by
 intro a0 a1 a2 a3 a4 a5 a6 a7 a8 a9 k
 obtain ⟨ih0, ih1⟩ := holders_Against.mono_l k
 unfold holders_Against.f
 repeat' first
   | (with_reducible exact ih0 _ _ _ _ _ _ _ _ _ _ _)
   | (with_reducible exact ih1 _ _ _ _ _ _ _ _ _ _ _ _ _)
   | (with_reducible exact amount_Compatible.mono _ _ _ _ _ _)
   | (with_reducible exact holders_Room.mono _ _ _ _ _ _ _ _ _ _ _)
   | (with_reducible exact holders_fit.mono _ _ _ _ _ _ _ _ _ _ _)
   | (with_reducible exact LeO.refl _)
   | (with_reducible exact LeO.none _)
   | (with_reducible refine LeO.ite ?_ ?_)
   | (with_reducible refine LeO.bind ?_ (fun _ => ?_))
   | exact ih0 _ _ _ _ _ _ _ _ _ _ _
   | exact ih1 _ _ _ _ _ _ _ _ _ _ _ _ _
   | exact amount_Compatible.mono _ _ _ _ _ _
   | exact holders_Room.mono _ _ _ _ _ _ _ _ _ _ _
   | exact holders_fit.mono _ _ _ _ _ _ _ _ _ _ _
   | exact LeO.none _
   | refine LeO.ite ?_ ?_
   | refine LeO.bind ?_ (fun _ => ?_)
set_option maxHeartbeats 8000000 in
set_option maxRecDepth 100000 in
theorem holders_Against.calls (k : Nat) (a0_0 : ByteArray) (a0_1 : Int) (a0_2 : Int) (a0_3 : Int) (A1 : Option Addr) (c1 : Nat) (l1 : List (S53)) (a2_0 : Int) (a2_1 : Int) (a2_2 : Int) (a3_0 : Int) (a3_1 : Int) (r : List (S24)) (w : World) (hr1 : Kd.C k53 w A1 l1.length l1) (hc1 : l1.length ≤ c1) (hG : GL w) (h : holders_Against.f k a0_0 a0_1 a0_2 a0_3 l1 a2_0 a2_1 a2_2 a3_0 a3_1 = some r) :
  Calls Tryd.prog 18 #[.agg #[.string a0_0, .int .i64 a0_1, .int .i64 a0_2, .int .i64 a0_3], .slice A1 l1.length c1, .agg #[.int .i64 a2_0, .int .i64 a2_1, .int .i64 a2_2], .agg #[.int .i64 a3_0, .int .i64 a3_1]] w fun e w' => ∃ v0_ : Value, e = .returned (v0_) ∧ Kd.R k24 24 w' w.heap.size (fun _ => True) v0_ r ∧ Below w.heap.size w w' := by
 have hu32 := Tryd.underlying32
 have hu24 := Tryd.underlying24
 have hu26 := Tryd.underlying26
 have hu53 := Tryd.underlying53
 have HG := Aside0.mk hG
 clear hG
 have HR1 := Aside0.mk hr1
 have HC1 := Aside0.mk hc1
 clear hr1 hc1
 have HB := Aside0.mk (Below.refl w.heap.size w)
 have H : ((holders_fit.f k a0_0 a0_1 a0_2 a0_3 l1 a2_0 a2_1 a2_2 a3_0 a3_1).bind fun t188 => (if t188 = true then ((holders_Room.f k a0_0 a0_1 a0_2 a0_3 l1 a2_0 a2_1 a2_2 a3_0 a3_1).bind fun t189 => (holders_Against.j0 k l1 t189 a0_0 a0_1 a0_2 a0_3 a2_0 a2_1 a2_2 a3_0 a3_1)) else (holders_Against.j0 k l1 true a0_0 a0_1 a0_2 a0_3 a2_0 a2_1 a2_2 a3_0 a3_1))) = some r := h
 clear h
 have HC5 := Aside0.mk H
 clear H
 go_enter Tryd.func18, Tryd.ntmps18
 go_upto_region 1 with (first | ((with_reducible refine gate_dst (N := 4) rfl ?_); (try (refine gate_guard (by rfl) ?_; dsimp only)); refine box_event ?hg (N := 4) ?hd (cs := #[.string a0_0, .int .i64 a0_1, .int .i64 a0_2, .int .i64 a0_3]) (t := 32) ?hr ?_; (case hd => rfl); (case hg => rfl); (case hr => first | (go_simp; done) | (go_simp; rfl)); intro gb185 hg w6 hbox hb; have BK185 := Aside0.mk hbox; have GW185 := gE HB hg; replace HB := bB HB hb; have GE185 := GW185; clear hb hbox hg) | ((with_reducible refine gate_dst (N := 6) rfl ?_); (try (refine gate_guard (by rfl) ?_; dsimp only)); refine box_event ?hg (N := 6) ?hd (cs := #[.int .i64 a2_0, .int .i64 a2_1, .int .i64 a2_2]) (t := 24) ?hr ?_; (case hd => rfl); (case hg => rfl); (case hr => first | (go_simp; done) | (go_simp; rfl)); intro gb186 hg w7 hbox hb; have BK186 := Aside0.mk hbox; have GW186 := gE HB hg; replace HB := bB HB hb; have GE186 := GW186; have NB185_186 := gN BK185 hg; replace BK185 := bK BK185 hb; have NB186_185 := Aside0.mk NB185_186.out.symm; clear hb hbox hg) | ((with_reducible refine gate_dst (N := 7) rfl ?_); (try (refine gate_guard (by rfl) ?_; dsimp only)); refine box_event ?hg (N := 7) ?hd (cs := #[.int .i64 a3_0, .int .i64 a3_1]) (t := 26) ?hr ?_; (case hd => rfl); (case hg => rfl); (case hr => first | (go_simp; done) | (go_simp; rfl)); intro gb187 hg w8 hbox hb; have BK187 := Aside0.mk hbox; have GW187 := gE HB hg; replace HB := bB HB hb; have GE187 := GW187; have NB185_187 := gN BK185 hg; replace BK185 := bK BK185 hb; have NB187_185 := Aside0.mk NB185_187.out.symm; have NB186_187 := gN BK186 hg; replace BK186 := bK BK186 hb; have NB187_186 := Aside0.mk NB186_187.out.symm; clear hb hbox hg))
 (try simp only [Act.put, List.setIfInBounds_toArray, List.set_cons_zero, List.set_cons_succ])
 go_cut [24] (fun v24 wc => ∃ (kq : Nat) (x24_4 : Bool), v24 = .bool x24_4 ∧ Aside0 (holders_Against.j0 kq l1 x24_4 a0_0 a0_1 a0_2 a0_3 a2_0 a2_1 a2_2 a3_0 a3_1 = some r) ∧ Aside0 (kq ≤ k) ∧ Aside0 (wc.heap[gb185]? = some (.cells #[.string a0_0, .int .i64 a0_1, .int .i64 a0_2, .int .i64 a0_3] 32 (0, 0))) ∧ Aside0 (wc.heap[gb186]? = some (.cells #[.int .i64 a2_0, .int .i64 a2_1, .int .i64 a2_2] 24 (0, 0))) ∧ Aside0 (wc.heap[gb187]? = some (.cells #[.int .i64 a3_0, .int .i64 a3_1] 26 (0, 0))) ∧ Aside0 (Below w.heap.size w wc))
 case first =>
  have H := HC5.out
  clear HC5
  obtain ⟨t188, A90, H⟩ := Option.bind_eq_some_iff.mp H
  have A9 := Aside0.mk A90; clear A90
  have HH_ := Aside0.mk H
  clear H
  have hnb12 := NB185_186.out
  have hnc12 := NB186_185.out
  have hnb13 := NB185_187.out
  have hnc13 := NB187_185.out
  obtain ⟨hcz14_0, hcz14_1, hcz14_2, hcz14_3, hfz14_0, hfz14_1, hfz14_2, hfz14_3⟩ := d4 BK185
  have hnb15 := NB186_187.out
  have hnc15 := NB187_186.out
  obtain ⟨hcz16_0, hcz16_1, hcz16_2, hfz16_0, hfz16_1, hfz16_2⟩ := d3 BK186
  obtain ⟨hcz17_0, hcz17_1, hfz17_0, hfz17_1⟩ := d2 BK187
  have H := HH_.out
  clear HH_
  by_cases c10 : t188 = true
  ·subst c10
   rw [if_pos rfl] at H
   obtain ⟨t189, A110, H⟩ := Option.bind_eq_some_iff.mp H
   have A11 := Aside0.mk A110; clear A110
   have H' := Aside0.mk H
   clear H
   go_wp2_with (first | ((with_reducible refine gate_callee (f := 35) rfl ?_); refine goesL_ (some 16) rfl rfl Tryd.func35 (by kernel_rfl) rfl #[.agg #[.string a0_0, .int .i64 a0_1, .int .i64 a0_2, .int .i64 a0_3], .slice A1 l1.length c1, .agg #[.int .i64 a2_0, .int .i64 a2_1, .int .i64 a2_2], .agg #[.int .i64 a3_0, .int .i64 a3_1]] rfl (by (try simp only [mA]); first | done | rfl) ?_; (with_reducible refine (holders_fit.calls k a0_0 a0_1 a0_2 a0_3 _ _ l1 a2_0 a2_1 a2_2 a3_0 a3_1 true _ ?side1 ?side2 ?side3 A9.out).mono ?_); (case side1 => repeat (first | exact (Kd.C_below HR1.out HB.out) | (with_reducible refine Kd.C_alloc ?_ _) | (with_reducible refine Kd.C_drewN ?_ _) | (with_reducible refine Kd.C_drew ?_))); (case side2 => exact HC1.out); (case side3 => exact GL.below HG.out (uB HB)); rintro e w18 ⟨rfl, hb⟩; refine ⟨_, rfl, ?_⟩; replace BK185 := bK BK185 hb; replace BK186 := bK BK186 hb; replace BK187 := bK BK187 hb; replace HB := bB HB hb; (try clear hb); (try clear hk); obtain ⟨hcz19_0, hcz19_1, hcz19_2, hcz19_3, hfz19_0, hfz19_1, hfz19_2, hfz19_3⟩ := d4 BK185; obtain ⟨hcz20_0, hcz20_1, hcz20_2, hfz20_0, hfz20_1, hfz20_2⟩ := d3 BK186; have hcz21_0 : w18.cell? ⟨gb187, 0, none⟩ = some (.int .i64 a3_0) := bC BK187 0 rfl; have hcz21_1 : w18.cell? ⟨gb187, 1, none⟩ = some (.int .i64 a3_1) := bC BK187 1 rfl; have hfz21_0 := bF BK187 0; have hfz21_1 := bF BK187 1) | (go_at_call 15; (with_reducible refine (holders_Room.calls k a0_0 a0_1 a0_2 a0_3 _ _ l1 a2_0 a2_1 a2_2 a3_0 a3_1 t189 _ ?side1 ?side2 ?side3 A11.out).mono ?_); (case side1 => repeat (first | exact (Kd.C_below HR1.out HB.out) | (with_reducible refine Kd.C_alloc ?_ _) | (with_reducible refine Kd.C_drewN ?_ _) | (with_reducible refine Kd.C_drew ?_))); (case side2 => exact HC1.out); (case side3 => exact GL.below HG.out (uB HB)); rintro e w22 ⟨rfl, hb⟩; replace BK185 := bK BK185 hb; replace BK186 := bK BK186 hb; replace BK187 := bK BK187 hb; replace HB := bB HB hb; (try clear hb); (try clear hk)))
   go_meet
   case rel => exact ⟨_, (t189), (by first | rfl | (simp; done) | (simp [*]; done)), H', ⟨by first | omega | exact Nat.le_refl _⟩, ⟨by (with_reducible repeat first | refine bN ?_ _ | refine bD ?_ | refine bA ?_ _); exact BK185.out⟩, ⟨by (with_reducible repeat first | refine bN ?_ _ | refine bD ?_ | refine bA ?_ _); exact BK186.out⟩, ⟨by (with_reducible repeat first | refine bN ?_ _ | refine bD ?_ | refine bA ?_ _); exact BK187.out⟩, ⟨by repeat (first | (with_reducible first | exact HB.out | apply bL | apply bM | apply bR) | exact HB.out)⟩⟩
  ·replace c10 := Bool.eq_false_iff.mpr c10
   subst c10
   rw [if_neg (show ¬ (false = true) by decide)] at H
   have H' := Aside0.mk H
   clear H
   go_wp2_with (first | ((with_reducible refine gate_callee (f := 35) rfl ?_); refine goesL_ (some 16) rfl rfl Tryd.func35 (by kernel_rfl) rfl #[.agg #[.string a0_0, .int .i64 a0_1, .int .i64 a0_2, .int .i64 a0_3], .slice A1 l1.length c1, .agg #[.int .i64 a2_0, .int .i64 a2_1, .int .i64 a2_2], .agg #[.int .i64 a3_0, .int .i64 a3_1]] rfl (by (try simp only [mA]); first | done | rfl) ?_; (with_reducible refine (holders_fit.calls k a0_0 a0_1 a0_2 a0_3 _ _ l1 a2_0 a2_1 a2_2 a3_0 a3_1 false _ ?side1 ?side2 ?side3 A9.out).mono ?_); (case side1 => repeat (first | exact (Kd.C_below HR1.out HB.out) | (with_reducible refine Kd.C_alloc ?_ _) | (with_reducible refine Kd.C_drewN ?_ _) | (with_reducible refine Kd.C_drew ?_))); (case side2 => exact HC1.out); (case side3 => exact GL.below HG.out (uB HB)); rintro e w29 ⟨rfl, hb⟩; refine ⟨_, rfl, ?_⟩; replace BK185 := bK BK185 hb; replace BK186 := bK BK186 hb; replace BK187 := bK BK187 hb; replace HB := bB HB hb; (try clear hb); (try clear hk)))
   go_meet
   case rel => exact ⟨_, (true), (by first | rfl | (simp; done) | (simp [*]; done)), H', ⟨by first | omega | exact Nat.le_refl _⟩, ⟨by (with_reducible repeat first | refine bN ?_ _ | refine bD ?_ | refine bA ?_ _); exact BK185.out⟩, ⟨by (with_reducible repeat first | refine bN ?_ _ | refine bD ?_ | refine bA ?_ _); exact BK186.out⟩, ⟨by (with_reducible repeat first | refine bN ?_ _ | refine bD ?_ | refine bA ?_ _); exact BK187.out⟩, ⟨by repeat (first | (with_reducible first | exact HB.out | apply bL | apply bM | apply bR) | exact HB.out)⟩⟩
 case rest =>
  clear HC5
  try clear c1
  try clear c2
  try clear p2
  try clear c3
  try clear c10
  try clear c12
  try clear c13
  try clear c15
  try clear c18
  try clear c23
  try clear c24
  try clear c26
  try clear hcz14_0
  try clear hcz14_1
  try clear hcz14_2
  try clear hcz14_3
  try clear hcz16_0
  try clear hcz16_1
  try clear hcz16_2
  try clear hcz17_0
  try clear hcz17_1
  try clear hcz19_0
  try clear hcz19_1
  try clear hcz19_2
  try clear hcz19_3
  try clear hcz20_0
  try clear hcz20_1
  try clear hcz20_2
  try clear hcz21_0
  try clear hcz21_1
  try clear hcz25_0
  try clear hcz25_1
  try clear hcz25_2
  try clear hcz25_3
  try clear hcz27_0
  try clear hcz27_1
  try clear hcz27_2
  try clear hcz28_0
  try clear hcz28_1
  try clear hfz14_0
  try clear hfz14_1
  try clear hfz14_2
  try clear hfz14_3
  try clear hfz16_0
  try clear hfz16_1
  try clear hfz16_2
  try clear hfz17_0
  try clear hfz17_1
  try clear hfz19_0
  try clear hfz19_1
  try clear hfz19_2
  try clear hfz19_3
  try clear hfz20_0
  try clear hfz20_1
  try clear hfz20_2
  try clear hfz21_0
  try clear hfz21_1
  try clear hfz25_0
  try clear hfz25_1
  try clear hfz25_2
  try clear hfz25_3
  try clear hfz27_0
  try clear hfz27_1
  try clear hfz27_2
  try clear hfz28_0
  try clear hfz28_1
  obtain ⟨kq, x24_4, rfl, HA, HJ4, BK185, BK186, BK187, HB⟩ := hcut
  cases kq with
  | zero => exact absurd HA.out (by simp [holders_Against.j0])
  | succ kj4 =>
   have H := HA.out
   clear HA
   simp only [holders_Against.j0] at H
   by_cases c30 : x24_4 = true
   ·subst c30
    rw [if_pos rfl] at H
    obtain rfl := Option.some.inj H
    go_wp2
    go_ret
    exact ⟨_, by first | rfl | (simp [errW_none, errW_some] <;> rfl) | (simp [*, errW_none, errW_some] <;> rfl), by first | exact Kd.R_nil _ _ _ _ _ | exact Kd.N_nil _ _ _ _ _ | exact Kd.V_nil _ _ _ _ _ | exact Kd.Q_nil _ _ _ _ _ | exact Kd.S_nil _ _ _ _ _, by repeat (first | (with_reducible first | exact HB.out | apply bL | apply bM | apply bR) | exact HB.out)⟩
   ·replace c30 := Bool.eq_false_iff.mpr c30
    subst c30
    rw [if_neg (show ¬ (false = true) by decide)] at H
    have H' := Aside0.mk H
    clear H
    go_wp2
    go_loopg [9, 27] kj4 (fun kq v9 v27 w' => ∃ (x9_2 : List (S24)) (x27_2 : Int), v27 = .int .i64 x27_2 ∧ Aside0 (holders_Against.l0 kq x9_2 l1 (l1.length : Int) x27_2 a0_0 a0_1 a0_2 a0_3 a2_0 a2_1 a2_2 a3_0 a3_1 = some r) ∧ Aside0 (kq ≤ kj4) ∧ Aside0 (Kd.R k24 24 w' w.heap.size (fun k_ => k_ ≠ gb186) v9 x9_2) ∧ Aside0 (w'.heap[gb185]? = some (.cells #[.string a0_0, .int .i64 a0_1, .int .i64 a0_2, .int .i64 a0_3] 32 (0, 0))) ∧ Aside0 (w'.heap[gb186]? = some (.cells #[.int .i64 a2_0, .int .i64 a2_1, .int .i64 a2_2] 24 (0, 0))) ∧ Aside0 (w'.heap[gb187]? = some (.cells #[.int .i64 a3_0, .int .i64 a3_1] 26 (0, 0))) ∧ Aside0 (Below w.heap.size w w'))
    case atStart => exact ⟨(([] : List (S24))), (0), (by first | rfl | (simp; done) | (simp [*]; done)), H', ⟨Nat.le_refl _⟩, ⟨by first | exact Kd.R_nil _ _ _ _ _ | exact Kd.N_nil _ _ _ _ _ | exact Kd.V_nil _ _ _ _ _ | exact Kd.Q_nil _ _ _ _ _ | exact Kd.S_nil _ _ _ _ _⟩, ⟨by (with_reducible repeat first | refine bN ?_ _ | refine bD ?_ | refine bA ?_ _); exact BK185.out⟩, ⟨by (with_reducible repeat first | refine bN ?_ _ | refine bD ?_ | refine bA ?_ _); exact BK186.out⟩, ⟨by (with_reducible repeat first | refine bN ?_ _ | refine bD ?_ | refine bA ?_ _); exact BK187.out⟩, ⟨by repeat (first | (with_reducible first | exact HB.out | apply bL | apply bM | apply bR) | exact HB.out)⟩⟩
    case round =>
     clear H'
     try clear c1
     try clear c2
     try clear p2
     try clear c3
     try clear c10
     try clear c12
     try clear c13
     try clear c15
     try clear c18
     try clear c23
     try clear c24
     try clear c26
     try clear c30
     try clear hcz14_0
     try clear hcz14_1
     try clear hcz14_2
     try clear hcz14_3
     try clear hcz16_0
     try clear hcz16_1
     try clear hcz16_2
     try clear hcz17_0
     try clear hcz17_1
     try clear hcz19_0
     try clear hcz19_1
     try clear hcz19_2
     try clear hcz19_3
     try clear hcz20_0
     try clear hcz20_1
     try clear hcz20_2
     try clear hcz21_0
     try clear hcz21_1
     try clear hcz25_0
     try clear hcz25_1
     try clear hcz25_2
     try clear hcz25_3
     try clear hcz27_0
     try clear hcz27_1
     try clear hcz27_2
     try clear hcz28_0
     try clear hcz28_1
     try clear hfz14_0
     try clear hfz14_1
     try clear hfz14_2
     try clear hfz14_3
     try clear hfz16_0
     try clear hfz16_1
     try clear hfz16_2
     try clear hfz17_0
     try clear hfz17_1
     try clear hfz19_0
     try clear hfz19_1
     try clear hfz19_2
     try clear hfz19_3
     try clear hfz20_0
     try clear hfz20_1
     try clear hfz20_2
     try clear hfz21_0
     try clear hfz21_1
     try clear hfz25_0
     try clear hfz25_1
     try clear hfz25_2
     try clear hfz25_3
     try clear hfz27_0
     try clear hfz27_1
     try clear hfz27_2
     try clear hfz28_0
     try clear hfz28_1
     try clear p2
     obtain ⟨x9_2, x27_2, rfl, HA, HK2, HO_9, BK185, BK186, BK187, HB⟩ := hrel
     cases gk with
     | zero => exact absurd HA.out (by simp [holders_Against.l0])
     | succ k2 =>
      have H := HA.out
      clear HA
      simp only [holders_Against.l0] at H
      by_cases c31 : x27_2 < (l1.length : Int)
      ·rw [if_pos c31] at H
       have c31b0 : decide (x27_2 < (l1.length : Int)) = true := decide_eq_true c31
       clear c31
       by_cases c32 : 0 ≤ x27_2
       ·rw [if_pos c32] at H
        have c32b0 : decide (0 ≤ x27_2) = true := decide_eq_true c32
        clear c32
        by_cases c33 : x27_2 < (l1.length : Int)
        ·rw [if_pos c33] at H
         have c33b0 : decide (x27_2 < (l1.length : Int)) = true := decide_eq_true c33
         clear c33
         by_cases c34 : (!(((rd_T53 l1 x27_2).f0.f0) == a2_0) || (!(((rd_T53 l1 x27_2).f0.f1) == a2_1) || (!(((rd_T53 l1 x27_2).f0.f2) == a2_2)))) = true
         ·rw [if_pos c34] at H
          have c34b0 : (!(((rd_T53 l1 x27_2).f0.f0) == a2_0) || (!(((rd_T53 l1 x27_2).f0.f1) == a2_1) || (!(((rd_T53 l1 x27_2).f0.f2) == a2_2)))) = true := c34
          clear c34
          by_cases c35 : a0_1 = 2
          ·rw [if_pos c35] at H
           have c35b0 : (a0_1 == 2) = true := beq_iff_eq.mpr c35
           have c35b1 : (a0_1 != 2) = false := bne_eq_false_iff_eq.mpr c35
           clear c35
           by_cases c36 : x9_2.length < 5864062014805
           ·rw [if_pos c36] at H
            have LMc36 := Aside0.mk c36
            clear c36
            obtain ⟨y192, hy192⟩ : ∃ y_ : List (S24), y_ = (x9_2 ++ [(⟨(rd_T53 l1 x27_2).f0.f0, (rd_T53 l1 x27_2).f0.f1, (rd_T53 l1 x27_2).f0.f2⟩ : S24)]) := ⟨_, rfl⟩
            replace H : (holders_Against.l0 k2 y192 l1 (l1.length : Int) (wrap64 (x27_2 + 1)) a0_0 a0_1 a0_2 a0_3 a2_0 a2_1 a2_2 a3_0 a3_1) = some r := by first | (rw [hy192]; with_reducible exact H) | (have H2_ := (Option.bind_some _ _).symm.trans H; rw [hy192]; with_reducible exact H2_) | (have H2_ := (Option.bind_some _ _).symm.trans H; with_reducible exact H2_) | with_reducible exact H | (rw [hy192]; exact H) | exact H
            have Ny192 := Aside0.mk hy192
            clear hy192
            have H' := Aside0.mk H
            clear H
            have p190 : 0 ≤ (x27_2 : Int) := of_decide_eq_true (by first | (with_reducible assumption) | assumption)
            have q190 : x27_2 < (l1.length : Int) := of_decide_eq_true (by first | (with_reducible assumption) | assumption)
            obtain ⟨ad190, e190, hx190_0, hx190_1, hx190_2, hx190_3, hx190_4⟩ := at_T53 HR1.out x27_2 p190 q190
            cases e190
            replace hx190_0 := kC HB hx190_0
            replace hx190_1 := kC HB hx190_1
            replace hx190_2 := kC HB hx190_2
            replace hx190_3 := kC HB hx190_3
            replace hx190_4 := kC HB hx190_4
            replace p190 := eq_true p190
            replace q190 := eq_true q190
            go_wp2_with (first | ((with_reducible refine gate_dst (N := 11) rfl ?_); (try (refine gate_guard (by rfl) ?_; dsimp only)); refine box_event ?hg (N := 11) ?hd (cs := #[.int .i64 0, .int .i64 0, .int .i64 0, .int .i64 0, .int .i64 0]) (t := 53) ?hr ?_; (case hd => rfl); (case hg => rfl); (case hr => first | (go_simp; done) | (go_simp; rfl)); intro gb191 hg w37 hbox hb; replace HO_9 := Aside0.mk (Kd.R_below (by (with_reducible repeat (first | apply Kd.R_alloc | apply Kd.R_drewN | apply Kd.R_drew)); exact HO_9.out) hb); have BK191 := Aside0.mk hbox; have GW191 := gE HB hg; replace HB := bB HB hb; have GE191 := GW191; have NB185_191 := gN BK185 hg; replace BK185 := bK BK185 hb; have NB191_185 := Aside0.mk NB185_191.out.symm; have NB186_191 := gN BK186 hg; replace BK186 := bK BK186 hb; have NB191_186 := Aside0.mk NB186_191.out.symm; have NB187_191 := gN BK187 hg; replace BK187 := bK BK187 hb; have NB191_187 := Aside0.mk NB187_191.out.symm; clear hb hbox hg; have hnb38 := NB191_185.out; have hnc38 := NB185_191.out; have hnb39 := NB191_186.out; have hnc39 := NB186_191.out; have hnb40 := NB191_187.out; have hnc40 := NB187_191.out; obtain ⟨hcz41_0, hcz41_1, hcz41_2, hcz41_3, hcz41_4, hfz41_0, hfz41_1, hfz41_2, hfz41_3, hfz41_4⟩ := d5 BK191; have hnb42 := NB186_185.out; have hnc42 := NB185_186.out; have hnb43 := NB186_187.out; have hnc43 := NB187_186.out; obtain ⟨hcz44_0, hcz44_1, hcz44_2, hfz44_0, hfz44_1, hfz44_2⟩ := d3 BK186; have hnb45 := NB185_187.out; have hnc45 := NB187_185.out; have hcz46_0 : w37.cell? ⟨gb185, 0, none⟩ = some (.string a0_0) := bC BK185 0 rfl; have hcz46_1 : w37.cell? ⟨gb185, 1, none⟩ = some (.int .i64 a0_1) := bC BK185 1 rfl; have hcz46_2 : w37.cell? ⟨gb185, 2, none⟩ = some (.int .i64 a0_2) := bC BK185 2 rfl; have hcz46_3 : w37.cell? ⟨gb185, 3, none⟩ = some (.int .i64 a0_3) := bC BK185 3 rfl; have hfz46_0 := bF BK185 0; have hfz46_1 := bF BK185 1; have hfz46_2 := bF BK185 2; have hfz46_3 := bF BK185 3) | ((with_reducible refine gate_builtin (b := .append) (xs := #[.tmp 49, .tmp 52]) rfl ?_); (try (refine gate_guard (by rfl) ?_; dsimp only)); at_builtin; refine Kd.R_append k24 (w0 := w) w.heap.size rfl (.tmp 49) (.tmp 52) 35 24 (.agg #[(.int .i64 0), (.int .i64 0), (.int .i64 0)]) 24 rfl Tryd.underlying35 info24 rfl (by decide) (by omega) u9 x9_2 (⟨(rd_T53 l1 x27_2).f0.f0, (rd_T53 l1 x27_2).f0.f1, (rd_T53 l1 x27_2).f0.f2⟩ : S24) [.int .i64 ((rd_T53 l1 x27_2).f0.f0), .int .i64 ((rd_T53 l1 x27_2).f0.f1), .int .i64 ((rd_T53 l1 x27_2).f0.f2)] (fun k_ => k_ ≠ gb186) (fun _ => False) rfl (by first | (go_simp; done) | (go_simp; rfl)) ?aP (fun _ hk => hk.elim) ?aF ?aO ?aB ?aS ?aL ?_; (case aP => exact k24_mkM _ _ _ (⟨(rd_T53 l1 x27_2).f0.f0, (rd_T53 l1 x27_2).f0.f1, (rd_T53 l1 x27_2).f0.f2⟩ : S24)); (case aB => exact (by repeat (first | (with_reducible first | exact HB.out | apply bL | apply bM | apply bR | refine bS ?_ GE191.out) | exact HB.out))); (case aF => exact (fun k_ hk => Kd.freshB (g := gb186) (o := .cells #[.int .i64 a2_0, .int .i64 a2_1, .int .i64 a2_2] 24 (0, 0)) (by (with_reducible repeat first | refine bN ?_ _ | refine bD ?_ | refine bA ?_ _); refine blk_far ?_ NB186_191.out _; (with_reducible repeat first | refine bN ?_ _ | refine bD ?_ | refine bA ?_ _); refine blk_far ?_ NB186_191.out _; (with_reducible repeat first | refine bN ?_ _ | refine bD ?_ | refine bA ?_ _); refine blk_far ?_ NB186_191.out _; (with_reducible repeat first | refine bN ?_ _ | refine bD ?_ | refine bA ?_ _); refine blk_far ?_ NB186_191.out _; (with_reducible repeat first | refine bN ?_ _ | refine bD ?_ | refine bA ?_ _); refine blk_far ?_ NB186_191.out _; (with_reducible repeat first | refine bN ?_ _ | refine bD ?_ | refine bA ?_ _); exact BK186.out) k_ hk)); (case aO => exact (by (with_reducible repeat (first | apply Kd.R_alloc | apply Kd.R_drewN | apply Kd.R_drew)); exact Kd.R_mono (Kd.R_far (p := ⟨gb191, 4, none⟩) (Kd.R_far (p := ⟨gb191, 3, none⟩) (Kd.R_far (p := ⟨gb191, 2, none⟩) (Kd.R_far (p := ⟨gb191, 1, none⟩) (Kd.R_far (p := ⟨gb191, 0, none⟩) (Kd.R_types HO_9.out BK191.out (by decide)) (fun _ hk => hk.2) (.int .i64 ((rd_T53 l1 x27_2).f0.f0))) (fun _ hk => hk.2) (.int .i64 ((rd_T53 l1 x27_2).f0.f1))) (fun _ hk => hk.2) (.int .i64 ((rd_T53 l1 x27_2).f0.f2))) (fun _ hk => hk.2) (.int .i64 ((rd_T53 l1 x27_2).f1.f0))) (fun _ hk => hk.2) (.int .i64 ((rd_T53 l1 x27_2).f1.f1))) (fun _ hk => hk.1))); (case aS => exact (below_size (by repeat (first | (with_reducible first | exact HB.out | apply bL | apply bM | apply bR | refine bS ?_ GE191.out) | exact HB.out)))); (case aL => have := LMc36.out; omega); intro v193 w47 ho hb hg hat; rw [← Ny192.out] at ho; replace BK185 := Aside0.mk (blk_grown (g := gb185) (o := .cells #[.string a0_0, .int .i64 a0_1, .int .i64 a0_2, .int .i64 a0_3] 32 (0, 0)) (by (with_reducible repeat first | refine bN ?_ _ | refine bD ?_ | refine bA ?_ _); refine blk_far ?_ NB185_191.out _; (with_reducible repeat first | refine bN ?_ _ | refine bD ?_ | refine bA ?_ _); refine blk_far ?_ NB185_191.out _; (with_reducible repeat first | refine bN ?_ _ | refine bD ?_ | refine bA ?_ _); refine blk_far ?_ NB185_191.out _; (with_reducible repeat first | refine bN ?_ _ | refine bD ?_ | refine bA ?_ _); refine blk_far ?_ NB185_191.out _; (with_reducible repeat first | refine bN ?_ _ | refine bD ?_ | refine bA ?_ _); refine blk_far ?_ NB185_191.out _; (with_reducible repeat first | refine bN ?_ _ | refine bD ?_ | refine bA ?_ _); exact BK185.out) hg (Kd.R_ne HO_9.out BK185.out (by decide))); replace BK186 := Aside0.mk (blk_grown (g := gb186) (o := .cells #[.int .i64 a2_0, .int .i64 a2_1, .int .i64 a2_2] 24 (0, 0)) (by (with_reducible repeat first | refine bN ?_ _ | refine bD ?_ | refine bA ?_ _); refine blk_far ?_ NB186_191.out _; (with_reducible repeat first | refine bN ?_ _ | refine bD ?_ | refine bA ?_ _); refine blk_far ?_ NB186_191.out _; (with_reducible repeat first | refine bN ?_ _ | refine bD ?_ | refine bA ?_ _); refine blk_far ?_ NB186_191.out _; (with_reducible repeat first | refine bN ?_ _ | refine bD ?_ | refine bA ?_ _); refine blk_far ?_ NB186_191.out _; (with_reducible repeat first | refine bN ?_ _ | refine bD ?_ | refine bA ?_ _); refine blk_far ?_ NB186_191.out _; (with_reducible repeat first | refine bN ?_ _ | refine bD ?_ | refine bA ?_ _); exact BK186.out) hg (Kd.R_away HO_9.out (fun _ hk => hk))); replace BK187 := Aside0.mk (blk_grown (g := gb187) (o := .cells #[.int .i64 a3_0, .int .i64 a3_1] 26 (0, 0)) (by (with_reducible repeat first | refine bN ?_ _ | refine bD ?_ | refine bA ?_ _); refine blk_far ?_ NB187_191.out _; (with_reducible repeat first | refine bN ?_ _ | refine bD ?_ | refine bA ?_ _); refine blk_far ?_ NB187_191.out _; (with_reducible repeat first | refine bN ?_ _ | refine bD ?_ | refine bA ?_ _); refine blk_far ?_ NB187_191.out _; (with_reducible repeat first | refine bN ?_ _ | refine bD ?_ | refine bA ?_ _); refine blk_far ?_ NB187_191.out _; (with_reducible repeat first | refine bN ?_ _ | refine bD ?_ | refine bA ?_ _); refine blk_far ?_ NB187_191.out _; (with_reducible repeat first | refine bN ?_ _ | refine bD ?_ | refine bA ?_ _); exact BK187.out) hg (Kd.R_ne HO_9.out BK187.out (by decide))); replace BK191 := Aside0.mk (blk_grown (g := gb191) (o := .cells #[.int .i64 ((rd_T53 l1 x27_2).f0.f0), .int .i64 ((rd_T53 l1 x27_2).f0.f1), .int .i64 ((rd_T53 l1 x27_2).f0.f2), .int .i64 ((rd_T53 l1 x27_2).f1.f0), .int .i64 ((rd_T53 l1 x27_2).f1.f1)] 53 (0, 0)) (by (with_reducible repeat first | refine bN ?_ _ | refine bD ?_ | refine bA ?_ _); refine blk_put (cs := #[.int .i64 ((rd_T53 l1 x27_2).f0.f0), .int .i64 ((rd_T53 l1 x27_2).f0.f1), .int .i64 ((rd_T53 l1 x27_2).f0.f2), .int .i64 ((rd_T53 l1 x27_2).f1.f0), .int .i64 0]) ?_ 4 _ rfl; (with_reducible repeat first | refine bN ?_ _ | refine bD ?_ | refine bA ?_ _); refine blk_put (cs := #[.int .i64 ((rd_T53 l1 x27_2).f0.f0), .int .i64 ((rd_T53 l1 x27_2).f0.f1), .int .i64 ((rd_T53 l1 x27_2).f0.f2), .int .i64 0, .int .i64 0]) ?_ 3 _ rfl; (with_reducible repeat first | refine bN ?_ _ | refine bD ?_ | refine bA ?_ _); refine blk_put (cs := #[.int .i64 ((rd_T53 l1 x27_2).f0.f0), .int .i64 ((rd_T53 l1 x27_2).f0.f1), .int .i64 0, .int .i64 0, .int .i64 0]) ?_ 2 _ rfl; (with_reducible repeat first | refine bN ?_ _ | refine bD ?_ | refine bA ?_ _); refine blk_put (cs := #[.int .i64 ((rd_T53 l1 x27_2).f0.f0), .int .i64 0, .int .i64 0, .int .i64 0, .int .i64 0]) ?_ 1 _ rfl; (with_reducible repeat first | refine bN ?_ _ | refine bD ?_ | refine bA ?_ _); refine blk_put (cs := #[.int .i64 0, .int .i64 0, .int .i64 0, .int .i64 0, .int .i64 0]) ?_ 0 _ rfl; (with_reducible repeat first | refine bN ?_ _ | refine bD ?_ | refine bA ?_ _); exact BK191.out) hg (Kd.R_ne HO_9.out BK191.out (by decide))); replace HB := Aside0.mk (hb); have HO194 := Aside0.mk (ho); clear HO_9; clear ho hb hg hat))
            go_roundg k2
            case measure => have := HJ4.out; have := HK2.out; omega
            case rel => exact ⟨(y192), (wrap64 (x27_2 + 1)), (by first | rfl | (simp; done) | (simp [*]; done)), H', ⟨by have := HJ4.out; have := HK2.out; omega⟩, ⟨by (with_reducible repeat (first | apply Kd.R_alloc | apply Kd.R_drewN | apply Kd.R_drew)); exact HO194.out⟩, ⟨by (with_reducible repeat first | refine bN ?_ _ | refine bD ?_ | refine bA ?_ _); exact BK185.out⟩, ⟨by (with_reducible repeat first | refine bN ?_ _ | refine bD ?_ | refine bA ?_ _); exact BK186.out⟩, ⟨by (with_reducible repeat first | refine bN ?_ _ | refine bD ?_ | refine bA ?_ _); exact BK187.out⟩, ⟨by repeat (first | (with_reducible first | exact HB.out | apply bL | apply bM | apply bR | refine bS ?_ GE191.out) | exact HB.out)⟩⟩
           ·rw [if_neg c36] at H
            exact absurd H (by simp)
          ·rw [if_neg c35] at H
           have c35b0 : (a0_1 == 2) = false := beq_eq_false_iff_ne.mpr c35
           have c35b1 : (a0_1 != 2) = true := bne_iff_ne.mpr c35
           obtain ⟨y195, hy195⟩ : ∃ y_ : List (S26), y_ = (([(⟨(rd_T53 l1 x27_2).f1.f0, (rd_T53 l1 x27_2).f1.f1⟩ : S26), (⟨a3_0, a3_1⟩ : S26)] : List (S26))) := ⟨_, rfl⟩
           replace H : ((amount_Compatible.f k2 a0_0 a0_1 a0_2 a0_3 y195).bind fun t198 => (if t198 = true then (holders_Against.l0 k2 x9_2 l1 (l1.length : Int) (wrap64 (x27_2 + 1)) a0_0 a0_1 a0_2 a0_3 a2_0 a2_1 a2_2 a3_0 a3_1) else (if x9_2.length < 5864062014805 then (holders_Against.l0 k2 (x9_2 ++ [(⟨(rd_T53 l1 x27_2).f0.f0, (rd_T53 l1 x27_2).f0.f1, (rd_T53 l1 x27_2).f0.f2⟩ : S24)]) l1 (l1.length : Int) (wrap64 (x27_2 + 1)) a0_0 a0_1 a0_2 a0_3 a2_0 a2_1 a2_2 a3_0 a3_1) else (none)))) = some r := by first | (rw [hy195]; with_reducible exact H) | (have H2_ := (Option.bind_some _ _).symm.trans H; rw [hy195]; with_reducible exact H2_) | (have H2_ := (Option.bind_some _ _).symm.trans H; with_reducible exact H2_) | with_reducible exact H | (rw [hy195]; exact H) | exact H
           have Ny195 := Aside0.mk hy195
           clear hy195
           obtain ⟨t198, A480, H⟩ := Option.bind_eq_some_iff.mp H
           have A48 := Aside0.mk A480; clear A480
           by_cases c49 : t198 = true
           ·subst c49
            rw [if_pos rfl] at H
            have H' := Aside0.mk H
            clear H
            have p190 : 0 ≤ (x27_2 : Int) := of_decide_eq_true (by first | (with_reducible assumption) | assumption)
            have q190 : x27_2 < (l1.length : Int) := of_decide_eq_true (by first | (with_reducible assumption) | assumption)
            obtain ⟨ad190, e190, hx190_0, hx190_1, hx190_2, hx190_3, hx190_4⟩ := at_T53 HR1.out x27_2 p190 q190
            cases e190
            replace hx190_0 := kC HB hx190_0
            replace hx190_1 := kC HB hx190_1
            replace hx190_2 := kC HB hx190_2
            replace hx190_3 := kC HB hx190_3
            replace hx190_4 := kC HB hx190_4
            replace p190 := eq_true p190
            replace q190 := eq_true q190
            go_wp2_with (first | ((with_reducible refine gate_dst (N := 11) rfl ?_); (try (refine gate_guard (by rfl) ?_; dsimp only)); refine box_event ?hg (N := 11) ?hd (cs := #[.int .i64 0, .int .i64 0, .int .i64 0, .int .i64 0, .int .i64 0]) (t := 53) ?hr ?_; (case hd => rfl); (case hg => rfl); (case hr => first | (go_simp; done) | (go_simp; rfl)); intro gb191 hg w50 hbox hb; replace HO_9 := Aside0.mk (Kd.R_below (by (with_reducible repeat (first | apply Kd.R_alloc | apply Kd.R_drewN | apply Kd.R_drew)); exact HO_9.out) hb); have BK191 := Aside0.mk hbox; have GW191 := gE HB hg; replace HB := bB HB hb; have GE191 := GW191; have NB185_191 := gN BK185 hg; replace BK185 := bK BK185 hb; have NB191_185 := Aside0.mk NB185_191.out.symm; have NB186_191 := gN BK186 hg; replace BK186 := bK BK186 hb; have NB191_186 := Aside0.mk NB186_191.out.symm; have NB187_191 := gN BK187 hg; replace BK187 := bK BK187 hb; have NB191_187 := Aside0.mk NB187_191.out.symm; clear hb hbox hg; have hnb51 := NB191_185.out; have hnc51 := NB185_191.out; have hnb52 := NB191_186.out; have hnc52 := NB186_191.out; have hnb53 := NB191_187.out; have hnc53 := NB187_191.out; obtain ⟨hcz54_0, hcz54_1, hcz54_2, hcz54_3, hcz54_4, hfz54_0, hfz54_1, hfz54_2, hfz54_3, hfz54_4⟩ := d5 BK191; have hnb55 := NB186_185.out; have hnc55 := NB185_186.out; have hnb56 := NB186_187.out; have hnc56 := NB187_186.out; obtain ⟨hcz57_0, hcz57_1, hcz57_2, hfz57_0, hfz57_1, hfz57_2⟩ := d3 BK186; have hnb58 := NB185_187.out; have hnc58 := NB187_185.out; obtain ⟨hcz59_0, hcz59_1, hcz59_2, hcz59_3, hfz59_0, hfz59_1, hfz59_2, hfz59_3⟩ := d4 BK185; have hcz60_0 : w50.cell? ⟨gb187, 0, none⟩ = some (.int .i64 a3_0) := bC BK187 0 rfl; have hcz60_1 : w50.cell? ⟨gb187, 1, none⟩ = some (.int .i64 a3_1) := bC BK187 1 rfl; have hfz60_0 := bF BK187 0; have hfz60_1 := bF BK187 1) | ((with_reducible refine gate_dst (N := 44) rfl ?_); (try (refine gate_guard (by rfl) ?_; dsimp only)); refine Kd.R_lit k26 _ 26 ?hg (N := 44) ?hd (xs := ([(⟨(rd_T53 l1 x27_2).f1.f0, (rd_T53 l1 x27_2).f1.f1⟩ : S26), (⟨a3_0, a3_1⟩ : S26)] : List (S26))) (inner := [.int .i64 ((rd_T53 l1 x27_2).f1.f0), .int .i64 ((rd_T53 l1 x27_2).f1.f1), .int .i64 a3_0, .int .i64 a3_1]) (ok := fun _ => True) (okp := fun _ => True) ?hr ?hp (fun _ hk => hk) trivial (Below.refl _ _) (Nat.le_refl _) (by simp) ?_; (case hd => rfl); (case hg => rfl); (case hr => first | (go_simp; done) | (go_simp; rfl)); (case hp => exact (Reps.c2 (show Kd.M k26 _ _ _ (⟨(rd_T53 l1 x27_2).f1.f0, (rd_T53 l1 x27_2).f1.f1⟩ : S26) [.int .i64 ((rd_T53 l1 x27_2).f1.f0), .int .i64 ((rd_T53 l1 x27_2).f1.f1)] from (k26_mkM _ _ _ (⟨(rd_T53 l1 x27_2).f1.f0, (rd_T53 l1 x27_2).f1.f1⟩ : S26) )) (Reps.c2 (show Kd.M k26 _ _ _ (⟨a3_0, a3_1⟩ : S26) [.int .i64 a3_0, .int .i64 a3_1] from (k26_mkM _ _ _ (⟨a3_0, a3_1⟩ : S26) )) (Reps.none _ _)))); intro v196 w61 ho62 hb hg_ hnew_; clear hg_ hnew_; (first | rw [← Ny195.out] at ho62 | (simp only [Int.reduceToNat] at ho62; rw [← Ny195.out] at ho62)); replace HO_9 := Aside0.mk (Kd.R_below (by (with_reducible repeat (first | apply Kd.R_alloc | apply Kd.R_drewN | apply Kd.R_drew)); exact (Kd.R_mono (Kd.R_far (p := ⟨gb191, 4, none⟩) (Kd.R_far (p := ⟨gb191, 3, none⟩) (Kd.R_far (p := ⟨gb191, 2, none⟩) (Kd.R_far (p := ⟨gb191, 1, none⟩) (Kd.R_far (p := ⟨gb191, 0, none⟩) (Kd.R_types HO_9.out BK191.out (by decide)) (fun _ hk => hk.2) (.int .i64 ((rd_T53 l1 x27_2).f0.f0))) (fun _ hk => hk.2) (.int .i64 ((rd_T53 l1 x27_2).f0.f1))) (fun _ hk => hk.2) (.int .i64 ((rd_T53 l1 x27_2).f0.f2))) (fun _ hk => hk.2) (.int .i64 ((rd_T53 l1 x27_2).f1.f0))) (fun _ hk => hk.2) (.int .i64 ((rd_T53 l1 x27_2).f1.f1))) (fun _ h_ => h_.1))) hb); have HO197 := Aside0.mk (Kd.R_lower (Kd.R_newB ho62 (g := gb187) (o := .cells #[.int .i64 a3_0, .int .i64 a3_1] 26 (0, 0)) (by (with_reducible repeat first | refine bN ?_ _ | refine bD ?_ | refine bA ?_ _); refine blk_far ?_ NB187_191.out _; (with_reducible repeat first | refine bN ?_ _ | refine bD ?_ | refine bA ?_ _); refine blk_far ?_ NB187_191.out _; (with_reducible repeat first | refine bN ?_ _ | refine bD ?_ | refine bA ?_ _); refine blk_far ?_ NB187_191.out _; (with_reducible repeat first | refine bN ?_ _ | refine bD ?_ | refine bA ?_ _); refine blk_far ?_ NB187_191.out _; (with_reducible repeat first | refine bN ?_ _ | refine bD ?_ | refine bA ?_ _); refine blk_far ?_ NB187_191.out _; (with_reducible repeat first | refine bN ?_ _ | refine bD ?_ | refine bA ?_ _); exact BK187.out)) (below_size (by repeat (first | (with_reducible first | exact HB.out | apply bL | apply bM | apply bR | refine bS ?_ GE191.out) | exact HB.out)))); replace BK185 := Aside0.mk (blk_below (g := gb185) (o := .cells #[.string a0_0, .int .i64 a0_1, .int .i64 a0_2, .int .i64 a0_3] 32 (0, 0)) (by (with_reducible repeat first | refine bN ?_ _ | refine bD ?_ | refine bA ?_ _); refine blk_far ?_ NB185_191.out _; (with_reducible repeat first | refine bN ?_ _ | refine bD ?_ | refine bA ?_ _); refine blk_far ?_ NB185_191.out _; (with_reducible repeat first | refine bN ?_ _ | refine bD ?_ | refine bA ?_ _); refine blk_far ?_ NB185_191.out _; (with_reducible repeat first | refine bN ?_ _ | refine bD ?_ | refine bA ?_ _); refine blk_far ?_ NB185_191.out _; (with_reducible repeat first | refine bN ?_ _ | refine bD ?_ | refine bA ?_ _); refine blk_far ?_ NB185_191.out _; (with_reducible repeat first | refine bN ?_ _ | refine bD ?_ | refine bA ?_ _); exact BK185.out) hb); replace BK186 := Aside0.mk (blk_below (g := gb186) (o := .cells #[.int .i64 a2_0, .int .i64 a2_1, .int .i64 a2_2] 24 (0, 0)) (by (with_reducible repeat first | refine bN ?_ _ | refine bD ?_ | refine bA ?_ _); refine blk_far ?_ NB186_191.out _; (with_reducible repeat first | refine bN ?_ _ | refine bD ?_ | refine bA ?_ _); refine blk_far ?_ NB186_191.out _; (with_reducible repeat first | refine bN ?_ _ | refine bD ?_ | refine bA ?_ _); refine blk_far ?_ NB186_191.out _; (with_reducible repeat first | refine bN ?_ _ | refine bD ?_ | refine bA ?_ _); refine blk_far ?_ NB186_191.out _; (with_reducible repeat first | refine bN ?_ _ | refine bD ?_ | refine bA ?_ _); refine blk_far ?_ NB186_191.out _; (with_reducible repeat first | refine bN ?_ _ | refine bD ?_ | refine bA ?_ _); exact BK186.out) hb); replace BK187 := Aside0.mk (blk_below (g := gb187) (o := .cells #[.int .i64 a3_0, .int .i64 a3_1] 26 (0, 0)) (by (with_reducible repeat first | refine bN ?_ _ | refine bD ?_ | refine bA ?_ _); refine blk_far ?_ NB187_191.out _; (with_reducible repeat first | refine bN ?_ _ | refine bD ?_ | refine bA ?_ _); refine blk_far ?_ NB187_191.out _; (with_reducible repeat first | refine bN ?_ _ | refine bD ?_ | refine bA ?_ _); refine blk_far ?_ NB187_191.out _; (with_reducible repeat first | refine bN ?_ _ | refine bD ?_ | refine bA ?_ _); refine blk_far ?_ NB187_191.out _; (with_reducible repeat first | refine bN ?_ _ | refine bD ?_ | refine bA ?_ _); refine blk_far ?_ NB187_191.out _; (with_reducible repeat first | refine bN ?_ _ | refine bD ?_ | refine bA ?_ _); exact BK187.out) hb); replace BK191 := Aside0.mk (blk_below (g := gb191) (o := .cells #[.int .i64 ((rd_T53 l1 x27_2).f0.f0), .int .i64 ((rd_T53 l1 x27_2).f0.f1), .int .i64 ((rd_T53 l1 x27_2).f0.f2), .int .i64 ((rd_T53 l1 x27_2).f1.f0), .int .i64 ((rd_T53 l1 x27_2).f1.f1)] 53 (0, 0)) (by (with_reducible repeat first | refine bN ?_ _ | refine bD ?_ | refine bA ?_ _); refine blk_put (cs := #[.int .i64 ((rd_T53 l1 x27_2).f0.f0), .int .i64 ((rd_T53 l1 x27_2).f0.f1), .int .i64 ((rd_T53 l1 x27_2).f0.f2), .int .i64 ((rd_T53 l1 x27_2).f1.f0), .int .i64 0]) ?_ 4 _ rfl; (with_reducible repeat first | refine bN ?_ _ | refine bD ?_ | refine bA ?_ _); refine blk_put (cs := #[.int .i64 ((rd_T53 l1 x27_2).f0.f0), .int .i64 ((rd_T53 l1 x27_2).f0.f1), .int .i64 ((rd_T53 l1 x27_2).f0.f2), .int .i64 0, .int .i64 0]) ?_ 3 _ rfl; (with_reducible repeat first | refine bN ?_ _ | refine bD ?_ | refine bA ?_ _); refine blk_put (cs := #[.int .i64 ((rd_T53 l1 x27_2).f0.f0), .int .i64 ((rd_T53 l1 x27_2).f0.f1), .int .i64 0, .int .i64 0, .int .i64 0]) ?_ 2 _ rfl; (with_reducible repeat first | refine bN ?_ _ | refine bD ?_ | refine bA ?_ _); refine blk_put (cs := #[.int .i64 ((rd_T53 l1 x27_2).f0.f0), .int .i64 0, .int .i64 0, .int .i64 0, .int .i64 0]) ?_ 1 _ rfl; (with_reducible repeat first | refine bN ?_ _ | refine bD ?_ | refine bA ?_ _); refine blk_put (cs := #[.int .i64 0, .int .i64 0, .int .i64 0, .int .i64 0, .int .i64 0]) ?_ 0 _ rfl; (with_reducible repeat first | refine bN ?_ _ | refine bD ?_ | refine bA ?_ _); exact BK191.out) hb); replace HB := Aside0.mk (below_step (by repeat (first | (with_reducible first | exact HB.out | apply bL | apply bM | apply bR | refine bS ?_ GE191.out) | exact HB.out)) hb); clear hb ho62; obtain ⟨Ao63, co63, eo63⟩ := Kd.R_slice HO197.out; subst eo63) | (go_at_call 38; (with_reducible refine (amount_Compatible.calls k2 a0_0 a0_1 a0_2 a0_3 _ _ y195 true _ ?side1 ?side2 ?side3 A48.out).mono ?_); (case side1 => repeat (first | exact (Kd.R_reads' HO197.out).2.2 | (with_reducible refine Kd.C_alloc ?_ _) | (with_reducible refine Kd.C_drewN ?_ _) | (with_reducible refine Kd.C_drew ?_))); (case side2 => exact (Kd.R_reads' HO197.out).2.1); (case side3 => exact GL.below HG.out (by repeat (first | (with_reducible first | exact HB.out | apply bL | apply bM | apply bR | refine bS ?_ GE191.out) | exact HB.out))); rintro e w64 ⟨rfl, hb⟩; replace HO_9 := Aside0.mk (Kd.R_below (by (with_reducible repeat (first | apply Kd.R_alloc | apply Kd.R_drewN | apply Kd.R_drew)); exact HO_9.out) hb); replace HO197 := Aside0.mk (Kd.R_below (by (with_reducible repeat (first | apply Kd.R_alloc | apply Kd.R_drewN | apply Kd.R_drew)); exact HO197.out) hb); replace BK185 := bK BK185 hb; replace BK186 := bK BK186 hb; replace BK187 := bK BK187 hb; replace BK191 := bK BK191 hb; replace HB := Aside0.mk (below_step (by repeat (first | (with_reducible first | exact HB.out | apply bL | apply bM | apply bR | refine bS ?_ GE191.out) | exact HB.out)) hb); (try clear hb); (try clear hk)))
            go_roundg k2
            case measure => have := HJ4.out; have := HK2.out; omega
            case rel => exact ⟨(x9_2), (wrap64 (x27_2 + 1)), (by first | rfl | (simp; done) | (simp [*]; done)), H', ⟨by have := HJ4.out; have := HK2.out; omega⟩, ⟨by (with_reducible repeat (first | apply Kd.R_alloc | apply Kd.R_drewN | apply Kd.R_drew)); exact HO_9.out⟩, ⟨by (with_reducible repeat first | refine bN ?_ _ | refine bD ?_ | refine bA ?_ _); exact BK185.out⟩, ⟨by (with_reducible repeat first | refine bN ?_ _ | refine bD ?_ | refine bA ?_ _); exact BK186.out⟩, ⟨by (with_reducible repeat first | refine bN ?_ _ | refine bD ?_ | refine bA ?_ _); exact BK187.out⟩, ⟨by repeat (first | (with_reducible first | exact HB.out | apply bL | apply bM | apply bR | refine bS ?_ GE191.out) | exact HB.out)⟩⟩
           ·replace c49 := Bool.eq_false_iff.mpr c49
            subst c49
            rw [if_neg (show ¬ (false = true) by decide)] at H
            by_cases c65 : x9_2.length < 5864062014805
            ·rw [if_pos c65] at H
             have LMc65 := Aside0.mk c65
             clear c65
             obtain ⟨y199, hy199⟩ : ∃ y_ : List (S24), y_ = (x9_2 ++ [(⟨(rd_T53 l1 x27_2).f0.f0, (rd_T53 l1 x27_2).f0.f1, (rd_T53 l1 x27_2).f0.f2⟩ : S24)]) := ⟨_, rfl⟩
             replace H : (holders_Against.l0 k2 y199 l1 (l1.length : Int) (wrap64 (x27_2 + 1)) a0_0 a0_1 a0_2 a0_3 a2_0 a2_1 a2_2 a3_0 a3_1) = some r := by first | (rw [hy199]; with_reducible exact H) | (have H2_ := (Option.bind_some _ _).symm.trans H; rw [hy199]; with_reducible exact H2_) | (have H2_ := (Option.bind_some _ _).symm.trans H; with_reducible exact H2_) | with_reducible exact H | (rw [hy199]; exact H) | exact H
             have Ny199 := Aside0.mk hy199
             clear hy199
             have H' := Aside0.mk H
             clear H
             have p190 : 0 ≤ (x27_2 : Int) := of_decide_eq_true (by first | (with_reducible assumption) | assumption)
             have q190 : x27_2 < (l1.length : Int) := of_decide_eq_true (by first | (with_reducible assumption) | assumption)
             obtain ⟨ad190, e190, hx190_0, hx190_1, hx190_2, hx190_3, hx190_4⟩ := at_T53 HR1.out x27_2 p190 q190
             cases e190
             replace hx190_0 := kC HB hx190_0
             replace hx190_1 := kC HB hx190_1
             replace hx190_2 := kC HB hx190_2
             replace hx190_3 := kC HB hx190_3
             replace hx190_4 := kC HB hx190_4
             replace p190 := eq_true p190
             replace q190 := eq_true q190
             go_wp2_with (first | ((with_reducible refine gate_dst (N := 11) rfl ?_); (try (refine gate_guard (by rfl) ?_; dsimp only)); refine box_event ?hg (N := 11) ?hd (cs := #[.int .i64 0, .int .i64 0, .int .i64 0, .int .i64 0, .int .i64 0]) (t := 53) ?hr ?_; (case hd => rfl); (case hg => rfl); (case hr => first | (go_simp; done) | (go_simp; rfl)); intro gb191 hg w66 hbox hb; replace HO_9 := Aside0.mk (Kd.R_below (by (with_reducible repeat (first | apply Kd.R_alloc | apply Kd.R_drewN | apply Kd.R_drew)); exact HO_9.out) hb); have BK191 := Aside0.mk hbox; have GW191 := gE HB hg; replace HB := bB HB hb; have GE191 := GW191; have NB185_191 := gN BK185 hg; replace BK185 := bK BK185 hb; have NB191_185 := Aside0.mk NB185_191.out.symm; have NB186_191 := gN BK186 hg; replace BK186 := bK BK186 hb; have NB191_186 := Aside0.mk NB186_191.out.symm; have NB187_191 := gN BK187 hg; replace BK187 := bK BK187 hb; have NB191_187 := Aside0.mk NB187_191.out.symm; clear hb hbox hg; have hnb67 := NB191_185.out; have hnc67 := NB185_191.out; have hnb68 := NB191_186.out; have hnc68 := NB186_191.out; have hnb69 := NB191_187.out; have hnc69 := NB187_191.out; obtain ⟨hcz70_0, hcz70_1, hcz70_2, hcz70_3, hcz70_4, hfz70_0, hfz70_1, hfz70_2, hfz70_3, hfz70_4⟩ := d5 BK191; have hnb71 := NB186_185.out; have hnc71 := NB185_186.out; have hnb72 := NB186_187.out; have hnc72 := NB187_186.out; obtain ⟨hcz73_0, hcz73_1, hcz73_2, hfz73_0, hfz73_1, hfz73_2⟩ := d3 BK186; have hnb74 := NB185_187.out; have hnc74 := NB187_185.out; obtain ⟨hcz75_0, hcz75_1, hcz75_2, hcz75_3, hfz75_0, hfz75_1, hfz75_2, hfz75_3⟩ := d4 BK185; have hcz76_0 : w66.cell? ⟨gb187, 0, none⟩ = some (.int .i64 a3_0) := bC BK187 0 rfl; have hcz76_1 : w66.cell? ⟨gb187, 1, none⟩ = some (.int .i64 a3_1) := bC BK187 1 rfl; have hfz76_0 := bF BK187 0; have hfz76_1 := bF BK187 1) | ((with_reducible refine gate_dst (N := 44) rfl ?_); (try (refine gate_guard (by rfl) ?_; dsimp only)); refine Kd.R_lit k26 _ 26 ?hg (N := 44) ?hd (xs := ([(⟨(rd_T53 l1 x27_2).f1.f0, (rd_T53 l1 x27_2).f1.f1⟩ : S26), (⟨a3_0, a3_1⟩ : S26)] : List (S26))) (inner := [.int .i64 ((rd_T53 l1 x27_2).f1.f0), .int .i64 ((rd_T53 l1 x27_2).f1.f1), .int .i64 a3_0, .int .i64 a3_1]) (ok := fun _ => True) (okp := fun _ => True) ?hr ?hp (fun _ hk => hk) trivial (Below.refl _ _) (Nat.le_refl _) (by simp) ?_; (case hd => rfl); (case hg => rfl); (case hr => first | (go_simp; done) | (go_simp; rfl)); (case hp => exact (Reps.c2 (show Kd.M k26 _ _ _ (⟨(rd_T53 l1 x27_2).f1.f0, (rd_T53 l1 x27_2).f1.f1⟩ : S26) [.int .i64 ((rd_T53 l1 x27_2).f1.f0), .int .i64 ((rd_T53 l1 x27_2).f1.f1)] from (k26_mkM _ _ _ (⟨(rd_T53 l1 x27_2).f1.f0, (rd_T53 l1 x27_2).f1.f1⟩ : S26) )) (Reps.c2 (show Kd.M k26 _ _ _ (⟨a3_0, a3_1⟩ : S26) [.int .i64 a3_0, .int .i64 a3_1] from (k26_mkM _ _ _ (⟨a3_0, a3_1⟩ : S26) )) (Reps.none _ _)))); intro v196 w77 ho78 hb hg_ hnew_; clear hg_ hnew_; (first | rw [← Ny195.out] at ho78 | (simp only [Int.reduceToNat] at ho78; rw [← Ny195.out] at ho78)); replace HO_9 := Aside0.mk (Kd.R_below (by (with_reducible repeat (first | apply Kd.R_alloc | apply Kd.R_drewN | apply Kd.R_drew)); exact (Kd.R_mono (Kd.R_far (p := ⟨gb191, 4, none⟩) (Kd.R_far (p := ⟨gb191, 3, none⟩) (Kd.R_far (p := ⟨gb191, 2, none⟩) (Kd.R_far (p := ⟨gb191, 1, none⟩) (Kd.R_far (p := ⟨gb191, 0, none⟩) (Kd.R_types HO_9.out BK191.out (by decide)) (fun _ hk => hk.2) (.int .i64 ((rd_T53 l1 x27_2).f0.f0))) (fun _ hk => hk.2) (.int .i64 ((rd_T53 l1 x27_2).f0.f1))) (fun _ hk => hk.2) (.int .i64 ((rd_T53 l1 x27_2).f0.f2))) (fun _ hk => hk.2) (.int .i64 ((rd_T53 l1 x27_2).f1.f0))) (fun _ hk => hk.2) (.int .i64 ((rd_T53 l1 x27_2).f1.f1))) (fun _ h_ => h_.1))) hb); have HO197 := Aside0.mk (Kd.R_lower (Kd.R_newB ho78 (g := gb187) (o := .cells #[.int .i64 a3_0, .int .i64 a3_1] 26 (0, 0)) (by (with_reducible repeat first | refine bN ?_ _ | refine bD ?_ | refine bA ?_ _); refine blk_far ?_ NB187_191.out _; (with_reducible repeat first | refine bN ?_ _ | refine bD ?_ | refine bA ?_ _); refine blk_far ?_ NB187_191.out _; (with_reducible repeat first | refine bN ?_ _ | refine bD ?_ | refine bA ?_ _); refine blk_far ?_ NB187_191.out _; (with_reducible repeat first | refine bN ?_ _ | refine bD ?_ | refine bA ?_ _); refine blk_far ?_ NB187_191.out _; (with_reducible repeat first | refine bN ?_ _ | refine bD ?_ | refine bA ?_ _); refine blk_far ?_ NB187_191.out _; (with_reducible repeat first | refine bN ?_ _ | refine bD ?_ | refine bA ?_ _); exact BK187.out)) (below_size (by repeat (first | (with_reducible first | exact HB.out | apply bL | apply bM | apply bR | refine bS ?_ GE191.out) | exact HB.out)))); replace BK185 := Aside0.mk (blk_below (g := gb185) (o := .cells #[.string a0_0, .int .i64 a0_1, .int .i64 a0_2, .int .i64 a0_3] 32 (0, 0)) (by (with_reducible repeat first | refine bN ?_ _ | refine bD ?_ | refine bA ?_ _); refine blk_far ?_ NB185_191.out _; (with_reducible repeat first | refine bN ?_ _ | refine bD ?_ | refine bA ?_ _); refine blk_far ?_ NB185_191.out _; (with_reducible repeat first | refine bN ?_ _ | refine bD ?_ | refine bA ?_ _); refine blk_far ?_ NB185_191.out _; (with_reducible repeat first | refine bN ?_ _ | refine bD ?_ | refine bA ?_ _); refine blk_far ?_ NB185_191.out _; (with_reducible repeat first | refine bN ?_ _ | refine bD ?_ | refine bA ?_ _); refine blk_far ?_ NB185_191.out _; (with_reducible repeat first | refine bN ?_ _ | refine bD ?_ | refine bA ?_ _); exact BK185.out) hb); replace BK186 := Aside0.mk (blk_below (g := gb186) (o := .cells #[.int .i64 a2_0, .int .i64 a2_1, .int .i64 a2_2] 24 (0, 0)) (by (with_reducible repeat first | refine bN ?_ _ | refine bD ?_ | refine bA ?_ _); refine blk_far ?_ NB186_191.out _; (with_reducible repeat first | refine bN ?_ _ | refine bD ?_ | refine bA ?_ _); refine blk_far ?_ NB186_191.out _; (with_reducible repeat first | refine bN ?_ _ | refine bD ?_ | refine bA ?_ _); refine blk_far ?_ NB186_191.out _; (with_reducible repeat first | refine bN ?_ _ | refine bD ?_ | refine bA ?_ _); refine blk_far ?_ NB186_191.out _; (with_reducible repeat first | refine bN ?_ _ | refine bD ?_ | refine bA ?_ _); refine blk_far ?_ NB186_191.out _; (with_reducible repeat first | refine bN ?_ _ | refine bD ?_ | refine bA ?_ _); exact BK186.out) hb); replace BK187 := Aside0.mk (blk_below (g := gb187) (o := .cells #[.int .i64 a3_0, .int .i64 a3_1] 26 (0, 0)) (by (with_reducible repeat first | refine bN ?_ _ | refine bD ?_ | refine bA ?_ _); refine blk_far ?_ NB187_191.out _; (with_reducible repeat first | refine bN ?_ _ | refine bD ?_ | refine bA ?_ _); refine blk_far ?_ NB187_191.out _; (with_reducible repeat first | refine bN ?_ _ | refine bD ?_ | refine bA ?_ _); refine blk_far ?_ NB187_191.out _; (with_reducible repeat first | refine bN ?_ _ | refine bD ?_ | refine bA ?_ _); refine blk_far ?_ NB187_191.out _; (with_reducible repeat first | refine bN ?_ _ | refine bD ?_ | refine bA ?_ _); refine blk_far ?_ NB187_191.out _; (with_reducible repeat first | refine bN ?_ _ | refine bD ?_ | refine bA ?_ _); exact BK187.out) hb); replace BK191 := Aside0.mk (blk_below (g := gb191) (o := .cells #[.int .i64 ((rd_T53 l1 x27_2).f0.f0), .int .i64 ((rd_T53 l1 x27_2).f0.f1), .int .i64 ((rd_T53 l1 x27_2).f0.f2), .int .i64 ((rd_T53 l1 x27_2).f1.f0), .int .i64 ((rd_T53 l1 x27_2).f1.f1)] 53 (0, 0)) (by (with_reducible repeat first | refine bN ?_ _ | refine bD ?_ | refine bA ?_ _); refine blk_put (cs := #[.int .i64 ((rd_T53 l1 x27_2).f0.f0), .int .i64 ((rd_T53 l1 x27_2).f0.f1), .int .i64 ((rd_T53 l1 x27_2).f0.f2), .int .i64 ((rd_T53 l1 x27_2).f1.f0), .int .i64 0]) ?_ 4 _ rfl; (with_reducible repeat first | refine bN ?_ _ | refine bD ?_ | refine bA ?_ _); refine blk_put (cs := #[.int .i64 ((rd_T53 l1 x27_2).f0.f0), .int .i64 ((rd_T53 l1 x27_2).f0.f1), .int .i64 ((rd_T53 l1 x27_2).f0.f2), .int .i64 0, .int .i64 0]) ?_ 3 _ rfl; (with_reducible repeat first | refine bN ?_ _ | refine bD ?_ | refine bA ?_ _); refine blk_put (cs := #[.int .i64 ((rd_T53 l1 x27_2).f0.f0), .int .i64 ((rd_T53 l1 x27_2).f0.f1), .int .i64 0, .int .i64 0, .int .i64 0]) ?_ 2 _ rfl; (with_reducible repeat first | refine bN ?_ _ | refine bD ?_ | refine bA ?_ _); refine blk_put (cs := #[.int .i64 ((rd_T53 l1 x27_2).f0.f0), .int .i64 0, .int .i64 0, .int .i64 0, .int .i64 0]) ?_ 1 _ rfl; (with_reducible repeat first | refine bN ?_ _ | refine bD ?_ | refine bA ?_ _); refine blk_put (cs := #[.int .i64 0, .int .i64 0, .int .i64 0, .int .i64 0, .int .i64 0]) ?_ 0 _ rfl; (with_reducible repeat first | refine bN ?_ _ | refine bD ?_ | refine bA ?_ _); exact BK191.out) hb); replace HB := Aside0.mk (below_step (by repeat (first | (with_reducible first | exact HB.out | apply bL | apply bM | apply bR | refine bS ?_ GE191.out) | exact HB.out)) hb); clear hb ho78; obtain ⟨Ao79, co79, eo79⟩ := Kd.R_slice HO197.out; subst eo79) | (go_at_call 38; (with_reducible refine (amount_Compatible.calls k2 a0_0 a0_1 a0_2 a0_3 _ _ y195 false _ ?side1 ?side2 ?side3 A48.out).mono ?_); (case side1 => repeat (first | exact (Kd.R_reads' HO197.out).2.2 | (with_reducible refine Kd.C_alloc ?_ _) | (with_reducible refine Kd.C_drewN ?_ _) | (with_reducible refine Kd.C_drew ?_))); (case side2 => exact (Kd.R_reads' HO197.out).2.1); (case side3 => exact GL.below HG.out (by repeat (first | (with_reducible first | exact HB.out | apply bL | apply bM | apply bR | refine bS ?_ GE191.out) | exact HB.out))); rintro e w80 ⟨rfl, hb⟩; replace HO_9 := Aside0.mk (Kd.R_below (by (with_reducible repeat (first | apply Kd.R_alloc | apply Kd.R_drewN | apply Kd.R_drew)); exact HO_9.out) hb); replace HO197 := Aside0.mk (Kd.R_below (by (with_reducible repeat (first | apply Kd.R_alloc | apply Kd.R_drewN | apply Kd.R_drew)); exact HO197.out) hb); replace BK185 := bK BK185 hb; replace BK186 := bK BK186 hb; replace BK187 := bK BK187 hb; replace BK191 := bK BK191 hb; replace HB := Aside0.mk (below_step (by repeat (first | (with_reducible first | exact HB.out | apply bL | apply bM | apply bR | refine bS ?_ GE191.out) | exact HB.out)) hb); (try clear hb); (try clear hk); have hcz81_0 : w80.cell? ⟨gb191, 0, none⟩ = some (.int .i64 ((rd_T53 l1 x27_2).f0.f0)) := bC BK191 0 rfl; have hcz81_1 : w80.cell? ⟨gb191, 1, none⟩ = some (.int .i64 ((rd_T53 l1 x27_2).f0.f1)) := bC BK191 1 rfl; have hcz81_2 : w80.cell? ⟨gb191, 2, none⟩ = some (.int .i64 ((rd_T53 l1 x27_2).f0.f2)) := bC BK191 2 rfl; have hcz81_3 : w80.cell? ⟨gb191, 3, none⟩ = some (.int .i64 ((rd_T53 l1 x27_2).f1.f0)) := bC BK191 3 rfl; have hcz81_4 : w80.cell? ⟨gb191, 4, none⟩ = some (.int .i64 ((rd_T53 l1 x27_2).f1.f1)) := bC BK191 4 rfl; have hfz81_0 := bF BK191 0; have hfz81_1 := bF BK191 1; have hfz81_2 := bF BK191 2; have hfz81_3 := bF BK191 3; have hfz81_4 := bF BK191 4) | ((with_reducible refine gate_builtin (b := .append) (xs := #[.tmp 49, .tmp 52]) rfl ?_); (try (refine gate_guard (by rfl) ?_; dsimp only)); at_builtin; refine Kd.R_append k24 (w0 := w) w.heap.size rfl (.tmp 49) (.tmp 52) 35 24 (.agg #[(.int .i64 0), (.int .i64 0), (.int .i64 0)]) 24 rfl Tryd.underlying35 info24 rfl (by decide) (by omega) u9 x9_2 (⟨(rd_T53 l1 x27_2).f0.f0, (rd_T53 l1 x27_2).f0.f1, (rd_T53 l1 x27_2).f0.f2⟩ : S24) [.int .i64 ((rd_T53 l1 x27_2).f0.f0), .int .i64 ((rd_T53 l1 x27_2).f0.f1), .int .i64 ((rd_T53 l1 x27_2).f0.f2)] (fun k_ => k_ ≠ gb186) (fun _ => False) rfl rfl ?aP (fun _ hk => hk.elim) ?aF ?aO ?aB ?aS ?aL ?_; (case aP => exact k24_mkM _ _ _ (⟨(rd_T53 l1 x27_2).f0.f0, (rd_T53 l1 x27_2).f0.f1, (rd_T53 l1 x27_2).f0.f2⟩ : S24)); (case aB => exact (by repeat (first | (with_reducible first | exact HB.out | apply bL | apply bM | apply bR | refine bS ?_ GE191.out) | exact HB.out))); (case aF => exact (fun k_ hk => Kd.freshB (g := gb186) (o := .cells #[.int .i64 a2_0, .int .i64 a2_1, .int .i64 a2_2] 24 (0, 0)) (uK BK186) k_ hk)); (case aO => exact (by (with_reducible repeat (first | apply Kd.R_alloc | apply Kd.R_drewN | apply Kd.R_drew)); exact HO_9.out)); (case aS => exact (below_size (by repeat (first | (with_reducible first | exact HB.out | apply bL | apply bM | apply bR | refine bS ?_ GE191.out) | exact HB.out)))); (case aL => have := LMc65.out; omega); intro v200 w82 ho hb hg hat; rw [← Ny199.out] at ho; replace BK185 := Aside0.mk (blk_grown (g := gb185) (o := .cells #[.string a0_0, .int .i64 a0_1, .int .i64 a0_2, .int .i64 a0_3] 32 (0, 0)) (uK BK185) hg (Kd.R_ne HO_9.out BK185.out (by decide))); replace BK186 := Aside0.mk (blk_grown (g := gb186) (o := .cells #[.int .i64 a2_0, .int .i64 a2_1, .int .i64 a2_2] 24 (0, 0)) (uK BK186) hg (Kd.R_away HO_9.out (fun _ hk => hk))); replace BK187 := Aside0.mk (blk_grown (g := gb187) (o := .cells #[.int .i64 a3_0, .int .i64 a3_1] 26 (0, 0)) (uK BK187) hg (Kd.R_ne HO_9.out BK187.out (by decide))); replace BK191 := Aside0.mk (blk_grown (g := gb191) (o := .cells #[.int .i64 ((rd_T53 l1 x27_2).f0.f0), .int .i64 ((rd_T53 l1 x27_2).f0.f1), .int .i64 ((rd_T53 l1 x27_2).f0.f2), .int .i64 ((rd_T53 l1 x27_2).f1.f0), .int .i64 ((rd_T53 l1 x27_2).f1.f1)] 53 (0, 0)) (uK BK191) hg (Kd.R_ne HO_9.out BK191.out (by decide))); replace HO197 := Aside0.mk (Kd.R_over' (by (with_reducible repeat (first | apply Kd.R_alloc | apply Kd.R_drewN | apply Kd.R_drew)); exact HO197.out) (Kd.R_typed (by (with_reducible repeat (first | apply Kd.R_alloc | apply Kd.R_drewN | apply Kd.R_drew)); exact HO_9.out)) (by decide) hg); replace HB := Aside0.mk (hb); have HO201 := Aside0.mk (ho); clear HO_9; clear ho hb hg hat))
             go_roundg k2
             case measure => have := HJ4.out; have := HK2.out; omega
             case rel => exact ⟨(y199), (wrap64 (x27_2 + 1)), (by first | rfl | (simp; done) | (simp [*]; done)), H', ⟨by have := HJ4.out; have := HK2.out; omega⟩, ⟨by (with_reducible repeat (first | apply Kd.R_alloc | apply Kd.R_drewN | apply Kd.R_drew)); exact HO201.out⟩, ⟨by (with_reducible repeat first | refine bN ?_ _ | refine bD ?_ | refine bA ?_ _); exact BK185.out⟩, ⟨by (with_reducible repeat first | refine bN ?_ _ | refine bD ?_ | refine bA ?_ _); exact BK186.out⟩, ⟨by (with_reducible repeat first | refine bN ?_ _ | refine bD ?_ | refine bA ?_ _); exact BK187.out⟩, ⟨by repeat (first | (with_reducible first | exact HB.out | apply bL | apply bM | apply bR | refine bS ?_ GE191.out) | exact HB.out)⟩⟩
            ·rw [if_neg c65] at H
             exact absurd H (by simp)
         ·rw [if_neg c34] at H
          have c34b0 : (!(((rd_T53 l1 x27_2).f0.f0) == a2_0) || (!(((rd_T53 l1 x27_2).f0.f1) == a2_1) || (!(((rd_T53 l1 x27_2).f0.f2) == a2_2)))) = false := by simpa using c34
          clear c34
          have H' := Aside0.mk H
          clear H
          have p190 : 0 ≤ (x27_2 : Int) := of_decide_eq_true (by first | (with_reducible assumption) | assumption)
          have q190 : x27_2 < (l1.length : Int) := of_decide_eq_true (by first | (with_reducible assumption) | assumption)
          obtain ⟨ad190, e190, hx190_0, hx190_1, hx190_2, hx190_3, hx190_4⟩ := at_T53 HR1.out x27_2 p190 q190
          cases e190
          replace hx190_0 := kC HB hx190_0
          replace hx190_1 := kC HB hx190_1
          replace hx190_2 := kC HB hx190_2
          replace hx190_3 := kC HB hx190_3
          replace hx190_4 := kC HB hx190_4
          replace p190 := eq_true p190
          replace q190 := eq_true q190
          go_wp2_with (first | ((with_reducible refine gate_dst (N := 11) rfl ?_); (try (refine gate_guard (by rfl) ?_; dsimp only)); refine box_event ?hg (N := 11) ?hd (cs := #[.int .i64 0, .int .i64 0, .int .i64 0, .int .i64 0, .int .i64 0]) (t := 53) ?hr ?_; (case hd => rfl); (case hg => rfl); (case hr => first | (go_simp; done) | (go_simp; rfl)); intro gb191 hg w83 hbox hb; replace HO_9 := Aside0.mk (Kd.R_below (by (with_reducible repeat (first | apply Kd.R_alloc | apply Kd.R_drewN | apply Kd.R_drew)); exact HO_9.out) hb); have BK191 := Aside0.mk hbox; have GW191 := gE HB hg; replace HB := bB HB hb; have GE191 := GW191; have NB185_191 := gN BK185 hg; replace BK185 := bK BK185 hb; have NB191_185 := Aside0.mk NB185_191.out.symm; have NB186_191 := gN BK186 hg; replace BK186 := bK BK186 hb; have NB191_186 := Aside0.mk NB186_191.out.symm; have NB187_191 := gN BK187 hg; replace BK187 := bK BK187 hb; have NB191_187 := Aside0.mk NB187_191.out.symm; clear hb hbox hg; have hnb84 := NB191_185.out; have hnc84 := NB185_191.out; have hnb85 := NB191_186.out; have hnc85 := NB186_191.out; have hnb86 := NB191_187.out; have hnc86 := NB187_191.out; obtain ⟨hcz87_0, hcz87_1, hcz87_2, hcz87_3, hcz87_4, hfz87_0, hfz87_1, hfz87_2, hfz87_3, hfz87_4⟩ := d5 BK191; have hnb88 := NB186_185.out; have hnc88 := NB185_186.out; have hnb89 := NB186_187.out; have hnc89 := NB187_186.out; have hcz90_0 : w83.cell? ⟨gb186, 0, none⟩ = some (.int .i64 a2_0) := bC BK186 0 rfl; have hcz90_1 : w83.cell? ⟨gb186, 1, none⟩ = some (.int .i64 a2_1) := bC BK186 1 rfl; have hcz90_2 : w83.cell? ⟨gb186, 2, none⟩ = some (.int .i64 a2_2) := bC BK186 2 rfl; have hfz90_0 := bF BK186 0; have hfz90_1 := bF BK186 1; have hfz90_2 := bF BK186 2))
          go_roundg k2
          case measure => have := HJ4.out; have := HK2.out; omega
          case rel => exact ⟨(x9_2), (wrap64 (x27_2 + 1)), (by first | rfl | (simp; done) | (simp [*]; done)), H', ⟨by have := HJ4.out; have := HK2.out; omega⟩, ⟨by (with_reducible repeat (first | apply Kd.R_alloc | apply Kd.R_drewN | apply Kd.R_drew)); exact Kd.R_mono (Kd.R_far (p := ⟨gb191, 4, none⟩) (Kd.R_far (p := ⟨gb191, 3, none⟩) (Kd.R_far (p := ⟨gb191, 2, none⟩) (Kd.R_far (p := ⟨gb191, 1, none⟩) (Kd.R_far (p := ⟨gb191, 0, none⟩) (Kd.R_types HO_9.out BK191.out (by decide)) (fun _ hk => hk.2) (.int .i64 ((rd_T53 l1 x27_2).f0.f0))) (fun _ hk => hk.2) (.int .i64 ((rd_T53 l1 x27_2).f0.f1))) (fun _ hk => hk.2) (.int .i64 ((rd_T53 l1 x27_2).f0.f2))) (fun _ hk => hk.2) (.int .i64 ((rd_T53 l1 x27_2).f1.f0))) (fun _ hk => hk.2) (.int .i64 ((rd_T53 l1 x27_2).f1.f1))) (fun _ hk => hk.1)⟩, ⟨by (with_reducible repeat first | refine bN ?_ _ | refine bD ?_ | refine bA ?_ _); refine blk_far ?_ NB185_191.out _; (with_reducible repeat first | refine bN ?_ _ | refine bD ?_ | refine bA ?_ _); refine blk_far ?_ NB185_191.out _; (with_reducible repeat first | refine bN ?_ _ | refine bD ?_ | refine bA ?_ _); refine blk_far ?_ NB185_191.out _; (with_reducible repeat first | refine bN ?_ _ | refine bD ?_ | refine bA ?_ _); refine blk_far ?_ NB185_191.out _; (with_reducible repeat first | refine bN ?_ _ | refine bD ?_ | refine bA ?_ _); refine blk_far ?_ NB185_191.out _; (with_reducible repeat first | refine bN ?_ _ | refine bD ?_ | refine bA ?_ _); exact BK185.out⟩, ⟨by (with_reducible repeat first | refine bN ?_ _ | refine bD ?_ | refine bA ?_ _); refine blk_far ?_ NB186_191.out _; (with_reducible repeat first | refine bN ?_ _ | refine bD ?_ | refine bA ?_ _); refine blk_far ?_ NB186_191.out _; (with_reducible repeat first | refine bN ?_ _ | refine bD ?_ | refine bA ?_ _); refine blk_far ?_ NB186_191.out _; (with_reducible repeat first | refine bN ?_ _ | refine bD ?_ | refine bA ?_ _); refine blk_far ?_ NB186_191.out _; (with_reducible repeat first | refine bN ?_ _ | refine bD ?_ | refine bA ?_ _); refine blk_far ?_ NB186_191.out _; (with_reducible repeat first | refine bN ?_ _ | refine bD ?_ | refine bA ?_ _); exact BK186.out⟩, ⟨by (with_reducible repeat first | refine bN ?_ _ | refine bD ?_ | refine bA ?_ _); refine blk_far ?_ NB187_191.out _; (with_reducible repeat first | refine bN ?_ _ | refine bD ?_ | refine bA ?_ _); refine blk_far ?_ NB187_191.out _; (with_reducible repeat first | refine bN ?_ _ | refine bD ?_ | refine bA ?_ _); refine blk_far ?_ NB187_191.out _; (with_reducible repeat first | refine bN ?_ _ | refine bD ?_ | refine bA ?_ _); refine blk_far ?_ NB187_191.out _; (with_reducible repeat first | refine bN ?_ _ | refine bD ?_ | refine bA ?_ _); refine blk_far ?_ NB187_191.out _; (with_reducible repeat first | refine bN ?_ _ | refine bD ?_ | refine bA ?_ _); exact BK187.out⟩, ⟨by repeat (first | (with_reducible first | exact HB.out | apply bL | apply bM | apply bR | refine bS ?_ GE191.out) | exact HB.out)⟩⟩
        ·rw [if_neg c33] at H
         exact absurd H (by simp)
       ·rw [if_neg c32] at H
        exact absurd H (by simp)
      ·rw [if_neg c31] at H
       have c31b0 : decide (x27_2 < (l1.length : Int)) = false := decide_eq_false c31
       clear c31
       obtain rfl := Option.some.inj H
       go_wp2
       go_ret
       exact ⟨_, by first | rfl | (simp [errW_none, errW_some] <;> rfl) | (simp [*, errW_none, errW_some] <;> rfl), by (with_reducible repeat (first | apply Kd.R_alloc | apply Kd.R_drewN | apply Kd.R_drew)); exact Kd.R_mono HO_9.out (fun _ hk => trivial), by repeat (first | (with_reducible first | exact HB.out | apply bL | apply bM | apply bR) | exact HB.out)⟩
end Go.Proofs.YtnmemkphfgdplaaDoor.PA
