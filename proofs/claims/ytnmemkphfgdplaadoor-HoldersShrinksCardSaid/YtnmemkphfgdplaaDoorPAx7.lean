-- Printed by wip/tool/myprint.py for this claim; Lean checks it.
import Derived.Test.YtnmemkphfgdplaaDoorPAx0
import Derived.Test.YtnmemkphfgdplaaDoorSlim
import Derived.Test.YtnmemkphfgdplaaDoorPAx4
import Derived.Test.YtnmemkphfgdplaaDoorPAx5
import Derived.Test.YtnmemkphfgdplaaDoorPAx6
namespace Go.Proofs.YtnmemkphfgdplaaDoor.PA
open Go.RowKit Go.Proofs.YtnmemkphfgdplaaDoorW.PrintWords Go.Proofs.YtnmemkphfgdplaaDoorW.PrintLast Go.Proofs.YtnmemkphfgdplaaDoorW.PrintMore
attribute [local go_sem] max2_int min2_int max_two min_two max_three min_three max_four min_four   -- for this text's walks alone
set_option linter.unusedVariables false
set_option linter.unusedSimpArgs false

/-! ### holders_fit: function 35 -/
def holders_fit.f (k : Nat) (a0_0 : ByteArray) (a0_1 : Int) (a0_2 : Int) (a0_3 : Int) (l1 : List (S53)) (a2_0 : Int) (a2_1 : Int) (a2_2 : Int) (a3_0 : Int) (a3_1 : Int) : Option (Bool) := (holders_Valid.f k a0_0 a0_1 a0_2 a0_3 l1).bind fun t174 => (if t174 = true then ((ident_ValidProc.f a2_0 a2_1 a2_2).bind fun t175 => (if t175 = true then ((amount_Fits.f a0_0 a0_1 a0_2 a0_3 a3_0 a3_1).bind fun t176 => (some t176)) else (some false))) else (some false))
theorem holders_fit.mono : ∀ a0 a1 a2 a3 a4 a5 a6 a7 a8 a9 k, LeO (holders_fit.f k a0 a1 a2 a3 a4 a5 a6 a7 a8 a9) (holders_fit.f (k + 1) a0 a1 a2 a3 a4 a5 a6 a7 a8 a9) := by
 intro a0 a1 a2 a3 a4 a5 a6 a7 a8 a9 k
 unfold holders_fit.f
 repeat' first
   | (with_reducible exact holders_Valid.mono _ _ _ _ _ _)
   | (with_reducible exact LeO.refl _)
   | (with_reducible exact LeO.none _)
   | (with_reducible refine LeO.ite ?_ ?_)
   | (with_reducible refine LeO.bind ?_ (fun _ => ?_))
   | exact holders_Valid.mono _ _ _ _ _ _
   | exact LeO.none _
   | refine LeO.ite ?_ ?_
   | refine LeO.bind ?_ (fun _ => ?_)
set_option maxHeartbeats 8000000 in
set_option maxRecDepth 100000 in
theorem holders_fit.calls (k : Nat) (a0_0 : ByteArray) (a0_1 : Int) (a0_2 : Int) (a0_3 : Int) (A1 : Option Addr) (c1 : Nat) (l1 : List (S53)) (a2_0 : Int) (a2_1 : Int) (a2_2 : Int) (a3_0 : Int) (a3_1 : Int) (r : Bool) (w : World) (hr1 : Kd.C k53 w A1 l1.length l1) (hc1 : l1.length ≤ c1) (hG : GL w) (h : holders_fit.f k a0_0 a0_1 a0_2 a0_3 l1 a2_0 a2_1 a2_2 a3_0 a3_1 = some r) :
  Calls Tryd.prog 35 #[.agg #[.string a0_0, .int .i64 a0_1, .int .i64 a0_2, .int .i64 a0_3], .slice A1 l1.length c1, .agg #[.int .i64 a2_0, .int .i64 a2_1, .int .i64 a2_2], .agg #[.int .i64 a3_0, .int .i64 a3_1]] w fun e w' => e = .returned (.bool r) ∧ Below w.heap.size w w' := by
 have hu32 := Tryd.underlying32
 have hu24 := Tryd.underlying24
 have hu26 := Tryd.underlying26
 have HG := Aside0.mk hG
 clear hG
 have HR1 := Aside0.mk hr1
 have HC1 := Aside0.mk hc1
 clear hr1 hc1
 have HB := Aside0.mk (Below.refl w.heap.size w)
 have H : ((holders_Valid.f k a0_0 a0_1 a0_2 a0_3 l1).bind fun t174 => (if t174 = true then ((ident_ValidProc.f a2_0 a2_1 a2_2).bind fun t175 => (if t175 = true then ((amount_Fits.f a0_0 a0_1 a0_2 a0_3 a3_0 a3_1).bind fun t176 => (some t176)) else (some false))) else (some false))) = some r := h
 clear h
 obtain ⟨t174, A50, H⟩ := Option.bind_eq_some_iff.mp H
 have A5 := Aside0.mk A50; clear A50
 by_cases c6 : t174 = true
 ·subst c6
  rw [if_pos rfl] at H
  obtain ⟨t175, A70, H⟩ := Option.bind_eq_some_iff.mp H
  have A7 := Aside0.mk A70; clear A70
  by_cases c8 : t175 = true
  ·subst c8
   rw [if_pos rfl] at H
   obtain ⟨t176, A90, H⟩ := Option.bind_eq_some_iff.mp H
   have A9 := Aside0.mk A90; clear A90
   obtain rfl := Option.some.inj H
   go_enter Tryd.func35, Tryd.ntmps35
   go_wp2_with (first | ((with_reducible refine gate_dst (N := 4) rfl ?_); refine box_event ?hg (N := 4) ?hd (cs := #[.string a0_0, .int .i64 a0_1, .int .i64 a0_2, .int .i64 a0_3]) (t := 32) ?hr ?_; (case hd => rfl); (case hg => rfl); (case hr => first | (go_simp; done) | (go_simp; rfl)); intro gb171 hg w10 hbox hb; have BK171 := Aside0.mk hbox; have GW171 := gE HB hg; replace HB := bB HB hb; have GE171 := GW171; clear hb hbox hg) | ((with_reducible refine gate_dst (N := 6) rfl ?_); refine box_event ?hg (N := 6) ?hd (cs := #[.int .i64 a2_0, .int .i64 a2_1, .int .i64 a2_2]) (t := 24) ?hr ?_; (case hd => rfl); (case hg => rfl); (case hr => first | (go_simp; done) | (go_simp; rfl)); intro gb172 hg w11 hbox hb; have BK172 := Aside0.mk hbox; have GW172 := gE HB hg; replace HB := bB HB hb; have GE172 := GW172; have NB171_172 := gN BK171 hg; replace BK171 := bK BK171 hb; have NB172_171 := Aside0.mk NB171_172.out.symm; clear hb hbox hg) | ((with_reducible refine gate_dst (N := 7) rfl ?_); refine box_event ?hg (N := 7) ?hd (cs := #[.int .i64 a3_0, .int .i64 a3_1]) (t := 26) ?hr ?_; (case hd => rfl); (case hg => rfl); (case hr => first | (go_simp; done) | (go_simp; rfl)); intro gb173 hg w12 hbox hb; have BK173 := Aside0.mk hbox; have GW173 := gE HB hg; replace HB := bB HB hb; have GE173 := GW173; have NB171_173 := gN BK171 hg; replace BK171 := bK BK171 hb; have NB173_171 := Aside0.mk NB171_173.out.symm; have NB172_173 := gN BK172 hg; replace BK172 := bK BK172 hb; have NB173_172 := Aside0.mk NB172_173.out.symm; clear hb hbox hg; have hnb13 := NB171_172.out; have hnc13 := NB172_171.out; have hnb14 := NB171_173.out; have hnc14 := NB173_171.out; have hcz15_0 : w12.cell? ⟨gb171, 0, none⟩ = some (.string a0_0) := bC BK171 0 rfl; have hcz15_1 : w12.cell? ⟨gb171, 1, none⟩ = some (.int .i64 a0_1) := bC BK171 1 rfl; have hcz15_2 : w12.cell? ⟨gb171, 2, none⟩ = some (.int .i64 a0_2) := bC BK171 2 rfl; have hcz15_3 : w12.cell? ⟨gb171, 3, none⟩ = some (.int .i64 a0_3) := bC BK171 3 rfl; have hfz15_0 := bF BK171 0; have hfz15_1 := bF BK171 1; have hfz15_2 := bF BK171 2; have hfz15_3 := bF BK171 3) | ((with_reducible refine gate_callee (f := 25) rfl ?_); refine goesL_ (some 11) rfl rfl Tryd.func25 (by kernel_rfl) rfl #[.agg #[.string a0_0, .int .i64 a0_1, .int .i64 a0_2, .int .i64 a0_3], .slice A1 l1.length c1] rfl (by (try simp only [mA]); first | done | rfl) ?_; (with_reducible refine (holders_Valid.calls k a0_0 a0_1 a0_2 a0_3 _ _ l1 true _ ?side1 ?side2 ?side3 A5.out).mono ?_); (case side1 => repeat (first | exact (Kd.C_below HR1.out HB.out) | (with_reducible refine Kd.C_alloc ?_ _) | (with_reducible refine Kd.C_drewN ?_ _) | (with_reducible refine Kd.C_drew ?_))); (case side2 => exact HC1.out); (case side3 => exact GL.below HG.out (uB HB)); rintro e w16 ⟨rfl, hb⟩; refine ⟨_, rfl, ?_⟩; replace BK171 := bK BK171 hb; replace BK172 := bK BK172 hb; replace BK173 := bK BK173 hb; replace HB := bB HB hb; (try clear hb); have hnb17 := NB172_173.out; have hnc17 := NB173_172.out; have hcz18_0 : w16.cell? ⟨gb172, 0, none⟩ = some (.int .i64 a2_0) := bC BK172 0 rfl; have hcz18_1 : w16.cell? ⟨gb172, 1, none⟩ = some (.int .i64 a2_1) := bC BK172 1 rfl; have hcz18_2 : w16.cell? ⟨gb172, 2, none⟩ = some (.int .i64 a2_2) := bC BK172 2 rfl; have hfz18_0 := bF BK172 0; have hfz18_1 := bF BK172 1; have hfz18_2 := bF BK172 2) | (go_at_call 44; (with_reducible refine (ident_ValidProc.calls a2_0 a2_1 a2_2 true _ A7.out).mono ?_); rintro e w19 ⟨rfl, hb⟩; replace BK171 := bK BK171 hb; replace BK172 := bK BK172 hb; replace BK173 := bK BK173 hb; replace HB := bB HB hb; (try clear hb); obtain ⟨hcz20_0, hcz20_1, hcz20_2, hcz20_3, hfz20_0, hfz20_1, hfz20_2, hfz20_3⟩ := d4 BK171; have hcz21_0 : w19.cell? ⟨gb173, 0, none⟩ = some (.int .i64 a3_0) := bC BK173 0 rfl; have hcz21_1 : w19.cell? ⟨gb173, 1, none⟩ = some (.int .i64 a3_1) := bC BK173 1 rfl; have hfz21_0 := bF BK173 0; have hfz21_1 := bF BK173 1) | (go_at_call 45; (with_reducible refine (amount_Fits.calls a0_0 a0_1 a0_2 a0_3 a3_0 a3_1 t176 _ A9.out).mono ?_); rintro e w22 ⟨rfl, hb⟩; replace BK171 := bK BK171 hb; replace BK172 := bK BK172 hb; replace BK173 := bK BK173 hb; replace HB := bB HB hb; (try clear hb)))
   go_ret
   exact ⟨by first | rfl | (simp [errW_none, errW_some] <;> rfl) | (simp [*, errW_none, errW_some] <;> rfl), by repeat (first | (with_reducible first | exact HB.out | apply bL | apply bM | apply bR) | exact HB.out)⟩
  ·replace c8 := Bool.eq_false_iff.mpr c8
   subst c8
   rw [if_neg (show ¬ (false = true) by decide)] at H
   obtain rfl := Option.some.inj H
   go_enter Tryd.func35, Tryd.ntmps35
   go_wp2_with (first | ((with_reducible refine gate_dst (N := 4) rfl ?_); refine box_event ?hg (N := 4) ?hd (cs := #[.string a0_0, .int .i64 a0_1, .int .i64 a0_2, .int .i64 a0_3]) (t := 32) ?hr ?_; (case hd => rfl); (case hg => rfl); (case hr => first | (go_simp; done) | (go_simp; rfl)); intro gb171 hg w23 hbox hb; have BK171 := Aside0.mk hbox; have GW171 := gE HB hg; replace HB := bB HB hb; have GE171 := GW171; clear hb hbox hg) | ((with_reducible refine gate_dst (N := 6) rfl ?_); refine box_event ?hg (N := 6) ?hd (cs := #[.int .i64 a2_0, .int .i64 a2_1, .int .i64 a2_2]) (t := 24) ?hr ?_; (case hd => rfl); (case hg => rfl); (case hr => first | (go_simp; done) | (go_simp; rfl)); intro gb172 hg w24 hbox hb; have BK172 := Aside0.mk hbox; have GW172 := gE HB hg; replace HB := bB HB hb; have GE172 := GW172; have NB171_172 := gN BK171 hg; replace BK171 := bK BK171 hb; have NB172_171 := Aside0.mk NB171_172.out.symm; clear hb hbox hg) | ((with_reducible refine gate_dst (N := 7) rfl ?_); refine box_event ?hg (N := 7) ?hd (cs := #[.int .i64 a3_0, .int .i64 a3_1]) (t := 26) ?hr ?_; (case hd => rfl); (case hg => rfl); (case hr => first | (go_simp; done) | (go_simp; rfl)); intro gb173 hg w25 hbox hb; have BK173 := Aside0.mk hbox; have GW173 := gE HB hg; replace HB := bB HB hb; have GE173 := GW173; have NB171_173 := gN BK171 hg; replace BK171 := bK BK171 hb; have NB173_171 := Aside0.mk NB171_173.out.symm; have NB172_173 := gN BK172 hg; replace BK172 := bK BK172 hb; have NB173_172 := Aside0.mk NB172_173.out.symm; clear hb hbox hg; have hnb26 := NB171_172.out; have hnc26 := NB172_171.out; have hnb27 := NB171_173.out; have hnc27 := NB173_171.out; have hcz28_0 : w25.cell? ⟨gb171, 0, none⟩ = some (.string a0_0) := bC BK171 0 rfl; have hcz28_1 : w25.cell? ⟨gb171, 1, none⟩ = some (.int .i64 a0_1) := bC BK171 1 rfl; have hcz28_2 : w25.cell? ⟨gb171, 2, none⟩ = some (.int .i64 a0_2) := bC BK171 2 rfl; have hcz28_3 : w25.cell? ⟨gb171, 3, none⟩ = some (.int .i64 a0_3) := bC BK171 3 rfl; have hfz28_0 := bF BK171 0; have hfz28_1 := bF BK171 1; have hfz28_2 := bF BK171 2; have hfz28_3 := bF BK171 3) | ((with_reducible refine gate_callee (f := 25) rfl ?_); refine goesL_ (some 11) rfl rfl Tryd.func25 (by kernel_rfl) rfl #[.agg #[.string a0_0, .int .i64 a0_1, .int .i64 a0_2, .int .i64 a0_3], .slice A1 l1.length c1] rfl (by (try simp only [mA]); first | done | rfl) ?_; (with_reducible refine (holders_Valid.calls k a0_0 a0_1 a0_2 a0_3 _ _ l1 true _ ?side1 ?side2 ?side3 A5.out).mono ?_); (case side1 => repeat (first | exact (Kd.C_below HR1.out HB.out) | (with_reducible refine Kd.C_alloc ?_ _) | (with_reducible refine Kd.C_drewN ?_ _) | (with_reducible refine Kd.C_drew ?_))); (case side2 => exact HC1.out); (case side3 => exact GL.below HG.out (uB HB)); rintro e w29 ⟨rfl, hb⟩; refine ⟨_, rfl, ?_⟩; replace BK171 := bK BK171 hb; replace BK172 := bK BK172 hb; replace BK173 := bK BK173 hb; replace HB := bB HB hb; (try clear hb); have hnb30 := NB172_173.out; have hnc30 := NB173_172.out; have hcz31_0 : w29.cell? ⟨gb172, 0, none⟩ = some (.int .i64 a2_0) := bC BK172 0 rfl; have hcz31_1 : w29.cell? ⟨gb172, 1, none⟩ = some (.int .i64 a2_1) := bC BK172 1 rfl; have hcz31_2 : w29.cell? ⟨gb172, 2, none⟩ = some (.int .i64 a2_2) := bC BK172 2 rfl; have hfz31_0 := bF BK172 0; have hfz31_1 := bF BK172 1; have hfz31_2 := bF BK172 2) | (go_at_call 44; (with_reducible refine (ident_ValidProc.calls a2_0 a2_1 a2_2 false _ A7.out).mono ?_); rintro e w32 ⟨rfl, hb⟩; replace BK171 := bK BK171 hb; replace BK172 := bK BK172 hb; replace BK173 := bK BK173 hb; replace HB := bB HB hb; (try clear hb)))
   go_ret
   exact ⟨by first | rfl | (simp [errW_none, errW_some] <;> rfl) | (simp [*, errW_none, errW_some] <;> rfl), by repeat (first | (with_reducible first | exact HB.out | apply bL | apply bM | apply bR) | exact HB.out)⟩
 ·replace c6 := Bool.eq_false_iff.mpr c6
  subst c6
  rw [if_neg (show ¬ (false = true) by decide)] at H
  obtain rfl := Option.some.inj H
  go_enter Tryd.func35, Tryd.ntmps35
  go_wp2_with (first | ((with_reducible refine gate_dst (N := 4) rfl ?_); refine box_event ?hg (N := 4) ?hd (cs := #[.string a0_0, .int .i64 a0_1, .int .i64 a0_2, .int .i64 a0_3]) (t := 32) ?hr ?_; (case hd => rfl); (case hg => rfl); (case hr => first | (go_simp; done) | (go_simp; rfl)); intro gb171 hg w33 hbox hb; have BK171 := Aside0.mk hbox; have GW171 := gE HB hg; replace HB := bB HB hb; have GE171 := GW171; clear hb hbox hg) | ((with_reducible refine gate_dst (N := 6) rfl ?_); refine box_event ?hg (N := 6) ?hd (cs := #[.int .i64 a2_0, .int .i64 a2_1, .int .i64 a2_2]) (t := 24) ?hr ?_; (case hd => rfl); (case hg => rfl); (case hr => first | (go_simp; done) | (go_simp; rfl)); intro gb172 hg w34 hbox hb; have BK172 := Aside0.mk hbox; have GW172 := gE HB hg; replace HB := bB HB hb; have GE172 := GW172; have NB171_172 := gN BK171 hg; replace BK171 := bK BK171 hb; have NB172_171 := Aside0.mk NB171_172.out.symm; clear hb hbox hg) | ((with_reducible refine gate_dst (N := 7) rfl ?_); refine box_event ?hg (N := 7) ?hd (cs := #[.int .i64 a3_0, .int .i64 a3_1]) (t := 26) ?hr ?_; (case hd => rfl); (case hg => rfl); (case hr => first | (go_simp; done) | (go_simp; rfl)); intro gb173 hg w35 hbox hb; have BK173 := Aside0.mk hbox; have GW173 := gE HB hg; replace HB := bB HB hb; have GE173 := GW173; have NB171_173 := gN BK171 hg; replace BK171 := bK BK171 hb; have NB173_171 := Aside0.mk NB171_173.out.symm; have NB172_173 := gN BK172 hg; replace BK172 := bK BK172 hb; have NB173_172 := Aside0.mk NB172_173.out.symm; clear hb hbox hg; have hnb36 := NB171_172.out; have hnc36 := NB172_171.out; have hnb37 := NB171_173.out; have hnc37 := NB173_171.out; have hcz38_0 : w35.cell? ⟨gb171, 0, none⟩ = some (.string a0_0) := bC BK171 0 rfl; have hcz38_1 : w35.cell? ⟨gb171, 1, none⟩ = some (.int .i64 a0_1) := bC BK171 1 rfl; have hcz38_2 : w35.cell? ⟨gb171, 2, none⟩ = some (.int .i64 a0_2) := bC BK171 2 rfl; have hcz38_3 : w35.cell? ⟨gb171, 3, none⟩ = some (.int .i64 a0_3) := bC BK171 3 rfl; have hfz38_0 := bF BK171 0; have hfz38_1 := bF BK171 1; have hfz38_2 := bF BK171 2; have hfz38_3 := bF BK171 3) | ((with_reducible refine gate_callee (f := 25) rfl ?_); refine goesL_ (some 11) rfl rfl Tryd.func25 (by kernel_rfl) rfl #[.agg #[.string a0_0, .int .i64 a0_1, .int .i64 a0_2, .int .i64 a0_3], .slice A1 l1.length c1] rfl (by (try simp only [mA]); first | done | rfl) ?_; (with_reducible refine (holders_Valid.calls k a0_0 a0_1 a0_2 a0_3 _ _ l1 false _ ?side1 ?side2 ?side3 A5.out).mono ?_); (case side1 => repeat (first | exact (Kd.C_below HR1.out HB.out) | (with_reducible refine Kd.C_alloc ?_ _) | (with_reducible refine Kd.C_drewN ?_ _) | (with_reducible refine Kd.C_drew ?_))); (case side2 => exact HC1.out); (case side3 => exact GL.below HG.out (uB HB)); rintro e w39 ⟨rfl, hb⟩; refine ⟨_, rfl, ?_⟩; replace BK171 := bK BK171 hb; replace BK172 := bK BK172 hb; replace BK173 := bK BK173 hb; replace HB := bB HB hb; (try clear hb)))
  go_ret
  exact ⟨by first | rfl | (simp [errW_none, errW_some] <;> rfl) | (simp [*, errW_none, errW_some] <;> rfl), by repeat (first | (with_reducible first | exact HB.out | apply bL | apply bM | apply bR) | exact HB.out)⟩
/-! ### holders_Room: function 15 -/
def holders_Room.f (k : Nat) (a0_0 : ByteArray) (a0_1 : Int) (a0_2 : Int) (a0_3 : Int) (l1 : List (S53)) (a2_0 : Int) (a2_1 : Int) (a2_2 : Int) (a3_0 : Int) (a3_1 : Int) : Option (Bool) := (holders_fit.f k a0_0 a0_1 a0_2 a0_3 l1 a2_0 a2_1 a2_2 a3_0 a3_1).bind fun t180 => (if t180 = true then ((holders_Set.f k l1 a2_0 a2_1 a2_2 a3_0 a3_1).bind fun t181 => ((holders_Valid.f k a0_0 a0_1 a0_2 a0_3 t181).bind fun t184 => (some t184))) else (some false))
theorem holders_Room.mono : ∀ a0 a1 a2 a3 a4 a5 a6 a7 a8 a9 k, LeO (holders_Room.f k a0 a1 a2 a3 a4 a5 a6 a7 a8 a9) (holders_Room.f (k + 1) a0 a1 a2 a3 a4 a5 a6 a7 a8 a9) := by
 intro a0 a1 a2 a3 a4 a5 a6 a7 a8 a9 k
 unfold holders_Room.f
 repeat' first
   | (with_reducible exact holders_Set.mono _ _ _ _ _ _ _)
   | (with_reducible exact holders_Valid.mono _ _ _ _ _ _)
   | (with_reducible exact holders_fit.mono _ _ _ _ _ _ _ _ _ _ _)
   | (with_reducible exact LeO.refl _)
   | (with_reducible exact LeO.none _)
   | (with_reducible refine LeO.ite ?_ ?_)
   | (with_reducible refine LeO.bind ?_ (fun _ => ?_))
   | exact holders_Set.mono _ _ _ _ _ _ _
   | exact holders_Valid.mono _ _ _ _ _ _
   | exact holders_fit.mono _ _ _ _ _ _ _ _ _ _ _
   | exact LeO.none _
   | refine LeO.ite ?_ ?_
   | refine LeO.bind ?_ (fun _ => ?_)
def holders_Room.T1 : Bool × List (List Nat × List Nat) := (true, [([], []), ([], []), ([], []), ([], []), ([0, 1, 2, 3], [0, 1, 2, 3]), ([4, 4], [4]), ([5], [5]), ([5], [5]), ([5], [5]), ([5], [5]), ([7, 8, 9, 5, 5], [5, 7, 8, 9]), ([6, 10, 10, 5], [5, 6, 10]), ([5, 11], [5, 11]), ([12, 11, 0, 1, 2, 3, 4, 5, 6, 7, 8, 9, 10, 11, 12], [12])])
def holders_Room.B1 : List Nat := [0, 0, 0, 0, 15, 31, 63, 63, 63, 63, 959, 2047, 4095, 8191]
theorem holders_Room.tab1 : rtab .any (opsOf Tryd.f15 1) = holders_Room.T1 := by kernel_rfl
theorem holders_Room.bits1 : waitsOk holders_Room.T1.2 holders_Room.B1 = true := by kernel_rfl
set_option maxHeartbeats 8000000 in
set_option maxRecDepth 100000 in
theorem holders_Room.calls (k : Nat) (a0_0 : ByteArray) (a0_1 : Int) (a0_2 : Int) (a0_3 : Int) (A1 : Option Addr) (c1 : Nat) (l1 : List (S53)) (a2_0 : Int) (a2_1 : Int) (a2_2 : Int) (a3_0 : Int) (a3_1 : Int) (r : Bool) (w : World) (hr1 : Kd.C k53 w A1 l1.length l1) (hc1 : l1.length ≤ c1) (hG : GL w) (h : holders_Room.f k a0_0 a0_1 a0_2 a0_3 l1 a2_0 a2_1 a2_2 a3_0 a3_1 = some r) :
  Calls Tryd.prog 15 #[.agg #[.string a0_0, .int .i64 a0_1, .int .i64 a0_2, .int .i64 a0_3], .slice A1 l1.length c1, .agg #[.int .i64 a2_0, .int .i64 a2_1, .int .i64 a2_2], .agg #[.int .i64 a3_0, .int .i64 a3_1]] w fun e w' => e = .returned (.bool r) ∧ Below w.heap.size w w' := by
 have hu32 := Tryd.underlying32
 have hu24 := Tryd.underlying24
 have hu26 := Tryd.underlying26
 have HG := Aside0.mk hG
 clear hG
 have HR1 := Aside0.mk hr1
 have HC1 := Aside0.mk hc1
 clear hr1 hc1
 have HB := Aside0.mk (Below.refl w.heap.size w)
 have H : ((holders_fit.f k a0_0 a0_1 a0_2 a0_3 l1 a2_0 a2_1 a2_2 a3_0 a3_1).bind fun t180 => (if t180 = true then ((holders_Set.f k l1 a2_0 a2_1 a2_2 a3_0 a3_1).bind fun t181 => ((holders_Valid.f k a0_0 a0_1 a0_2 a0_3 t181).bind fun t184 => (some t184))) else (some false))) = some r := h
 clear h
 obtain ⟨t180, A50, H⟩ := Option.bind_eq_some_iff.mp H
 have A5 := Aside0.mk A50; clear A50
 have HH_ := Aside0.mk H
 clear H
 go_enter Tryd.func15, Tryd.ntmps15
 try go_wp2_with (first | ((with_reducible refine gate_dst (N := 4) rfl ?_); refine box_event ?hg (N := 4) ?hd (cs := #[.string a0_0, .int .i64 a0_1, .int .i64 a0_2, .int .i64 a0_3]) (t := 32) ?hr ?_; (case hd => rfl); (case hg => rfl); (case hr => first | (go_simp; done) | (go_simp; rfl)); intro gb177 hg w9 hbox hb; have BK177 := Aside0.mk hbox; have GW177 := gE HB hg; replace HB := bB HB hb; have GE177 := GW177; clear hb hbox hg) | ((with_reducible refine gate_dst (N := 6) rfl ?_); refine box_event ?hg (N := 6) ?hd (cs := #[.int .i64 a2_0, .int .i64 a2_1, .int .i64 a2_2]) (t := 24) ?hr ?_; (case hd => rfl); (case hg => rfl); (case hr => first | (go_simp; done) | (go_simp; rfl)); intro gb178 hg w10 hbox hb; have BK178 := Aside0.mk hbox; have GW178 := gE HB hg; replace HB := bB HB hb; have GE178 := GW178; have NB177_178 := gN BK177 hg; replace BK177 := bK BK177 hb; have NB178_177 := Aside0.mk NB177_178.out.symm; clear hb hbox hg) | ((with_reducible refine gate_dst (N := 7) rfl ?_); refine box_event ?hg (N := 7) ?hd (cs := #[.int .i64 a3_0, .int .i64 a3_1]) (t := 26) ?hr ?_; (case hd => rfl); (case hg => rfl); (case hr => first | (go_simp; done) | (go_simp; rfl)); intro gb179 hg w11 hbox hb; have BK179 := Aside0.mk hbox; have GW179 := gE HB hg; replace HB := bB HB hb; have GE179 := GW179; have NB177_179 := gN BK177 hg; replace BK177 := bK BK177 hb; have NB179_177 := Aside0.mk NB177_179.out.symm; have NB178_179 := gN BK178 hg; replace BK178 := bK BK178 hb; have NB179_178 := Aside0.mk NB178_179.out.symm; clear hb hbox hg))
 replace BK177 := Aside0.mk (blk_drew BK177.out)
 replace BK178 := Aside0.mk (blk_drew BK178.out)
 replace BK179 := Aside0.mk (blk_drew BK179.out)
 replace HB := Aside0.mk (below_drew1 HB.out)
 refine start_ (n := 14) (S := fun w' => w'.cell? ⟨gb177, 0, none⟩ = some (.string a0_0) ∧ w'.cell? ⟨gb177, 1, none⟩ = some (.int .i64 a0_1) ∧ w'.cell? ⟨gb177, 2, none⟩ = some (.int .i64 a0_2) ∧ w'.cell? ⟨gb177, 3, none⟩ = some (.int .i64 a0_3) ∧ w'.cell? ⟨gb178, 0, none⟩ = some (.int .i64 a2_0) ∧ w'.cell? ⟨gb178, 1, none⟩ = some (.int .i64 a2_1) ∧ w'.cell? ⟨gb178, 2, none⟩ = some (.int .i64 a2_2) ∧ w'.cell? ⟨gb179, 0, none⟩ = some (.int .i64 a3_0) ∧ w'.cell? ⟨gb179, 1, none⟩ = some (.int .i64 a3_1)) (ds := []) #[F,F,F,F,F,F,F,F,F,F,F,F,F,F] (by kernel_rfl) rfl rfl ⟨bC BK177 0 rfl, bC BK177 1 rfl, bC BK177 2 rfl, bC BK177 3 rfl, bC BK178 0 rfl, bC BK178 1 rfl, bC BK178 2 rfl, bC BK179 0 rfl, bC BK179 1 rfl⟩ (fun hHeld => ?_); refine with_tabW holders_Room.tab1 holders_Room.bits1 (fun HT_ HW_ => ?_)
 generalize w11.drew = w12 at BK177 BK178 BK179 HB hHeld ⊢
 refine pu HT_ 1 10 #[F,T,F,F,F,F,F,F,F,F,F,F,F,F] rfl rfl (by kernel_rfl) (fun _ _ _ => id) (.inl ⟨by rfl, by intro w'; go_simp; with_reducible rfl⟩) (by simp only [sP]; rfl) ?_
 refine tk HT_ HW_ 0 9 #[T,T,F,F,F,F,F,F,F,F,F,F,F,F] rfl rfl (by kernel_rfl) (fun _ _ _ => id) (.inl ⟨by rfl, by rintro w' ⟨s0, s1, s2, s3, s4, s5, s6, s7, s8⟩; go_simp; with_reducible rfl⟩) hHeld (by simp only [sP]; rfl) ?_
 refine tk HT_ HW_ 2 11 #[T,T,T,F,F,F,F,F,F,F,F,F,F,F] rfl rfl (by kernel_rfl) (fun _ _ _ => id) (.inl ⟨by rfl, by rintro w' ⟨s0, s1, s2, s3, s4, s5, s6, s7, s8⟩; go_simp; with_reducible rfl⟩) hHeld (by simp only [sP]; rfl) ?_
 refine tk HT_ HW_ 3 12 #[T,T,T,T,F,F,F,F,F,F,F,F,F,F] rfl rfl (by kernel_rfl) (fun _ _ _ => id) (.inl ⟨by rfl, by rintro w' ⟨s0, s1, s2, s3, s4, s5, s6, s7, s8⟩; go_simp; with_reducible rfl⟩) hHeld (by simp only [sP]; rfl) ?_
 refine one_ (i := 4) (N := some 13) #[T,T,T,T,T,F,F,F,F,F,F,F,F,F] rfl rfl (one_of HT_.out (by kernel_rfl)) (by decide) (fun K hK => ?_)
 refine goes_ Tryd.func35 (by kernel_rfl) rfl #[.agg #[.string a0_0, .int .i64 a0_1, .int .i64 a0_2, .int .i64 a0_3], .slice A1 l1.length c1, .agg #[.int .i64 a2_0, .int .i64 a2_1, .int .i64 a2_2], .agg #[.int .i64 a3_0, .int .i64 a3_1]] (by rfl) rfl rfl (by (try simp only [mA]); first | done | rfl) ?_
 have H := HH_.out
 clear HH_
 by_cases c6 : t180 = true
 ·subst c6
  rw [if_pos rfl] at H
  obtain ⟨t181, A70, H⟩ := Option.bind_eq_some_iff.mp H
  have A7 := Aside0.mk A70; clear A70
  obtain ⟨t184, A80, H⟩ := Option.bind_eq_some_iff.mp H
  have A8 := Aside0.mk A80; clear A80
  obtain rfl := Option.some.inj H
  with_reducible refine (holders_fit.calls k a0_0 a0_1 a0_2 a0_3 _ _ l1 a2_0 a2_1 a2_2 a3_0 a3_1 true _ ?side1 ?side2 ?side3 A5.out).mono ?_
  (case side1 => repeat (first | exact (Kd.C_below HR1.out HB.out) | (with_reducible refine Kd.C_alloc ?_ _) | (with_reducible refine Kd.C_drewN ?_ _) | (with_reducible refine Kd.C_drew ?_)))
  (case side2 => exact HC1.out)
  (case side3 => exact GL.below HG.out (uB HB))
  rintro e w13 ⟨rfl, hb⟩
  refine ⟨_, rfl, ?_⟩
  replace BK177 := bK BK177 hb
  replace BK178 := bK BK178 hb
  replace BK179 := bK BK179 hb
  replace HB := bB HB hb
  (try clear hb)
  refine hK.out _ _ ⟨bC BK177 0 rfl, bC BK177 1 rfl, bC BK177 2 rfl, bC BK177 3 rfl, bC BK178 0 rfl, bC BK178 1 rfl, bC BK178 2 rfl, bC BK179 0 rfl, bC BK179 1 rfl⟩ (fun hHeld => ?_)
  clear hK K
  refine norm_ (a' := ?_) ?_ ?_
  rotate_left
  ·show Act.put _ (some 13) _ = _
   simp only [sP]
   rfl
  refine pu HT_ 5 14 #[T,T,T,T,T,T,F,F,F,F,F,F,F,F] rfl rfl (by kernel_rfl) (fun _ _ _ => id) (.inl ⟨by rfl, by intro w'; go_simp; with_reducible rfl⟩) (by simp only [sP]; rfl) ?_
  refine pu HT_ 7 16 #[T,T,T,T,T,T,F,T,F,F,F,F,F,F] rfl rfl (by kernel_rfl) (fun _ _ _ => id) (.inl ⟨by rfl, by intro w'; go_simp; with_reducible rfl⟩) (by simp only [sP]; rfl) ?_
  refine tk HT_ HW_ 6 15 #[T,T,T,T,T,T,T,T,F,F,F,F,F,F] rfl rfl (by kernel_rfl) (fun _ _ _ => id) (.inl ⟨by rfl, by rintro w' ⟨s0, s1, s2, s3, s4, s5, s6, s7, s8⟩; go_simp; with_reducible rfl⟩) hHeld (by simp only [sP]; rfl) ?_
  refine tk HT_ HW_ 8 17 #[T,T,T,T,T,T,T,T,T,F,F,F,F,F] rfl rfl (by kernel_rfl) (fun _ _ _ => id) (.inl ⟨by rfl, by rintro w' ⟨s0, s1, s2, s3, s4, s5, s6, s7, s8⟩; go_simp; with_reducible rfl⟩) hHeld (by simp only [sP]; rfl) ?_
  refine tk HT_ HW_ 9 18 #[T,T,T,T,T,T,T,T,T,T,F,F,F,F] rfl rfl (by kernel_rfl) (fun _ _ _ => id) (.inl ⟨by rfl, by rintro w' ⟨s0, s1, s2, s3, s4, s5, s6, s7, s8⟩; go_simp; with_reducible rfl⟩) hHeld (by simp only [sP]; rfl) ?_
  refine one_ (i := 10) (N := some 19) #[T,T,T,T,T,T,T,T,T,T,T,F,F,F] rfl rfl (one_of HT_.out (by kernel_rfl)) (by decide) (fun K hK => ?_)
  refine goes_ Tryd.func13 (by kernel_rfl) rfl #[.slice A1 l1.length c1, .agg #[.int .i64 a2_0, .int .i64 a2_1, .int .i64 a2_2], .agg #[.int .i64 a3_0, .int .i64 a3_1]] (by rfl) rfl rfl (by (try simp only [mA]); first | done | rfl) ?_
  with_reducible refine (holders_Set.calls k _ _ l1 a2_0 a2_1 a2_2 a3_0 a3_1 t181 _ ?side1 ?side2 A7.out).mono ?_
  (case side1 => repeat (first | exact (Kd.C_below HR1.out HB.out) | (with_reducible refine Kd.C_alloc ?_ _) | (with_reducible refine Kd.C_drewN ?_ _) | (with_reducible refine Kd.C_drew ?_)))
  (case side2 => exact HC1.out)
  rintro e w14 ⟨v182, rfl, ho0, hb⟩
  refine ⟨_, rfl, ?_⟩
  have HO183 := Aside0.mk (Kd.R_lower ho0 (below_size (uB HB)))
  replace BK177 := bK BK177 hb
  replace BK178 := bK BK178 hb
  replace BK179 := bK BK179 hb
  replace HB := bB HB hb
  (try clear hb)
  (try clear ho0)
  obtain ⟨Ao15, co15, eo15⟩ := Kd.R_slice HO183.out
  (first | subst eo15 | (injection eo15 with f1_ f2_ f3_; have f4_ := f1_.symm; have f5_ := f3_.symm; clear f1_ f2_ f3_; subst f4_; subst f5_))
  refine hK.out _ _ ⟨bC BK177 0 rfl, bC BK177 1 rfl, bC BK177 2 rfl, bC BK177 3 rfl, bC BK178 0 rfl, bC BK178 1 rfl, bC BK178 2 rfl, bC BK179 0 rfl, bC BK179 1 rfl⟩ (fun hHeld => ?_)
  clear hK K
  refine norm_ (a' := ?_) ?_ ?_
  rotate_left
  ·show Act.put _ (some 19) _ = _
   simp only [sP]
   rfl
  refine one_ (i := 11) (N := some 20) #[T,T,T,T,T,T,T,T,T,T,T,T,F,F] rfl rfl (one_of HT_.out (by kernel_rfl)) (by decide) (fun K hK => ?_)
  refine goes_ Tryd.func25 (by kernel_rfl) rfl #[.agg #[.string a0_0, .int .i64 a0_1, .int .i64 a0_2, .int .i64 a0_3], .slice Ao15 t181.length co15] (by rfl) rfl rfl (by (try simp only [mA]); first | done | rfl) ?_
  with_reducible refine (holders_Valid.calls k a0_0 a0_1 a0_2 a0_3 _ _ t181 t184 _ ?side1 ?side2 ?side3 A8.out).mono ?_
  (case side1 => repeat (first | exact (Kd.R_reads' HO183.out).2.2 | (with_reducible refine Kd.C_alloc ?_ _) | (with_reducible refine Kd.C_drewN ?_ _) | (with_reducible refine Kd.C_drew ?_)))
  (case side2 => exact (Kd.R_reads' HO183.out).2.1)
  (case side3 => exact GL.below HG.out (uB HB))
  rintro e w16 ⟨rfl, hb⟩
  refine ⟨_, rfl, ?_⟩
  replace HO183 := Aside0.mk (Kd.R_below (by (with_reducible repeat (first | apply Kd.R_alloc | apply Kd.R_drewN | apply Kd.R_drew)); exact HO183.out) hb)
  replace BK177 := bK BK177 hb
  replace BK178 := bK BK178 hb
  replace BK179 := bK BK179 hb
  replace HB := bB HB hb
  (try clear hb)
  refine hK.out _ _ ⟨bC BK177 0 rfl, bC BK177 1 rfl, bC BK177 2 rfl, bC BK177 3 rfl, bC BK178 0 rfl, bC BK178 1 rfl, bC BK178 2 rfl, bC BK179 0 rfl, bC BK179 1 rfl⟩ (fun hHeld => ?_)
  clear hK K
  refine norm_ (a' := ?_) ?_ ?_
  rotate_left
  ·show Act.put _ (some 20) _ = _
   simp only [sP]
   rfl
  refine pu HT_ 12 21 #[T,T,T,T,T,T,T,T,T,T,T,T,T,F] rfl rfl (by kernel_rfl) (fun _ _ _ => id) (.inl ⟨by rfl, by intro w'; go_simp; with_reducible rfl⟩) (by simp only [sP]; rfl) ?_
  refine pu HT_ 13 8 #[T,T,T,T,T,T,T,T,T,T,T,T,T,T] rfl rfl (by kernel_rfl) (fun _ _ _ => id) (.inl ⟨by rfl, by intro w'; go_simp; with_reducible rfl⟩) (by simp only [sP]; rfl) ?_
  refine done_ (done_of HT_.out (by kernel_rfl)) ?_
  try go_wp2
  go_ret
  exact ⟨by first | rfl | (simp [errW_none, errW_some] <;> rfl) | (simp [*, errW_none, errW_some] <;> rfl), by repeat (first | (with_reducible first | exact HB.out | apply bL | apply bM | apply bR) | exact HB.out)⟩
 ·replace c6 := Bool.eq_false_iff.mpr c6
  subst c6
  rw [if_neg (show ¬ (false = true) by decide)] at H
  obtain rfl := Option.some.inj H
  with_reducible refine (holders_fit.calls k a0_0 a0_1 a0_2 a0_3 _ _ l1 a2_0 a2_1 a2_2 a3_0 a3_1 false _ ?side1 ?side2 ?side3 A5.out).mono ?_
  (case side1 => repeat (first | exact (Kd.C_below HR1.out HB.out) | (with_reducible refine Kd.C_alloc ?_ _) | (with_reducible refine Kd.C_drewN ?_ _) | (with_reducible refine Kd.C_drew ?_)))
  (case side2 => exact HC1.out)
  (case side3 => exact GL.below HG.out (uB HB))
  rintro e w21 ⟨rfl, hb⟩
  refine ⟨_, rfl, ?_⟩
  replace BK177 := bK BK177 hb
  replace BK178 := bK BK178 hb
  replace BK179 := bK BK179 hb
  replace HB := bB HB hb
  (try clear hb)
  refine hK.out _ _ ⟨bC BK177 0 rfl, bC BK177 1 rfl, bC BK177 2 rfl, bC BK177 3 rfl, bC BK178 0 rfl, bC BK178 1 rfl, bC BK178 2 rfl, bC BK179 0 rfl, bC BK179 1 rfl⟩ (fun hHeld => ?_)
  clear hK K
  refine norm_ (a' := ?_) ?_ ?_
  rotate_left
  ·show Act.put _ (some 13) _ = _
   simp only [sP]
   rfl
  refine pu HT_ 5 14 #[T,T,T,T,T,T,F,F,F,F,F,F,F,F] rfl rfl (by kernel_rfl) (fun _ _ _ => id) (.inl ⟨by rfl, by intro w'; go_simp; with_reducible rfl⟩) (by simp only [sP]; rfl) ?_
  refine pu HT_ 6 15 #[T,T,T,T,T,T,T,F,F,F,F,F,F,F] rfl rfl (by kernel_rfl) (fun _ _ _ => id) (.inr ⟨by rfl, rfl⟩) (by simp only [sP]; rfl) ?_
  refine pu HT_ 7 16 #[T,T,T,T,T,T,T,T,F,F,F,F,F,F] rfl rfl (by kernel_rfl) (fun _ _ _ => id) (.inr ⟨by rfl, rfl⟩) (by simp only [sP]; rfl) ?_
  refine pu HT_ 8 17 #[T,T,T,T,T,T,T,T,T,F,F,F,F,F] rfl rfl (by kernel_rfl) (fun _ _ _ => id) (.inr ⟨by rfl, rfl⟩) (by simp only [sP]; rfl) ?_
  refine pu HT_ 9 18 #[T,T,T,T,T,T,T,T,T,T,F,F,F,F] rfl rfl (by kernel_rfl) (fun _ _ _ => id) (.inr ⟨by rfl, rfl⟩) (by simp only [sP]; rfl) ?_
  refine pu HT_ 10 19 #[T,T,T,T,T,T,T,T,T,T,T,F,F,F] rfl rfl (by kernel_rfl) (fun _ _ _ => id) (.inr ⟨by rfl, rfl⟩) (by simp only [sP]; rfl) ?_
  refine pu HT_ 11 20 #[T,T,T,T,T,T,T,T,T,T,T,T,F,F] rfl rfl (by kernel_rfl) (fun _ _ _ => id) (.inr ⟨by rfl, rfl⟩) (by simp only [sP]; rfl) ?_
  refine pu HT_ 12 21 #[T,T,T,T,T,T,T,T,T,T,T,T,T,F] rfl rfl (by kernel_rfl) (fun _ _ _ => id) (.inl ⟨by rfl, by intro w'; go_simp; with_reducible rfl⟩) (by simp only [sP]; rfl) ?_
  refine pu HT_ 13 8 #[T,T,T,T,T,T,T,T,T,T,T,T,T,T] rfl rfl (by kernel_rfl) (fun _ _ _ => id) (.inl ⟨by rfl, by intro w'; go_simp; with_reducible rfl⟩) (by simp only [sP]; rfl) ?_
  refine done_ (done_of HT_.out (by kernel_rfl)) ?_
  try go_wp2
  go_ret
  exact ⟨by first | rfl | (simp [errW_none, errW_some] <;> rfl) | (simp [*, errW_none, errW_some] <;> rfl), by repeat (first | (with_reducible first | exact HB.out | apply bL | apply bM | apply bR) | exact HB.out)⟩
end Go.Proofs.YtnmemkphfgdplaaDoor.PA
