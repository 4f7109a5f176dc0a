-- Printed by wip/tool/myprint.py for this claim; Lean checks it.
import Derived.Test.YtbiapfjhdggkpaaDoorPAx0
import Derived.Test.YtbiapfjhdggkpaaDoorPAx1
import Derived.Test.YtbiapfjhdggkpaaDoorSlim
namespace Go.Proofs.YtbiapfjhdggkpaaDoor.PA
open Go.RowKit Go.Proofs.YtbiapfjhdggkpaaDoorW.PrintWords Go.Proofs.YtbiapfjhdggkpaaDoorW.PrintLast Go.Proofs.YtbiapfjhdggkpaaDoorW.PrintMore
attribute [local go_sem] max2_int min2_int max_two min_two max_three min_three max_four min_four   -- for this text's walks alone
set_option linter.unusedVariables false
set_option linter.unusedSimpArgs false

attribute [local go_sem high] eqA26
/-! ### catalog_Find: function 28 -/
def catalog_Find.l0 : Nat → ByteArray → List (S26) → Int → Int → Option (ByteArray × Int × Int × Int × Bool)
 | 0, _, _, _, _ => none
 | k + 1, x1, x8, x9, x10 => if x10 < x9 then (if 0 ≤ x10 then (if x10 < (x8.length : Int) then (if ((rd_T26 x8 x10).f0).toList = x1.toList then (some ((rd_T26 x8 x10).f0, (rd_T26 x8 x10).f1, (rd_T26 x8 x10).f2, (rd_T26 x8 x10).f3, true)) else (catalog_Find.l0 k x1 x8 x9 (wrap64 (x10 + 1)))) else (none)) else (none)) else (some ((⟨#[]⟩ : ByteArray), 0, 0, 0, false))
def catalog_Find.f (k : Nat) (l0 : List (S26)) (a1 : ByteArray) : Option (ByteArray × Int × Int × Int × Bool) := catalog_Find.l0 k a1 l0 (l0.length : Int) 0
theorem catalog_Find.mono_l : ∀ k, (∀ y0 y1 y2 y3, LeO (catalog_Find.l0 k y0 y1 y2 y3) (catalog_Find.l0 (k + 1) y0 y1 y2 y3))
 | 0 => fun _ _ _ _ r h => by simp [catalog_Find.l0] at h
 | k + 1 => by
  have ih0 := catalog_Find.mono_l k
  ·intro y0 y1 y2 y3
   unfold catalog_Find.l0
   repeat' first
   | (with_reducible exact ih0 _ _ _ _)
   | (with_reducible exact LeO.refl _)
   | (with_reducible exact LeO.none _)
   | (with_reducible refine LeO.ite ?_ ?_)
   | (with_reducible refine LeO.bind ?_ (fun _ => ?_))
   | exact ih0 _ _ _ _
   | exact LeO.none _
   | refine LeO.ite ?_ ?_
   | refine LeO.bind ?_ (fun _ => ?_)
theorem catalog_Find.mono : ∀ a0 a1 k, LeO (catalog_Find.f k a0 a1) (catalog_Find.f (k + 1) a0 a1) := by
 intro a0 a1 k
 have ih0 := catalog_Find.mono_l k
 unfold catalog_Find.f
 repeat' first
   | (with_reducible exact ih0 _ _ _ _)
   | (with_reducible exact LeO.refl _)
   | (with_reducible exact LeO.none _)
   | (with_reducible refine LeO.ite ?_ ?_)
   | (with_reducible refine LeO.bind ?_ (fun _ => ?_))
   | exact ih0 _ _ _ _
   | exact LeO.none _
   | refine LeO.ite ?_ ?_
   | refine LeO.bind ?_ (fun _ => ?_)
set_option maxHeartbeats 8000000 in
set_option maxRecDepth 100000 in
theorem catalog_Find.calls (k : Nat) (A0 : Option Addr) (c0 : Nat) (l0 : List (S26)) (a1 : ByteArray) (r1 : ByteArray) (r2 : Int) (r3 : Int) (r4 : Int) (r5 : Bool) (w : World) (hr0 : Kd.C k26 w A0 l0.length l0) (hc0 : l0.length ≤ c0) (h : catalog_Find.f k l0 a1 = some (r1, r2, r3, r4, r5)) :
  Calls Tryd.prog 28 #[.slice A0 l0.length c0, .string a1] w fun e w' => e = .returned (.tuple #[.agg #[.string r1, .int .i64 r2, .int .i64 r3, .int .i64 r4], .bool r5]) ∧ Below w.heap.size w w' := by
 have hu26 := Tryd.underlying26
 have HR0 := Aside0.mk hr0
 have HC0 := Aside0.mk hc0
 clear hr0 hc0
 have HB := Aside0.mk (Below.refl w.heap.size w)
 have H : (catalog_Find.l0 k a1 l0 (l0.length : Int) 0) = some (r1, r2, r3, r4, r5) := h
 clear h
 have H' := Aside0.mk H
 clear H
 go_enter Tryd.func28, Tryd.ntmps28
 go_wp2_with (first | ((with_reducible refine gate_dst (N := 4) rfl ?_); refine box_event ?hg (N := 4) ?hd (cs := #[.string (⟨#[]⟩ : ByteArray), .int .i64 0, .int .i64 0, .int .i64 0]) (t := 26) ?hr ?_; (case hd => rfl); (case hg => rfl); (case hr => first | (go_simp; done) | (go_simp; rfl)); intro gb239 hg w3 hbox hb; have BK239 := Aside0.mk hbox; have GW239 := gE HB hg; replace HB := bB HB hb; have GE239 := GW239; clear hb hbox hg))
 go_loopg [10] k (fun kq v10 w' => ∃ (x10_1 : Int) (x240000_1 : ByteArray) (x240001_1 : Int) (x240002_1 : Int) (x240003_1 : Int), v10 = .int .i64 x10_1 ∧ Aside0 (catalog_Find.l0 kq a1 l0 (l0.length : Int) x10_1 = some (r1, r2, r3, r4, r5)) ∧ Aside0 (kq ≤ k) ∧ Aside0 (w'.heap[gb239]? = some (.cells #[.string x240000_1, .int .i64 x240001_1, .int .i64 x240002_1, .int .i64 x240003_1] 26 (0, 0))) ∧ Aside0 (Below w.heap.size w w'))
 case atStart => exact ⟨(0), ((⟨#[]⟩ : ByteArray)), (0), (0), (0), (by first | rfl | (simp; done) | (simp [*]; done)), H', ⟨Nat.le_refl _⟩, ⟨uK BK239⟩, ⟨(haveI := gI GE239; uS HB)⟩⟩
 case round =>
  clear H'
  try clear c2
  try clear p2
  obtain ⟨x10_1, x240000_1, x240001_1, x240002_1, x240003_1, rfl, HA, HK1, BK239, HB⟩ := hrel
  cases gk with
  | zero => exact absurd HA.out (by simp [catalog_Find.l0])
  | succ k1 =>
   have H := HA.out
   clear HA
   simp only [catalog_Find.l0] at H
   by_cases c4 : x10_1 < (l0.length : Int)
   ·rw [if_pos c4] at H
    have c4b0 : decide (x10_1 < (l0.length : Int)) = true := decide_eq_true c4
    clear c4
    by_cases c5 : 0 ≤ x10_1
    ·rw [if_pos c5] at H
     have c5b0 : decide (0 ≤ x10_1) = true := decide_eq_true c5
     clear c5
     have HH_ := Aside0.mk H
     clear H
     have p240 : 0 ≤ (x10_1 : Int) := of_decide_eq_true (by first | (with_reducible assumption) | assumption)
     have H := HH_.out
     clear HH_
     by_cases c6 : x10_1 < (l0.length : Int)
     ·rw [if_pos c6] at H
      have c6b0 : decide (x10_1 < (l0.length : Int)) = true := decide_eq_true c6
      clear c6
      (try simp only [c6b0])
      have HH_ := Aside0.mk H
      clear H
      have q240 : x10_1 < (l0.length : Int) := of_decide_eq_true (by first | (with_reducible assumption) | assumption)
      obtain ⟨ad240, e240, hx240_0, hx240_1, hx240_2, hx240_3⟩ := at_T26 HR0.out x10_1 p240 q240
      cases e240
      replace hx240_0 := kC HB hx240_0
      replace hx240_1 := kC HB hx240_1
      replace hx240_2 := kC HB hx240_2
      replace hx240_3 := kC HB hx240_3
      replace p240 := eq_true p240
      replace q240 := eq_true q240
      have H := HH_.out
      clear HH_
      by_cases c7 : ((rd_T26 l0 x10_1).f0).toList = a1.toList
      ·rw [if_pos c7] at H
       have c7b0 : (((rd_T26 l0 x10_1).f0).toList == a1.toList) = true := beq_iff_eq.mpr c7
       have c7b1 : (((rd_T26 l0 x10_1).f0).toList != a1.toList) = false := bne_eq_false_iff_eq.mpr c7
       clear c7
       simp only [Option.some.injEq, Prod.mk.injEq] at H
       obtain ⟨rfl, rfl, rfl, rfl, rfl⟩ := H
       (try simp only [c7b0, c7b1])
       go_wp2_with (first | ((with_reducible refine gate_dst (N := 7) rfl ?_); refine box_event ?hg (N := 7) ?hd (cs := #[.string (⟨#[]⟩ : ByteArray), .int .i64 0, .int .i64 0, .int .i64 0]) (t := 26) ?hr ?_; (case hd => rfl); (case hg => rfl); (case hr => first | (go_simp; done) | (go_simp; rfl)); intro gb241 hg w8 hbox hb; have BK241 := Aside0.mk hbox; have GW241 := Aside0.mk ((by rw [hg]; exact (below_size (haveI := gI GE239; uS HB)) : w.heap.size ≤ gb241)); replace HB := (haveI := gI GE239; bT HB hb); have GE241 := GW241; have NB239_241 := gN BK239 hg; replace BK239 := bK BK239 hb; have NB241_239 := Aside0.mk NB239_241.out.symm; clear hb hbox hg; have hnb9 := NB241_239.out; have hnc9 := NB239_241.out; obtain ⟨hcz10_0, hcz10_1, hcz10_2, hcz10_3, hfz10_0, hfz10_1, hfz10_2, hfz10_3⟩ := d4 BK241; have hcz11_0 : w8.cell? ⟨gb239, 0, none⟩ = some (.string x240000_1) := bC BK239 0 rfl; have hcz11_1 : w8.cell? ⟨gb239, 1, none⟩ = some (.int .i64 x240001_1) := bC BK239 1 rfl; have hcz11_2 : w8.cell? ⟨gb239, 2, none⟩ = some (.int .i64 x240002_1) := bC BK239 2 rfl; have hcz11_3 : w8.cell? ⟨gb239, 3, none⟩ = some (.int .i64 x240003_1) := bC BK239 3 rfl; have hfz11_0 := bF BK239 0; have hfz11_1 := bF BK239 1; have hfz11_2 := bF BK239 2; have hfz11_3 := bF BK239 3))
       refine bodyPost_ret (results_ct rfl _ _ gb239 26 #[.string ((rd_T26 l0 x10_1).f0), .int .i64 ((rd_T26 l0 x10_1).f1), .int .i64 ((rd_T26 l0 x10_1).f2), .int .i64 ((rd_T26 l0 x10_1).f3)] (0, 0) _ rfl (by (with_reducible repeat first | refine bN ?_ _ | refine bD ?_ | refine bA ?_ _); refine blk_put (cs := #[.string ((rd_T26 l0 x10_1).f0), .int .i64 ((rd_T26 l0 x10_1).f1), .int .i64 ((rd_T26 l0 x10_1).f2), .int .i64 x240003_1]) ?_ 3 _ rfl; (with_reducible repeat first | refine bN ?_ _ | refine bD ?_ | refine bA ?_ _); refine blk_put (cs := #[.string ((rd_T26 l0 x10_1).f0), .int .i64 ((rd_T26 l0 x10_1).f1), .int .i64 x240002_1, .int .i64 x240003_1]) ?_ 2 _ rfl; (with_reducible repeat first | refine bN ?_ _ | refine bD ?_ | refine bA ?_ _); refine blk_put (cs := #[.string ((rd_T26 l0 x10_1).f0), .int .i64 x240001_1, .int .i64 x240002_1, .int .i64 x240003_1]) ?_ 1 _ rfl; (with_reducible repeat first | refine bN ?_ _ | refine bD ?_ | refine bA ?_ _); refine blk_put (cs := #[.string x240000_1, .int .i64 x240001_1, .int .i64 x240002_1, .int .i64 x240003_1]) ?_ 0 _ rfl; (with_reducible repeat first | refine bN ?_ _ | refine bD ?_ | refine bA ?_ _); refine blk_far ?_ NB239_241.out _; (with_reducible repeat first | refine bN ?_ _ | refine bD ?_ | refine bA ?_ _); refine blk_far ?_ NB239_241.out _; (with_reducible repeat first | refine bN ?_ _ | refine bD ?_ | refine bA ?_ _); refine blk_far ?_ NB239_241.out _; (with_reducible repeat first | refine bN ?_ _ | refine bD ?_ | refine bA ?_ _); refine blk_far ?_ NB239_241.out _; (with_reducible repeat first | refine bN ?_ _ | refine bD ?_ | refine bA ?_ _); exact BK239.out) Tryd.underlying26 rfl (by kernel_rfl)) rfl ?_
       exact ⟨by first | rfl | (simp [errW_none, errW_some] <;> rfl) | (simp [*, errW_none, errW_some] <;> rfl), (haveI := gI GE239; haveI := gI GE241; uS HB)⟩
      ·rw [if_neg c7] at H
       have c7b0 : (((rd_T26 l0 x10_1).f0).toList == a1.toList) = false := beq_eq_false_iff_ne.mpr c7
       have c7b1 : (((rd_T26 l0 x10_1).f0).toList != a1.toList) = true := bne_iff_ne.mpr c7
       have H' := Aside0.mk H
       clear H
       (try simp only [c7b0, c7b1])
       go_wp2_with (first | ((with_reducible refine gate_dst (N := 7) rfl ?_); refine box_event ?hg (N := 7) ?hd (cs := #[.string (⟨#[]⟩ : ByteArray), .int .i64 0, .int .i64 0, .int .i64 0]) (t := 26) ?hr ?_; (case hd => rfl); (case hg => rfl); (case hr => first | (go_simp; done) | (go_simp; rfl)); intro gb241 hg w12 hbox hb; have BK241 := Aside0.mk hbox; have GW241 := Aside0.mk ((by rw [hg]; exact (below_size (haveI := gI GE239; uS HB)) : w.heap.size ≤ gb241)); replace HB := (haveI := gI GE239; bT HB hb); have GE241 := GW241; have NB239_241 := gN BK239 hg; replace BK239 := bK BK239 hb; have NB241_239 := Aside0.mk NB239_241.out.symm; clear hb hbox hg; have hnb13 := NB241_239.out; have hnc13 := NB239_241.out; have hcz14_0 : w12.cell? ⟨gb241, 0, none⟩ = some (.string (⟨#[]⟩ : ByteArray)) := bC BK241 0 rfl; have hcz14_1 : w12.cell? ⟨gb241, 1, none⟩ = some (.int .i64 0) := bC BK241 1 rfl; have hcz14_2 : w12.cell? ⟨gb241, 2, none⟩ = some (.int .i64 0) := bC BK241 2 rfl; have hcz14_3 : w12.cell? ⟨gb241, 3, none⟩ = some (.int .i64 0) := bC BK241 3 rfl; have hfz14_0 := bF BK241 0; have hfz14_1 := bF BK241 1; have hfz14_2 := bF BK241 2; have hfz14_3 := bF BK241 3))
       go_roundg k1
       case measure => have := HK1.out; omega
       case rel => exact ⟨(wrap64 (x10_1 + 1)), (x240000_1), (x240001_1), (x240002_1), (x240003_1), (by first | rfl | (simp; done) | (simp [*]; done)), H', ⟨by have := HK1.out; omega⟩, ⟨by (with_reducible repeat first | refine bN ?_ _ | refine bD ?_ | refine bA ?_ _); refine blk_far ?_ NB239_241.out _; (with_reducible repeat first | refine bN ?_ _ | refine bD ?_ | refine bA ?_ _); refine blk_far ?_ NB239_241.out _; (with_reducible repeat first | refine bN ?_ _ | refine bD ?_ | refine bA ?_ _); refine blk_far ?_ NB239_241.out _; (with_reducible repeat first | refine bN ?_ _ | refine bD ?_ | refine bA ?_ _); refine blk_far ?_ NB239_241.out _; (with_reducible repeat first | refine bN ?_ _ | refine bD ?_ | refine bA ?_ _); exact BK239.out⟩, ⟨(haveI := gI GE239; haveI := gI GE241; uS HB)⟩⟩
     ·rw [if_neg c6] at H
      exact absurd H (by simp)
    ·rw [if_neg c5] at H
     exact absurd H (by simp)
   ·rw [if_neg c4] at H
    have c4b0 : decide (x10_1 < (l0.length : Int)) = false := decide_eq_false c4
    clear c4
    simp only [Option.some.injEq, Prod.mk.injEq] at H
    obtain ⟨rfl, rfl, rfl, rfl, rfl⟩ := H
    obtain ⟨hcz15_0, hcz15_1, hcz15_2, hcz15_3, hfz15_0, hfz15_1, hfz15_2, hfz15_3⟩ := d4 BK239
    go_wp2
    refine bodyPost_ret (results_ct rfl _ _ gb239 26 #[.string (⟨#[]⟩ : ByteArray), .int .i64 0, .int .i64 0, .int .i64 0] (0, 0) _ rfl (by (with_reducible repeat first | refine bN ?_ _ | refine bD ?_ | refine bA ?_ _); refine blk_put (cs := #[.string (⟨#[]⟩ : ByteArray), .int .i64 0, .int .i64 0, .int .i64 x240003_1]) ?_ 3 _ rfl; (with_reducible repeat first | refine bN ?_ _ | refine bD ?_ | refine bA ?_ _); refine blk_put (cs := #[.string (⟨#[]⟩ : ByteArray), .int .i64 0, .int .i64 x240002_1, .int .i64 x240003_1]) ?_ 2 _ rfl; (with_reducible repeat first | refine bN ?_ _ | refine bD ?_ | refine bA ?_ _); refine blk_put (cs := #[.string (⟨#[]⟩ : ByteArray), .int .i64 x240001_1, .int .i64 x240002_1, .int .i64 x240003_1]) ?_ 1 _ rfl; (with_reducible repeat first | refine bN ?_ _ | refine bD ?_ | refine bA ?_ _); refine blk_put (cs := #[.string x240000_1, .int .i64 x240001_1, .int .i64 x240002_1, .int .i64 x240003_1]) ?_ 0 _ rfl; (with_reducible repeat first | refine bN ?_ _ | refine bD ?_ | refine bA ?_ _); exact BK239.out) Tryd.underlying26 rfl (by kernel_rfl)) rfl ?_
    exact ⟨by first | rfl | (simp [errW_none, errW_some] <;> rfl) | (simp [*, errW_none, errW_some] <;> rfl), (haveI := gI GE239; uS HB)⟩
end Go.Proofs.YtbiapfjhdggkpaaDoor.PA


