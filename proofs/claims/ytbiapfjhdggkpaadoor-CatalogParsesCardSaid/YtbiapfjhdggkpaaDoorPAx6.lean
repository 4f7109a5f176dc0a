-- Printed by wip/tool/myprint.py for this claim; Lean checks it.
import Derived.Test.YtbiapfjhdggkpaaDoorPAx0
import Derived.Test.YtbiapfjhdggkpaaDoorSlim
namespace Go.Proofs.YtbiapfjhdggkpaaDoor.PA
open Go.RowKit Go.Proofs.YtbiapfjhdggkpaaDoorW.PrintWords Go.Proofs.YtbiapfjhdggkpaaDoorW.PrintLast Go.Proofs.YtbiapfjhdggkpaaDoorW.PrintMore
attribute [local go_sem] max2_int min2_int max_two min_two max_three min_three max_four min_four   -- for this text's walks alone
set_option linter.unusedVariables false
set_option linter.unusedSimpArgs false

/-! ### clusterlocksref05_Find: function 29 -/
def clusterlocksref05_Find.l0 : Nat → List (S26) → ByteArray → Int → Option (ByteArray × Int × Int × Int × Bool)
 | 0, _, _, _ => none
 | k + 1, x0, x1, x6 => if x6 < (x0.length : Int) then (if 0 ≤ x6 then (if ((rd_T26 x0 x6).f0).toList = x1.toList then (some ((rd_T26 x0 x6).f0, (rd_T26 x0 x6).f1, (rd_T26 x0 x6).f2, (rd_T26 x0 x6).f3, true)) else (clusterlocksref05_Find.l0 k x0 x1 (wrap64 (x6 + 1)))) else (none)) else (some ((⟨#[]⟩ : ByteArray), 0, 0, 0, false))
def clusterlocksref05_Find.f (k : Nat) (l0 : List (S26)) (a1 : ByteArray) : Option (ByteArray × Int × Int × Int × Bool) := clusterlocksref05_Find.l0 k l0 a1 0
theorem clusterlocksref05_Find.mono_l : ∀ k, (∀ y0 y1 y2, LeO (clusterlocksref05_Find.l0 k y0 y1 y2) (clusterlocksref05_Find.l0 (k + 1) y0 y1 y2))
 | 0 => fun _ _ _ r h => by simp [clusterlocksref05_Find.l0] at h
 | k + 1 => by
  have ih0 := clusterlocksref05_Find.mono_l k
  ·intro y0 y1 y2
   unfold clusterlocksref05_Find.l0
   repeat' first
   | (with_reducible exact ih0 _ _ _)
   | (with_reducible exact LeO.refl _)
   | (with_reducible exact LeO.none _)
   | (with_reducible refine LeO.ite ?_ ?_)
   | (with_reducible refine LeO.bind ?_ (fun _ => ?_))
   | exact ih0 _ _ _
   | exact LeO.none _
   | refine LeO.ite ?_ ?_
   | refine LeO.bind ?_ (fun _ => ?_)
theorem clusterlocksref05_Find.mono : ∀ a0 a1 k, LeO (clusterlocksref05_Find.f k a0 a1) (clusterlocksref05_Find.f (k + 1) a0 a1) := by
 intro a0 a1 k
 have ih0 := clusterlocksref05_Find.mono_l k
 unfold clusterlocksref05_Find.f
 repeat' first
   | (with_reducible exact ih0 _ _ _)
   | (with_reducible exact LeO.refl _)
   | (with_reducible exact LeO.none _)
   | (with_reducible refine LeO.ite ?_ ?_)
   | (with_reducible refine LeO.bind ?_ (fun _ => ?_))
   | exact ih0 _ _ _
   | exact LeO.none _
   | refine LeO.ite ?_ ?_
   | refine LeO.bind ?_ (fun _ => ?_)
set_option maxHeartbeats 8000000 in
set_option maxRecDepth 100000 in
theorem clusterlocksref05_Find.calls (k : Nat) (A0 : Option Addr) (c0 : Nat) (l0 : List (S26)) (a1 : ByteArray) (r1 : ByteArray) (r2 : Int) (r3 : Int) (r4 : Int) (r5 : Bool) (w : World) (hr0 : Kd.C k26 w A0 l0.length l0) (hc0 : l0.length ≤ c0) (h : clusterlocksref05_Find.f k l0 a1 = some (r1, r2, r3, r4, r5)) :
  Calls Tryd.prog 29 #[.slice A0 l0.length c0, .string a1] w fun e w' => e = .returned (.tuple #[.agg #[.string r1, .int .i64 r2, .int .i64 r3, .int .i64 r4], .bool r5]) ∧ Below w.heap.size w w' := by
 have hu26 := Tryd.underlying26
 have HR0 := Aside0.mk hr0
 have HC0 := Aside0.mk hc0
 clear hr0 hc0
 have HB := Aside0.mk (Below.refl w.heap.size w)
 have H : (clusterlocksref05_Find.l0 k l0 a1 0) = some (r1, r2, r3, r4, r5) := h
 clear h
 have H' := Aside0.mk H
 clear H
 go_enter Tryd.func29, Tryd.ntmps29
 go_wp2_with (first | ((with_reducible refine gate_dst (N := 4) rfl ?_); refine box_event ?hg (N := 4) ?hd (cs := #[.string (⟨#[]⟩ : ByteArray), .int .i64 0, .int .i64 0, .int .i64 0]) (t := 26) ?hr ?_; (case hd => rfl); (case hg => rfl); (case hr => first | (go_simp; done) | (go_simp; rfl)); intro gb140 hg w3 hbox hb; have BK140 := Aside0.mk hbox; have GW140 := gE HB hg; replace HB := bB HB hb; have GE140 := GW140; clear hb hbox hg))
 go_loopg [6] k (fun kq v6 w' => ∃ (x6_1 : Int) (x141000_1 : ByteArray) (x141001_1 : Int) (x141002_1 : Int) (x141003_1 : Int), v6 = .int .i64 x6_1 ∧ Aside0 (clusterlocksref05_Find.l0 kq l0 a1 x6_1 = some (r1, r2, r3, r4, r5)) ∧ Aside0 (kq ≤ k) ∧ Aside0 (w'.heap[gb140]? = some (.cells #[.string x141000_1, .int .i64 x141001_1, .int .i64 x141002_1, .int .i64 x141003_1] 26 (0, 0))) ∧ Aside0 (Below w.heap.size w w'))
 case atStart => exact ⟨(0), ((⟨#[]⟩ : ByteArray)), (0), (0), (0), (by first | rfl | (simp; done) | (simp [*]; done)), H', ⟨Nat.le_refl _⟩, ⟨uK BK140⟩, ⟨(haveI := gI GE140; uS HB)⟩⟩
 case round =>
  clear H'
  try clear c2
  try clear p2
  obtain ⟨x6_1, x141000_1, x141001_1, x141002_1, x141003_1, rfl, HA, HK1, BK140, HB⟩ := hrel
  cases gk with
  | zero => exact absurd HA.out (by simp [clusterlocksref05_Find.l0])
  | succ k1 =>
   have H := HA.out
   clear HA
   simp only [clusterlocksref05_Find.l0] at H
   by_cases c4 : x6_1 < (l0.length : Int)
   ·rw [if_pos c4] at H
    have c4b0 : decide (x6_1 < (l0.length : Int)) = true := decide_eq_true c4
    clear c4
    by_cases c5 : 0 ≤ x6_1
    ·rw [if_pos c5] at H
     have c5b0 : decide (0 ≤ x6_1) = true := decide_eq_true c5
     clear c5
     have HH_ := Aside0.mk H
     clear H
     have p141 : 0 ≤ (x6_1 : Int) := of_decide_eq_true (by first | (with_reducible assumption) | assumption)
     have q141 : x6_1 < (l0.length : Int) := of_decide_eq_true (by first | (with_reducible assumption) | assumption)
     obtain ⟨ad141, e141, hx141_0, hx141_1, hx141_2, hx141_3⟩ := at_T26 HR0.out x6_1 p141 q141
     cases e141
     replace hx141_0 := kC HB hx141_0
     replace hx141_1 := kC HB hx141_1
     replace hx141_2 := kC HB hx141_2
     replace hx141_3 := kC HB hx141_3
     replace p141 := eq_true p141
     replace q141 := eq_true q141
     have H := HH_.out
     clear HH_
     by_cases c6 : ((rd_T26 l0 x6_1).f0).toList = a1.toList
     ·rw [if_pos c6] at H
      have c6b0 : (((rd_T26 l0 x6_1).f0).toList == a1.toList) = true := beq_iff_eq.mpr c6
      have c6b1 : (((rd_T26 l0 x6_1).f0).toList != a1.toList) = false := bne_eq_false_iff_eq.mpr c6
      clear c6
      simp only [Option.some.injEq, Prod.mk.injEq] at H
      obtain ⟨rfl, rfl, rfl, rfl, rfl⟩ := H
      (try simp only [c6b0, c6b1])
      have p142 : 0 ≤ (x6_1 : Int) := of_decide_eq_true (by first | (with_reducible assumption) | assumption)
      have q142 : x6_1 < (l0.length : Int) := of_decide_eq_true (by first | (with_reducible assumption) | assumption)
      obtain ⟨ad142, e142, hx142_0, hx142_1, hx142_2, hx142_3⟩ := at_T26 HR0.out x6_1 p142 q142
      obtain rfl : ad141 = ad142 := (by injection e142)
      replace hx142_0 := kC HB hx142_0
      replace hx142_1 := kC HB hx142_1
      replace hx142_2 := kC HB hx142_2
      replace hx142_3 := kC HB hx142_3
      replace p142 := eq_true p142
      replace q142 := eq_true q142
      obtain ⟨hcz7_0, hcz7_1, hcz7_2, hcz7_3, hfz7_0, hfz7_1, hfz7_2, hfz7_3⟩ := d4 BK140
      go_wp2
      refine bodyPost_ret (results_ct rfl _ _ gb140 26 #[.string ((rd_T26 l0 x6_1).f0), .int .i64 ((rd_T26 l0 x6_1).f1), .int .i64 ((rd_T26 l0 x6_1).f2), .int .i64 ((rd_T26 l0 x6_1).f3)] (0, 0) _ rfl (by (with_reducible repeat first | refine bN ?_ _ | refine bD ?_ | refine bA ?_ _); refine blk_put (cs := #[.string ((rd_T26 l0 x6_1).f0), .int .i64 ((rd_T26 l0 x6_1).f1), .int .i64 ((rd_T26 l0 x6_1).f2), .int .i64 x141003_1]) ?_ 3 _ rfl; (with_reducible repeat first | refine bN ?_ _ | refine bD ?_ | refine bA ?_ _); refine blk_put (cs := #[.string ((rd_T26 l0 x6_1).f0), .int .i64 ((rd_T26 l0 x6_1).f1), .int .i64 x141002_1, .int .i64 x141003_1]) ?_ 2 _ rfl; (with_reducible repeat first | refine bN ?_ _ | refine bD ?_ | refine bA ?_ _); refine blk_put (cs := #[.string ((rd_T26 l0 x6_1).f0), .int .i64 x141001_1, .int .i64 x141002_1, .int .i64 x141003_1]) ?_ 1 _ rfl; (with_reducible repeat first | refine bN ?_ _ | refine bD ?_ | refine bA ?_ _); refine blk_put (cs := #[.string x141000_1, .int .i64 x141001_1, .int .i64 x141002_1, .int .i64 x141003_1]) ?_ 0 _ rfl; (with_reducible repeat first | refine bN ?_ _ | refine bD ?_ | refine bA ?_ _); exact BK140.out) Tryd.underlying26 rfl (by kernel_rfl)) rfl ?_
      exact ⟨by first | rfl | (simp [errW_none, errW_some] <;> rfl) | (simp [*, errW_none, errW_some] <;> rfl), (haveI := gI GE140; uS HB)⟩
     ·rw [if_neg c6] at H
      have c6b0 : (((rd_T26 l0 x6_1).f0).toList == a1.toList) = false := beq_eq_false_iff_ne.mpr c6
      have c6b1 : (((rd_T26 l0 x6_1).f0).toList != a1.toList) = true := bne_iff_ne.mpr c6
      have H' := Aside0.mk H
      clear H
      (try simp only [c6b0, c6b1])
      go_wp2
      go_roundg k1
      case measure => have := HK1.out; omega
      case rel => exact ⟨(wrap64 (x6_1 + 1)), (x141000_1), (x141001_1), (x141002_1), (x141003_1), (by first | rfl | (simp; done) | (simp [*]; done)), H', ⟨by have := HK1.out; omega⟩, ⟨uK BK140⟩, ⟨(haveI := gI GE140; uS HB)⟩⟩
    ·rw [if_neg c5] at H
     exact absurd H (by simp)
   ·rw [if_neg c4] at H
    have c4b0 : decide (x6_1 < (l0.length : Int)) = false := decide_eq_false c4
    clear c4
    simp only [Option.some.injEq, Prod.mk.injEq] at H
    obtain ⟨rfl, rfl, rfl, rfl, rfl⟩ := H
    obtain ⟨hcz8_0, hcz8_1, hcz8_2, hcz8_3, hfz8_0, hfz8_1, hfz8_2, hfz8_3⟩ := d4 BK140
    go_wp2
    refine bodyPost_ret (results_ct rfl _ _ gb140 26 #[.string (⟨#[]⟩ : ByteArray), .int .i64 0, .int .i64 0, .int .i64 0] (0, 0) _ rfl (by (with_reducible repeat first | refine bN ?_ _ | refine bD ?_ | refine bA ?_ _); refine blk_put (cs := #[.string (⟨#[]⟩ : ByteArray), .int .i64 0, .int .i64 0, .int .i64 x141003_1]) ?_ 3 _ rfl; (with_reducible repeat first | refine bN ?_ _ | refine bD ?_ | refine bA ?_ _); refine blk_put (cs := #[.string (⟨#[]⟩ : ByteArray), .int .i64 0, .int .i64 x141002_1, .int .i64 x141003_1]) ?_ 2 _ rfl; (with_reducible repeat first | refine bN ?_ _ | refine bD ?_ | refine bA ?_ _); refine blk_put (cs := #[.string (⟨#[]⟩ : ByteArray), .int .i64 x141001_1, .int .i64 x141002_1, .int .i64 x141003_1]) ?_ 1 _ rfl; (with_reducible repeat first | refine bN ?_ _ | refine bD ?_ | refine bA ?_ _); refine blk_put (cs := #[.string x141000_1, .int .i64 x141001_1, .int .i64 x141002_1, .int .i64 x141003_1]) ?_ 0 _ rfl; (with_reducible repeat first | refine bN ?_ _ | refine bD ?_ | refine bA ?_ _); exact BK140.out) Tryd.underlying26 rfl (by kernel_rfl)) rfl ?_
    exact ⟨by first | rfl | (simp [errW_none, errW_some] <;> rfl) | (simp [*, errW_none, errW_some] <;> rfl), (haveI := gI GE140; uS HB)⟩
end Go.Proofs.YtbiapfjhdggkpaaDoor.PA

