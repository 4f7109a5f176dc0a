-- Printed by wip/tool/myprint.py for this claim; Lean checks it.
import Derived.Test.YtnmemkphfgdplaaDoorPAx0
import Derived.Test.YtnmemkphfgdplaaDoorPAxT
import Derived.Test.YtnmemkphfgdplaaDoorSlim
namespace Go.Proofs.YtnmemkphfgdplaaDoor.PA
open Go.RowKit Go.Proofs.YtnmemkphfgdplaaDoorW.PrintWords Go.Proofs.YtnmemkphfgdplaaDoorW.PrintLast Go.Proofs.YtnmemkphfgdplaaDoorW.PrintMore
attribute [local go_sem] max2_int min2_int max_two min_two max_three min_three max_four min_four   -- for this text's walks alone
set_option linter.unusedVariables false
set_option linter.unusedSimpArgs false

/-! ### clusterlocksmill_Light: function 20 -/
def clusterlocksmill_Light.f (l0 : List Int) : Option (Bool) := some (decide ((l0.length : Int) ≤ 300))
set_option maxHeartbeats 8000000 in
set_option maxRecDepth 100000 in
theorem clusterlocksmill_Light.calls (A0 : Option Addr) (c0 : Nat) (l0 : List Int) (r : Bool) (w : World) (hr0 : Kd.C (Kd.int .i64) w A0 l0.length l0) (hc0 : l0.length ≤ c0) (h : clusterlocksmill_Light.f l0 = some r) :
  Calls Tryd.prog 20 #[.slice A0 l0.length c0] w fun e w' => e = .returned (.bool r) ∧ Drawn0 w w' := by
 have HR0 := Aside0.mk hr0
 have HC0 := Aside0.mk hc0
 clear hr0 hc0
 have H : (some (decide ((l0.length : Int) ≤ 300))) = some r := h
 clear h
 obtain rfl := Option.some.inj H
 go_enter Tryd.func20, Tryd.ntmps20
 go_wp2
 go_ret
 exact ⟨by first | rfl | (simp; done) | (simp [*]; done), by repeat (first | exact Drawn0.refl _ | apply Drawn0.step)⟩

/-! ### clusterlocksmill_Mod: function 41 -/
def clusterlocksmill_Mod.f (a0 : Int) (a1 : Int) : Option (Int) := if a1 < 1 then (some 0) else (if a1 = 0 then (none) else (if (Int.tmod a0 a1) < 0 then (some (wrap64 ((Int.tmod a0 a1) + a1))) else (some (Int.tmod a0 a1))))
set_option maxHeartbeats 8000000 in
set_option maxRecDepth 100000 in
theorem clusterlocksmill_Mod.calls (a0 : Int) (a1 : Int) (r : Int) (w : World) (h : clusterlocksmill_Mod.f a0 a1 = some r) :
  Calls Tryd.prog 41 #[.int .i64 a0, .int .i64 a1] w fun e w' => e = .returned (.int .i64 r) ∧ Drawn0 w w' := by
 have H : (if a1 < 1 then (some 0) else (if a1 = 0 then (none) else (if (Int.tmod a0 a1) < 0 then (some (wrap64 ((Int.tmod a0 a1) + a1))) else (some (Int.tmod a0 a1))))) = some r := h
 clear h
 by_cases c3 : a1 < 1
 ·rw [if_pos c3] at H
  have c3b0 : decide (a1 < 1) = true := decide_eq_true c3
  clear c3
  obtain rfl := Option.some.inj H
  go_enter Tryd.func41, Tryd.ntmps41
  go_wp2
  go_ret
  exact ⟨by first | rfl | (simp; done) | (simp [*]; done), by repeat (first | exact Drawn0.refl _ | apply Drawn0.step)⟩
 ·rw [if_neg c3] at H
  have c3b0 : decide (a1 < 1) = false := decide_eq_false c3
  clear c3
  by_cases c4 : a1 = 0
  ·rw [if_pos c4] at H
   exact absurd H (by simp)
  ·rw [if_neg c4] at H
   have c4b0 : (a1 == 0) = false := beq_eq_false_iff_ne.mpr c4
   have c4b1 : (a1 != 0) = true := bne_iff_ne.mpr c4
   by_cases c5 : (Int.tmod a0 a1) < 0
   ·rw [if_pos c5] at H
    have c5b0 : decide ((Int.tmod a0 a1) < 0) = true := decide_eq_true c5
    clear c5
    obtain rfl := Option.some.inj H
    go_enter Tryd.func41, Tryd.ntmps41
    go_wp2
    go_ret
    exact ⟨by first | rfl | (simp; done) | (simp [*]; done), by repeat (first | exact Drawn0.refl _ | apply Drawn0.step)⟩
   ·rw [if_neg c5] at H
    have c5b0 : decide ((Int.tmod a0 a1) < 0) = false := decide_eq_false c5
    clear c5
    obtain rfl := Option.some.inj H
    go_enter Tryd.func41, Tryd.ntmps41
    go_wp2
    go_ret
    exact ⟨by first | rfl | (simp; done) | (simp [*]; done), by repeat (first | exact Drawn0.refl _ | apply Drawn0.step)⟩
/-- A state of type 62 at block g of W; what its slices lead to came in by w0. -/
def IsS62 (w0 W : World) (g : Nat) (f0 : List Int) (f1 : Int) : Prop := ∃ A0 c0, W.heap[g]? = some (.cells #[.slice A0 f0.length c0, .int .i64 f1] 62 (0, 0)) ∧ w0.heap.size ≤ g ∧ Kd.C (Kd.int .i64) w0 A0 f0.length f0
theorem IsS62.grown {w0 W : World} {g : Nat} {f0 : List Int} {f1 : Int} {W1 : World} {row : Option Nat} (h : IsS62 w0 W g f0 f1) (hw : W.grownBy W1 row) (hne : some g ≠ row) : IsS62 w0 W1 g f0 f1 := by
 obtain ⟨A0, c0, hb, hg, hr0⟩ := h
 exact ⟨A0, c0, blk_grown hb hw hne, hg, hr0⟩
theorem IsS62.own_neN {w0 W : World} {g : Nat} {f0 : List Int} {f1 : Int} {α : Type} {d : Kd α} {e : Nat} {base : Nat} {ok : Nat → Prop} {v : Value} {xs : List α} (h : IsS62 w0 W g f0 f1) (ho : Kd.N d e W base ok v xs) (ht : e ≠ 62) : some g ≠ v.ownBlock := by
 obtain ⟨A0, c0, hb, hg, hr0⟩ := h
 exact Kd.N_ne ho hb ht
theorem IsS62.fresh {w0 W : World} {g : Nat} {f0 : List Int} {f1 : Int} (h : IsS62 w0 W g f0 f1) : ∀ k, W.heap.size ≤ k → k ≠ g := by
 obtain ⟨A0, c0, hb, hg, hr0⟩ := h
 exact Kd.freshB hb
theorem IsS62.kept {w0 W : World} {g : Nat} {f0 : List Int} {f1 : Int} {W1 : World} {S : Nat → Prop} (h : IsS62 w0 W g f0 f1) (hk : Kept W W1 S) (hne : ¬ S g) : IsS62 w0 W1 g f0 f1 := by
 obtain ⟨A0, c0, hb, hg, hr0⟩ := h
 exact ⟨A0, c0, blk_kept hb hk hne, hg, hr0⟩
theorem IsS62.below {w0 W : World} {g : Nat} {f0 : List Int} {f1 : Int} {W1 : World} (h : IsS62 w0 W g f0 f1) (hw : Below W.heap.size W W1) : IsS62 w0 W1 g f0 f1 := h.grown (grown_of_below hw none) (by simp)
theorem IsS62.alloc {w0 W : World} {g : Nat} {f0 : List Int} {f1 : Int} (h : IsS62 w0 W g f0 f1) (o : Obj) : IsS62 w0 (W.alloc o) g f0 f1 := h.below (below_alloc (Below.refl _ _) o)
theorem IsS62.drewN {w0 W : World} {g : Nat} {f0 : List Int} {f1 : Int} (h : IsS62 w0 W g f0 f1) (m : Nat) : IsS62 w0 (W.drewN m) g f0 f1 := h
theorem IsS62.drew {w0 W : World} {g : Nat} {f0 : List Int} {f1 : Int} (h : IsS62 w0 W g f0 f1) : IsS62 w0 W.drew g f0 f1 := h
theorem IsS62.at_ {w0 W : World} {g : Nat} {f0 : List Int} {f1 : Int} {w' : World} {m : Nat} (hq : W.drewN m = w') (h : IsS62 w0 W g f0 f1) : IsS62 w0 w' g f0 f1 := by subst hq; exact IsS62.drewN h m
theorem IsS62.apart {w0 W : World} {g : Nat} {f0 : List Int} {f1 : Int} {α : Type} {d : Kd α} {e : Nat} {base : Nat} {ok : Nat → Prop} {v : Value} {xs : List α} (h : IsS62 w0 W g f0 f1) (ho : d.R e W base ok v xs) (ht : ∀ q, q ∈ e :: d.E → q ≠ 62) : d.R e W base (fun k => ok k ∧ k ≠ g) v xs := by
 obtain ⟨A0, c0, hb, hg, hr0⟩ := h
 exact Kd.R_types ho hb ht
theorem IsS62.own_ne {w0 W : World} {g : Nat} {f0 : List Int} {f1 : Int} {α : Type} {d : Kd α} {e : Nat} {base : Nat} {ok : Nat → Prop} {v : Value} {xs : List α} (h : IsS62 w0 W g f0 f1) (ho : d.R e W base ok v xs) (ht : e ≠ 62) : some g ≠ v.ownBlock := by
 obtain ⟨A0, c0, hb, hg, hr0⟩ := h
 exact Kd.R_ne ho hb ht
theorem IsS62.apartQ {w0 W : World} {g : Nat} {f0 : List Int} {f1 : Int} {α : Type} {d : Kd α} {e : Nat} {base : Nat} {ok : Nat → Prop} {v : Value} {xs : List α} (h : IsS62 w0 W g f0 f1) (ho : d.Q e W base ok v xs) (ht : ∀ q, q ∈ e :: d.E → q ≠ 62) : d.Q e W base (fun k => ok k ∧ k ≠ g) v xs := by
 obtain ⟨A0, c0, hb, hg, hr0⟩ := h
 exact Kd.Q_types ho hb ht
theorem IsS62.own_neQ {w0 W : World} {g : Nat} {f0 : List Int} {f1 : Int} {α : Type} {d : Kd α} {e : Nat} {base : Nat} {ok : Nat → Prop} {v : Value} {xs : List α} (h : IsS62 w0 W g f0 f1) (ho : d.Q e W base ok v xs) (ht : e ≠ 62) : some g ≠ v.ownBlock := by
 obtain ⟨A0, c0, hb, hg, hr0⟩ := h
 exact Kd.Q_ne ho hb ht
theorem IsS62.apartS {w0 W : World} {g : Nat} {f0 : List Int} {f1 : Int} {α : Type} {d : Kd α} {e : Nat} {base : Nat} {ok : Nat → Prop} {v : Value} {xs : List α} (h : IsS62 w0 W g f0 f1) (ho : d.S e W base ok v xs) (ht : ∀ q, q ∈ e :: d.E → q ≠ 62) : d.S e W base (fun k => ok k ∧ k ≠ g) v xs := by
 obtain ⟨A0, c0, hb, hg, hr0⟩ := h
 exact Kd.S_types ho hb ht
theorem IsS62.own_neS {w0 W : World} {g : Nat} {f0 : List Int} {f1 : Int} {α : Type} {d : Kd α} {e : Nat} {base : Nat} {ok : Nat → Prop} {v : Value} {xs : List α} (h : IsS62 w0 W g f0 f1) (ho : d.S e W base ok v xs) (ht : e ≠ 62) : some g ≠ v.ownBlock := by
 obtain ⟨A0, c0, hb, hg, hr0⟩ := h
 exact Kd.S_ne ho hb ht
theorem IsS62.lt {w0 W : World} {g : Nat} {f0 : List Int} {f1 : Int} (h : IsS62 w0 W g f0 f1) : g < W.heap.size := by
 obtain ⟨A0, c0, hb, hg, hr0⟩ := h
 exact blk_lt hb
theorem IsS62.ge {w0 W : World} {g : Nat} {f0 : List Int} {f1 : Int} (h : IsS62 w0 W g f0 f1) : w0.heap.size ≤ g := by
 obtain ⟨A0, c0, hb, hg, hr0⟩ := h
 exact hg
theorem IsS62.ne_blk {w0 W : World} {g : Nat} {f0 : List Int} {f1 : Int} {a : Nat} {cs : Array Value} {t : TypeId} {fr : Nat × Nat} (h : IsS62 w0 W g f0 f1) (hb2 : W.heap[a]? = some (.cells cs t fr)) (ht : t ≠ 62) : g ≠ a := by
 obtain ⟨A0, c0, hb, hg, hr0⟩ := h
 rintro rfl
 rw [hb] at hb2
 injection hb2 with hb2
 injection hb2 with _ ht2
 exact ht ht2.symm
theorem IsS62.far {w0 W : World} {g : Nat} {f0 : List Int} {f1 : Int} {p : Addr} (h : IsS62 w0 W g f0 f1) (hne : g ≠ p.block) (u : Value) : IsS62 w0 (W.setCell p u) g f0 f1 := by
 obtain ⟨A0, c0, hb, hg, hr0⟩ := h
 exact ⟨A0, c0, blk_far hb hne u, hg, hr0⟩
theorem cellS62_0 {W : World} {g : Nat} {A0 : Option Addr} {c0 : Nat} {f0 : List Int} {f1 : Int} (h : W.heap[g]? = some (.cells #[.slice A0 f0.length c0, .int .i64 f1] 62 (0, 0))) : W.cell? ⟨g, 0, none⟩ = some (.slice A0 f0.length c0) := (blk_cell h 0).trans rfl
theorem cellS62_1 {W : World} {g : Nat} {A0 : Option Addr} {c0 : Nat} {f0 : List Int} {f1 : Int} (h : W.heap[g]? = some (.cells #[.slice A0 f0.length c0, .int .i64 f1] 62 (0, 0))) : W.cell? ⟨g, 1, none⟩ = some (.int .i64 f1) := (blk_cell h 1).trans rfl
theorem IsS62.set_1 {w0 W : World} {g : Nat} {f0 : List Int} {f1 : Int} (h : IsS62 w0 W g f0 f1) (x : Int) : IsS62 w0 (W.setCell ⟨g, 1, none⟩ (.int .i64 x)) g f0 x := by
 obtain ⟨A0, c0, hb, hg, hr0⟩ := h
 exact ⟨A0, c0, by simpa using blk_set hb 1 (.int .i64 x), hg, hr0⟩
theorem IsS62.new (w0 W : World) (A0 : Option Addr) (c0 : Nat) (f0 : List Int) (f1 : Int) (hB : Below w0.heap.size w0 W) (hr0 : Kd.C (Kd.int .i64) w0 A0 f0.length f0) : IsS62 w0 (W.alloc (.cells #[.slice A0 f0.length c0, .int .i64 f1] 62)) W.heap.size f0 f1 := ⟨A0, c0, by simpa using heap_alloc_new W _, hB.size, hr0⟩

/-! ### clusterlocksmill_Tape_Next: function 59 -/
def clusterlocksmill_Tape_Next.f (s0_0 : List Int) (s0_1 : Int) (a1 : Int) : Option (Int × Int) := if s0_1 ≥ (s0_0.length : Int) then (some (0, s0_1)) else (if 0 ≤ (wrap64 ((wrap64 (s0_1 + 1)) - 1)) then (if (wrap64 ((wrap64 (s0_1 + 1)) - 1)) < (s0_0.length : Int) then ((clusterlocksmill_Mod.f (rd s0_0 (wrap64 ((wrap64 (s0_1 + 1)) - 1))) a1).bind fun t390 => (some (t390, wrap64 (s0_1 + 1)))) else (none)) else (none))
set_option maxHeartbeats 8000000 in
set_option maxRecDepth 100000 in
theorem clusterlocksmill_Tape_Next.calls (g : Nat) (s0_0 : List Int) (s0_1 : Int) (a1 : Int) (r1 : Int) (r2 : Int) (w0 w : World) (hI : IsS62 w0 w g s0_0 s0_1) (hB : Below w0.heap.size w0 w) (h : clusterlocksmill_Tape_Next.f s0_0 s0_1 a1 = some (r1, r2)) :
  Calls Tryd.prog 59 #[.pointer (some ⟨g, 0, none⟩), .int .i64 a1] w fun e w' => e = .returned (.int .i64 r1) ∧ IsS62 w0 w' g s0_0 r2 ∧ Below w0.heap.size w0 w' ∧ KeepBut w w' g none := by
 have HI0 := Aside0.mk hI
 have HK := Aside0.mk (KeepBut.refl w g none)
 have HL := Aside0.mk hB.size
 clear hI
 have HW0 := Aside0.mk hB.size
 have HB := Aside0.mk hB
 clear hB
 have H : (if s0_1 ≥ (s0_0.length : Int) then (some (0, s0_1)) else (if 0 ≤ (wrap64 ((wrap64 (s0_1 + 1)) - 1)) then (if (wrap64 ((wrap64 (s0_1 + 1)) - 1)) < (s0_0.length : Int) then ((clusterlocksmill_Mod.f (rd s0_0 (wrap64 ((wrap64 (s0_1 + 1)) - 1))) a1).bind fun t390 => (some (t390, wrap64 (s0_1 + 1)))) else (none)) else (none))) = some (r1, r2) := h
 clear h
 have HH_ := Aside0.mk H
 clear H
 obtain ⟨ASz4_0, cSz4_0, HGz4, hgz4, HSz4_0⟩ := HI0.out
 have hcz4_0 := cellS62_0 HGz4
 have hcz4_1 := cellS62_1 HGz4
 have hfz4_1 := blk_frozen HGz4 1
 clear HGz4 hgz4
 have H := HH_.out
 clear HH_
 by_cases c3 : s0_1 ≥ (s0_0.length : Int)
 ·rw [if_pos c3] at H
  have c3b0 : decide ((s0_0.length : Int) ≤ s0_1) = true := decide_eq_true c3
  clear c3
  simp only [Option.some.injEq, Prod.mk.injEq] at H
  obtain ⟨rfl, rfl⟩ := H
  (try simp only [c3b0])
  go_enter Tryd.func59, Tryd.ntmps59
  go_wp2
  repeat (go_quiet (fail); try go_wp2)
  go_ret
  exact ⟨by first | rfl | (simp [errW_none, errW_some] <;> rfl) | (simp [*, errW_none, errW_some] <;> rfl), by repeat (first | (with_reducible first | exact HI0.out | apply IsS62.alloc | apply IsS62.drewN | apply IsS62.drew | apply IsS62.set_1) | exact HI0.out), by repeat (first | (with_reducible first | exact HB.out | apply bL | apply bM | apply bR | refine bS ?_ (IsS62.ge HI0.out)) | exact HB.out), by repeat (first | (with_reducible first | exact HK.out | apply KeepBut.set_ | apply keep_drewN | apply keep_drew | apply keep_alloc) | exact HK.out)⟩
 ·rw [if_neg c3] at H
  have c3b0 : decide ((s0_0.length : Int) ≤ s0_1) = false := decide_eq_false c3
  clear c3
  obtain ⟨ji5, hji5⟩ : ∃ j_ : Int, (wrap64 ((wrap64 (s0_1 + 1)) - 1)) = j_ := ⟨_, rfl⟩
  replace H : (if 0 ≤ (ji5) then (if (ji5) < (s0_0.length : Int) then ((clusterlocksmill_Mod.f (rd s0_0 (ji5)) a1).bind fun t390 => (some (t390, wrap64 (s0_1 + 1)))) else (none)) else (none)) = some (r1, r2) := by first | (rw [hji5] at H; exact H) | (simp only [hji5] at H ⊢; exact H)
  have hji5w : (IntKind.i64.wrap ((wrap64 (s0_1 + 1)) - 1)) = ji5 := (i64_w _).trans hji5
  (try simp only [c3b0])
  by_cases c6 : 0 ≤ (ji5)
  ·rw [if_pos c6] at H
   have c6b0 : decide (0 ≤ (ji5)) = true := decide_eq_true c6
   clear c6
   have HH_ := Aside0.mk H
   clear H
   have p389 : 0 ≤ ((ji5) : Int) := of_decide_eq_true (by first | (with_reducible assumption) | assumption)
   have H := HH_.out
   clear HH_
   by_cases c7 : (ji5) < (s0_0.length : Int)
   ·rw [if_pos c7] at H
    have c7b0 : decide ((ji5) < (s0_0.length : Int)) = true := decide_eq_true c7
    clear c7
    obtain ⟨t390, A80, H⟩ := Option.bind_eq_some_iff.mp H
    have A8 := Aside0.mk A80; clear A80
    simp only [Option.some.injEq, Prod.mk.injEq] at H
    obtain ⟨rfl, rfl⟩ := H
    have q389 : (ji5) < (s0_0.length : Int) := of_decide_eq_true (by first | (with_reducible assumption) | assumption)
    obtain ⟨ad389, e389, hx389_0⟩ := Kd.at_int HSz4_0 (ji5) p389 q389
    cases e389
    have hn389_0 : ad389.block ≠ g := Nat.ne_of_lt (Nat.lt_of_lt_of_le (by have := World.block_lt_of_cell? _ _ hx389_0; first | rwa [add_block] at this | exact this) (IsS62.ge HI0.out))
    replace hx389_0 := pw_cell_below HB.out hx389_0
    replace hx389_0 := (cell_far (p := ⟨g, 1, none⟩) (by first | (rw [add_block]; exact hn389_0) | (show (Addr.add _ _).block ≠ _; rw [add_block]; exact hn389_0) | exact hn389_0) (.int .i64 (wrap64 (s0_1 + 1)))).trans hx389_0
    (try have hy389_0 := fun (n_ : Nat) => (show (((w.drewN n_).setCell ⟨g, 1, none⟩ (.int .i64 (wrap64 (s0_1 + 1))))).cell? _ = some _ from hx389_0))
    clear hn389_0
    replace p389 := eq_true p389
    replace q389 := eq_true q389
    go_enter Tryd.func59, Tryd.ntmps59
    go_wp2_with (first | (go_at_call 41; (with_reducible refine (clusterlocksmill_Mod.calls (rd s0_0 (ji5)) a1 t390 _ A8.out).mono ?_); rintro e w' ⟨rfl, ⟨nd, rfl⟩⟩; (try first | exact ⟨rfl, _, World.drewN_drewN _ _ _⟩ | exact ⟨rfl, _, Eq.trans (World.drewN_drewN _ _ _) (congrArg (World.drewN _) (Nat.add_assoc _ _ _))⟩)))
    repeat (go_quiet (first | (go_at_call 41; (with_reducible refine (clusterlocksmill_Mod.calls (rd s0_0 (ji5)) a1 t390 _ A8.out).mono ?_); rintro e w' ⟨rfl, ⟨nd, rfl⟩⟩; (try first | exact ⟨rfl, _, World.drewN_drewN _ _ _⟩ | exact ⟨rfl, _, Eq.trans (World.drewN_drewN _ _ _) (congrArg (World.drewN _) (Nat.add_assoc _ _ _))⟩))); try go_wp2_with (first | (go_at_call 41; (with_reducible refine (clusterlocksmill_Mod.calls (rd s0_0 (ji5)) a1 t390 _ A8.out).mono ?_); rintro e w' ⟨rfl, ⟨nd, rfl⟩⟩; (try first | exact ⟨rfl, _, World.drewN_drewN _ _ _⟩ | exact ⟨rfl, _, Eq.trans (World.drewN_drewN _ _ _) (congrArg (World.drewN _) (Nat.add_assoc _ _ _))⟩))))
    go_ret
    exact ⟨by first | rfl | (simp [errW_none, errW_some] <;> rfl) | (simp only [← hji5]; first | rfl | (simp [errW_none, errW_some] <;> rfl)) | (simp [*, errW_none, errW_some] <;> rfl), by repeat (first | (with_reducible first | exact HI0.out | apply IsS62.alloc | apply IsS62.drewN | apply IsS62.drew | apply IsS62.set_1) | exact HI0.out), by repeat (first | (with_reducible first | exact HB.out | apply bL | apply bM | apply bR | refine bS ?_ (IsS62.ge HI0.out)) | exact HB.out), by repeat (first | (with_reducible first | exact HK.out | apply KeepBut.set_ | apply keep_drewN | apply keep_drew | apply keep_alloc) | exact HK.out)⟩
   ·rw [if_neg c7] at H
    exact absurd H (by simp)
  ·rw [if_neg c6] at H
   exact absurd H (by simp)
/-! ### clusterlocksmill_Catalog: function 40 -/
def clusterlocksmill_Catalog.l0 : Nat → List (S32) → List ByteArray → Int → List Int → Int → Option ((List (S32)) × Int)
 | 0, _, _, _, _, _ => none
 | k + 1, x3, x4, x5, x1000, x1001 => if x5 < (x4.length : Int) then (if 0 ≤ x5 then ((clusterlocksmill_Tape_Next.f x1000 x1001 4).bind fun bt395 => (if x3.length < 3518437208883 then (clusterlocksmill_Catalog.l0 k (x3 ++ [(⟨rdOf ByteArray.empty x4 x5, 1, 1, bt395.1⟩ : S32)]) x4 (wrap64 (x5 + 1)) x1000 bt395.2) else (none))) else (none)) else ((clusterlocksmill_Tape_Next.f x1000 x1001 8).bind fun bt400 => ((clusterlocksmill_Tape_Next.f x1000 bt400.2 4).bind fun bt402 => (if x3.length < 3518437208883 then ((some (x3 ++ [(⟨(⟨#[112]⟩ : ByteArray), 2, wrap64 (1 + bt400.1), bt402.1⟩ : S32)] : List (S32))).bind fun y404 => ((clusterlocksmill_Tape_Next.f x1000 bt402.2 3).bind fun bt407 => ((clusterlocksmill_Tape_Next.f x1000 bt407.2 4).bind fun bt409 => (if y404.length < 3518437208883 then (some ((y404 ++ [(⟨(⟨#[113]⟩ : ByteArray), 2, wrap64 (1 + bt407.1), bt409.1⟩ : S32)]), bt409.2)) else (none))))) else (none))))
def clusterlocksmill_Catalog.f (k : Nat) (s0_0 : List Int) (s0_1 : Int) : Option ((List (S32)) × Int) := clusterlocksmill_Catalog.l0 k ([] : List (S32)) (([(⟨#[97]⟩ : ByteArray), (⟨#[98]⟩ : ByteArray), (⟨#[99]⟩ : ByteArray), (⟨#[100]⟩ : ByteArray)] : List ByteArray)) 0 s0_0 s0_1
theorem clusterlocksmill_Catalog.mono_l : ∀ k, (∀ y0 y1 y2 y3 y4, LeO (clusterlocksmill_Catalog.l0 k y0 y1 y2 y3 y4) (clusterlocksmill_Catalog.l0 (k + 1) y0 y1 y2 y3 y4))
 | 0 => fun _ _ _ _ _ r h => by simp [clusterlocksmill_Catalog.l0] at h
 | k + 1 => by
  have ih0 := clusterlocksmill_Catalog.mono_l k
  ·intro y0 y1 y2 y3 y4
   unfold clusterlocksmill_Catalog.l0
   repeat' first
   | (with_reducible exact ih0 _ _ _ _ _)
   | (with_reducible exact LeO.refl _)
   | (with_reducible exact LeO.none _)
   | (with_reducible refine LeO.ite ?_ ?_)
   | (with_reducible refine LeO.bind ?_ (fun _ => ?_))
   | exact ih0 _ _ _ _ _
   | exact LeO.none _
   | refine LeO.ite ?_ ?_
   | refine LeO.bind ?_ (fun _ => ?_)
theorem clusterlocksmill_Catalog.mono : ∀ a0 a1 k, LeO (clusterlocksmill_Catalog.f k a0 a1) (clusterlocksmill_Catalog.f (k + 1) a0 a1) := by
 intro a0 a1 k
 have ih0 := clusterlocksmill_Catalog.mono_l k
 unfold clusterlocksmill_Catalog.f
 repeat' first
   | (with_reducible exact ih0 _ _ _ _ _)
   | (with_reducible exact LeO.refl _)
   | (with_reducible exact LeO.none _)
   | (with_reducible refine LeO.ite ?_ ?_)
   | (with_reducible refine LeO.bind ?_ (fun _ => ?_))
   | exact ih0 _ _ _ _ _
   | exact LeO.none _
   | refine LeO.ite ?_ ?_
   | refine LeO.bind ?_ (fun _ => ?_)
def clusterlocksmill_Catalog.T6 : Bool × List (List Nat × List Nat) := (true, [([], []), ([], []), ([], []), ([1, 2], [1, 2]), ([3], [3]), ([], []), ([5], [5]), ([4, 6], [4, 6]), ([7], [7]), ([0, 8, 6], [0, 8]), ([9, 9, 0, 1, 2, 3, 4, 5, 6, 7, 8, 9], [0, 9])])
def clusterlocksmill_Catalog.B6 : List Nat := [0, 0, 0, 6, 14, 0, 32, 126, 254, 511, 1023]
theorem clusterlocksmill_Catalog.tab6 : rtab .any (opsOf Tryd.f40 6) = clusterlocksmill_Catalog.T6 := by kernel_rfl
theorem clusterlocksmill_Catalog.bits6 : waitsOk clusterlocksmill_Catalog.T6.2 clusterlocksmill_Catalog.B6 = true := by kernel_rfl
set_option maxHeartbeats 8000000 in
set_option maxRecDepth 100000 in
theorem clusterlocksmill_Catalog.calls (k : Nat) (g : Nat) (s0_0 : List Int) (s0_1 : Int) (r1 : List (S32)) (r2 : Int) (w0 w : World) (hI : IsS62 w0 w g s0_0 s0_1) (hB : Below w0.heap.size w0 w) (h : clusterlocksmill_Catalog.f k s0_0 s0_1 = some (r1, r2)) :
  Calls Tryd.prog 40 #[.pointer (some ⟨g, 0, none⟩)] w fun e w' => ∃ v0_ : Value, e = .returned (v0_) ∧ Kd.R k32 32 w' w.heap.size (fun _ => True) v0_ r1 ∧ IsS62 w0 w' g s0_0 r2 ∧ Below w0.heap.size w0 w' ∧ KeepBut w w' g none := by
 have hu32 := Tryd.underlying32
 have HI0 := Aside0.mk hI
 have HK := Aside0.mk (KeepBut.refl w g none)
 have HL := Aside0.mk hB.size
 clear hI
 have HW0 := Aside0.mk hB.size
 have HB := Aside0.mk hB
 clear hB
 have H : (clusterlocksmill_Catalog.l0 k ([] : List (S32)) (([(⟨#[97]⟩ : ByteArray), (⟨#[98]⟩ : ByteArray), (⟨#[99]⟩ : ByteArray), (⟨#[100]⟩ : ByteArray)] : List ByteArray)) 0 s0_0 s0_1) = some (r1, r2) := h
 clear h
 obtain ⟨y391, hy391⟩ : ∃ y_ : List ByteArray, y_ = (([(⟨#[97]⟩ : ByteArray), (⟨#[98]⟩ : ByteArray), (⟨#[99]⟩ : ByteArray), (⟨#[100]⟩ : ByteArray)] : List ByteArray)) := ⟨_, rfl⟩
 replace H : (clusterlocksmill_Catalog.l0 k ([] : List (S32)) y391 0 s0_0 s0_1) = some (r1, r2) := by first | (rw [hy391]; with_reducible exact H) | (have H2_ := (Option.bind_some _ _).symm.trans H; rw [hy391]; with_reducible exact H2_) | (have H2_ := (Option.bind_some _ _).symm.trans H; with_reducible exact H2_) | with_reducible exact H | (rw [hy391]; exact H) | exact H
 have Ny391 := Aside0.mk hy391
 clear hy391
 have H' := Aside0.mk H
 clear H
 go_enter Tryd.func40, Tryd.ntmps40
 go_wp2_with (first | ((with_reducible refine gate_dst (N := 6) rfl ?_); refine Kd.R_lit Kd.string _ 9 ?hg (N := 6) ?hd (xs := ([(⟨#[97]⟩ : ByteArray), (⟨#[98]⟩ : ByteArray), (⟨#[99]⟩ : ByteArray), (⟨#[100]⟩ : ByteArray)] : List ByteArray)) (inner := [.string (⟨#[97]⟩ : ByteArray), .string (⟨#[98]⟩ : ByteArray), .string (⟨#[99]⟩ : ByteArray), .string (⟨#[100]⟩ : ByteArray)]) (ok := fun _ => True) (okp := fun _ => True) ?hr ?hp (fun _ hk => hk) trivial (Below.refl _ _) (Nat.le_refl _) (by simp) ?_; (case hd => rfl); (case hg => rfl); (case hr => first | (go_simp; done) | (go_simp; rfl)); (case hp => exact (Reps.one (show Kd.M Kd.string _ _ _ (⟨#[97]⟩ : ByteArray) [.string (⟨#[97]⟩ : ByteArray)] from rfl) (Reps.one (show Kd.M Kd.string _ _ _ (⟨#[98]⟩ : ByteArray) [.string (⟨#[98]⟩ : ByteArray)] from rfl) (Reps.one (show Kd.M Kd.string _ _ _ (⟨#[99]⟩ : ByteArray) [.string (⟨#[99]⟩ : ByteArray)] from rfl) (Reps.one (show Kd.M Kd.string _ _ _ (⟨#[100]⟩ : ByteArray) [.string (⟨#[100]⟩ : ByteArray)] from rfl) (Reps.none _ _)))))); intro v392 w2 ho3 hb hg_ hnew_; clear hg_ hnew_; (first | rw [← Ny391.out] at ho3 | (simp only [Int.reduceToNat] at ho3; rw [← Ny391.out] at ho3)); have HO393 := Aside0.mk (Kd.R_lower ho3 (keep_size (w := w) (g := g) (row := none) (by repeat (first | (with_reducible first | exact HK.out | apply KeepBut.set_ | apply keep_drewN | apply keep_drew | apply keep_alloc) | exact HK.out)))); replace HK := Aside0.mk (KeepBut.trans (by repeat (first | (with_reducible first | exact HK.out | apply KeepBut.set_ | apply keep_drewN | apply keep_drew | apply keep_alloc) | exact HK.out)) (KeepBut.of_below hb g none) (.inl rfl)); replace HB := Aside0.mk (below_step (by repeat (first | (with_reducible first | exact HB.out | apply bL | apply bM | apply bR | refine bS ?_ (IsS62.ge HI0.out)) | exact HB.out)) hb); replace HI0 := Aside0.mk (IsS62.below (by repeat (first | (with_reducible first | exact HI0.out | apply IsS62.alloc | apply IsS62.drewN | apply IsS62.drew | apply IsS62.set_1) | exact HI0.out)) hb); clear hb ho3))
 go_loopg [3, 5] k (fun kq v3 v5 w' => ∃ (x3_1 : List (S32)) (x5_1 : Int) (x1001_1 : Int), v5 = .int .i64 x5_1 ∧ Aside0 (clusterlocksmill_Catalog.l0 kq x3_1 y391 x5_1 s0_0 x1001_1 = some (r1, r2)) ∧ Aside0 (kq ≤ k) ∧ Aside0 (Kd.R k32 32 w' w.heap.size (fun _ => True) v3 x3_1) ∧ Aside0 (Kd.R Kd.string 9 w' w.heap.size (fun _ => True) v392 y391) ∧ Aside0 (IsS62 w0 w' g s0_0 x1001_1) ∧ Aside0 (KeepBut w w' g none) ∧ Aside0 (Below w0.heap.size w0 w'))
 case atStart => exact ⟨(([] : List (S32))), (0), (s0_1), (by first | rfl | (simp; done) | (simp [*]; done)), H', ⟨Nat.le_refl _⟩, ⟨by first | exact Kd.R_nil _ _ _ _ _ | exact Kd.N_nil _ _ _ _ _ | exact Kd.V_nil _ _ _ _ _ | exact Kd.Q_nil _ _ _ _ _ | exact Kd.S_nil _ _ _ _ _⟩, ⟨by (with_reducible repeat (first | apply Kd.R_alloc | apply Kd.R_drewN | apply Kd.R_drew)); exact HO393.out⟩, ⟨by repeat (first | (with_reducible first | exact HI0.out | apply IsS62.alloc | apply IsS62.drewN | apply IsS62.drew | apply IsS62.set_1) | exact HI0.out)⟩, ⟨by repeat (first | (with_reducible first | exact HK.out | apply KeepBut.set_ | apply keep_drewN | apply keep_drew | apply keep_alloc) | exact HK.out)⟩, ⟨by repeat (first | (with_reducible first | exact HB.out | apply bL | apply bM | apply bR | refine bS ?_ (IsS62.ge HI0.out)) | exact HB.out)⟩⟩
 case round =>
  clear H'
  try clear p2
  obtain ⟨x3_1, x5_1, x1001_1, rfl, HA, HK1, HO_3, HO_4, HI0, HK, HB⟩ := hrel
  cases gk with
  | zero => exact absurd HA.out (by simp [clusterlocksmill_Catalog.l0])
  | succ k1 =>
   have H := HA.out
   clear HA
   simp only [clusterlocksmill_Catalog.l0] at H
   by_cases c4 : x5_1 < (y391.length : Int)
   ·rw [if_pos c4] at H
    have c4b0 : decide (x5_1 < (y391.length : Int)) = true := decide_eq_true c4
    clear c4
    by_cases c5 : 0 ≤ x5_1
    ·rw [if_pos c5] at H
     have c5b0 : decide (0 ≤ x5_1) = true := decide_eq_true c5
     clear c5
     replace H := Option.bind_eq_some_iff.mp H
     obtain ⟨⟨t395, t396⟩, A60, H⟩ := H
     replace H : (if x3_1.length < 3518437208883 then (clusterlocksmill_Catalog.l0 k1 (x3_1 ++ [(⟨rdOf ByteArray.empty y391 x5_1, 1, 1, t395⟩ : S32)]) y391 (wrap64 (x5_1 + 1)) s0_0 t396) else (none)) = some (r1, r2) := H
     have A6 := Aside0.mk A60; clear A60
     by_cases c7 : x3_1.length < 3518437208883
     ·rw [if_pos c7] at H
      have LMc7 := Aside0.mk c7
      clear c7
      obtain ⟨y397, hy397⟩ : ∃ y_ : List (S32), y_ = (x3_1 ++ [(⟨rdOf ByteArray.empty y391 x5_1, 1, 1, t395⟩ : S32)]) := ⟨_, rfl⟩
      replace H : (clusterlocksmill_Catalog.l0 k1 y397 y391 (wrap64 (x5_1 + 1)) s0_0 t396) = some (r1, r2) := by first | (rw [hy397]; with_reducible exact H) | (have H2_ := (Option.bind_some _ _).symm.trans H; rw [hy397]; with_reducible exact H2_) | (have H2_ := (Option.bind_some _ _).symm.trans H; with_reducible exact H2_) | with_reducible exact H | (rw [hy397]; exact H) | exact H
      have Ny397 := Aside0.mk hy397
      clear hy397
      have H' := Aside0.mk H
      clear H
      obtain ⟨Ao8, co8, eo8⟩ := Kd.R_slice HO_4.out
      subst eo8
      try go_wp2
      replace HO_3 := Aside0.mk (Kd.R_drew HO_3.out)
      replace HO_4 := Aside0.mk (Kd.R_drew HO_4.out)
      replace HI0 := Aside0.mk (IsS62.drew HI0.out)
      replace HK := Aside0.mk (keep_drew HK.out)
      replace HB := Aside0.mk (below_drew1 HB.out)
      have p394 : 0 ≤ (x5_1 : Int) := of_decide_eq_true (by first | (with_reducible assumption) | assumption)
      have q394 : x5_1 < (y391.length : Int) := of_decide_eq_true (by first | (with_reducible assumption) | assumption)
      obtain ⟨ad394, e394, hx394_0⟩ := Kd.at_string (Kd.R_reads' HO_4.out).2.2 x5_1 p394 q394
      cases e394
      replace p394 := eq_true p394
      replace q394 := eq_true q394
      refine start_ (n := 11) (S := fun w' => w'.cell? (ad394.add (x5_1).toNat) = some (.string (rdOf ByteArray.empty y391 x5_1))) (ds := [8, 9]) #[F,F,F,F,F,F,F,F,F,F,F] (by kernel_rfl) rfl rfl (hx394_0) (fun hHeld => ?_); refine with_tabW clusterlocksmill_Catalog.tab6 clusterlocksmill_Catalog.bits6 (fun HT_ HW_ => ?_)
      generalize wr.drew = w9 at HO_3 HO_4 HI0 HK HB hx394_0 hHeld ⊢
      refine pu HT_ 0 13 #[T,F,F,F,F,F,F,F,F,F,F] rfl rfl (by kernel_rfl) (fun _ _ _ => id) (.inl ⟨by rfl, by intro w'; go_simp; with_reducible rfl⟩) (by simp only [sP]; rfl) ?_
      refine pu HT_ 1 14 #[T,T,F,F,F,F,F,F,F,F,F] rfl rfl (by kernel_rfl) (fun _ _ _ => id) (.inl ⟨by rfl, by intro w'; go_simp; with_reducible rfl⟩) (by simp only [sP]; rfl) ?_
      refine pu HT_ 2 15 #[T,T,T,F,F,F,F,F,F,F,F] rfl rfl (by kernel_rfl) (fun _ _ _ => id) (.inl ⟨by rfl, by intro w'; go_simp; with_reducible rfl⟩) (by simp only [sP]; rfl) ?_
      refine pu HT_ 3 16 #[T,T,T,T,F,F,F,F,F,F,F] rfl rfl (by kernel_rfl) (fun _ _ _ => id) (.inl ⟨by rfl, by intro w'; go_simp; with_reducible rfl⟩) (by simp only [sP]; rfl) ?_
      refine pu HT_ 5 18 #[T,T,T,T,F,T,F,F,F,F,F] rfl rfl (by kernel_rfl) (fun _ _ _ => id) (.inl ⟨by rfl, by intro w'; go_simp; with_reducible rfl⟩) (by simp only [sP]; rfl) ?_
      refine tk HT_ HW_ 4 17 #[T,T,T,T,T,T,F,F,F,F,F] rfl rfl (by kernel_rfl) (fun _ _ _ => id) (.inl ⟨by rfl, by intro w' s0; go_simp; with_reducible rfl⟩) hHeld (by simp only [sP]; rfl) ?_
      refine one_ (i := 6) (N := some 19) #[T,T,T,T,T,T,T,F,F,F,F] rfl rfl (one_of HT_.out (by kernel_rfl)) (by decide) (fun K hK => ?_)
      refine goes_ Tryd.func59 (by kernel_rfl) rfl #[.pointer (some ⟨g, 0, none⟩), .int .i64 4] (by rfl) rfl rfl (by (try simp only [mA]); first | done | rfl) ?_
      with_reducible refine (clusterlocksmill_Tape_Next.calls g s0_0 x1001_1 4 t395 t396 w0 _ ?side1 ?side2 A6.out).mono ?_
      (case side1 => repeat (first | (with_reducible first | exact HI0.out | apply IsS62.alloc | apply IsS62.drewN | apply IsS62.drew | apply IsS62.set_1) | exact HI0.out))
      (case side2 => repeat (first | (with_reducible first | exact HB.out | apply bL | apply bM | apply bR | refine bS ?_ (IsS62.ge HI0.out)) | exact HB.out))
      rintro e w10 ⟨rfl, hi, hb, hk⟩
      have HS0_ := keep_cell hk (hHeld) (by first | (rw [add_block]; exact Kd.own_blk (IsS62.own_ne HI0.out HO_4.out (by decide))) | (show (Addr.add _ _).block ≠ _; rw [add_block]; exact Kd.own_blk (IsS62.own_ne HI0.out HO_4.out (by decide))) | exact Kd.own_blk (IsS62.own_ne HI0.out HO_4.out (by decide)))
      refine ⟨_, rfl, ?_⟩
      replace HO_3 := Aside0.mk (Kd.R_mono (Kd.R_keep (IsS62.apart (show IsS62 w0 _ g s0_0 x1001_1 from by repeat (first | (with_reducible first | exact HI0.out | apply IsS62.alloc | apply IsS62.drewN | apply IsS62.drew | apply IsS62.set_1) | exact HI0.out)) (by (with_reducible repeat (first | apply Kd.R_alloc | apply Kd.R_drewN | apply Kd.R_drew)); exact HO_3.out) (by decide)) hk (fun _ h => h.2)) (fun _ h => h.1))
      replace HO_4 := Aside0.mk (Kd.R_mono (Kd.R_keep (IsS62.apart (show IsS62 w0 _ g s0_0 x1001_1 from by repeat (first | (with_reducible first | exact HI0.out | apply IsS62.alloc | apply IsS62.drewN | apply IsS62.drew | apply IsS62.set_1) | exact HI0.out)) (by (with_reducible repeat (first | apply Kd.R_alloc | apply Kd.R_drewN | apply Kd.R_drew)); exact HO_4.out) (by decide)) hk (fun _ h => h.2)) (fun _ h => h.1))
      replace HK := Aside0.mk (KeepBut.trans (by repeat (first | (with_reducible first | exact HK.out | apply KeepBut.set_ | apply keep_drewN | apply keep_drew | apply keep_alloc) | exact HK.out)) hk (.inl rfl))
      replace HB := Aside0.mk (hb)
      replace HI0 := Aside0.mk (hi)
      (try clear hb)
      (try clear hb2)
      (try clear hk)
      (try clear hi)
      refine hK.out _ _ (HS0_) (fun hHeld => ?_)
      clear hK K
      refine norm_ (a' := ?_) ?_ ?_
      rotate_left
      ·show Act.put _ (some 19) _ = _
       simp only [sP]
       rfl
      refine pu HT_ 7 20 #[T,T,T,T,T,T,T,T,F,F,F] rfl rfl (by kernel_rfl) (fun _ _ _ => id) (.inl ⟨by rfl, by intro w'; go_simp; with_reducible rfl⟩) (by simp only [sP]; rfl) ?_
      refine last_ (i := 8) (N := some 21) #[T,T,T,T,T,T,T,T,T,F,F] rfl rfl (one_of HT_.out (by kernel_rfl)) (by decide) (fun K hK => ?_)
      refine value_ (w1 := ?_) (v := ?_) (by rfl) rfl ?_ ?_
      rotate_left 2
      ·go_simp
       constructor
       ·rfl
       ·rfl
      refine hK.out _ _ ?_
      clear hK K
      refine norm_ (a' := ?_) ?_ ?_
      rotate_left
      ·show Act.put _ (some 21) _ = _
       simp only [sP]
       rfl
      refine last_ (i := 9) (N := some 22) #[T,T,T,T,T,T,T,T,T,T,F] rfl rfl (one_of HT_.out (by kernel_rfl)) (by decide) (fun K hK => ?_)
      refine Kd.R_append_step k32 w.heap.size (by rfl) (.tmp 13) (.tmp 21) 63 32 (.agg #[(.string ⟨#[]⟩), (.int .i64 0), (.int .i64 0), (.int .i64 0)]) 40 rfl Tryd.underlying63 info32 rfl (by decide) (by omega) u3 x3_1 (⟨rdOf ByteArray.empty y391 x5_1, 1, 1, t395⟩ : S32) [.string (rdOf ByteArray.empty y391 x5_1), .int .i64 1, .int .i64 1, .int .i64 t395] (fun _ => True) (fun _ => False) rfl rfl ?aP (fun _ hk => hk.elim) ?aF ?aO (Below.refl _ _) ?aS ?aL ?_
      (case aP => exact k32_mkM _ _ _ (⟨rdOf ByteArray.empty y391 x5_1, 1, 1, t395⟩ : S32))
      (case aF => exact (fun _ _ => trivial))
      (case aO => exact (by (with_reducible repeat (first | apply Kd.R_alloc | apply Kd.R_drewN | apply Kd.R_drew)); exact HO_3.out))
      (case aS => exact (keep_size (w := w) (g := g) (row := none) (by repeat (first | (with_reducible first | exact HK.out | apply KeepBut.set_ | apply keep_drewN | apply keep_drew | apply keep_alloc) | exact HK.out))))
      (case aL => have := LMc7.out; omega)
      intro v398 w11 ho hb hg hat
      rw [← Ny397.out] at ho
      replace HO_4 := Aside0.mk (Kd.R_over' (by (with_reducible repeat (first | apply Kd.R_alloc | apply Kd.R_drewN | apply Kd.R_drew)); exact HO_4.out) (Kd.R_typed (by (with_reducible repeat (first | apply Kd.R_alloc | apply Kd.R_drewN | apply Kd.R_drew)); exact HO_3.out)) (by decide) hg)
      replace HB := Aside0.mk (below_weaken (by repeat (first | (with_reducible first | exact HB.out | apply bL | apply bM | apply bR | refine bS ?_ (IsS62.ge HI0.out)) | exact HB.out)) HL.out hb)
      replace HI0 := Aside0.mk (IsS62.grown (by repeat (first | (with_reducible first | exact HI0.out | apply IsS62.alloc | apply IsS62.drewN | apply IsS62.drew | apply IsS62.set_1) | exact HI0.out)) hg (IsS62.own_ne HI0.out HO_3.out (by decide)))
      replace HK := Aside0.mk (KeepBut.trans (by repeat (first | (with_reducible first | exact HK.out | apply KeepBut.set_ | apply keep_drewN | apply keep_drew | apply keep_alloc) | exact HK.out)) (KeepBut.of_grown hg g) (Kd.R_base2 HO_3.out))
      have HO399 := Aside0.mk (ho)
      clear HO_3
      clear ho hb hg hat
      refine hK.out _ _ ?_
      clear hK K
      refine norm_ (a' := ?_) ?_ ?_
      rotate_left
      ·show Act.put _ (some 22) _ = _
       simp only [sP]
       rfl
      refine pu HT_ 10 3 #[T,T,T,T,T,T,T,T,T,T,T] rfl rfl (by kernel_rfl) (fun _ _ _ => id) (.inl ⟨by rfl, by intro w'; go_simp; with_reducible rfl⟩) (by simp only [sP]; rfl) ?_
      refine done_ (done_of HT_.out (by kernel_rfl)) ?_
      try go_wp2
      go_roundg k1
      case measure => have := HK1.out; omega
      case rel => exact ⟨(y397), (wrap64 (x5_1 + 1)), (t396), (by first | rfl | (simp; done) | (simp [*]; done)), H', ⟨by have := HK1.out; omega⟩, ⟨by (with_reducible repeat (first | apply Kd.R_alloc | apply Kd.R_drewN | apply Kd.R_drew)); exact HO399.out⟩, ⟨by (with_reducible repeat (first | apply Kd.R_alloc | apply Kd.R_drewN | apply Kd.R_drew)); exact HO_4.out⟩, ⟨by repeat (first | (with_reducible first | exact HI0.out | apply IsS62.alloc | apply IsS62.drewN | apply IsS62.drew | apply IsS62.set_1) | exact HI0.out)⟩, ⟨by repeat (first | (with_reducible first | exact HK.out | apply KeepBut.set_ | apply keep_drewN | apply keep_drew | apply keep_alloc) | exact HK.out)⟩, ⟨by repeat (first | (with_reducible first | exact HB.out | apply bL | apply bM | apply bR | refine bS ?_ (IsS62.ge HI0.out)) | exact HB.out)⟩⟩
     ·rw [if_neg c7] at H
      exact absurd H (by simp)
    ·rw [if_neg c5] at H
     exact absurd H (by simp)
   ·rw [if_neg c4] at H
    have c4b0 : decide (x5_1 < (y391.length : Int)) = false := decide_eq_false c4
    clear c4
    replace H := Option.bind_eq_some_iff.mp H
    obtain ⟨⟨t400, t401⟩, A120, H⟩ := H
    replace H : ((clusterlocksmill_Tape_Next.f s0_0 t401 4).bind fun bt402 => (if x3_1.length < 3518437208883 then ((some (x3_1 ++ [(⟨(⟨#[112]⟩ : ByteArray), 2, wrap64 (1 + t400), bt402.1⟩ : S32)] : List (S32))).bind fun y404 => ((clusterlocksmill_Tape_Next.f s0_0 bt402.2 3).bind fun bt407 => ((clusterlocksmill_Tape_Next.f s0_0 bt407.2 4).bind fun bt409 => (if y404.length < 3518437208883 then (some ((y404 ++ [(⟨(⟨#[113]⟩ : ByteArray), 2, wrap64 (1 + bt407.1), bt409.1⟩ : S32)]), bt409.2)) else (none))))) else (none))) = some (r1, r2) := H
    have A12 := Aside0.mk A120; clear A120
    replace H := Option.bind_eq_some_iff.mp H
    obtain ⟨⟨t402, t403⟩, A130, H⟩ := H
    replace H : (if x3_1.length < 3518437208883 then ((some (x3_1 ++ [(⟨(⟨#[112]⟩ : ByteArray), 2, wrap64 (1 + t400), t402⟩ : S32)] : List (S32))).bind fun y404 => ((clusterlocksmill_Tape_Next.f s0_0 t403 3).bind fun bt407 => ((clusterlocksmill_Tape_Next.f s0_0 bt407.2 4).bind fun bt409 => (if y404.length < 3518437208883 then (some ((y404 ++ [(⟨(⟨#[113]⟩ : ByteArray), 2, wrap64 (1 + bt407.1), bt409.1⟩ : S32)]), bt409.2)) else (none))))) else (none)) = some (r1, r2) := H
    have A13 := Aside0.mk A130; clear A130
    by_cases c14 : x3_1.length < 3518437208883
    ·rw [if_pos c14] at H
     have LMc14 := Aside0.mk c14
     clear c14
     obtain ⟨y404, hy404⟩ : ∃ y_ : List (S32), y_ = (x3_1 ++ [(⟨(⟨#[112]⟩ : ByteArray), 2, wrap64 (1 + t400), t402⟩ : S32)]) := ⟨_, rfl⟩
     replace H : ((clusterlocksmill_Tape_Next.f s0_0 t403 3).bind fun bt407 => ((clusterlocksmill_Tape_Next.f s0_0 bt407.2 4).bind fun bt409 => (if y404.length < 3518437208883 then (some ((y404 ++ [(⟨(⟨#[113]⟩ : ByteArray), 2, wrap64 (1 + bt407.1), bt409.1⟩ : S32)]), bt409.2)) else (none)))) = some (r1, r2) := by first | (rw [hy404]; with_reducible exact H) | (have H2_ := (Option.bind_some _ _).symm.trans H; rw [hy404]; with_reducible exact H2_) | (have H2_ := (Option.bind_some _ _).symm.trans H; with_reducible exact H2_) | with_reducible exact H | (rw [hy404]; exact H) | exact H
     have Ny404 := Aside0.mk hy404
     clear hy404
     replace H := Option.bind_eq_some_iff.mp H
     obtain ⟨⟨t407, t408⟩, A150, H⟩ := H
     replace H : ((clusterlocksmill_Tape_Next.f s0_0 t408 4).bind fun bt409 => (if y404.length < 3518437208883 then (some ((y404 ++ [(⟨(⟨#[113]⟩ : ByteArray), 2, wrap64 (1 + t407), bt409.1⟩ : S32)]), bt409.2)) else (none))) = some (r1, r2) := H
     have A15 := Aside0.mk A150; clear A150
     replace H := Option.bind_eq_some_iff.mp H
     obtain ⟨⟨t409, t410⟩, A160, H⟩ := H
     replace H : (if y404.length < 3518437208883 then (some ((y404 ++ [(⟨(⟨#[113]⟩ : ByteArray), 2, wrap64 (1 + t407), t409⟩ : S32)]), t410)) else (none)) = some (r1, r2) := H
     have A16 := Aside0.mk A160; clear A160
     by_cases c17 : y404.length < 3518437208883
     ·rw [if_pos c17] at H
      have LMc17 := Aside0.mk c17
      clear c17
      obtain ⟨y411, hy411⟩ : ∃ y_ : List (S32), y_ = (y404 ++ [(⟨(⟨#[113]⟩ : ByteArray), 2, wrap64 (1 + t407), t409⟩ : S32)]) := ⟨_, rfl⟩
      replace H : (some (y411, t410)) = some (r1, r2) := by first | (rw [hy411]; with_reducible exact H) | (have H2_ := (Option.bind_some _ _).symm.trans H; rw [hy411]; with_reducible exact H2_) | (have H2_ := (Option.bind_some _ _).symm.trans H; with_reducible exact H2_) | with_reducible exact H | (rw [hy411]; exact H) | exact H
      have Ny411 := Aside0.mk hy411
      clear hy411
      simp only [Option.some.injEq, Prod.mk.injEq] at H
      obtain ⟨rfl, rfl⟩ := H
      obtain ⟨Ao18, co18, eo18⟩ := Kd.R_slice HO_4.out
      subst eo18
      go_wp2_with (first | ((with_reducible refine gate_callee (f := 59) rfl ?_); refine goesL_ (some 25) rfl rfl Tryd.func59 (by kernel_rfl) rfl #[.pointer (some ⟨g, 0, none⟩), .int .i64 8] rfl (by (try simp only [mA]); first | done | rfl) ?_; (with_reducible refine (clusterlocksmill_Tape_Next.calls g s0_0 x1001_1 8 t400 t401 w0 _ ?side1 ?side2 A12.out).mono ?_); (case side1 => repeat (first | (with_reducible first | exact HI0.out | apply IsS62.alloc | apply IsS62.drewN | apply IsS62.drew | apply IsS62.set_1) | exact HI0.out)); (case side2 => repeat (first | (with_reducible first | exact HB.out | apply bL | apply bM | apply bR | refine bS ?_ (IsS62.ge HI0.out)) | exact HB.out)); rintro e w19 ⟨rfl, hi, hb, hk⟩; refine ⟨_, rfl, ?_⟩; replace HO_3 := Aside0.mk (Kd.R_mono (Kd.R_keep (IsS62.apart (show IsS62 w0 _ g s0_0 x1001_1 from by repeat (first | (with_reducible first | exact HI0.out | apply IsS62.alloc | apply IsS62.drewN | apply IsS62.drew | apply IsS62.set_1) | exact HI0.out)) (by (with_reducible repeat (first | apply Kd.R_alloc | apply Kd.R_drewN | apply Kd.R_drew)); exact HO_3.out) (by decide)) hk (fun _ h => h.2)) (fun _ h => h.1)); replace HO_4 := Aside0.mk (Kd.R_mono (Kd.R_keep (IsS62.apart (show IsS62 w0 _ g s0_0 x1001_1 from by repeat (first | (with_reducible first | exact HI0.out | apply IsS62.alloc | apply IsS62.drewN | apply IsS62.drew | apply IsS62.set_1) | exact HI0.out)) (by (with_reducible repeat (first | apply Kd.R_alloc | apply Kd.R_drewN | apply Kd.R_drew)); exact HO_4.out) (by decide)) hk (fun _ h => h.2)) (fun _ h => h.1)); replace HK := Aside0.mk (KeepBut.trans (by repeat (first | (with_reducible first | exact HK.out | apply KeepBut.set_ | apply keep_drewN | apply keep_drew | apply keep_alloc) | exact HK.out)) hk (.inl rfl)); replace HB := Aside0.mk (hb); replace HI0 := Aside0.mk (hi); (try clear hb); (try clear hb2); (try clear hk); (try clear hi)) | ((with_reducible refine gate_callee (f := 59) rfl ?_); refine goesL_ (some 28) rfl rfl Tryd.func59 (by kernel_rfl) rfl #[.pointer (some ⟨g, 0, none⟩), .int .i64 4] rfl (by (try simp only [mA]); first | done | rfl) ?_; (with_reducible refine (clusterlocksmill_Tape_Next.calls g s0_0 t401 4 t402 t403 w0 _ ?side1 ?side2 A13.out).mono ?_); (case side1 => repeat (first | (with_reducible first | exact HI0.out | apply IsS62.alloc | apply IsS62.drewN | apply IsS62.drew | apply IsS62.set_1) | exact HI0.out)); (case side2 => repeat (first | (with_reducible first | exact HB.out | apply bL | apply bM | apply bR | refine bS ?_ (IsS62.ge HI0.out)) | exact HB.out)); rintro e w20 ⟨rfl, hi, hb, hk⟩; refine ⟨_, rfl, ?_⟩; replace HO_3 := Aside0.mk (Kd.R_mono (Kd.R_keep (IsS62.apart (show IsS62 w0 _ g s0_0 t401 from by repeat (first | (with_reducible first | exact HI0.out | apply IsS62.alloc | apply IsS62.drewN | apply IsS62.drew | apply IsS62.set_1) | exact HI0.out)) (by (with_reducible repeat (first | apply Kd.R_alloc | apply Kd.R_drewN | apply Kd.R_drew)); exact HO_3.out) (by decide)) hk (fun _ h => h.2)) (fun _ h => h.1)); replace HO_4 := Aside0.mk (Kd.R_mono (Kd.R_keep (IsS62.apart (show IsS62 w0 _ g s0_0 t401 from by repeat (first | (with_reducible first | exact HI0.out | apply IsS62.alloc | apply IsS62.drewN | apply IsS62.drew | apply IsS62.set_1) | exact HI0.out)) (by (with_reducible repeat (first | apply Kd.R_alloc | apply Kd.R_drewN | apply Kd.R_drew)); exact HO_4.out) (by decide)) hk (fun _ h => h.2)) (fun _ h => h.1)); replace HK := Aside0.mk (KeepBut.trans (by repeat (first | (with_reducible first | exact HK.out | apply KeepBut.set_ | apply keep_drewN | apply keep_drew | apply keep_alloc) | exact HK.out)) hk (.inl rfl)); replace HB := Aside0.mk (hb); replace HI0 := Aside0.mk (hi); (try clear hb); (try clear hb2); (try clear hk); (try clear hi)) | ((with_reducible refine gate_builtin (b := .append) (xs := #[.tmp 23, .tmp 30]) rfl ?_); at_builtin; refine Kd.R_append k32 w.heap.size rfl (.tmp 23) (.tmp 30) 63 32 (.agg #[(.string ⟨#[]⟩), (.int .i64 0), (.int .i64 0), (.int .i64 0)]) 40 rfl Tryd.underlying63 info32 rfl (by decide) (by omega) u3 x3_1 (⟨(⟨#[112]⟩ : ByteArray), 2, wrap64 (1 + t400), t402⟩ : S32) [.string (⟨#[112]⟩ : ByteArray), .int .i64 2, .int .i64 (wrap64 (1 + t400)), .int .i64 t402] (fun _ => True) (fun _ => False) rfl rfl ?aP (fun _ hk => hk.elim) ?aF ?aO (Below.refl _ _) ?aS ?aL ?_; (case aP => exact k32_mkM _ _ _ (⟨(⟨#[112]⟩ : ByteArray), 2, wrap64 (1 + t400), t402⟩ : S32)); (case aF => exact (fun _ _ => trivial)); (case aO => exact (by (with_reducible repeat (first | apply Kd.R_alloc | apply Kd.R_drewN | apply Kd.R_drew)); exact HO_3.out)); (case aS => exact (keep_size (w := w) (g := g) (row := none) (by repeat (first | (with_reducible first | exact HK.out | apply KeepBut.set_ | apply keep_drewN | apply keep_drew | apply keep_alloc) | exact HK.out)))); (case aL => have := LMc14.out; omega); intro v405 w21 ho hb hg hat; rw [← Ny404.out] at ho; replace HO_4 := Aside0.mk (Kd.R_over' (by (with_reducible repeat (first | apply Kd.R_alloc | apply Kd.R_drewN | apply Kd.R_drew)); exact HO_4.out) (Kd.R_typed (by (with_reducible repeat (first | apply Kd.R_alloc | apply Kd.R_drewN | apply Kd.R_drew)); exact HO_3.out)) (by decide) hg); replace HB := Aside0.mk (below_weaken (by repeat (first | (with_reducible first | exact HB.out | apply bL | apply bM | apply bR | refine bS ?_ (IsS62.ge HI0.out)) | exact HB.out)) HL.out hb); replace HI0 := Aside0.mk (IsS62.grown (by repeat (first | (with_reducible first | exact HI0.out | apply IsS62.alloc | apply IsS62.drewN | apply IsS62.drew | apply IsS62.set_1) | exact HI0.out)) hg (IsS62.own_ne HI0.out HO_3.out (by decide))); replace HK := Aside0.mk (KeepBut.trans (by repeat (first | (with_reducible first | exact HK.out | apply KeepBut.set_ | apply keep_drewN | apply keep_drew | apply keep_alloc) | exact HK.out)) (KeepBut.of_grown hg g) (Kd.R_base2 HO_3.out)); have HO406 := Aside0.mk (ho); clear HO_3; clear ho hb hg hat) | ((with_reducible refine gate_callee (f := 59) rfl ?_); refine goesL_ (some 34) rfl rfl Tryd.func59 (by kernel_rfl) rfl #[.pointer (some ⟨g, 0, none⟩), .int .i64 3] rfl (by (try simp only [mA]); first | done | rfl) ?_; (with_reducible refine (clusterlocksmill_Tape_Next.calls g s0_0 t403 3 t407 t408 w0 _ ?side1 ?side2 A15.out).mono ?_); (case side1 => repeat (first | (with_reducible first | exact HI0.out | apply IsS62.alloc | apply IsS62.drewN | apply IsS62.drew | apply IsS62.set_1) | exact HI0.out)); (case side2 => repeat (first | (with_reducible first | exact HB.out | apply bL | apply bM | apply bR | refine bS ?_ (IsS62.ge HI0.out)) | exact HB.out)); rintro e w22 ⟨rfl, hi, hb, hk⟩; refine ⟨_, rfl, ?_⟩; replace HO_4 := Aside0.mk (Kd.R_mono (Kd.R_keep (IsS62.apart (show IsS62 w0 _ g s0_0 t403 from by repeat (first | (with_reducible first | exact HI0.out | apply IsS62.alloc | apply IsS62.drewN | apply IsS62.drew | apply IsS62.set_1) | exact HI0.out)) (by (with_reducible repeat (first | apply Kd.R_alloc | apply Kd.R_drewN | apply Kd.R_drew)); exact HO_4.out) (by decide)) hk (fun _ h => h.2)) (fun _ h => h.1)); replace HO406 := Aside0.mk (Kd.R_mono (Kd.R_keep (IsS62.apart (show IsS62 w0 _ g s0_0 t403 from by repeat (first | (with_reducible first | exact HI0.out | apply IsS62.alloc | apply IsS62.drewN | apply IsS62.drew | apply IsS62.set_1) | exact HI0.out)) (by (with_reducible repeat (first | apply Kd.R_alloc | apply Kd.R_drewN | apply Kd.R_drew)); exact HO406.out) (by decide)) hk (fun _ h => h.2)) (fun _ h => h.1)); replace HK := Aside0.mk (KeepBut.trans (by repeat (first | (with_reducible first | exact HK.out | apply KeepBut.set_ | apply keep_drewN | apply keep_drew | apply keep_alloc) | exact HK.out)) hk (.inl rfl)); replace HB := Aside0.mk (hb); replace HI0 := Aside0.mk (hi); (try clear hb); (try clear hb2); (try clear hk); (try clear hi)) | ((with_reducible refine gate_callee (f := 59) rfl ?_); refine goesL_ (some 37) rfl rfl Tryd.func59 (by kernel_rfl) rfl #[.pointer (some ⟨g, 0, none⟩), .int .i64 4] rfl (by (try simp only [mA]); first | done | rfl) ?_; (with_reducible refine (clusterlocksmill_Tape_Next.calls g s0_0 t408 4 t409 t410 w0 _ ?side1 ?side2 A16.out).mono ?_); (case side1 => repeat (first | (with_reducible first | exact HI0.out | apply IsS62.alloc | apply IsS62.drewN | apply IsS62.drew | apply IsS62.set_1) | exact HI0.out)); (case side2 => repeat (first | (with_reducible first | exact HB.out | apply bL | apply bM | apply bR | refine bS ?_ (IsS62.ge HI0.out)) | exact HB.out)); rintro e w23 ⟨rfl, hi, hb, hk⟩; refine ⟨_, rfl, ?_⟩; replace HO_4 := Aside0.mk (Kd.R_mono (Kd.R_keep (IsS62.apart (show IsS62 w0 _ g s0_0 t408 from by repeat (first | (with_reducible first | exact HI0.out | apply IsS62.alloc | apply IsS62.drewN | apply IsS62.drew | apply IsS62.set_1) | exact HI0.out)) (by (with_reducible repeat (first | apply Kd.R_alloc | apply Kd.R_drewN | apply Kd.R_drew)); exact HO_4.out) (by decide)) hk (fun _ h => h.2)) (fun _ h => h.1)); replace HO406 := Aside0.mk (Kd.R_mono (Kd.R_keep (IsS62.apart (show IsS62 w0 _ g s0_0 t408 from by repeat (first | (with_reducible first | exact HI0.out | apply IsS62.alloc | apply IsS62.drewN | apply IsS62.drew | apply IsS62.set_1) | exact HI0.out)) (by (with_reducible repeat (first | apply Kd.R_alloc | apply Kd.R_drewN | apply Kd.R_drew)); exact HO406.out) (by decide)) hk (fun _ h => h.2)) (fun _ h => h.1)); replace HK := Aside0.mk (KeepBut.trans (by repeat (first | (with_reducible first | exact HK.out | apply KeepBut.set_ | apply keep_drewN | apply keep_drew | apply keep_alloc) | exact HK.out)) hk (.inl rfl)); replace HB := Aside0.mk (hb); replace HI0 := Aside0.mk (hi); (try clear hb); (try clear hb2); (try clear hk); (try clear hi)) | ((with_reducible refine gate_builtin (b := .append) (xs := #[.tmp 32, .tmp 39]) rfl ?_); at_builtin; refine Kd.R_append k32 w.heap.size rfl (.tmp 32) (.tmp 39) 63 32 (.agg #[(.string ⟨#[]⟩), (.int .i64 0), (.int .i64 0), (.int .i64 0)]) 40 rfl Tryd.underlying63 info32 rfl (by decide) (by omega) v405 y404 (⟨(⟨#[113]⟩ : ByteArray), 2, wrap64 (1 + t407), t409⟩ : S32) [.string (⟨#[113]⟩ : ByteArray), .int .i64 2, .int .i64 (wrap64 (1 + t407)), .int .i64 t409] (fun _ => True) (fun _ => False) rfl rfl ?aP (fun _ hk => hk.elim) ?aF ?aO (Below.refl _ _) ?aS ?aL ?_; (case aP => exact k32_mkM _ _ _ (⟨(⟨#[113]⟩ : ByteArray), 2, wrap64 (1 + t407), t409⟩ : S32)); (case aF => exact (fun _ _ => trivial)); (case aO => exact (by (with_reducible repeat (first | apply Kd.R_alloc | apply Kd.R_drewN | apply Kd.R_drew)); exact HO406.out)); (case aS => exact (keep_size (w := w) (g := g) (row := none) (by repeat (first | (with_reducible first | exact HK.out | apply KeepBut.set_ | apply keep_drewN | apply keep_drew | apply keep_alloc) | exact HK.out)))); (case aL => have := LMc17.out; omega); intro v412 w24 ho hb hg hat; rw [← Ny411.out] at ho; replace HO_4 := Aside0.mk (Kd.R_over' (by (with_reducible repeat (first | apply Kd.R_alloc | apply Kd.R_drewN | apply Kd.R_drew)); exact HO_4.out) (Kd.R_typed (by (with_reducible repeat (first | apply Kd.R_alloc | apply Kd.R_drewN | apply Kd.R_drew)); exact HO406.out)) (by decide) hg); replace HB := Aside0.mk (below_weaken (by repeat (first | (with_reducible first | exact HB.out | apply bL | apply bM | apply bR | refine bS ?_ (IsS62.ge HI0.out)) | exact HB.out)) HL.out hb); replace HI0 := Aside0.mk (IsS62.grown (by repeat (first | (with_reducible first | exact HI0.out | apply IsS62.alloc | apply IsS62.drewN | apply IsS62.drew | apply IsS62.set_1) | exact HI0.out)) hg (IsS62.own_ne HI0.out HO406.out (by decide))); replace HK := Aside0.mk (KeepBut.trans (by repeat (first | (with_reducible first | exact HK.out | apply KeepBut.set_ | apply keep_drewN | apply keep_drew | apply keep_alloc) | exact HK.out)) (KeepBut.of_grown hg g) (Kd.R_base2 HO406.out)); have HO413 := Aside0.mk (ho); clear HO406; clear ho hb hg hat))
      go_ret
      exact ⟨_, by first | rfl | (simp [errW_none, errW_some] <;> rfl) | (simp [*, errW_none, errW_some] <;> rfl), by (with_reducible repeat (first | apply Kd.R_alloc | apply Kd.R_drewN | apply Kd.R_drew)); exact HO413.out, by repeat (first | (with_reducible first | exact HI0.out | apply IsS62.alloc | apply IsS62.drewN | apply IsS62.drew | apply IsS62.set_1) | exact HI0.out), by repeat (first | (with_reducible first | exact HB.out | apply bL | apply bM | apply bR | refine bS ?_ (IsS62.ge HI0.out)) | exact HB.out), by repeat (first | (with_reducible first | exact HK.out | apply KeepBut.set_ | apply keep_drewN | apply keep_drew | apply keep_alloc) | exact HK.out)⟩
     ·rw [if_neg c17] at H
      exact absurd H (by simp)
    ·rw [if_neg c14] at H
     exact absurd H (by simp)
end Go.Proofs.YtnmemkphfgdplaaDoor.PA
namespace Go.Proofs.YtnmemkphfgdplaaDoor.PA
open Go.RowKit Go.Proofs.YtnmemkphfgdplaaDoorW.PrintWords Go.Proofs.YtnmemkphfgdplaaDoorW.PrintLast Go.Proofs.YtnmemkphfgdplaaDoorW.PrintMore
attribute [local go_sem] max2_int min2_int max_two min_two max_three min_three max_four min_four
set_option linter.unusedVariables false
set_option linter.unusedSimpArgs false
def clusterlocksmill_Resource.f (k : Nat) (n : Int) : Option (ByteArray × Int × Int × Int) := (clusterlocksmill_Catalog.f k [n, n / 4, n / 16, n / 64, n / 256, n / 1024, n / 4096, n / 16384] 0).bind fun c => (clusterlocksmill_Mod.f n (c.1.length : Int)).bind fun i => if 0 ≤ i then (if i < (c.1.length : Int) then some ((rd_T32 c.1 i).f0, (rd_T32 c.1 i).f1, (rd_T32 c.1 i).f2, (rd_T32 c.1 i).f3) else none) else none
theorem clusterlocksmill_Resource.mono : ∀ k n, LeO (clusterlocksmill_Resource.f k n) (clusterlocksmill_Resource.f (k + 1) n) := by
 intro k n
 unfold clusterlocksmill_Resource.f
 exact LeO.bind (clusterlocksmill_Catalog.mono _ _ _) (fun _ => LeO.refl _)
set_option maxHeartbeats 4000000 in
set_option maxRecDepth 100000 in
theorem clusterlocksmill_Resource.calls (k : Nat) (a0 : Int) (r1 : ByteArray) (r2 r3 r4 : Int) (w : World) (h : clusterlocksmill_Resource.f k a0 = some (r1, r2, r3, r4)) :
  Calls Tryd.prog 21 #[.int .i64 a0] w fun e w' => e = .returned (.agg #[.string r1, .int .i64 r2, .int .i64 r3, .int .i64 r4]) ∧ Below w.heap.size w w' := by
 have hu32 := Tryd.underlying32
 have hu62 := Tryd.underlying62
 have HB := Aside0.mk (Below.refl w.heap.size w)
 unfold clusterlocksmill_Resource.f at h
 obtain ⟨L, hL⟩ : ∃ y : List Int, y = [a0, a0 / 4, a0 / 16, a0 / 64, a0 / 256, a0 / 1024, a0 / 4096, a0 / 16384] := ⟨_, rfl⟩
 rw [← hL] at h
 have NL := Aside0.mk hL
 clear hL
 obtain ⟨⟨l, at_⟩, h1, h⟩ := Option.bind_eq_some_iff.mp h
 obtain ⟨i, h2, h⟩ := Option.bind_eq_some_iff.mp h
 simp only at h2 h
 have A1 := Aside0.mk h1
 have A2 := Aside0.mk h2
 clear h1 h2
 by_cases c1 : 0 ≤ i
 ·rw [if_pos c1] at h
  by_cases c2 : i < (l.length : Int)
  ·rw [if_pos c2] at h
   simp only [Option.some.injEq, Prod.mk.injEq] at h
   obtain ⟨rfl, rfl, rfl, rfl⟩ := h
   have P1 := Aside0.mk c1
   have P2 := Aside0.mk c2
   clear c1 c2
   go_enter Tryd.func21, Tryd.ntmps21
   go_wp2_with (first | ((with_reducible refine gate_dst (N := 2) rfl ?_); refine box_event ?hg (N := 2) ?hd (cs := #[.string (⟨#[]⟩ : ByteArray), .int .i64 0, .int .i64 0, .int .i64 0]) (t := 32) ?hr ?_; (case hd => rfl); (case hg => rfl); (case hr => first | (go_simp; done) | (go_simp; rfl)); intro gbR hg w3 hbox hb; have GER := Aside0.mk ((by rw [hg]; exact below_size (uB HB)) : w.heap.size ≤ gbR); replace HB := bB HB hb; have BKR := Aside0.mk hbox; clear hb hbox hg) | ((with_reducible refine gate_dst (N := 20) rfl ?_); refine Kd.R_lit (Kd.int .i64) _ 3 ?hg (N := 20) ?hd (xs := ([a0, a0 / 4, a0 / 16, a0 / 64, a0 / 256, a0 / 1024, a0 / 4096, a0 / 16384] : List Int)) (inner := [.int .i64 a0, .int .i64 (a0 / 4), .int .i64 (a0 / 16), .int .i64 (a0 / 64), .int .i64 (a0 / 256), .int .i64 (a0 / 1024), .int .i64 (a0 / 4096), .int .i64 (a0 / 16384)]) (ok := fun _ => True) (okp := fun _ => True) ?hr ?hp (fun _ hk => hk) trivial (Below.refl _ _) (Nat.le_refl _) (by simp) ?_; (case hd => rfl); (case hg => rfl); (case hr => first | (go_simp; done) | (go_simp; rfl)); (case hp => exact (Reps.one (show Kd.M (Kd.int .i64) _ _ _ a0 [.int .i64 a0] from rfl) (Reps.one (show Kd.M (Kd.int .i64) _ _ _ (a0 / 4) [.int .i64 (a0 / 4)] from rfl) (Reps.one (show Kd.M (Kd.int .i64) _ _ _ (a0 / 16) [.int .i64 (a0 / 16)] from rfl) (Reps.one (show Kd.M (Kd.int .i64) _ _ _ (a0 / 64) [.int .i64 (a0 / 64)] from rfl) (Reps.one (show Kd.M (Kd.int .i64) _ _ _ (a0 / 256) [.int .i64 (a0 / 256)] from rfl) (Reps.one (show Kd.M (Kd.int .i64) _ _ _ (a0 / 1024) [.int .i64 (a0 / 1024)] from rfl) (Reps.one (show Kd.M (Kd.int .i64) _ _ _ (a0 / 4096) [.int .i64 (a0 / 4096)] from rfl) (Reps.one (show Kd.M (Kd.int .i64) _ _ _ (a0 / 16384) [.int .i64 (a0 / 16384)] from rfl) (Reps.none _ _)))))))))); intro v5 w5 ho6 hb hg_ hnew_; clear hg_ hnew_; (first | rw [← NL.out] at ho6 | (simp only [Int.reduceToNat] at ho6; rw [← NL.out] at ho6)); have HO5 := Aside0.mk ho6; replace BKR := bK BKR hb; replace HB := bB HB hb; clear hb ho6; obtain ⟨Ao5, co5, eo5⟩ := Kd.R_slice HO5.out; subst eo5) | ((with_reducible refine gate_dst (N := 22) rfl ?_); refine box_event ?hg (N := 22) ?hd (cs := #[.slice Ao5 L.length co5, .int .i64 0]) (t := 62) ?hr ?_; (case hd => rfl); (case hg => rfl); (case hr => first | (go_simp; done) | (go_simp; rfl)); intro gbT hg w7 hbox hb; have GT := Aside0.mk ((by rw [hg]; exact Nat.le_refl _) : w5.heap.size ≤ gbT); have BKT := Aside0.mk hbox; have HBT := Aside0.mk hb; clear hb hbox hg) | ((with_reducible refine gate_callee (f := 40) rfl ?_); refine goesL_ (some 24) rfl rfl Tryd.func40 (by kernel_rfl) rfl #[.pointer (some ⟨gbT, 0, none⟩)] rfl (by (try simp only [List.map_toArray, List.map_cons, List.map_nil]); first | done | rfl) ?_; (with_reducible refine (clusterlocksmill_Catalog.calls k gbT L 0 l at_ w5 _ ?side1 ?side2 A1.out).mono ?_); (case side1 => exact ⟨Ao5, co5, uK BKT, GT.out, (Kd.R_reads' HO5.out).2.2⟩); (case side2 => exact uB HBT); rintro e w8 ⟨v8, rfl, ho8, _, hb8, _⟩; refine ⟨_, rfl, ?_⟩; have HO8 := Aside0.mk ho8; replace BKR := Aside0.mk (blk_below BKR.out hb8); replace HB := Aside0.mk (below_step HB.out hb8); clear ho8 hb8 HO5 BKT GT HBT; obtain ⟨Ao8, co8, eo8⟩ := Kd.R_slice HO8.out; subst eo8) | ((with_reducible refine gate_callee (f := 41) rfl ?_); refine goesL_ (some 29) rfl rfl Tryd.func41 (by kernel_rfl) rfl #[.int .i64 a0, .int .i64 (l.length : Int)] rfl (by (try simp only [List.map_toArray, List.map_cons, List.map_nil]); first | done | rfl) ?_; (with_reducible refine (clusterlocksmill_Mod.calls a0 (l.length : Int) i _ A2.out).mono ?_); rintro e w9 ⟨rfl, hd9⟩; refine ⟨_, rfl, ?_⟩; have hb : Below w8.heap.size w8 w9 := (by obtain ⟨n9, e9⟩ := hd9.out; rw [e9]; exact pw_below_drewN (Below.refl _ _) n9); replace BKR := bK BKR hb; replace HB := bB HB hb; replace HO8 := Aside0.mk (Kd.R_below HO8.out hb); clear hb hd9; obtain ⟨ad, ead, hx0, hx1, hx2, hx3⟩ := at_T32 (Kd.R_reads' HO8.out).2.2 i P1.out P2.out; cases ead; have p1 := eq_true P1.out; have p2 := eq_true P2.out; have hcz0 : w9.cell? ⟨gbR, 0, none⟩ = some (.string (⟨#[]⟩ : ByteArray)) := bC BKR 0 rfl; have hcz1 : w9.cell? ⟨gbR, 1, none⟩ = some (.int .i64 0) := bC BKR 1 rfl; have hcz2 : w9.cell? ⟨gbR, 2, none⟩ = some (.int .i64 0) := bC BKR 2 rfl; have hcz3 : w9.cell? ⟨gbR, 3, none⟩ = some (.int .i64 0) := bC BKR 3 rfl; have hfz0 := bF BKR 0; have hfz1 := bF BKR 1; have hfz2 := bF BKR 2; have hfz3 := bF BKR 3))
   refine bodyPost_ret (results_cell_row rfl _ _ gbR 32 #[.string (rd_T32 l i).f0, .int .i64 (rd_T32 l i).f1, .int .i64 (rd_T32 l i).f2, .int .i64 (rd_T32 l i).f3] (0, 0) _ rfl (by (with_reducible repeat (first | refine blk_drewN ?_ _ | refine blk_drew ?_ | refine blk_alloc ?_ _)); refine blk_put (cs := #[.string (rd_T32 l i).f0, .int .i64 (rd_T32 l i).f1, .int .i64 (rd_T32 l i).f2, .int .i64 0]) ?_ 3 _ rfl; refine blk_put (cs := #[.string (rd_T32 l i).f0, .int .i64 (rd_T32 l i).f1, .int .i64 0, .int .i64 0]) ?_ 2 _ rfl; refine blk_put (cs := #[.string (rd_T32 l i).f0, .int .i64 0, .int .i64 0, .int .i64 0]) ?_ 1 _ rfl; refine blk_put (cs := #[.string (⟨#[]⟩ : ByteArray), .int .i64 0, .int .i64 0, .int .i64 0]) ?_ 0 _ rfl; exact BKR.out) Tryd.underlying32 rfl (by kernel_rfl)) rfl ?_
   exact ⟨by first | rfl | (simp; done), by repeat (first | (with_reducible first | exact HB.out | apply bL | apply bM | apply bR | refine bS ?_ GER.out) | exact HB.out)⟩
  ·rw [if_neg c2] at h
   exact absurd h (by simp)
 ·rw [if_neg c1] at h
  exact absurd h (by simp)
end Go.Proofs.YtnmemkphfgdplaaDoor.PA
namespace Go.Proofs.YtnmemkphfgdplaaDoor.PA
open Go.RowKit Go.Proofs.YtnmemkphfgdplaaDoorW.PrintWords Go.Proofs.YtnmemkphfgdplaaDoorW.PrintLast Go.Proofs.YtnmemkphfgdplaaDoorW.PrintMore
attribute [local go_sem] max2_int min2_int max_two min_two max_three min_three max_four min_four   -- for this text's walks alone
set_option linter.unusedVariables false
set_option linter.unusedSimpArgs false

/-! ### clusterlocksmill_Proc: function 23 -/
def clusterlocksmill_Proc.f (a0 : Int) : Option (Int × Int × Int) := (clusterlocksmill_Mod.f a0 8).bind fun t415 => (some (Int.tmod t415 4, 1, wrap64 (1 + (wrap64 (Int.tdiv t415 4)))))
set_option maxHeartbeats 8000000 in
set_option maxRecDepth 100000 in
theorem clusterlocksmill_Proc.calls (a0 : Int) (r1 : Int) (r2 : Int) (r3 : Int) (w : World) (h : clusterlocksmill_Proc.f a0 = some (r1, r2, r3)) :
  Calls Tryd.prog 23 #[.int .i64 a0] w fun e w' => e = .returned (.agg #[.int .i64 r1, .int .i64 r2, .int .i64 r3]) ∧ Below w.heap.size w w' := by
 have hu24 := Tryd.underlying24
 have HB := Aside0.mk (Below.refl w.heap.size w)
 have H : ((clusterlocksmill_Mod.f a0 8).bind fun t415 => (some (Int.tmod t415 4, 1, wrap64 (1 + (wrap64 (Int.tdiv t415 4)))))) = some (r1, r2, r3) := h
 clear h
 obtain ⟨t415, A20, H⟩ := Option.bind_eq_some_iff.mp H
 have A2 := Aside0.mk A20; clear A20
 simp only [Option.some.injEq, Prod.mk.injEq] at H
 obtain ⟨rfl, rfl, rfl⟩ := H
 go_enter Tryd.func23, Tryd.ntmps23
 go_wp2_with (first | ((with_reducible refine gate_dst (N := 2) rfl ?_); refine box_event ?hg (N := 2) ?hd (cs := #[.int .i64 0, .int .i64 0, .int .i64 0]) (t := 24) ?hr ?_; (case hd => rfl); (case hg => rfl); (case hr => first | (go_simp; done) | (go_simp; rfl)); intro gb414 hg w3 hbox hb; have BK414 := Aside0.mk hbox; have GW414 := gE HB hg; replace HB := bB HB hb; have GE414 := GW414; clear hb hbox hg) | ((with_reducible refine gate_callee (f := 41) rfl ?_); refine goesL_ (some 4) rfl rfl Tryd.func41 (by kernel_rfl) rfl #[.int .i64 a0, .int .i64 8] rfl (by (try simp only [mA]); first | done | rfl) ?_; (with_reducible refine (clusterlocksmill_Mod.calls a0 8 t415 _ A2.out).mono ?_); rintro e w' ⟨rfl, ⟨nd, rfl⟩⟩; refine ⟨_, rfl, ?_⟩; (try (rw [drewN_self w3]; generalize hq_ : World.drewN w3 _ = w3; have n0_ : Aside0 (w3.heap[gb414]? = some (.cells #[.int .i64 0, .int .i64 0, .int .i64 0] 24 (0, 0))) := ⟨by rw [← hq_]; exact (uK BK414)⟩; have n1_ : Aside0 (Below w.heap.size w w3) := ⟨by rw [← hq_]; exact (by repeat (first | (with_reducible first | exact HB.out | apply bL | apply bM | apply bR | refine bS ?_ GE414.out) | exact HB.out))⟩; clear BK414 HB hq_; have BK414 := n0_; have HB := n1_; clear n0_ n1_)); have hcz4_0 : w3.cell? ⟨gb414, 0, none⟩ = some (.int .i64 0) := bC BK414 0 rfl; have hcz4_1 : w3.cell? ⟨gb414, 1, none⟩ = some (.int .i64 0) := bC BK414 1 rfl; have hcz4_2 : w3.cell? ⟨gb414, 2, none⟩ = some (.int .i64 0) := bC BK414 2 rfl; have hfz4_0 := bF BK414 0; have hfz4_1 := bF BK414 1; have hfz4_2 := bF BK414 2))
 refine bodyPost_ret (results_cell_row rfl _ _ gb414 24 #[.int .i64 (Int.tmod t415 4), .int .i64 1, .int .i64 (wrap64 (1 + (wrap64 (Int.tdiv t415 4))))] (0, 0) _ rfl (by (with_reducible repeat first | refine bN ?_ _ | refine bD ?_ | refine bA ?_ _); refine blk_put (cs := #[.int .i64 (Int.tmod t415 4), .int .i64 1, .int .i64 0]) ?_ 2 _ rfl; (with_reducible repeat first | refine bN ?_ _ | refine bD ?_ | refine bA ?_ _); refine blk_put (cs := #[.int .i64 (Int.tmod t415 4), .int .i64 0, .int .i64 0]) ?_ 1 _ rfl; (with_reducible repeat first | refine bN ?_ _ | refine bD ?_ | refine bA ?_ _); refine blk_put (cs := #[.int .i64 0, .int .i64 0, .int .i64 0]) ?_ 0 _ rfl; (with_reducible repeat first | refine bN ?_ _ | refine bD ?_ | refine bA ?_ _); exact BK414.out) Tryd.underlying24 rfl (by kernel_rfl)) rfl ?_
 exact ⟨by first | rfl | (simp [errW_none, errW_some] <;> rfl) | (simp [*, errW_none, errW_some] <;> rfl), by repeat (first | (with_reducible first | exact HB.out | apply bL | apply bM | apply bR | refine bS ?_ GE414.out) | exact HB.out)⟩

/-! ### clusterlocksmill_Mode: function 42 -/
def clusterlocksmill_Mode.f (a0 : Int) : Option (Int) := (some (([5, 5, 3, 4, 2, 1, 3, 5] : List Int) : List Int)).bind fun y416 => ((clusterlocksmill_Mod.f a0 (y416.length : Int)).bind fun t419 => (if 0 ≤ t419 then (if t419 < (y416.length : Int) then (some (rd y416 t419)) else (none)) else (none)))
set_option maxHeartbeats 8000000 in
set_option maxRecDepth 100000 in
theorem clusterlocksmill_Mode.calls (a0 : Int) (r : Int) (w : World) (h : clusterlocksmill_Mode.f a0 = some r) :
  Calls Tryd.prog 42 #[.int .i64 a0] w fun e w' => e = .returned (.int .i64 r) ∧ Below w.heap.size w w' := by
 have HB := Aside0.mk (Below.refl w.heap.size w)
 have H : ((some (([5, 5, 3, 4, 2, 1, 3, 5] : List Int) : List Int)).bind fun y416 => ((clusterlocksmill_Mod.f a0 (y416.length : Int)).bind fun t419 => (if 0 ≤ t419 then (if t419 < (y416.length : Int) then (some (rd y416 t419)) else (none)) else (none)))) = some r := h
 clear h
 obtain ⟨y416, hy416⟩ : ∃ y_ : List Int, y_ = (([5, 5, 3, 4, 2, 1, 3, 5] : List Int)) := ⟨_, rfl⟩
 replace H : ((clusterlocksmill_Mod.f a0 (y416.length : Int)).bind fun t419 => (if 0 ≤ t419 then (if t419 < (y416.length : Int) then (some (rd y416 t419)) else (none)) else (none))) = some r := by first | (rw [hy416]; with_reducible exact H) | (have H2_ := (Option.bind_some _ _).symm.trans H; rw [hy416]; with_reducible exact H2_) | (have H2_ := (Option.bind_some _ _).symm.trans H; with_reducible exact H2_) | with_reducible exact H | (rw [hy416]; exact H) | exact H
 have Ny416 := Aside0.mk hy416
 clear hy416
 obtain ⟨t419, A20, H⟩ := Option.bind_eq_some_iff.mp H
 have A2 := Aside0.mk A20; clear A20
 have HH_ := Aside0.mk H
 clear H
 go_enter Tryd.func42, Tryd.ntmps42
 have H := HH_.out
 clear HH_
 by_cases c3 : 0 ≤ t419
 ·rw [if_pos c3] at H
  have c3b0 : decide (0 ≤ t419) = true := decide_eq_true c3
  clear c3
  by_cases c4 : t419 < (y416.length : Int)
  ·rw [if_pos c4] at H
   have c4b0 : decide (t419 < (y416.length : Int)) = true := decide_eq_true c4
   clear c4
   obtain rfl := Option.some.inj H
   go_wp2_with (first | ((with_reducible refine gate_dst (N := 4) rfl ?_); refine Kd.R_lit (Kd.int .i64) _ 3 ?hg (N := 4) ?hd (xs := ([5, 5, 3, 4, 2, 1, 3, 5] : List Int)) (inner := [.int .i64 5, .int .i64 5, .int .i64 3, .int .i64 4, .int .i64 2, .int .i64 1, .int .i64 3, .int .i64 5]) (ok := fun _ => True) (okp := fun _ => True) ?hr ?hp (fun _ hk => hk) trivial (Below.refl _ _) (Nat.le_refl _) (by simp) ?_; (case hd => rfl); (case hg => rfl); (case hr => first | (go_simp; done) | (go_simp; rfl)); (case hp => exact (Reps.one (show Kd.M (Kd.int .i64) _ _ _ 5 [.int .i64 5] from rfl) (Reps.one (show Kd.M (Kd.int .i64) _ _ _ 5 [.int .i64 5] from rfl) (Reps.one (show Kd.M (Kd.int .i64) _ _ _ 3 [.int .i64 3] from rfl) (Reps.one (show Kd.M (Kd.int .i64) _ _ _ 4 [.int .i64 4] from rfl) (Reps.one (show Kd.M (Kd.int .i64) _ _ _ 2 [.int .i64 2] from rfl) (Reps.one (show Kd.M (Kd.int .i64) _ _ _ 1 [.int .i64 1] from rfl) (Reps.one (show Kd.M (Kd.int .i64) _ _ _ 3 [.int .i64 3] from rfl) (Reps.one (show Kd.M (Kd.int .i64) _ _ _ 5 [.int .i64 5] from rfl) (Reps.none _ _)))))))))); intro v417 w5 ho6 hb hg_ hnew_; clear hg_ hnew_; (first | rw [← Ny416.out] at ho6 | (simp only [Int.reduceToNat] at ho6; rw [← Ny416.out] at ho6)); have HO418 := Aside0.mk (Kd.R_lower ho6 (below_size (uB HB))); replace HB := bB HB hb; clear hb ho6; obtain ⟨Ao7, co7, eo7⟩ := Kd.R_slice HO418.out; subst eo7) | ((with_reducible refine gate_callee (f := 41) rfl ?_); refine goesL_ (some 9) rfl rfl Tryd.func41 (by kernel_rfl) rfl #[.int .i64 a0, .int .i64 (y416.length : Int)] rfl (by (try simp only [mA]); first | done | rfl) ?_; (with_reducible refine (clusterlocksmill_Mod.calls a0 (y416.length : Int) t419 _ A2.out).mono ?_); rintro e w' ⟨rfl, ⟨nd, rfl⟩⟩; refine ⟨_, rfl, ?_⟩; have p420 : 0 ≤ (t419 : Int) := of_decide_eq_true (by first | (with_reducible assumption) | assumption); have q420 : t419 < (y416.length : Int) := of_decide_eq_true (by first | (with_reducible assumption) | assumption); obtain ⟨ad420, e420, hx420_0⟩ := Kd.at_int (Kd.R_reads' HO418.out).2.2 t419 p420 q420; cases e420; replace p420 := eq_true p420; replace q420 := eq_true q420))
   go_ret
   exact ⟨by first | rfl | (simp [errW_none, errW_some] <;> rfl) | (simp [*, errW_none, errW_some] <;> rfl), by repeat (first | (with_reducible first | exact HB.out | apply bL | apply bM | apply bR) | exact HB.out)⟩
  ·rw [if_neg c4] at H
   exact absurd H (by simp)
 ·rw [if_neg c3] at H
  exact absurd H (by simp)
/-! ### clusterlocksmill_Amount: function 24 -/
def clusterlocksmill_Amount.f (a0_0 : ByteArray) (a0_1 : Int) (a0_2 : Int) (a0_3 : Int) (a1 : Int) : Option (Int × Int) := if a0_1 = 1 then ((clusterlocksmill_Mode.f a1).bind fun t423 => (some (t423, 0))) else ((clusterlocksmill_Mod.f a1 a0_2).bind fun t424 => (some (0, wrap64 (1 + t424))))
set_option maxHeartbeats 8000000 in
set_option maxRecDepth 100000 in
theorem clusterlocksmill_Amount.calls (a0_0 : ByteArray) (a0_1 : Int) (a0_2 : Int) (a0_3 : Int) (a1 : Int) (r1 : Int) (r2 : Int) (w : World) (h : clusterlocksmill_Amount.f a0_0 a0_1 a0_2 a0_3 a1 = some (r1, r2)) :
  Calls Tryd.prog 24 #[.agg #[.string a0_0, .int .i64 a0_1, .int .i64 a0_2, .int .i64 a0_3], .int .i64 a1] w fun e w' => e = .returned (.agg #[.int .i64 r1, .int .i64 r2]) ∧ Below w.heap.size w w' := by
 have hu32 := Tryd.underlying32
 have hu26 := Tryd.underlying26
 have HB := Aside0.mk (Below.refl w.heap.size w)
 have H : (if a0_1 = 1 then ((clusterlocksmill_Mode.f a1).bind fun t423 => (some (t423, 0))) else ((clusterlocksmill_Mod.f a1 a0_2).bind fun t424 => (some (0, wrap64 (1 + t424))))) = some (r1, r2) := h
 clear h
 by_cases c3 : a0_1 = 1
 ·rw [if_pos c3] at H
  have c3b0 : (a0_1 == 1) = true := beq_iff_eq.mpr c3
  have c3b1 : (a0_1 != 1) = false := bne_eq_false_iff_eq.mpr c3
  clear c3
  obtain ⟨t423, A40, H⟩ := Option.bind_eq_some_iff.mp H
  have A4 := Aside0.mk A40; clear A40
  simp only [Option.some.injEq, Prod.mk.injEq] at H
  obtain ⟨rfl, rfl⟩ := H
  go_enter Tryd.func24, Tryd.ntmps24
  go_wp2_with (first | ((with_reducible refine gate_dst (N := 2) rfl ?_); refine box_event ?hg (N := 2) ?hd (cs := #[.string a0_0, .int .i64 a0_1, .int .i64 a0_2, .int .i64 a0_3]) (t := 32) ?hr ?_; (case hd => rfl); (case hg => rfl); (case hr => first | (go_simp; done) | (go_simp; rfl)); intro gb421 hg w5 hbox hb; have BK421 := Aside0.mk hbox; have GW421 := gE HB hg; replace HB := bB HB hb; have GE421 := GW421; clear hb hbox hg) | ((with_reducible refine gate_dst (N := 4) rfl ?_); refine box_event ?hg (N := 4) ?hd (cs := #[.int .i64 0, .int .i64 0]) (t := 26) ?hr ?_; (case hd => rfl); (case hg => rfl); (case hr => first | (go_simp; done) | (go_simp; rfl)); intro gb422 hg w6 hbox hb; have BK422 := Aside0.mk hbox; have GW422 := gE HB hg; replace HB := bB HB hb; have GE422 := GW422; have NB421_422 := gN BK421 hg; replace BK421 := bK BK421 hb; have NB422_421 := Aside0.mk NB421_422.out.symm; clear hb hbox hg; have hnb7 := NB421_422.out; have hnc7 := NB422_421.out; have hcz8_0 : w6.cell? ⟨gb421, 0, none⟩ = some (.string a0_0) := bC BK421 0 rfl; have hcz8_1 : w6.cell? ⟨gb421, 1, none⟩ = some (.int .i64 a0_1) := bC BK421 1 rfl; have hcz8_2 : w6.cell? ⟨gb421, 2, none⟩ = some (.int .i64 a0_2) := bC BK421 2 rfl; have hcz8_3 : w6.cell? ⟨gb421, 3, none⟩ = some (.int .i64 a0_3) := bC BK421 3 rfl; have hfz8_0 := bF BK421 0; have hfz8_1 := bF BK421 1; have hfz8_2 := bF BK421 2; have hfz8_3 := bF BK421 3) | ((with_reducible refine gate_callee (f := 42) rfl ?_); refine goesL_ (some 9) rfl rfl Tryd.func42 (by kernel_rfl) rfl #[.int .i64 a1] rfl (by (try simp only [mA]); first | done | rfl) ?_; (with_reducible refine (clusterlocksmill_Mode.calls a1 t423 _ A4.out).mono ?_); rintro e w9 ⟨rfl, hb⟩; refine ⟨_, rfl, ?_⟩; replace BK421 := bK BK421 hb; replace BK422 := bK BK422 hb; replace HB := Aside0.mk (below_step (by repeat (first | (with_reducible first | exact HB.out | apply bL | apply bM | apply bR | refine bS ?_ GE422.out) | exact HB.out)) hb); (try clear hb); (try clear hk); have hcz10_0 : w9.cell? ⟨gb422, 0, none⟩ = some (.int .i64 0) := bC BK422 0 rfl; have hcz10_1 : w9.cell? ⟨gb422, 1, none⟩ = some (.int .i64 0) := bC BK422 1 rfl; have hfz10_0 := bF BK422 0; have hfz10_1 := bF BK422 1))
  refine bodyPost_ret (results_cell_row rfl _ _ gb422 26 #[.int .i64 t423, .int .i64 0] (0, 0) _ rfl (by (with_reducible repeat first | refine bN ?_ _ | refine bD ?_ | refine bA ?_ _); refine blk_put (cs := #[.int .i64 t423, .int .i64 0]) ?_ 1 _ rfl; (with_reducible repeat first | refine bN ?_ _ | refine bD ?_ | refine bA ?_ _); refine blk_put (cs := #[.int .i64 0, .int .i64 0]) ?_ 0 _ rfl; (with_reducible repeat first | refine bN ?_ _ | refine bD ?_ | refine bA ?_ _); exact BK422.out) Tryd.underlying26 rfl (by kernel_rfl)) rfl ?_
  exact ⟨by first | rfl | (simp [errW_none, errW_some] <;> rfl) | (simp [*, errW_none, errW_some] <;> rfl), by repeat (first | (with_reducible first | exact HB.out | apply bL | apply bM | apply bR | refine bS ?_ GE422.out) | exact HB.out)⟩
 ·rw [if_neg c3] at H
  have c3b0 : (a0_1 == 1) = false := beq_eq_false_iff_ne.mpr c3
  have c3b1 : (a0_1 != 1) = true := bne_iff_ne.mpr c3
  obtain ⟨t424, A110, H⟩ := Option.bind_eq_some_iff.mp H
  have A11 := Aside0.mk A110; clear A110
  simp only [Option.some.injEq, Prod.mk.injEq] at H
  obtain ⟨rfl, rfl⟩ := H
  go_enter Tryd.func24, Tryd.ntmps24
  go_wp2_with (first | ((with_reducible refine gate_dst (N := 2) rfl ?_); refine box_event ?hg (N := 2) ?hd (cs := #[.string a0_0, .int .i64 a0_1, .int .i64 a0_2, .int .i64 a0_3]) (t := 32) ?hr ?_; (case hd => rfl); (case hg => rfl); (case hr => first | (go_simp; done) | (go_simp; rfl)); intro gb421 hg w12 hbox hb; have BK421 := Aside0.mk hbox; have GW421 := gE HB hg; replace HB := bB HB hb; have GE421 := GW421; clear hb hbox hg) | ((with_reducible refine gate_dst (N := 4) rfl ?_); refine box_event ?hg (N := 4) ?hd (cs := #[.int .i64 0, .int .i64 0]) (t := 26) ?hr ?_; (case hd => rfl); (case hg => rfl); (case hr => first | (go_simp; done) | (go_simp; rfl)); intro gb422 hg w13 hbox hb; have BK422 := Aside0.mk hbox; have GW422 := gE HB hg; replace HB := bB HB hb; have GE422 := GW422; have NB421_422 := gN BK421 hg; replace BK421 := bK BK421 hb; have NB422_421 := Aside0.mk NB421_422.out.symm; clear hb hbox hg; have hnb14 := NB421_422.out; have hnc14 := NB422_421.out; have hcz15_0 : w13.cell? ⟨gb421, 0, none⟩ = some (.string a0_0) := bC BK421 0 rfl; have hcz15_1 : w13.cell? ⟨gb421, 1, none⟩ = some (.int .i64 a0_1) := bC BK421 1 rfl; have hcz15_2 : w13.cell? ⟨gb421, 2, none⟩ = some (.int .i64 a0_2) := bC BK421 2 rfl; have hcz15_3 : w13.cell? ⟨gb421, 3, none⟩ = some (.int .i64 a0_3) := bC BK421 3 rfl; have hfz15_0 := bF BK421 0; have hfz15_1 := bF BK421 1; have hfz15_2 := bF BK421 2; have hfz15_3 := bF BK421 3) | ((with_reducible refine gate_callee (f := 41) rfl ?_); refine goesL_ (some 14) rfl rfl Tryd.func41 (by kernel_rfl) rfl #[.int .i64 a1, .int .i64 a0_2] rfl (by (try simp only [mA]); first | done | rfl) ?_; (with_reducible refine (clusterlocksmill_Mod.calls a1 a0_2 t424 _ A11.out).mono ?_); rintro e w' ⟨rfl, ⟨nd, rfl⟩⟩; refine ⟨_, rfl, ?_⟩; (try (rw [drewN_self w13]; generalize hq_ : World.drewN w13 _ = w13; have n0_ : Aside0 (w13.heap[gb421]? = some (.cells #[.string a0_0, .int .i64 a0_1, .int .i64 a0_2, .int .i64 a0_3] 32 (0, 0))) := ⟨by rw [← hq_]; exact (uK BK421)⟩; have n1_ : Aside0 (w13.heap[gb422]? = some (.cells #[.int .i64 0, .int .i64 0] 26 (0, 0))) := ⟨by rw [← hq_]; exact (uK BK422)⟩; have n2_ : Aside0 (Below w.heap.size w w13) := ⟨by rw [← hq_]; exact (by repeat (first | (with_reducible first | exact HB.out | apply bL | apply bM | apply bR | refine bS ?_ GE422.out) | exact HB.out))⟩; clear BK421 BK422 HB hq_; have BK421 := n0_; have BK422 := n1_; have HB := n2_; clear n0_ n1_ n2_)); have hcz16_0 : w13.cell? ⟨gb422, 0, none⟩ = some (.int .i64 0) := bC BK422 0 rfl; have hcz16_1 : w13.cell? ⟨gb422, 1, none⟩ = some (.int .i64 0) := bC BK422 1 rfl; have hfz16_0 := bF BK422 0; have hfz16_1 := bF BK422 1))
  refine bodyPost_ret (results_cell_row rfl _ _ gb422 26 #[.int .i64 0, .int .i64 (wrap64 (1 + t424))] (0, 0) _ rfl (by (with_reducible repeat first | refine bN ?_ _ | refine bD ?_ | refine bA ?_ _); refine blk_put (cs := #[.int .i64 0, .int .i64 0]) ?_ 1 _ rfl; (with_reducible repeat first | refine bN ?_ _ | refine bD ?_ | refine bA ?_ _); refine blk_put (cs := #[.int .i64 0, .int .i64 0]) ?_ 0 _ rfl; (with_reducible repeat first | refine bN ?_ _ | refine bD ?_ | refine bA ?_ _); exact BK422.out) Tryd.underlying26 rfl (by kernel_rfl)) rfl ?_
  exact ⟨by first | rfl | (simp [errW_none, errW_some] <;> rfl) | (simp [*, errW_none, errW_some] <;> rfl), by repeat (first | (with_reducible first | exact HB.out | apply bL | apply bM | apply bR | refine bS ?_ GE422.out) | exact HB.out)⟩
end Go.Proofs.YtnmemkphfgdplaaDoor.PA
