/- catalog.Remove: what it returns. Conditions: none. -/
import Derived.Test.YtbiapfjhdggkpaaDoorT16
import Derived.Test.YtbiapfjhdggkpaaDoorT15
namespace Go.Proofs.YtbiapfjhdggkpaaDoor.PA
open Go.RowKit Go.Proofs.YtbiapfjhdggkpaaDoorW.PrintWords Go.Proofs.YtbiapfjhdggkpaaDoorW.PrintLast Go.Proofs.YtbiapfjhdggkpaaDoorW.PrintMore
attribute [local go_sem] max2_int min2_int max_two min_two max_three min_three max_four min_four
set_option linter.unusedVariables false
set_option linter.unusedSimpArgs false
def api_Resource_44.f (l0 : List S26) (a1 : Int) (a2 : Int) : Option (List S26) := if 0 ≤ a1 ∧ a2 = a1 + 1 ∧ a2 ≤ l0.length then some (l0.take a1.toNat ++ l0.drop a2.toNat) else none
theorem del_f {l r : List S26} {i j : Int} (h : api_Resource_44.f l i j = some r) : 0 ≤ i ∧ j = i + 1 ∧ i < l.length ∧ r = l.take i.toNat ++ l.drop (i + 1).toNat := by
  unfold api_Resource_44.f at h
  by_cases c : 0 ≤ i ∧ j = i + 1 ∧ j ≤ (l.length : Int)
  · rw [if_pos c] at h
    refine ⟨c.1, c.2.1, by omega, ?_⟩
    rw [← c.2.1]
    exact (Option.some.inj h).symm
  · rw [if_neg c] at h
    exact absurd h (by simp)
/-! ### catalog_Remove: function 26 -/
def catalog_Remove.j0 : Nat → List (S26) → Int → Bool → Option ((List (S26)) × Int)
  | 0, _, _, _ => none
  | k + 1, x0, x6, x25 => if x25 = true then (some (([] : List (S26)), 10)) else ((api_Resource_43.f x0).bind fun t220 => ((api_Resource_44.f t220 x6 (wrap64 (x6 + 1))).bind fun t223 => (some (t223, 0))))
def catalog_Remove.f (k : Nat) (l0 : List (S26)) (a1 : ByteArray) : Option ((List (S26)) × Int) := (catalog_Valid.f k l0).bind fun t217 => (if t217 = true then ((catalog_place.f l0 a1).bind fun t218 => (if t218 = (l0.length : Int) then (catalog_Remove.j0 k l0 t218 true) else (if 0 ≤ t218 then (if t218 < (l0.length : Int) then (catalog_Remove.j0 k l0 t218 (((rd_T26 l0 t218).f0).toList != a1.toList)) else (none)) else (none)))) else (some (([] : List (S26)), 2)))
theorem catalog_Remove.mono_l : ∀ k, (∀ y0 y1 y2, LeO (catalog_Remove.j0 k y0 y1 y2) (catalog_Remove.j0 (k + 1) y0 y1 y2))
  | 0 => fun _ _ _ r h => by simp [catalog_Remove.j0] at h
  | k + 1 => by
    have ih0 := catalog_Remove.mono_l k
    · intro y0 y1 y2
      unfold catalog_Remove.j0
      repeat' first
      | (with_reducible exact ih0 _ _ _)
      | (with_reducible exact catalog_Valid.mono _ _)
      | (with_reducible exact LeO.refl _)
      | (with_reducible exact LeO.none _)
      | (with_reducible refine LeO.ite ?_ ?_)
      | (with_reducible refine LeO.bind ?_ (fun _ => ?_))
      | exact ih0 _ _ _
      | exact catalog_Valid.mono _ _
      | exact LeO.none _
      | refine LeO.ite ?_ ?_
      | refine LeO.bind ?_ (fun _ => ?_)
theorem catalog_Remove.mono : ∀ a0 a1 k, LeO (catalog_Remove.f k a0 a1) (catalog_Remove.f (k + 1) a0 a1) := by
  intro a0 a1 k
  have ih0 := catalog_Remove.mono_l k
  unfold catalog_Remove.f
  repeat' first
      | (with_reducible exact ih0 _ _ _)
      | (with_reducible exact catalog_Valid.mono _ _)
      | (with_reducible exact LeO.refl _)
      | (with_reducible exact LeO.none _)
      | (with_reducible refine LeO.ite ?_ ?_)
      | (with_reducible refine LeO.bind ?_ (fun _ => ?_))
      | exact ih0 _ _ _
      | exact catalog_Valid.mono _ _
      | exact LeO.none _
      | refine LeO.ite ?_ ?_
      | refine LeO.bind ?_ (fun _ => ?_)
set_option maxHeartbeats 8000000 in
set_option maxRecDepth 100000 in
theorem catalog_Remove.calls (k : Nat) (A0 : Option Addr) (c0 : Nat) (l0 : List (S26)) (a1 : ByteArray) (r1 : List (S26)) (r2 : Int) (w : World) (hr0 : Kd.C k26 w A0 l0.length l0) (hc0 : l0.length ≤ c0) (h : catalog_Remove.f k l0 a1 = some (r1, r2)) :
    Calls Tryd.prog 26 #[.slice A0 l0.length c0, .string a1] w fun e w' => ∃ v0_ : Value, e = .returned (.tuple #[v0_, .int .i64 r2]) ∧ Kd.R k26 26 w' w.heap.size (fun _ => True) v0_ r1 ∧ Below w.heap.size w w' := by
  have HR0 := Aside0.mk hr0
  have HC0 := Aside0.mk hc0
  clear hr0 hc0
  have HB := Aside0.mk (Below.refl w.heap.size w)
  have H : ((catalog_Valid.f k l0).bind fun t217 => (if t217 = true then ((catalog_place.f l0 a1).bind fun t218 => (if t218 = (l0.length : Int) then (catalog_Remove.j0 k l0 t218 true) else (if 0 ≤ t218 then (if t218 < (l0.length : Int) then (catalog_Remove.j0 k l0 t218 (((rd_T26 l0 t218).f0).toList != a1.toList)) else (none)) else (none)))) else (some (([] : List (S26)), 2)))) = some (r1, r2) := h
  clear h
  replace H := Option.bind_eq_some_iff.mp H
  obtain ⟨t217, A30, H⟩ := H
  replace H : (if t217 = true then ((catalog_place.f l0 a1).bind fun t218 => (if t218 = (l0.length : Int) then (catalog_Remove.j0 k l0 t218 true) else (if 0 ≤ t218 then (if t218 < (l0.length : Int) then (catalog_Remove.j0 k l0 t218 (((rd_T26 l0 t218).f0).toList != a1.toList)) else (none)) else (none)))) else (some (([] : List (S26)), 2))) = some (r1, r2) := H
  have A3 := Aside0.mk A30
  clear A30
  by_cases c4 : t217 = true
  · subst c4
    have H1 : ((catalog_place.f l0 a1).bind fun t218 => (if t218 = (l0.length : Int) then (catalog_Remove.j0 k l0 t218 true) else (if 0 ≤ t218 then (if t218 < (l0.length : Int) then (catalog_Remove.j0 k l0 t218 (((rd_T26 l0 t218).f0).toList != a1.toList)) else (none)) else (none)))) = some (r1, r2) := by rw [if_pos rfl] at H; exact H
    clear H
    have H := H1
    clear H1
    replace H := Option.bind_eq_some_iff.mp H
    obtain ⟨t218, A50, H⟩ := H
    replace H : (if t218 = (l0.length : Int) then (catalog_Remove.j0 k l0 t218 true) else (if 0 ≤ t218 then (if t218 < (l0.length : Int) then (catalog_Remove.j0 k l0 t218 (((rd_T26 l0 t218).f0).toList != a1.toList)) else (none)) else (none))) = some (r1, r2) := H
    have A5 := Aside0.mk A50
    clear A50
    have HC6 := Aside0.mk H
    clear H
    go_enter Tryd.func26, Tryd.ntmps26
    go_upto_region 4 with (first | ((with_reducible refine gate_callee (f := 20) rfl ?_); refine goesL_ (some 8) rfl rfl Tryd.func20 (by kernel_rfl) rfl #[.slice A0 l0.length c0] rfl (by (try simp only [List.map_toArray, List.map_cons, List.map_nil]); first | done | rfl | (simp only [List.length_drop, List.length_take]; rfl)) ?_; (with_reducible refine (catalog_Valid.calls k _ _ l0 true _ ?side1 ?side2 A3.out).mono ?_); (case side1 => repeat (first | exact HR0.out | (with_reducible refine Kd.C_alloc ?_ _) | (with_reducible refine Kd.C_drewN ?_ _) | (with_reducible refine Kd.C_drew ?_))); (case side2 => exact HC0.out); rintro e w7 ⟨rfl, hb⟩; refine ⟨_, rfl, ?_⟩; have n0_ := Aside0.mk (below_step (by repeat (first | (with_reducible first | exact HB.out | apply below_alloc | apply pw_below_drewN | apply below_drew1) | exact HB.out)) hb); clear HB; have HB := n0_; clear n0_; (try clear hb); (try clear hb2); (try clear hk); (try clear hi)) | ((with_reducible refine gate_callee (f := 41) rfl ?_); refine goesL_ (some 12) rfl rfl Tryd.func41 (by kernel_rfl) rfl #[.slice A0 l0.length c0, .string a1] rfl (by (try simp only [List.map_toArray, List.map_cons, List.map_nil]); first | done | rfl | (simp only [List.length_drop, List.length_take]; rfl)) ?_; (with_reducible refine (catalog_place.calls _ _ l0 a1 t218 _ ?side1 ?side2 A5.out).mono ?_); (case side1 => repeat (first | exact (Kd.C_below HR0.out HB.out) | (with_reducible refine Kd.C_alloc ?_ _) | (with_reducible refine Kd.C_drewN ?_ _) | (with_reducible refine Kd.C_drew ?_))); (case side2 => exact HC0.out); rintro e w8 ⟨rfl, hb⟩; refine ⟨_, rfl, ?_⟩; have n0_ := Aside0.mk (below_step (by repeat (first | (with_reducible first | exact HB.out | apply below_alloc | apply pw_below_drewN | apply below_drew1) | exact HB.out)) hb); clear HB; have HB := n0_; clear n0_; (try clear hb); (try clear hb2); (try clear hk); (try clear hi)))
    (try simp only [Act.put, List.setIfInBounds_toArray, List.set_cons_zero, List.set_cons_succ])
    go_cut [25] (fun v25 wc => ∃ (kq : Nat) (x25_5 : Bool), v25 = .bool x25_5 ∧ Aside0 (catalog_Remove.j0 kq l0 t218 x25_5 = some (r1, r2)) ∧ Aside0 (kq ≤ k) ∧ Aside0 (Below w.heap.size w wc))
    case first =>
      have H := HC6.out
      clear HC6
      by_cases c9 : t218 = (l0.length : Int)
      · rw [if_pos c9] at H
        have c9b0 : (t218 == (l0.length : Int)) = true := beq_iff_eq.mpr c9
        have c9b1 : (t218 != (l0.length : Int)) = false := bne_eq_false_iff_eq.mpr c9
        clear c9
        (first | rw [c9b0] | (simp only [i64_w, i32_w]; rw [c9b0]) | skip)
        have H' := Aside0.mk H
        clear H
        go_wp2
        go_meet
        case rel => exact ⟨_, (true), (by first | rfl | (simp; done) | (simp [*]; done)), H', ⟨by first | omega | exact Nat.le_refl _⟩, ⟨by repeat (first | (with_reducible first | exact HB.out | apply below_alloc | apply pw_below_drewN | apply below_drew1) | exact HB.out)⟩⟩
      · rw [if_neg c9] at H
        have c9b0 : (t218 == (l0.length : Int)) = false := beq_eq_false_iff_ne.mpr c9
        have c9b1 : (t218 != (l0.length : Int)) = true := bne_iff_ne.mpr c9
        (first | rw [c9b0] | (simp only [i64_w, i32_w]; rw [c9b0]) | skip)
        by_cases c10 : 0 ≤ t218
        · rw [if_pos c10] at H
          have c10b0 : decide (0 ≤ t218) = true := decide_eq_true c10
          clear c10
          by_cases c11 : t218 < (l0.length : Int)
          · rw [if_pos c11] at H
            have c11b0 : decide (t218 < (l0.length : Int)) = true := decide_eq_true c11
            clear c11
            have H' := Aside0.mk H
            clear H
            have p219 : 0 ≤ (t218 : Int) := of_decide_eq_true (by first | (with_reducible assumption) | assumption)
            have q219 : t218 < (l0.length : Int) := of_decide_eq_true (by first | (with_reducible assumption) | assumption)
            obtain ⟨ad219, e219, hx219_0, hx219_1, hx219_2, hx219_3⟩ := at_T26 HR0.out t218 p219 q219
            cases e219
            replace hx219_0 := (HB.out.cell (World.block_lt_of_cell? w _ hx219_0)).trans hx219_0
            replace hx219_1 := (HB.out.cell (World.block_lt_of_cell? w _ hx219_1)).trans hx219_1
            replace hx219_2 := (HB.out.cell (World.block_lt_of_cell? w _ hx219_2)).trans hx219_2
            replace hx219_3 := (HB.out.cell (World.block_lt_of_cell? w _ hx219_3)).trans hx219_3
            replace p219 := eq_true p219
            replace q219 := eq_true q219
            go_wp2
            go_meet
            case rel => exact ⟨_, ((((rd_T26 l0 t218).f0).toList != a1.toList)), (by first | rfl | (simp; done) | (simp [*]; done)), H', ⟨by first | omega | exact Nat.le_refl _⟩, ⟨by repeat (first | (with_reducible first | exact HB.out | apply below_alloc | apply pw_below_drewN | apply below_drew1) | exact HB.out)⟩⟩
          · rw [if_neg c11] at H
            exact absurd H (by simp)
        · rw [if_neg c10] at H
          exact absurd H (by simp)
    case rest =>
      clear HC6
      try clear c1
      try clear c2
      try clear p2
      try clear q2
      try clear hx2
      try clear c4
      try clear c9
      try clear c9b0
      try clear c9b1
      try clear c10
      try clear c10b0
      try clear c11
      try clear c11b0
      try clear hx219_0
      try clear hx219_1
      try clear hx219_2
      try clear hx219_3
      try clear p219
      try clear q219
      obtain ⟨kq, x25_5, rfl, HA, HJ5, HB⟩ := hcut
      cases kq with
      | zero => exact absurd HA.out (by simp [catalog_Remove.j0])
      | succ kj5 =>
        have H := HA.out
        clear HA
        simp only [catalog_Remove.j0] at H
        by_cases c12 : x25_5 = true
        · subst c12
          have H1 : (some (([] : List (S26)), 10)) = some (r1, r2) := by rw [if_pos rfl] at H; exact H
          clear H
          have H := H1
          clear H1
          simp only [Option.some.injEq, Prod.mk.injEq] at H
          obtain ⟨rfl, rfl⟩ := H
          go_wp2
          go_ret2
          exact ⟨_, by first | rfl | (simp [errW_none, errW_some] <;> rfl) | (simp [*, errW_none, errW_some] <;> rfl), by first | exact Kd.R_nil _ _ _ _ _ | exact Kd.N_nil _ _ _ _ _ | exact Kd.V_nil _ _ _ _ _ | exact Kd.Q_nil _ _ _ _ _ | exact Kd.S_nil _ _ _ _ _, by repeat (first | (with_reducible first | exact HB.out | apply below_alloc | apply pw_below_drewN | apply below_drew1) | exact HB.out)⟩
        · replace c12 := Bool.eq_false_iff.mpr c12
          subst c12
          have H1 : ((api_Resource_43.f l0).bind fun t220 => ((api_Resource_44.f t220 t218 (wrap64 (t218 + 1))).bind fun t223 => (some (t223, 0)))) = some (r1, r2) := by rw [if_neg (show ¬ (false = true) by decide)] at H; exact H
          clear H
          have H := H1
          clear H1
          replace H := Option.bind_eq_some_iff.mp H
          obtain ⟨t220, A130, H⟩ := H
          replace H : ((api_Resource_44.f t220 t218 (wrap64 (t218 + 1))).bind fun t223 => (some (t223, 0))) = some (r1, r2) := H
          have A13 := Aside0.mk A130
          clear A130
          replace H := Option.bind_eq_some_iff.mp H
          obtain ⟨t223, A140, H⟩ := H
          replace H : (some (t223, 0)) = some (r1, r2) := H
          have A14 := Aside0.mk A140
          clear A140
          simp only [Option.some.injEq, Prod.mk.injEq] at H
          obtain ⟨rfl, rfl⟩ := H
          obtain ⟨e_, hl_⟩ := clone_f A13.out
          have e2_ := e_.symm
          clear e_
          subst e2_
          obtain ⟨d1_, d2_, d3_, d4_⟩ := del_f A14.out
          go_wp2_with (first | ((with_reducible refine gate_callee (f := 43) rfl ?_); refine goesL_ (some 27) rfl rfl Tryd.func43 (by kernel_rfl) rfl #[.slice A0 l0.length c0] rfl (by (try simp only [List.map_toArray, List.map_cons, List.map_nil]); first | done | rfl | (simp only [List.length_drop, List.length_take]; rfl)) ?_; (with_reducible refine (slices_Clone.calls A0 c0 l0 _ ?side1 hl_).mono ?_); (case side1 => repeat (first | exact (Kd.C_below HR0.out HB.out) | (with_reducible refine Kd.C_alloc ?_ _) | (with_reducible refine Kd.C_drewN ?_ _) | (with_reducible refine Kd.C_drew ?_))); rintro e w15 ⟨v221, rfl, ho0, hb⟩;  refine ⟨_, rfl, ?_⟩; have n0_ := Aside0.mk (Kd.R_lower ho0 (below_size (by repeat (first | (with_reducible first | exact HB.out | apply below_alloc | apply pw_below_drewN | apply below_drew1) | exact HB.out)))); have n1_ := Aside0.mk (below_step (by repeat (first | (with_reducible first | exact HB.out | apply below_alloc | apply pw_below_drewN | apply below_drew1) | exact HB.out)) hb); clear HB; have HO222 := n0_; have HB := n1_; clear n0_ n1_; (try clear hb); (try clear hb2); (try clear hk); (try clear hi); (try clear ho0); obtain ⟨Ao16, co16, eo16⟩ := Kd.R_slice HO222.out; subst eo16) | ((with_reducible refine gate_callee (f := 44) rfl ?_); refine goesL_ (some 31) rfl rfl Tryd.func44 (by kernel_rfl) rfl #[.slice Ao16 l0.length co16, .int .i64 t218, .int .i64 (t218 + 1)] rfl (by (try simp only [List.map_toArray, List.map_cons, List.map_nil]); first | done | rfl | (simp only [List.length_drop, List.length_take]; rfl)) ?_; refine (slices_Delete.calls w.heap.size _ l0 t218 _ _ (by (with_reducible repeat (first | apply Kd.R_alloc | apply Kd.R_drewN | apply Kd.R_drew)); exact HO222.out) d1_ d3_ hl_).mono ?_; rintro e w17 ⟨v224, rfl, ho0, hb⟩; refine ⟨_, rfl, ?_⟩; rw [← d4_] at ho0; have HO225 := Aside0.mk ho0; have n2_ := Aside0.mk (Below.trans (by repeat (first | (with_reducible first | exact HB.out | apply below_alloc | apply pw_below_drewN | apply below_drew1) | exact HB.out)) hb : Below w.heap.size w w17); clear HB HO222; have HB := n2_; clear n2_ hb ho0))
          go_ret2
          exact ⟨_, by first | rfl | (simp [errW_none, errW_some] <;> rfl) | (simp [*, errW_none, errW_some] <;> rfl), by (with_reducible repeat (first | apply Kd.R_alloc | apply Kd.R_drewN | apply Kd.R_drew)); exact Kd.R_mono HO225.out (fun _ hk => trivial), by repeat (first | (with_reducible first | exact HB.out | apply below_alloc | apply pw_below_drewN | apply below_drew1) | exact HB.out)⟩
  · replace c4 := Bool.eq_false_iff.mpr c4
    subst c4
    have H1 : (some (([] : List (S26)), 2)) = some (r1, r2) := by rw [if_neg (show ¬ (false = true) by decide)] at H; exact H
    clear H
    have H := H1
    clear H1
    simp only [Option.some.injEq, Prod.mk.injEq] at H
    obtain ⟨rfl, rfl⟩ := H
    go_enter Tryd.func26, Tryd.ntmps26
    go_wp2_with (first | ((with_reducible refine gate_callee (f := 20) rfl ?_); refine goesL_ (some 8) rfl rfl Tryd.func20 (by kernel_rfl) rfl #[.slice A0 l0.length c0] rfl (by (try simp only [List.map_toArray, List.map_cons, List.map_nil]); first | done | rfl | (simp only [List.length_drop, List.length_take]; rfl)) ?_; (with_reducible refine (catalog_Valid.calls k _ _ l0 false _ ?side1 ?side2 A3.out).mono ?_); (case side1 => repeat (first | exact HR0.out | (with_reducible refine Kd.C_alloc ?_ _) | (with_reducible refine Kd.C_drewN ?_ _) | (with_reducible refine Kd.C_drew ?_))); (case side2 => exact HC0.out); rintro e w18 ⟨rfl, hb⟩; refine ⟨_, rfl, ?_⟩; have n0_ := Aside0.mk (below_step (by repeat (first | (with_reducible first | exact HB.out | apply below_alloc | apply pw_below_drewN | apply below_drew1) | exact HB.out)) hb); clear HB; have HB := n0_; clear n0_; (try clear hb); (try clear hb2); (try clear hk); (try clear hi)))
    go_ret2
    exact ⟨_, by first | rfl | (simp [errW_none, errW_some] <;> rfl) | (simp [*, errW_none, errW_some] <;> rfl), by first | exact Kd.R_nil _ _ _ _ _ | exact Kd.N_nil _ _ _ _ _ | exact Kd.V_nil _ _ _ _ _ | exact Kd.Q_nil _ _ _ _ _ | exact Kd.S_nil _ _ _ _ _, by repeat (first | (with_reducible first | exact HB.out | apply below_alloc | apply pw_below_drewN | apply below_drew1) | exact HB.out)⟩

end Go.Proofs.YtbiapfjhdggkpaaDoor.PA
