/- copy from a row of elements of several cells into a row of one's own. Conditions: as the theorem states. -/
import Derived.Laws.CopyOwn
import Derived.Laws.CopyRow
import Derived.Laws.Tables
import Derived.Test.YtbiapfjhdggkpaaDoorMy
set_option linter.unusedVariables false
set_option linter.unusedSimpArgs false
namespace Go.Proofs.YtbiapfjhdggkpaaDoor
open Go
theorem run_copy_rowS {P : Program} (w : World) (dT sT ty elem : TypeId) (s : Nat) (g o dLen dCap : Nat) (a : Addr) (sLen sCap : Nat) (cur : Array Value) (t : TypeId) (cs : List Value)
    (hu : P.underlying dT = some (.slice elem)) (hs : (P.info? elem).map (·.size) = some s)
    (hg : w.heap[g]? = some (.cells cur t (0, 0))) (hn : cs.length = Nat.min sLen dLen * s)
    (hsrc : ∀ j v, cs[j]? = some v → w.cell? (a.add j) = some v) (hfit : o + cs.length ≤ cur.size) (h1 : ∀ v ∈ cs, v.oneCell' = true) :
    (Builtin.copy_ #[dT, sT] ty #[.slice (some ⟨g, o, none⟩) dLen dCap, .slice (some a) sLen sCap]).run P w =
      .ok (goInt (Nat.min sLen dLen)) (w.setRow g (cur.toList.take o ++ cs ++ cur.toList.drop (o + cs.length)).toArray) := by
  have hl := run_loadCells_list (P := P) w a cs hsrc
  have hst := run_storeCells_at P g o t cs 0 cur w hg (by simpa using hfit) h1
  cases hq : P.info? elem with
  | none => simp [hq] at hs
  | some i =>
    have hi : i.size = s := by simpa [hq] using hs
    simp [Builtin.copy_, run_underlying hu, Builtin.lenOf, Builtin.firstCells, sizeOf, typeInfo, hq, hi, ← hn, hl, hst]
end Go.Proofs.YtbiapfjhdggkpaaDoor
namespace Go.Proofs.YtbiapfjhdggkpaaDoorW.PrintWords
open Go.RowKit Go.Proofs.YtbiapfjhdggkpaaDoor
namespace Kd
section
variable {P : Program} {α : Type}
/-- copy(xs[k+1:], xs[k:]) on a row of the call's own: the elements from k on move up by one; the last one falls away. -/
theorem R_shift_run (d : Kd α) {W : World} (base : Nat) (t ty e : TypeId) (i : TypeInfo) (ht : P.underlying t = some (.slice e)) (hi : P.info? e = some i) (hsz : i.size = d.sz)
    {g n c k : Nat} {xs : List α} {ok : Nat → Prop} (HO : d.R e W base ok (.slice (some ⟨g, 0, none⟩) n c) xs) (hk : k < n) {A B : Option Addr} (hA : A = if c = k + 1 then some ⟨g, 0, none⟩ else (some (⟨g, 0, none⟩ : Addr)).map (·.add ((k + 1) * d.sz))) (hB : B = if c = k then some ⟨g, 0, none⟩ else (some (⟨g, 0, none⟩ : Addr)).map (·.add (k * d.sz))) (c2 c3 : Nat) :
    ∃ w1, (Builtin.copy_ #[t, t] ty #[.slice A (n - (k + 1)) c2, .slice B (n - k) c3]).run P W = .ok (goInt ((n - (k + 1) : Nat) : Int)) w1 ∧ d.R e w1 base ok (.slice (some ⟨g, 0, none⟩) n c) (xs.take (k + 1) ++ (xs.drop k).take (n - (k + 1))) ∧ W.grownBy w1 (some g) := by
  obtain ⟨hn, hnc, _⟩ := R_reads' HO
  obtain ⟨hok, inner, hown, hr⟩ := HO
  have hin : inner.length = n * d.sz := by rw [hr.1, hn]
  rcases hown.2 with ⟨hv, _⟩ | ⟨g', cap', cur, hv, hb, hh, _, hcm, hcs, htake⟩
  · cases hv
  injection hv with ha _ hc
  injection ha with ha
  injection ha with hg
  subst hg; subst hc
  rw [← hn] at htake
  obtain ⟨news, hnews⟩ : ∃ news, news = (inner.drop (k * d.sz)).take ((n - (k + 1)) * d.sz) := ⟨_, rfl⟩
  have hle : (k + 1) * d.sz ≤ n * d.sz := Nat.mul_le_mul_right _ hk
  have hks : (k + 1) * d.sz = k * d.sz + d.sz := Nat.succ_mul _ _
  have hnc' : n * d.sz ≤ c * d.sz := Nat.mul_le_mul_right _ hnc
  have hsub : (n - (k + 1)) * d.sz = n * d.sz - (k + 1) * d.sz := Nat.sub_mul _ _ _
  have hnl : news.length = (n - (k + 1)) * d.sz := by rw [hnews, List.length_take, List.length_drop, hin]; omega
  have hcur : ∀ q, q < n * d.sz → cur.toList[q]? = inner[q]? := by
    intro q hq
    rw [← htake, List.getElem?_take, if_pos hq]
  have hsz0 : cur.size = c * d.sz := by omega
  have hBs : B = some ((⟨g, 0, none⟩ : Addr).add (k * d.sz)) := by rw [hB, if_neg (by omega)]; rfl
  subst hBs
  obtain ⟨o, hAo, hO⟩ : ∃ o, A = some ⟨g, o, none⟩ ∧ (o = (k + 1) * d.sz ∨ (o = 0 ∧ news = [])) := by
    by_cases hck : c = k + 1
    · rw [if_pos hck] at hA
      exact ⟨0, hA, .inr ⟨rfl, List.eq_nil_of_length_eq_zero (by rw [hnl, show n - (k + 1) = 0 by omega, Nat.zero_mul])⟩⟩
    · rw [if_neg hck, Option.map_some] at hA
      exact ⟨(k + 1) * d.sz, by rw [hA, add_at, Nat.zero_add], .inl rfl⟩
  subst hAo
  have hcell : ∀ j u, news[j]? = some u → W.cell? (((⟨g, 0, none⟩ : Addr).add (k * d.sz)).add j) = some u := by
    intro j u hu
    have hj : j < news.length := (List.getElem?_eq_some_iff.1 hu).1
    rw [add_add, add_at, cell_of_row W g _ cur e (0, 0) hh, ← Array.getElem?_toList]
    rw [hnews, List.getElem?_take, if_pos (by omega), List.getElem?_drop] at hu
    rw [← hu, Nat.zero_add]
    exact hcur _ (by omega)
  have hone : ∀ u ∈ news, u.oneCell' = true := by
    intro u hu
    have hu' : u ∈ inner := by rw [hnews] at hu; exact List.mem_of_mem_drop (List.mem_of_mem_take hu)
    obtain ⟨q, hq, rfl⟩ := List.mem_iff_getElem.1 hu'
    have hs0 : 0 < d.sz := by
      rcases Nat.eq_zero_or_pos d.sz with h | h
      · rw [h, Nat.mul_zero] at hin; omega
      · exact h
    have hql : q / d.sz < xs.length := by
      rw [Nat.div_lt_iff_lt_mul hs0, ← hr.1]
      exact hq
    refine d.K_one (d.K_of_M (hr.2 (q / d.sz) _ (List.getElem?_eq_getElem hql))) _ ?_
    rw [List.mem_iff_getElem?]
    refine ⟨q % d.sz, ?_⟩
    rw [List.getElem?_take, if_pos (Nat.mod_lt _ hs0), List.getElem?_drop, Nat.mul_comm, Nat.div_add_mod, List.getElem?_eq_getElem hq]
  have hfit : o + news.length ≤ cur.size := by
    rcases hO with h | ⟨h, h'⟩
    · omega
    · subst h; rw [h']; simp
  have hmin : Nat.min (n - k) (n - (k + 1)) = n - (k + 1) := Nat.min_eq_right (by omega)
  have hrun := run_copy_rowS (P := P) W t t ty e d.sz g o (n - (k + 1)) c2 _ (n - k) c3 cur e news ht (by rw [hi]; simp [hsz]) hh (by rw [hmin, hnl]) hcell hfit hone
  rw [hmin] at hrun
  obtain ⟨cur', hcur'⟩ : ∃ x, x = (cur.toList.take o ++ news ++ cur.toList.drop (o + news.length)).toArray := ⟨_, rfl⟩
  rw [← hcur'] at hrun
  have h3 : (W.setRow g cur').heap[g]? = some (.cells cur' e (0, 0)) := setRow_heap W g cur cur' e (0, 0) hh
  have h4 : cur'.size = cur.size := by
    rw [hcur']
    simp
    omega
  have hgo : ∀ m, some g = (Value.slice (some ⟨g, 0, none⟩) m c).ownBlock := fun m => by simp [Value.ownBlock]
  have hel : (xs.take (k + 1) ++ (xs.drop k).take (n - (k + 1))).length = n := by rw [List.length_append, List.length_take, List.length_take, List.length_drop]; omega
  have hfar : ∀ k', k' ≠ g → (W.setRow g cur').heap[k']? = W.heap[k']? := fun k' hk' => setRow_other W g k' cur' hk'
  refine ⟨_, hrun, ⟨fun k' hk' => hok k' hk', inner.take ((k + 1) * d.sz) ++ news, ⟨?_, .inr ⟨g, c, cur', by rw [hel], hb, h3, by rw [hel]; omega, hcm, by rw [h4, hcs], ?_⟩⟩, ?_⟩, ⟨rfl, rfl, rfl, by simp, fun k' _ hk' => hfar k' (fun he => hk' (by rw [he]))⟩⟩
  · rw [List.length_append, List.length_take, hnl, hel]
    omega
  · rw [hel, hcur']
    rcases hO with h | ⟨h, h'⟩
    · subst h
      have h7 : cur.toList.take ((k + 1) * d.sz) = inner.take ((k + 1) * d.sz) := by
        rw [← htake, List.take_take, Nat.min_eq_left (by omega)]
      show List.take _ (cur.toList.take ((k + 1) * d.sz) ++ news ++ _) = _
      rw [h7]
      exact List.take_left' (by rw [List.length_append, List.length_take, hnl]; omega)
    · subst h
      rw [h']
      have hnk : (n - (k + 1)) * d.sz = 0 := by rw [← hnl, h']; rfl
      simp
      rw [htake, List.take_of_length_le (by omega)]
  · have hmv : ∀ p q, d.M W base (fun k' => ok k' ∧ some k' ≠ (Value.slice (some ⟨g, 0, none⟩) n c).ownBlock) p q → d.M (W.setRow g cur') base (fun k' => ok k' ∧ some k' ≠ (Value.slice (some ⟨g, 0, none⟩) n c).ownBlock) p q := fun p q hp =>
      d.M_move (fun k' hk' => hfar k' (fun he => hk'.2 (by rw [← hgo, he]))) hp
    subst hnews
    exact reps_append ((reps_take hr (by omega)).imp_ hmv) ((reps_take (reps_drop hr) (by rw [List.length_drop]; omega)).imp_ hmv)
end
section
variable {P : Program} {ops : Array Oper} {rest : List Oper} {o : Oper} {a : Act} {Q : Exit → Act → World → Prop} {Kc : Act → World → Prop} {α : Type}
theorem R_shift (d : Kd α) {w0 W : World} (base : Nat) (hgd : o.guard = none) (s x : Operand) (t e : TypeId) (ho : o.op = .call { callee := .builtin .copy, args := #[s, x], argTypes := #[t, t] })
    (ht : P.underlying t = some (.slice e)) (hinfo : (P.info? e).map (·.size) = some d.sz) {g n c k m m2 c2 c3 : Nat} {A B : Option Addr} {xs : List α} {ok : Nat → Prop}
    (hs : a.eval s = .slice A m c2) (hx : a.eval x = .slice B m2 c3) (hA : A = if c = k + 1 then some ⟨g, 0, none⟩ else (some (⟨g, 0, none⟩ : Addr)).map (·.add ((k + 1) * d.sz))) (hB : B = if c = k then some ⟨g, 0, none⟩ else (some (⟨g, 0, none⟩ : Addr)).map (·.add (k * d.sz))) (hm : m = n - (k + 1)) (hm2 : m2 = n - k)
    (HO : d.R e W base ok (.slice (some ⟨g, 0, none⟩) n c) xs) (hk : k < n) (HB : Below base w0 W) (hbase : base ≤ W.heap.size)
    (h : ∀ w1, d.R e w1 base ok (.slice (some ⟨g, 0, none⟩) n c) (xs.take (k + 1) ++ (xs.drop k).take (n - (k + 1))) → Below base w0 w1 → W.grownBy w1 (some g) → wpList P ops Q rest (a.put o.dst (goInt ((n - (k + 1) : Nat) : Int))) w1) : wpList P ops Q (o :: rest) a W := by
  obtain ⟨i0, hi, hsz⟩ := Option.map_eq_some_iff.1 hinfo
  subst hm
  subst hm2
  obtain ⟨w1, hr, h1, h2⟩ := R_shift_run (P := P) d base t o.type e i0 ht hi hsz HO hk hA hB c2 c3
  refine wpList_plain hgd fun K hK => ?_
  unfold Oper.wp execOp
  simp only [ho, resolve, invoke, builtin, Sem.run_bind, Sem.run_pure, Result.andThen_ok, List.map_toArray, List.map_cons, List.map_nil, hs, hx, hr]
  exact hK _ _ (h w1 h1 (HB.grown h2 hbase (fun k hk => by injection hk with hk; subst hk; exact R_base HO _ (by simp [Value.ownBlock]))) h2)
theorem R_shift_step (d : Kd α) {w0 W : World} (base : Nat) (hw : Region.wanted o (yielded ops a.tmps) = true) (s x : Operand) (t e : TypeId) (ho : o.op = .call { callee := .builtin .copy, args := #[s, x], argTypes := #[t, t] })
    (ht : P.underlying t = some (.slice e)) (hinfo : (P.info? e).map (·.size) = some d.sz) {g n c k m m2 c2 c3 : Nat} {A B : Option Addr} {xs : List α} {ok : Nat → Prop}
    (hs : a.eval s = .slice A m c2) (hx : a.eval x = .slice B m2 c3) (hA : A = if c = k + 1 then some ⟨g, 0, none⟩ else (some (⟨g, 0, none⟩ : Addr)).map (·.add ((k + 1) * d.sz))) (hB : B = if c = k then some ⟨g, 0, none⟩ else (some (⟨g, 0, none⟩ : Addr)).map (·.add (k * d.sz))) (hm : m = n - (k + 1)) (hm2 : m2 = n - k)
    (HO : d.R e W base ok (.slice (some ⟨g, 0, none⟩) n c) xs) (hk : k < n) (HB : Below base w0 W) (hbase : base ≤ W.heap.size)
    (h : ∀ w1, d.R e w1 base ok (.slice (some ⟨g, 0, none⟩) n c) (xs.take (k + 1) ++ (xs.drop k).take (n - (k + 1))) → Below base w0 w1 → W.grownBy w1 (some g) → Kc (a.put o.dst (goInt ((n - (k + 1) : Nat) : Int))) w1) :
    if Region.wanted o (yielded ops a.tmps) = true then Oper.wp P o a W Kc Q else Kc (a.put o.dst undef) W := by
  obtain ⟨i0, hi, hsz⟩ := Option.map_eq_some_iff.1 hinfo
  subst hm
  subst hm2
  obtain ⟨w1, hr, h1, h2⟩ := R_shift_run (P := P) d base t o.type e i0 ht hi hsz HO hk hA hB c2 c3
  rw [if_pos hw]
  unfold Oper.wp execOp
  simp only [ho, resolve, invoke, builtin, Sem.run_bind, Sem.run_pure, Result.andThen_ok, List.map_toArray, List.map_cons, List.map_nil, hs, hx, hr]
  exact h w1 h1 (HB.grown h2 hbase (fun k hk => by injection hk with hk; subst hk; exact R_base HO _ (by simp [Value.ownBlock]))) h2
end
end Kd
end Go.Proofs.YtbiapfjhdggkpaaDoorW.PrintWords
