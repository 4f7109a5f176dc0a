/- strings.Builder: what WriteString does at a builder of the call's own. Conditions: as the theorems state. -/
import Derived.Test.YtbiapfjhdggkpaaDoorShelf
import Derived.Test.YtbiapfjhdggkpaaDoorPAx0
import Derived.Test.YtbiapfjhdggkpaaDoorSlim
namespace Go.Proofs.YtbiapfjhdggkpaaDoor.PA
open Go.RowKit Go.Proofs.YtbiapfjhdggkpaaDoorW.PrintWords Go.Proofs.YtbiapfjhdggkpaaDoorW.PrintLast Go.Proofs.YtbiapfjhdggkpaaDoorW.PrintMore
set_option linter.unusedVariables false
set_option linter.unusedSimpArgs false
set_option maxHeartbeats 4000000 in
set_option maxRecDepth 100000 in
theorem builder_check.calls (B b : Nat) (bs : List Value) (w : World) (h : Lib.IsBuilderF 58 5 B b bs w) :
  Calls Tryd.prog 61 #[.pointer (some ⟨b, 0, none⟩)] w fun e w' => e = .returned (.tuple #[]) ∧ Lib.BuilderAtF 58 5 B b (.pointer (some ⟨b, 0, none⟩)) bs w' ∧ Below B w w' ∧ Lib.OthersKept 5 (some b) w w' := by
 obtain ⟨j, hj, hjs⟩ := Option.map_eq_some_iff.1 Tryd.Builder_Extra_169.sizeBuilder
 have hj' : Tryd.prog.info? 58 = some j := hj
 have hu55 := Tryd.underlying55
 have hu58 := Tryd.underlying58
 have hu79 := Tryd.underlying79
 rcases h with h | h
 ·have h0 := h.cell0
  have hsh := h.shape
  have hfz := h.frozen0
  have H := Aside0.mk h
  clear h
  go_enter Tryd.func61, Tryd.ntmps61
  go_wp2
  rw [Lib.run_to_unsafe w ⟨b, 0, none⟩ Tryd.underlying55 Tryd.underlying79 hj' (by rw [hjs]; decide) hsh (Nat.zero_lt_succ 1)]
  simp only [Result.andThen]
  rw [Oper.upon_value]
  go_wp2
  rw [run_callFunc_extern Tryd.func68 (by kernel_rfl) (by kernel_rfl) (by kernel_rfl) (e := Extern.AbiNoEscape.same) (by kernel_rfl)]
  rw [Lib.run_noEscape]
  simp only [Result.andThen]
  rw [Oper.upon_value]
  go_wp2
  rw [Lib.run_from_unsafe w ⟨b, 0, none⟩ Tryd.underlying79 Tryd.underlying55 hj' hsh Tryd.Builder_Extra_169.liesBuilder]
  simp only [Result.andThen]
  rw [Oper.upon_value]
  go_wp2
  go_end0
  exact ⟨rfl, H.out.used _, (Below.refl B w).setCell (p := ⟨b, 0, none⟩) H.out.1 _, (Lib.OthersKept.refl _ _ w).setCell ⟨b, 0, none⟩ rfl _⟩
 ·have h0 := h.cell0
  have H := Aside0.mk h
  clear h
  go_enter Tryd.func61, Tryd.ntmps61
  go_wp2
  rw [Lib.run_neq_ptr_same w _ Tryd.underlying55 hj']
  go_wp2
  go_end0
  exact ⟨rfl, H.out, Below.refl B _, Lib.OthersKept.refl _ _ _⟩
set_option maxHeartbeats 4000000 in
set_option maxRecDepth 100000 in
theorem builder_write.calls (B b : Nat) (bs : List Value) (s : ByteArray) (w : World) (h : Lib.IsBuilderF 58 5 B b bs w) (hlen : bs.length + s.size ≤ 140737488355328) (hBw : B ≤ w.heap.size) :
  Calls Tryd.prog 47 #[.pointer (some ⟨b, 0, none⟩), .string s] w fun e w' => e = .returned (.tuple #[.int .i64 s.size, .nilIface]) ∧ Lib.IsBuilderF 58 5 B b (bs ++ Lib.strCells s) w' ∧ Below B w w' ∧ Lib.OthersKept 5 (some b) w w' := by
 obtain ⟨i0, hi, hz0, hz1, hz2⟩ := info_parts Tryd.Builder_Extra_169.infoByte
 have hu55 := Tryd.underlying55
 have hu58 := Tryd.underlying58
 have hu56 := Tryd.underlying56
 have HL := Aside0.mk hlen
 have H := Aside0.mk h
 clear h hlen
 go_enter Tryd.func47, Tryd.ntmps47
 go_wp2_with (go_at_call 61; refine (builder_check.calls B b bs _ H.out).mono ?_)
 rintro e w1 ⟨rfl, h1, hb1, hk1⟩
 obtain ⟨hB, v, hbk, hown, hne⟩ := h1
 have c0 : w1.cell? ⟨b, 0, none⟩ = some (.pointer (some ⟨b, 0, none⟩)) := by rw [Lib.cell_of_heap hbk]; rfl
 have c1 : w1.cell? ⟨b, 1, none⟩ = some v := by rw [Lib.cell_of_heap hbk]; rfl
 go_wp2_with (at_builtin; refine Lib.wpList_append_own_stringF _ rfl _ _ 56 9 rfl B 5 i0 Tryd.underlying56 Tryd.underlying9 hi hz0 hz1 hz2 _ _ _ rfl hown s rfl ?c3 ?c4 ?c5 ?_)
 case c3 => have := HL.out; unfold maxLen; omega
 case c4 => exact HL.out
 case c5 => have := hb1.size; omega
 intro v' w2 hown' hgrow _
 have hlt : b < w1.heap.size := (Array.getElem?_eq_some_iff.1 hbk).1
 have hb2 : w2.heap[b]? = some (.cells #[.pointer (some ⟨b, 0, none⟩), v] 58 (0, 0)) := (hgrow.block b hlt (fun e => hne e.symm)).trans hbk
 have d0 : w2.cell? ⟨b, 0, none⟩ = some (.pointer (some ⟨b, 0, none⟩)) := by rw [Lib.cell_of_heap hb2]; rfl
 have d1 : w2.cell? ⟨b, 1, none⟩ = some v := by rw [Lib.cell_of_heap hb2]; rfl
 have f1 : w2.frozen? ⟨b, 1, none⟩ = false := Lib.frozen_of_heap hb2 1
 obtain ⟨ao, n', cap, rfl⟩ : ∃ ao n' cap, v' = .slice ao n' cap := by
  rcases hown'.2 with ⟨hv, _⟩ | ⟨g, cap, cur, fz, hv, _⟩
  ·exact ⟨_, _, _, hv⟩
  ·exact ⟨_, _, _, hv⟩
 go_wp2
 go_ret2
 refine ⟨rfl, .inr ?_, ?_, (hk1.grown hgrow (Lib.ownsRowF_kind hown)).setCell ⟨b, 1, none⟩ rfl _⟩
 ·exact Lib.BuilderAtF.put (T := 58) (e := 5) hB hb2 (bs' := bs ++ Lib.strCells s) (by simpa [Lib.strCells_length] using hown') Tryd.Builder_Extra_169.neB5
 ·exact (hb1.grown hgrow (by have := hb1.size; omega) (fun k hk => (hown.lt k hk).1)).setCell (p := ⟨b, 1, none⟩) hB _
end Go.Proofs.YtbiapfjhdggkpaaDoor.PA
