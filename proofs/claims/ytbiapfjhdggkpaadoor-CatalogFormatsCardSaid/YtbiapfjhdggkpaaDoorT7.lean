/- catalog.place. Conditions: none. -/
import Derived.Test.YtbiapfjhdggkpaaDoorT6
namespace Go.Proofs.YtbiapfjhdggkpaaDoor.PA
open Go.RowKit Go.Lib Go.Proofs.YtbiapfjhdggkpaaDoorW.PrintWords Go.Proofs.YtbiapfjhdggkpaaDoorW.PrintLast Go.Proofs.YtbiapfjhdggkpaaDoorW.PrintMore
attribute [local go_sem] max2_int min2_int max_two min_two max_three min_three max_four min_four
set_option linter.unusedVariables false
set_option linter.unusedSimpArgs false
def place_f (l : List S26) (p : ByteArray) : Option Int := search_l l p (l.length + 1) 0 (l.length : Int)
set_option maxHeartbeats 4000000 in
set_option maxRecDepth 100000 in
theorem catalog_place.callsK (A : Option Addr) (c : Nat) (l : List S26) (p : ByteArray) (r : Int) (w : World) (hr : Kd.C k26 w A l.length l) (hl : l.length < 1000000) (h : place_f l p = some r) :
  Calls Tryd.prog 41 #[.slice A l.length c, .string p] w fun e w' => e = .returned (.int .i64 r) ∧ Below w.heap.size w w' := by
 have hmf : ∀ (fn : Fn) (first cap : Array Value) (w : World), (Instr.makeFunc fn first cap).run Tryd.prog w = .ok (.func fn first cap) w := fun _ _ _ _ => rfl
 have hu24 := Tryd.underlying24
 have HR := Aside0.mk hr
 have HL := Aside0.mk hl
 have H' : Aside0 (search_l l p (l.length + 1) 0 (l.length : Int) = some r) := ⟨h⟩
 have HB := Aside0.mk (Below.refl w.heap.size w)
 clear hr hl h
 go_enter Tryd.func41, Tryd.ntmps41
 go_wp2_with (first | ((with_reducible refine gate_dst (N := 2) rfl ?_); refine box_event ?hg (N := 2) ?hd (cs := #[.slice A l.length c]) (t := 24) ?hr ?_; (case hd => rfl); (case hg => rfl); (case hr => first | (go_simp; done) | (go_simp; rfl)); intro gb1 hg w3 hbox hb; have n0_ := bB HB hb; have n1_ := Aside0.mk hbox; clear HB ; have HB := n0_; have BK1 := n1_; clear n0_ n1_; clear hb hbox hg) | ((with_reducible refine gate_dst (N := 3) rfl ?_); refine box_event ?hg (N := 3) ?hd (cs := #[.string p]) (t := 9) ?hr ?_; (case hd => rfl); (case hg => rfl); (case hr => first | (go_simp; done) | (go_simp; rfl)); intro gb2 hg w4 hbox hb; replace BK1 := bK BK1 hb; replace HB := bB HB hb; have BK2 := Aside0.mk hbox; clear hb hbox hg; have hc0 : w4.cell? ⟨gb1, 0, none⟩ = some (.slice A l.length c) := bC BK1 0 rfl) | (go_at_call 55; (with_reducible refine (sort_Search.calls (l.length + 1) A c l gb1 gb2 p r _ (Kd.C_below HR.out (uB HB)) ((blk_cell (uK BK1) 0).trans rfl) ((blk_cell (uK BK2) 0).trans rfl) HL.out H'.out).mono ?_); rintro e w6 ⟨rfl, hb⟩; have n0_ := bK BK1 hb; have n1_ := bK BK2 hb; have n9_ := bB HB hb; clear BK1 BK2 HB; have BK1 := n0_; have BK2 := n1_; have HB := n9_; clear n0_ n1_ n9_; clear hb))
 go_ret
 exact ⟨rfl, by repeat (first | (with_reducible first | exact HB.out | apply bL | apply bM | apply bR) | exact HB.out)⟩
def catalog_place.f (l0 : List S26) (a1 : ByteArray) : Option Int := if l0.length < 1000000 then place_f l0 a1 else none
theorem catalog_place.calls (A0 : Option Addr) (c0 : Nat) (l0 : List S26) (a1 : ByteArray) (r : Int) (w : World) (hr0 : Kd.C k26 w A0 l0.length l0) (hc0 : l0.length ≤ c0) (h : catalog_place.f l0 a1 = some r) :
    Calls Tryd.prog 41 #[.slice A0 l0.length c0, .string a1] w fun e w' => e = .returned (.int .i64 r) ∧ Below w.heap.size w w' := by
  unfold catalog_place.f at h
  by_cases hl : l0.length < 1000000
  · rw [if_pos hl] at h
    exact catalog_place.callsK A0 c0 l0 a1 r w hr0 hl h
  · rw [if_neg hl] at h
    exact absurd h (by simp)
end Go.Proofs.YtbiapfjhdggkpaaDoor.PA
