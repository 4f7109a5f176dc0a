/- catalog.Format: what it returns. Conditions: none. -/
import Derived.Test.YtbiapfjhdggkpaaDoorT9
import Derived.Test.YtbiapfjhdggkpaaDoorPAx3
import Derived.Test.YtbiapfjhdggkpaaDoorMy
namespace Go.Proofs.YtbiapfjhdggkpaaDoor.PA
open Go.RowKit Go.Proofs.YtbiapfjhdggkpaaDoorW.PrintWords Go.Proofs.YtbiapfjhdggkpaaDoorW.PrintLast Go.Proofs.YtbiapfjhdggkpaaDoorW.PrintMore
attribute [local go_sem] max2_int min2_int max_two min_two max_three min_three max_four min_four
set_option linter.unusedVariables false
set_option linter.unusedSimpArgs false
def itoaO (a0 : Int) : Option ByteArray := if 0 ≤ a0 then (if a0 < 100 then some (itoa2 a0) else none) else none
theorem itoaO.digits : ∀ i : Nat, i < 100 → (Lib.decDigits i).toArray.toList = (itoa2 i).data.toList := by decide +kernel
theorem itoaO.calls (a0 : Int) (r : ByteArray) (w : World) (h : itoaO a0 = some r) :
  Calls Tryd.prog 48 #[.int .i64 a0] w fun e w' => e = .returned (.string r) ∧ w' = w := by
 unfold itoaO at h
 by_cases h0 : 0 ≤ a0
 ·rw [if_pos h0] at h
  by_cases h1 : a0 < 100
  ·rw [if_pos h1] at h
   obtain rfl := Option.some.inj h
   obtain ⟨i, rfl⟩ : ∃ i : Nat, a0 = (i : Int) := ⟨a0.toNat, by omega⟩
   refine (Tryd.strconv_Itoa_small i (by omega) w).mono ?_
   rintro e w' ⟨rfl, rfl⟩
   have e1 := itoaO.digits i (by omega)
   refine ⟨?_, rfl⟩
   have e2 : (⟨(Lib.decDigits i).toArray⟩ : ByteArray) = itoa2 i := by
    rw [show itoa2 (i : Int) = ⟨(itoa2 (i : Int)).data⟩ from rfl]
    congr 1
    exact Array.toList_inj.1 e1
   rw [e2]
  ·rw [if_neg h1] at h; exact absurd h (by simp)
 ·rw [if_neg h0] at h; exact absurd h (by simp)
theorem itoaO.size {a0 : Int} {r : ByteArray} (h : itoaO a0 = some r) : r.size ≤ 2 := by
 unfold itoaO itoa2 at h
 by_cases h0 : 0 ≤ a0
 ·rw [if_pos h0] at h
  by_cases h1 : a0 < 100
  ·rw [if_pos h1] at h
   obtain rfl := Option.some.inj h
   by_cases h2 : a0 < 10
   ·rw [if_pos h2]; exact Nat.le_succ 1
   ·rw [if_neg h2]; exact Nat.le_refl 2
  ·rw [if_neg h1] at h; exact absurd h (by simp)
 ·rw [if_neg h0] at h; exact absurd h (by simp)
/-- A line's two parts, as they are written. -/
def fmtHead (x : S26) : Option ByteArray := if x.f0.size ≤ 12 then (if x.f1 = 1 then some ((⟨#[108, 111, 99, 107, 32]⟩ : ByteArray) ++ x.f0) else (itoaO x.f2).bind fun u => some ((((⟨#[112, 111, 111, 108, 32]⟩ : ByteArray) ++ x.f0) ++ (⟨#[32]⟩ : ByteArray)) ++ u)) else none
def fmtTail (x : S26) : Option ByteArray := (itoaO x.f3).bind fun u => some (((⟨#[32, 97, 116, 32]⟩ : ByteArray) ++ u) ++ (⟨#[10]⟩ : ByteArray))
def fmtAll : List S26 → Option (List UInt8)
 | [] => some []
 | x :: l => (fmtHead x).bind fun a => (fmtTail x).bind fun b => (fmtAll l).bind fun c => some (a.data.toList ++ (b.data.toList ++ c))
def catalog_Format.f (k : Nat) (l0 : List S26) : Option ByteArray := (catalog_Valid.f k l0).bind fun v => if v = true then (if l0.length ≤ 8 then (fmtAll l0).bind fun b => some ⟨b.toArray⟩ else none) else some ⟨#[]⟩
theorem catalog_Format.mono : ∀ a k, LeO (catalog_Format.f k a) (catalog_Format.f (k + 1) a) := by
 intro a k
 unfold catalog_Format.f
 exact LeO.bind (catalog_Valid.mono _ _) (fun _ => LeO.refl _)
theorem isB_below {B b : Nat} {bs : List Value} {w w1 : World} (h : Lib.IsBuilderF 58 5 B b bs w) (hb : Below w.heap.size w w1) : Lib.IsBuilderF 58 5 B b bs w1 := by
 have one : ∀ p, Lib.BuilderAtF 58 5 B b p bs w → Lib.BuilderAtF 58 5 B b p bs w1 := by
  rintro p ⟨hB, v, hbk, ⟨hl, hv⟩, hne⟩
  refine ⟨hB, v, (hb.block b (Array.getElem?_eq_some_iff.1 hbk).1).trans hbk, ⟨hl, ?_⟩, hne⟩
  rcases hv with hv | ⟨g, cap, cur, fz, hv, hg, hh, r⟩
  ·exact .inl hv
  ·exact .inr ⟨g, cap, cur, fz, hv, hg, (hb.block g (Array.getElem?_eq_some_iff.1 hh).1).trans hh, r⟩
 exact h.elim (fun x => .inl (one _ x)) (fun x => .inr (one _ x))
theorem isB_ne {B b : Nat} {bs : List Value} {w : World} (h : Lib.IsBuilderF 58 5 B b bs w) : b < w.heap.size := by
 rcases h with ⟨_, _, h, _⟩ | ⟨_, _, h, _⟩
 ·exact (Array.getElem?_eq_some_iff.1 h).1
 ·exact (Array.getElem?_eq_some_iff.1 h).1
theorem fmtAll_at (l : List S26) (i : Nat) (hi : i < l.length) : fmtAll (l.drop i) = (fmtHead (rd_T26 l i)).bind fun a => (fmtTail (rd_T26 l i)).bind fun b => (fmtAll (l.drop (i + 1))).bind fun c => some (a.data.toList ++ (b.data.toList ++ c)) := by
 rw [List.drop_eq_getElem_cons hi, fmtAll]
 have : rd_T26 l i = l[i] := by unfold rd_T26; rw [Int.toNat_natCast, List.getD_eq_getElem?_getD, List.getElem?_eq_getElem hi]; rfl
 rw [this]
set_option maxHeartbeats 8000000 in
set_option maxRecDepth 100000 in
theorem catalog_Format.calls (k : Nat) (A0 : Option Addr) (c0 : Nat) (l0 : List S26) (r : ByteArray) (w : World) (hr0 : Kd.C k26 w A0 l0.length l0) (hc0 : l0.length ≤ c0) (h : catalog_Format.f k l0 = some r) :
  Calls Tryd.prog 33 #[.slice A0 l0.length c0] w fun e w' => e = .returned (.string r) ∧ Below w.heap.size w w' := by
 have hu24 := Tryd.underlying24
 have hu26 := Tryd.underlying26
 have hu58 := Tryd.underlying58
 have HR0 := Aside0.mk hr0
 have HC0 := Aside0.mk hc0
 clear hr0 hc0
 have HB := Aside0.mk (Below.refl w.heap.size w)
 unfold catalog_Format.f at h
 obtain ⟨v, hv, h1⟩ := Option.bind_eq_some_iff.mp h
 clear h
 have h := h1
 clear h1
 have HV := Aside0.mk hv
 clear hv
 by_cases c1 : v = true
 rotate_left
 ·replace c1 := Bool.eq_false_iff.mpr c1
  subst c1
  rw [if_neg (by decide)] at h
  obtain rfl := Option.some.inj h
  clear h
  go_enter Tryd.func33, Tryd.ntmps33
  go_wp2_with (first | (go_at_call 20; (with_reducible refine (catalog_Valid.calls k _ _ l0 false _ ?side1 ?side2 HV.out).mono ?_); (case side1 => exact Kd.C_below HR0.out (uB HB)); (case side2 => exact HC0.out); rintro e w5 ⟨rfl, hb⟩; have n9_ := bB HB hb; clear HB; have HB := n9_; clear n9_; clear hb))
  go_ret
  exact ⟨rfl, by repeat (first | (with_reducible first | exact HB.out | apply bL | apply bM | apply bR) | exact HB.out)⟩
 subst c1
 rw [if_pos rfl] at h
 by_cases c8 : l0.length ≤ 8
 rotate_left
 ·rw [if_neg c8] at h; exact absurd h (by simp)
 rw [if_pos c8] at h
 obtain ⟨full, hf, h1⟩ := Option.bind_eq_some_iff.mp h
 clear h
 obtain rfl := Option.some.inj h1
 clear h1
 have HF := Aside0.mk hf
 have H8 := Aside0.mk c8
 clear hf c8
 go_enter Tryd.func33, Tryd.ntmps33
 go_wp2_with (first | (go_at_call 20; (with_reducible refine (catalog_Valid.calls k _ _ l0 true _ ?side1 ?side2 HV.out).mono ?_); (case side1 => exact Kd.C_below HR0.out (uB HB)); (case side2 => exact HC0.out); rintro e w5 ⟨rfl, hb⟩; have n9_ := bB HB hb; clear HB; have HB := n9_; clear n9_; clear hb) | ((with_reducible refine gate_dst (N := 3) rfl ?_); refine box_event ?hg (N := 3) ?hd (cs := #[.pointer none, .slice none 0 0]) (t := 58) ?hr ?_; (case hd => rfl); (case hg => rfl); (case hr => first | (go_simp; done) | (go_simp; rfl)); intro gb hg w6 hbox hb; have GE := gE HB hg; have n9_ := bB HB hb; clear HB; have HB := n9_; clear n9_; have HI : Aside0 (Lib.IsBuilderF 58 5 w.heap.size gb (Lib.byteCells []) w6) := ⟨Lib.IsBuilderF.of (.inl ⟨GE.out, .slice none 0 0, hbox, World.ownsRow_nil _ _ _ _, by simp [Value.ownBlock]⟩)⟩; clear hb hbox hg))
 go_loopg [11] (l0.length + 1) (fun kq v11 w' => ∃ (i : Nat) (acc rest : List UInt8), v11 = .int .i64 (i : Int) ∧ Aside0 (i ≤ l0.length) ∧ Aside0 (l0.length ≤ i + kq) ∧ Aside0 (fmtAll (l0.drop i) = some rest) ∧ Aside0 (acc ++ rest = full) ∧ Aside0 (acc.length ≤ i * 60) ∧ Aside0 (Lib.IsBuilderF 58 5 w.heap.size gb (Lib.byteCells acc) w') ∧ Aside0 (Below w.heap.size w w'))
 case atStart => exact ⟨0, [], full, (by first | rfl | (simp; done)), ⟨Nat.zero_le _⟩, ⟨by omega⟩, ⟨HF.out⟩, ⟨rfl⟩, ⟨Nat.zero_le _⟩, HI, ⟨by repeat (first | (with_reducible first | exact HB.out | apply bL | apply bM | apply bR) | exact HB.out)⟩⟩
 case round =>
  clear HI
  obtain ⟨i, acc, rest, rfl, HLE, HK1, HREST, HACC, HLEN, HI, HB⟩ := hrel
  by_cases c3 : i < l0.length
  ·have hrest := HREST.out
   rw [fmtAll_at l0 i c3] at hrest
   obtain ⟨sa, ha, hq1⟩ := Option.bind_eq_some_iff.mp hrest
   obtain ⟨sb, hb_, hq2⟩ := Option.bind_eq_some_iff.mp hq1
   obtain ⟨rest2, hr2, hq3⟩ := Option.bind_eq_some_iff.mp hq2
   clear hq1 hq2 hrest
   obtain rfl := Option.some.inj hq3
   have HR2 := Aside0.mk hr2
   clear hq3 hr2 HREST
   have P0 : Aside0 ((0 : Int) ≤ (i : Int)) := ⟨by omega⟩
   have P1 : Aside0 ((i : Int) < (l0.length : Int)) := ⟨by omega⟩
   obtain ⟨ad, ea, hx0, hx1, hx2, hx3⟩ := at_T26 HR0.out (i : Int) P0.out P1.out
   cases ea
   replace hx0 := (HB.out.cell (World.block_lt_of_cell? w _ hx0)).trans hx0
   replace hx1 := (HB.out.cell (World.block_lt_of_cell? w _ hx1)).trans hx1
   replace hx2 := (HB.out.cell (World.block_lt_of_cell? w _ hx2)).trans hx2
   replace hx3 := (HB.out.cell (World.block_lt_of_cell? w _ hx3)).trans hx3
   have p0 := eq_true P0.out
   have p1 := eq_true P1.out
   have c3b : decide ((i : Int) < (l0.length : Int)) = true := decide_eq_true P1.out
   have hw1 : wrap64 ((i : Int) + 1) = ((i + 1 : Nat) : Int) := by have := H8.out; unfold wrap64; omega
   obtain ⟨x, hx⟩ : ∃ x, x = rd_T26 l0 (i : Int) := ⟨_, rfl⟩
   rw [← hx] at hx0 hx1 hx2 hx3 ha hb_
   simp only [Int.toNat_natCast] at hx0 hx1 hx2 hx3
   clear hx
   unfold fmtTail at hb_
   obtain ⟨u3, hu3, hb2_⟩ := Option.bind_eq_some_iff.mp hb_
   clear hb_
   obtain rfl := Option.some.inj hb2_
   have HU3 := Aside0.mk hu3
   have hs3 := itoaO.size hu3
   have s3a : (9223372036854775807 < 4 + u3.size) = False := eq_false (by omega)
   have s3b : (9223372036854775807 < 4 + u3.size + 1) = False := eq_false (by omega)
   clear hb2_ hu3
   unfold fmtHead at ha
   by_cases cs : x.f0.size ≤ 12
   rotate_left
   ·rw [if_neg cs] at ha; exact absurd ha (by simp)
   rw [if_pos cs] at ha
   have CS := Aside0.mk cs
   clear cs
   have s1a : (9223372036854775807 < 5 + x.f0.size) = False := eq_false (by have := CS.out; omega)
   by_cases c4 : x.f1 = 1
   ·rw [if_pos c4] at ha
    obtain rfl := Option.some.inj ha
    have c4b : (x.f1 == 1) = true := beq_iff_eq.mpr c4
    clear c4 ha
    have LEN1 : Aside0 ((Lib.byteCells acc).length + ((⟨#[108, 111, 99, 107, 32]⟩ : ByteArray) ++ x.f0).size ≤ 140737488355328) := ⟨by have h1 := HLEN.out; have h2 := H8.out; have h3 := HLE.out; have h4 := CS.out; rw [Lib.byteCells_length]; simp only [ByteArray.size_append]; show _ + (5 + x.f0.size) ≤ _; omega⟩
    have LEN2 : Aside0 ((Lib.byteCells acc ++ Lib.strCells ((⟨#[108, 111, 99, 107, 32]⟩ : ByteArray) ++ x.f0)).length + (((⟨#[32, 97, 116, 32]⟩ : ByteArray) ++ u3) ++ (⟨#[10]⟩ : ByteArray)).size ≤ 140737488355328) := ⟨by have h1 := HLEN.out; have h2 := H8.out; have h3 := HLE.out; have h4 := CS.out; rw [List.length_append, Lib.byteCells_length, Lib.strCells_length]; simp only [ByteArray.size_append]; show _ + (5 + x.f0.size) + (4 + u3.size + 1) ≤ _; omega⟩
    have LENT : Aside0 (((⟨#[108, 111, 99, 107, 32]⟩ : ByteArray) ++ x.f0).data.toList.length + ((((⟨#[32, 97, 116, 32]⟩ : ByteArray) ++ u3) ++ (⟨#[10]⟩ : ByteArray))).data.toList.length ≤ 60) := ⟨by have h4 := CS.out; show ((⟨#[108, 111, 99, 107, 32]⟩ : ByteArray) ++ x.f0).size + ((((⟨#[32, 97, 116, 32]⟩ : ByteArray) ++ u3) ++ (⟨#[10]⟩ : ByteArray))).size ≤ 60; simp only [ByteArray.size_append]; show (5 + x.f0.size) + (4 + u3.size + 1) ≤ 60; omega⟩
    go_wp2_with (first | ((with_reducible refine gate_dst (N := 5) rfl ?_); refine box_event ?hg (N := 5) ?hd (cs := #[.string (⟨#[]⟩ : ByteArray), .int .i64 0, .int .i64 0, .int .i64 0]) (t := 26) ?hr ?_; (case hd => rfl); (case hg => rfl); (case hr => first | (go_simp; done) | (go_simp; rfl)); intro gr hg w8 hbox hb; have HRB : Aside0 (Below wr.heap.size wr w8) := ⟨hb⟩; have GRE : Aside0 (wr.heap.size ≤ gr) := ⟨Nat.le_of_eq hg.symm⟩; have NEG : Aside0 (gr ≠ gb) := ⟨by have := isB_ne HI.out; rw [hg]; omega⟩; have BK := Aside0.mk hbox; clear hb hbox hg; obtain ⟨hz0, hz1, hz2, hz3, hf0, hf1, hf2, hf3⟩ := d4 BK) | (go_at_call 47; refine (builder_write.calls w.heap.size gb _ (((⟨#[32, 97, 116, 32]⟩ : ByteArray) ++ u3) ++ (⟨#[10]⟩ : ByteArray)) _ HI2.out ?sl ?sz).mono ?_; (case sl => exact LEN2.out); (case sz => exact below_size HB2.out); rintro e w10 ⟨rfl, hI10, hb10, _⟩; have HI3 := Aside0.mk hI10; have HB3 : Aside0 (Below w.heap.size w w10) := ⟨HB2.out.trans hb10⟩; clear hI10 hb10) | (go_at_call 47; haveI := gI GRE; have HW1 : Aside0 (Below wr.heap.size wr ((((w8.setCell ⟨gr, 0, none⟩ (.string x.f0)).setCell ⟨gr, 1, none⟩ (.int .i64 x.f1)).setCell ⟨gr, 2, none⟩ (.int .i64 x.f2)).setCell ⟨gr, 3, none⟩ (.int .i64 x.f3))) := ⟨uS HRB⟩; have HB1 : Aside0 (((((w8.setCell ⟨gr, 0, none⟩ (.string x.f0)).setCell ⟨gr, 1, none⟩ (.int .i64 x.f1)).setCell ⟨gr, 2, none⟩ (.int .i64 x.f2)).setCell ⟨gr, 3, none⟩ (.int .i64 x.f3)).heap[gr]? = some (.cells #[.string x.f0, .int .i64 x.f1, .int .i64 x.f2, .int .i64 x.f3] 26 (0, 0))) := ⟨p4 BK⟩; refine (builder_write.calls w.heap.size gb _ ((⟨#[108, 111, 99, 107, 32]⟩ : ByteArray) ++ x.f0) _ (isB_below HI.out HW1.out) ?sl ?sz).mono ?_; (case sl => exact LEN1.out); (case sz => exact Nat.le_trans (below_size HB.out) (below_size HW1.out)); rintro e w9 ⟨rfl, hI9, hb9, hk9⟩; have HI2 := Aside0.mk hI9; have HB2 : Aside0 (Below w.heap.size w w9) := ⟨(below_step HB.out HW1.out).trans hb9⟩; have BK2 : Aside0 (w9.heap[gr]? = some (.cells #[.string x.f0, .int .i64 x.f1, .int .i64 x.f2, .int .i64 x.f3] 26 (0, 0))) := ⟨hk9 gr _ HB1.out (fun e => NEG.out (Option.some.inj e)) (fun c fz e => by injection e with _ h _; exact absurd h (by decide))⟩; clear hI9 hb9 hk9; obtain ⟨hq0, hq1, hq2, hq3⟩ := c4 BK2) | (go_at_call 48; refine (itoaO.calls x.f3 u3 _ HU3.out).mono ?_; rintro e w' ⟨rfl, rfl⟩))
    obtain ⟨k1, rfl⟩ : ∃ k1, gk = k1 + 1 := ⟨gk - 1, by have := HK1.out; omega⟩
    go_roundg k1
    case measure => omega
    case rel => exact ⟨i + 1, acc ++ (((⟨#[108, 111, 99, 107, 32]⟩ : ByteArray) ++ x.f0)).data.toList ++ ((((⟨#[32, 97, 116, 32]⟩ : ByteArray) ++ u3) ++ (⟨#[10]⟩ : ByteArray))).data.toList, rest2, (by first | rfl | (rw [hw1]) | (simp [hw1]; done)), ⟨c3⟩, ⟨by have := HK1.out; omega⟩, HR2, ⟨by rw [List.append_assoc, List.append_assoc]; exact HACC.out⟩, ⟨by have := LENT.out; have := HLEN.out; simp only [List.length_append]; omega⟩, ⟨by have e := HI3.out; rw [Lib.strCells_eq, Lib.strCells_eq, ← Lib.byteCells_append, ← Lib.byteCells_append] at e; exact isB_below e (by repeat (first | exact Below.refl _ _ | apply below_alloc | apply pw_below_drewN | apply below_drew1))⟩, ⟨by repeat (first | (with_reducible first | exact HB3.out | apply bL | apply bM | apply bR) | exact HB3.out)⟩⟩
   ·rw [if_neg c4] at ha
    obtain ⟨u2, hu2, ha2⟩ := Option.bind_eq_some_iff.mp ha
    clear ha
    obtain rfl := Option.some.inj ha2
    have HU2 := Aside0.mk hu2
    have hs2 := itoaO.size hu2
    have s2a : (9223372036854775807 < 5 + x.f0.size + 1) = False := eq_false (by have := CS.out; omega)
    have s2b : (9223372036854775807 < 5 + x.f0.size + 1 + u2.size) = False := eq_false (by have := CS.out; omega)
    have c4b : (x.f1 == 1) = false := beq_eq_false_iff_ne.mpr c4
    clear c4 ha2 hu2
    have LEN1 : Aside0 ((Lib.byteCells acc).length + ((((⟨#[112, 111, 111, 108, 32]⟩ : ByteArray) ++ x.f0) ++ (⟨#[32]⟩ : ByteArray)) ++ u2).size ≤ 140737488355328) := ⟨by have h1 := HLEN.out; have h2 := H8.out; have h3 := HLE.out; have h4 := CS.out; rw [Lib.byteCells_length]; simp only [ByteArray.size_append]; show _ + (5 + x.f0.size + 1 + u2.size) ≤ _; omega⟩
    have LEN2 : Aside0 ((Lib.byteCells acc ++ Lib.strCells ((((⟨#[112, 111, 111, 108, 32]⟩ : ByteArray) ++ x.f0) ++ (⟨#[32]⟩ : ByteArray)) ++ u2)).length + (((⟨#[32, 97, 116, 32]⟩ : ByteArray) ++ u3) ++ (⟨#[10]⟩ : ByteArray)).size ≤ 140737488355328) := ⟨by have h1 := HLEN.out; have h2 := H8.out; have h3 := HLE.out; have h4 := CS.out; rw [List.length_append, Lib.byteCells_length, Lib.strCells_length]; simp only [ByteArray.size_append]; show _ + (5 + x.f0.size + 1 + u2.size) + (4 + u3.size + 1) ≤ _; omega⟩
    have LENT : Aside0 (((((⟨#[112, 111, 111, 108, 32]⟩ : ByteArray) ++ x.f0) ++ (⟨#[32]⟩ : ByteArray)) ++ u2).data.toList.length + ((((⟨#[32, 97, 116, 32]⟩ : ByteArray) ++ u3) ++ (⟨#[10]⟩ : ByteArray))).data.toList.length ≤ 60) := ⟨by have h4 := CS.out; show ((((⟨#[112, 111, 111, 108, 32]⟩ : ByteArray) ++ x.f0) ++ (⟨#[32]⟩ : ByteArray)) ++ u2).size + ((((⟨#[32, 97, 116, 32]⟩ : ByteArray) ++ u3) ++ (⟨#[10]⟩ : ByteArray))).size ≤ 60; simp only [ByteArray.size_append]; show (5 + x.f0.size + 1 + u2.size) + (4 + u3.size + 1) ≤ 60; omega⟩
    go_wp2_with (first | ((with_reducible refine gate_dst (N := 5) rfl ?_); refine box_event ?hg (N := 5) ?hd (cs := #[.string (⟨#[]⟩ : ByteArray), .int .i64 0, .int .i64 0, .int .i64 0]) (t := 26) ?hr ?_; (case hd => rfl); (case hg => rfl); (case hr => first | (go_simp; done) | (go_simp; rfl)); intro gr hg w8 hbox hb; have HRB : Aside0 (Below wr.heap.size wr w8) := ⟨hb⟩; have GRE : Aside0 (wr.heap.size ≤ gr) := ⟨Nat.le_of_eq hg.symm⟩; have NEG : Aside0 (gr ≠ gb) := ⟨by have := isB_ne HI.out; rw [hg]; omega⟩; have BK := Aside0.mk hbox; clear hb hbox hg; obtain ⟨hz0, hz1, hz2, hz3, hf0, hf1, hf2, hf3⟩ := d4 BK))
    haveI := gI GRE
    have HW1 : Aside0 (Below wr.heap.size wr ((((w8.setCell ⟨gr, 0, none⟩ (.string x.f0)).setCell ⟨gr, 1, none⟩ (.int .i64 x.f1)).setCell ⟨gr, 2, none⟩ (.int .i64 x.f2)).setCell ⟨gr, 3, none⟩ (.int .i64 x.f3))) := ⟨uS HRB⟩
    have HB1 : Aside0 (((((w8.setCell ⟨gr, 0, none⟩ (.string x.f0)).setCell ⟨gr, 1, none⟩ (.int .i64 x.f1)).setCell ⟨gr, 2, none⟩ (.int .i64 x.f2)).setCell ⟨gr, 3, none⟩ (.int .i64 x.f3)).heap[gr]? = some (.cells #[.string x.f0, .int .i64 x.f1, .int .i64 x.f2, .int .i64 x.f3] 26 (0, 0))) := ⟨p4 BK⟩
    obtain ⟨hy0, _, hy2, _⟩ := c4 HB1
    refine start_ (n := 9) (S := fun w' => w'.cell? ⟨gr, 0, none⟩ = some (.string x.f0) ∧ w'.cell? ⟨gr, 2, none⟩ = some (.int .i64 x.f2)) (ds := []) #[false, false, false, false, false, false, false, false, false] (by kernel_rfl) rfl rfl ⟨hy0, hy2⟩ (fun hHeld => ?_)
    refine pure_ (i := 0) (N := some 22) (v := ?_) (a' := ?_) #[true, false, false, false, false, false, false, false, false] rfl rfl (by kernel_rfl) (fun _ _ _ h => h) (Or.inl ⟨by rfl, ?_⟩) ?_ ?_
    rotate_left
    ·intro w'
     go_simp
     with_reducible rfl
    rotate_left
    ·simp only [Act.put, List.setIfInBounds_toArray, List.set_cons_zero, List.set_cons_succ, i64_w, i32_w]
     rfl
    refine take_ (i := 1) (N := some 23) (v := ?_) (a' := ?_) #[true, true, false, false, false, false, false, false, false] rfl rfl (by kernel_rfl) (fun _ _ _ h => h) (Or.inl ⟨by rfl, ?_⟩) hHeld ?_ ?_
    rotate_left
    ·rintro w' ⟨s0, s1⟩
     go_simp
     with_reducible rfl
    rotate_left
    ·simp only [Act.put, List.setIfInBounds_toArray, List.set_cons_zero, List.set_cons_succ, i64_w, i32_w]
     rfl
    refine pure_ (i := 2) (N := some 24) (v := ?_) (a' := ?_) #[true, true, true, false, false, false, false, false, false] rfl rfl (by kernel_rfl) (fun _ _ _ h => h) (Or.inl ⟨by rfl, ?_⟩) ?_ ?_
    rotate_left
    ·intro w'
     go_simp
     with_reducible rfl
    rotate_left
    ·simp only [Act.put, List.setIfInBounds_toArray, List.set_cons_zero, List.set_cons_succ, i64_w, i32_w]
     rfl
    refine pure_ (i := 3) (N := some 25) (v := ?_) (a' := ?_) #[true, true, true, true, false, false, false, false, false] rfl rfl (by kernel_rfl) (fun _ _ _ h => h) (Or.inl ⟨by rfl, ?_⟩) ?_ ?_
    rotate_left
    ·intro w'
     go_simp
     with_reducible rfl
    rotate_left
    ·simp only [Act.put, List.setIfInBounds_toArray, List.set_cons_zero, List.set_cons_succ, i64_w, i32_w]
     rfl
    refine pure_ (i := 4) (N := some 26) (v := ?_) (a' := ?_) #[true, true, true, true, true, false, false, false, false] rfl rfl (by kernel_rfl) (fun _ _ _ h => h) (Or.inl ⟨by rfl, ?_⟩) ?_ ?_
    rotate_left
    ·intro w'
     go_simp
     with_reducible rfl
    rotate_left
    ·simp only [Act.put, List.setIfInBounds_toArray, List.set_cons_zero, List.set_cons_succ, i64_w, i32_w]
     rfl
    refine take_ (i := 5) (N := some 27) (v := ?_) (a' := ?_) #[true, true, true, true, true, true, false, false, false] rfl rfl (by kernel_rfl) (fun _ _ _ h => h) (Or.inl ⟨by rfl, ?_⟩) hHeld ?_ ?_
    rotate_left
    ·rintro w' ⟨s0, s1⟩
     go_simp
     with_reducible rfl
    rotate_left
    ·simp only [Act.put, List.setIfInBounds_toArray, List.set_cons_zero, List.set_cons_succ, i64_w, i32_w]
     rfl
    refine one_ (i := 6) (N := some 28) #[true, true, true, true, true, true, true, false, false] rfl rfl (by kernel_rfl) (by decide) (fun K hK => ?_)
    refine goes_ Tryd.func48 (by kernel_rfl) rfl #[.int .i64 x.f2] (by rfl) rfl rfl (by (try simp only [List.map_toArray, List.map_cons, List.map_nil]); first | done | rfl) ?_
    refine (itoaO.calls x.f2 u2 _ HU2.out).mono ?_
    rintro e w' ⟨rfl, rfl⟩
    refine ⟨_, rfl, ?_⟩
    refine hK.out _ _ ⟨hy0, hy2⟩ (fun hHeld => ?_)
    clear hK K
    refine norm_ (a' := ?_) ?_ ?_
    rotate_left
    ·show Act.put _ (some 28) _ = _
     simp only [Act.put, List.setIfInBounds_toArray, List.set_cons_zero, List.set_cons_succ, i64_w, i32_w]
     rfl
    refine pure_ (i := 7) (N := some 29) (v := ?_) (a' := ?_) #[true, true, true, true, true, true, true, true, false] rfl rfl (by kernel_rfl) (fun _ _ _ h => h) (Or.inl ⟨by rfl, ?_⟩) ?_ ?_
    rotate_left
    ·intro w'
     go_simp
     with_reducible rfl
    rotate_left
    ·simp only [Act.put, List.setIfInBounds_toArray, List.set_cons_zero, List.set_cons_succ, i64_w, i32_w]
     rfl
    refine one_ (i := 8) (N := some 30) #[true, true, true, true, true, true, true, true, true] rfl rfl (by kernel_rfl) (by decide) (fun K hK => ?_)
    refine goes_ Tryd.func47 (by kernel_rfl) rfl #[.pointer (some ⟨gb, 0, none⟩), .string ((((⟨#[112, 111, 111, 108, 32]⟩ : ByteArray) ++ x.f0) ++ (⟨#[32]⟩ : ByteArray)) ++ u2)] (by rfl) rfl rfl (by (try simp only [List.map_toArray, List.map_cons, List.map_nil]); first | done | rfl) ?_
    refine (builder_write.calls w.heap.size gb _ ((((⟨#[112, 111, 111, 108, 32]⟩ : ByteArray) ++ x.f0) ++ (⟨#[32]⟩ : ByteArray)) ++ u2) _ (isB_below HI.out (below_drew1 HW1.out)) ?sl ?sz).mono ?_
    (case sl => exact LEN1.out)
    (case sz => exact Nat.le_trans (below_size HB.out) (below_size (below_drew1 HW1.out)))
    rintro e w9 ⟨rfl, hI9, hb9, hk9⟩
    have HI2 := Aside0.mk hI9
    have HB2 : Aside0 (Below w.heap.size w w9) := ⟨(below_drew1 (below_step HB.out HW1.out)).trans hb9⟩
    have BK2 : Aside0 (w9.heap[gr]? = some (.cells #[.string x.f0, .int .i64 x.f1, .int .i64 x.f2, .int .i64 x.f3] 26 (0, 0))) := ⟨hk9 gr _ HB1.out (fun e => NEG.out (Option.some.inj e)) (fun c fz e => by injection e with _ h _; exact absurd h (by decide))⟩
    clear hI9 hb9 hk9
    obtain ⟨hq0, hq1, hq2, hq3⟩ := c4 BK2
    refine ⟨_, rfl, ?_⟩
    refine hK.out _ _ ⟨hq0, hq2⟩ (fun hHeld => ?_)
    clear hK K
    refine norm_ (a' := ?_) ?_ ?_
    rotate_left
    ·show Act.put _ (some 30) _ = _
     simp only [Act.put, List.setIfInBounds_toArray, List.set_cons_zero, List.set_cons_succ, i64_w, i32_w]
     rfl
    refine done_ (by kernel_rfl) ?_
    clear hy0 hy2
    go_wp2_with (first | (go_at_call 47; refine (builder_write.calls w.heap.size gb _ (((⟨#[32, 97, 116, 32]⟩ : ByteArray) ++ u3) ++ (⟨#[10]⟩ : ByteArray)) _ HI2.out ?sl ?sz).mono ?_; (case sl => exact LEN2.out); (case sz => exact below_size HB2.out); rintro e w10 ⟨rfl, hI10, hb10, _⟩; have HI3 := Aside0.mk hI10; have HB3 : Aside0 (Below w.heap.size w w10) := ⟨HB2.out.trans hb10⟩; clear hI10 hb10) | (go_at_call 48; refine (itoaO.calls x.f3 u3 _ HU3.out).mono ?_; rintro e w' ⟨rfl, rfl⟩))
    obtain ⟨k1, rfl⟩ : ∃ k1, gk = k1 + 1 := ⟨gk - 1, by have := HK1.out; omega⟩
    go_roundg k1
    case measure => omega
    case rel => exact ⟨i + 1, acc ++ (((((⟨#[112, 111, 111, 108, 32]⟩ : ByteArray) ++ x.f0) ++ (⟨#[32]⟩ : ByteArray)) ++ u2)).data.toList ++ ((((⟨#[32, 97, 116, 32]⟩ : ByteArray) ++ u3) ++ (⟨#[10]⟩ : ByteArray))).data.toList, rest2, (by first | rfl | (rw [hw1]) | (simp [hw1]; done)), ⟨c3⟩, ⟨by have := HK1.out; omega⟩, HR2, ⟨by rw [List.append_assoc, List.append_assoc]; exact HACC.out⟩, ⟨by have := LENT.out; have := HLEN.out; simp only [List.length_append]; omega⟩, ⟨by have e := HI3.out; rw [Lib.strCells_eq, Lib.strCells_eq, ← Lib.byteCells_append, ← Lib.byteCells_append] at e; exact isB_below e (by repeat (first | exact Below.refl _ _ | apply below_alloc | apply pw_below_drewN | apply below_drew1))⟩, ⟨by repeat (first | (with_reducible first | exact HB3.out | apply bL | apply bM | apply bR) | exact HB3.out)⟩⟩
  ·have hi : i = l0.length := by have := HLE.out; omega
   have hrest := HREST.out
   rw [hi, List.drop_length, fmtAll] at hrest
   obtain rfl := Option.some.inj hrest
   have c3b : decide ((i : Int) < (l0.length : Int)) = false := decide_eq_false (by omega)
   clear c3
   go_wp2_with (first | (go_at_call 49; refine (Tryd.Builder_String_any_k w.heap.size gb acc _ (isB_below HI.out (Below.refl _ _)) ?sz).mono ?_; (case sz => exact below_size (uB HB)); rintro e w5 ⟨rfl, _, hb, _⟩))
   go_ret
   have e1 := HACC.out
   rw [List.append_nil] at e1
   subst e1
   exact ⟨rfl, HB.out.trans hb⟩
end Go.Proofs.YtbiapfjhdggkpaaDoor.PA
