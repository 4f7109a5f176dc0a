/- What is known of an argument of each type of these laws. Conditions: none. -/
import Derived.Test.YtbiapfjhdggkpaaDoorPAx0
import Derived.Test.YtbiapfjhdggkpaaDoorOpen
import Derived.KernelRfl
namespace Go.Proofs.YtbiapfjhdggkpaaDoor.PA
open Go.RowKit Go.Proofs.YtbiapfjhdggkpaaDoorW.PrintWords
set_option linter.unusedVariables false
/-- What is known of an argument of this type. -/
def ok26 (x : S26) : Prop := x.f0.size ≤ 140737488351232 ∧ (Lit.int .i64 x.f1).wf = true ∧ (Lit.int .i64 x.f2).wf = true ∧ (Lit.int .i64 x.f3).wf = true
theorem o26 : Open.Opens Tryd.prog 26 k26 ok26 :=
  Open.Opens.iso (fun x : S26 => (x.f0, x.f1, x.f2, x.f3)) (fun p => ⟨p.1, p.2.1, p.2.2.1, p.2.2.2⟩) (fun _ => rfl) (Open.Opens.struct Tryd.underlying26 (by kernel_rfl) (Open.OpensF.cons rfl (Open.Opens.string Tryd.underlying9 (by kernel_rfl)) rfl (Open.OpensF.cons rfl (Open.Opens.int Tryd.underlying3 (by kernel_rfl)) rfl (Open.OpensF.cons rfl (Open.Opens.int Tryd.underlying3 (by kernel_rfl)) rfl (Open.OpensF.one rfl (Open.Opens.int Tryd.underlying3 (by kernel_rfl)))))))
structure S42 where
  f0 : Int
  f1 : Int
def k42 : Kd S42 := Kd.iso (Kd.pair (Kd.int .i64) (Kd.int .i64)) (fun x : S42 => (x.f0, x.f1))
theorem k42_open {w : World} {x : S42} {cs : List Value} (h : k42.K w x cs) : cs = [.int .i64 x.f0, .int .i64 x.f1] := by
  obtain ⟨_, _, rfl, rfl, rfl⟩ := h
  exact rfl
structure S44 where
  f0 : ByteArray
  f1 : S42
def k44 : Kd S44 := Kd.iso (Kd.pair Kd.string k42) (fun x : S44 => (x.f0, x.f1))
theorem k44_open {w : World} {x : S44} {cs : List Value} (h : k44.K w x cs) : cs = [.string x.f0, .int .i64 x.f1.f0, .int .i64 x.f1.f1] := by
  obtain ⟨_, _, rfl, rfl, h⟩ := h
  obtain rfl := k42_open h
  exact rfl
/-- What is known of an argument of this type. -/
def ok42 (x : S42) : Prop := (Lit.int .i64 x.f0).wf = true ∧ (Lit.int .i64 x.f1).wf = true
theorem o42 : Open.Opens Tryd.prog 42 k42 ok42 :=
  Open.Opens.iso (fun x : S42 => (x.f0, x.f1)) (fun p => ⟨p.1, p.2⟩) (fun _ => rfl) (Open.Opens.struct Tryd.underlying42 (by kernel_rfl) (Open.OpensF.cons rfl (Open.Opens.int Tryd.underlying3 (by kernel_rfl)) rfl (Open.OpensF.one rfl (Open.Opens.int Tryd.underlying3 (by kernel_rfl)))))
/-- What is known of an argument of this type. -/
def ok44 (x : S44) : Prop := x.f0.size ≤ 140737488351232 ∧ ok42 x.f1
theorem o44 : Open.Opens Tryd.prog 44 k44 ok44 :=
  Open.Opens.iso (fun x : S44 => (x.f0, x.f1)) (fun p => ⟨p.1, p.2⟩) (fun _ => rfl) (Open.Opens.struct Tryd.underlying44 (by kernel_rfl) (Open.OpensF.cons rfl (Open.Opens.string Tryd.underlying9 (by kernel_rfl)) rfl (Open.OpensF.one rfl o42)))
end Go.Proofs.YtbiapfjhdggkpaaDoor.PA
