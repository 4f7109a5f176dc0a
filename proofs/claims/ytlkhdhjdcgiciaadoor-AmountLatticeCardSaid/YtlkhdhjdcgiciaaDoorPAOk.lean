/- What is known of an argument of each type of these laws. Conditions: none. -/
import Derived.Test.YtlkhdhjdcgiciaaDoorPAx0
import Derived.Test.YtlkhdhjdcgiciaaDoorOpen
import Derived.KernelRfl
namespace Go.Proofs.YtlkhdhjdcgiciaaDoor.PA
open Go.RowKit Go.Proofs.YtlkhdhjdcgiciaaDoorW.PrintWords
set_option linter.unusedVariables false
/-- What is known of an argument of this type. -/
def ok23 (x : S23) : Prop := x.f0.size ≤ 140737488351232 ∧ (Lit.int .i64 x.f1).wf = true ∧ (Lit.int .i64 x.f2).wf = true ∧ (Lit.int .i64 x.f3).wf = true
theorem o23 : Open.Opens Tryd.prog 23 k23 ok23 :=
  Open.Opens.iso (fun x : S23 => (x.f0, x.f1, x.f2, x.f3)) (fun p => ⟨p.1, p.2.1, p.2.2.1, p.2.2.2⟩) (fun _ => rfl) (Open.Opens.struct Tryd.underlying23 (by kernel_rfl) (Open.OpensF.cons rfl (Open.Opens.string Tryd.underlying9 (by kernel_rfl)) rfl (Open.OpensF.cons rfl (Open.Opens.int Tryd.underlying3 (by kernel_rfl)) rfl (Open.OpensF.cons rfl (Open.Opens.int Tryd.underlying3 (by kernel_rfl)) rfl (Open.OpensF.one rfl (Open.Opens.int Tryd.underlying3 (by kernel_rfl)))))))
/-- What is known of an argument of this type. -/
def ok25 (x : S25) : Prop := (Lit.int .i64 x.f0).wf = true ∧ (Lit.int .i64 x.f1).wf = true
theorem o25 : Open.Opens Tryd.prog 25 k25 ok25 :=
  Open.Opens.iso (fun x : S25 => (x.f0, x.f1)) (fun p => ⟨p.1, p.2⟩) (fun _ => rfl) (Open.Opens.struct Tryd.underlying25 (by kernel_rfl) (Open.OpensF.cons rfl (Open.Opens.int Tryd.underlying3 (by kernel_rfl)) rfl (Open.OpensF.one rfl (Open.Opens.int Tryd.underlying3 (by kernel_rfl)))))
end Go.Proofs.YtlkhdhjdcgiciaaDoor.PA
