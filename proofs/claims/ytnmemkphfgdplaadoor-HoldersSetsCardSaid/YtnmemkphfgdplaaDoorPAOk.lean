/- What is known of an argument of each type of these laws. Conditions: none. -/
import Derived.Test.YtnmemkphfgdplaaDoorPAx0
import Derived.Test.YtnmemkphfgdplaaDoorPAxT
import Derived.Test.YtnmemkphfgdplaaDoorOpen
import Derived.KernelRfl
namespace Go.Proofs.YtnmemkphfgdplaaDoor.PA
open Go.RowKit Go.Proofs.YtnmemkphfgdplaaDoorW.PrintWords
set_option linter.unusedVariables false
/-- What is known of an argument of this type. -/
def ok24 (x : S24) : Prop := (Lit.int .i64 x.f0).wf = true ∧ (Lit.int .i64 x.f1).wf = true ∧ (Lit.int .i64 x.f2).wf = true
theorem o24 : Open.Opens Tryd.prog 24 k24 ok24 :=
  Open.Opens.iso (fun x : S24 => (x.f0, x.f1, x.f2)) (fun p => ⟨p.1, p.2.1, p.2.2⟩) (fun _ => rfl) (Open.Opens.struct Tryd.underlying24 (by kernel_rfl) (Open.OpensF.cons rfl (Open.Opens.int Tryd.underlying3 (by kernel_rfl)) rfl (Open.OpensF.cons rfl (Open.Opens.int Tryd.underlying3 (by kernel_rfl)) rfl (Open.OpensF.one rfl (Open.Opens.int Tryd.underlying3 (by kernel_rfl))))))
/-- What is known of an argument of this type. -/
def ok26 (x : S26) : Prop := (Lit.int .i64 x.f0).wf = true ∧ (Lit.int .i64 x.f1).wf = true
theorem o26 : Open.Opens Tryd.prog 26 k26 ok26 :=
  Open.Opens.iso (fun x : S26 => (x.f0, x.f1)) (fun p => ⟨p.1, p.2⟩) (fun _ => rfl) (Open.Opens.struct Tryd.underlying26 (by kernel_rfl) (Open.OpensF.cons rfl (Open.Opens.int Tryd.underlying3 (by kernel_rfl)) rfl (Open.OpensF.one rfl (Open.Opens.int Tryd.underlying3 (by kernel_rfl)))))
/-- What is known of an argument of this type. -/
def ok53 (x : S53) : Prop := ok24 x.f0 ∧ ok26 x.f1
theorem o53 : Open.Opens Tryd.prog 53 k53 ok53 :=
  Open.Opens.iso (fun x : S53 => (x.f0, x.f1)) (fun p => ⟨p.1, p.2⟩) (fun _ => rfl) (Open.Opens.struct Tryd.underlying53 (by kernel_rfl) (Open.OpensF.cons rfl o24 rfl (Open.OpensF.one rfl o26)))
/-- What is known of an argument of this type. -/
def ok32 (x : S32) : Prop := x.f0.size ≤ 140737488351232 ∧ (Lit.int .i64 x.f1).wf = true ∧ (Lit.int .i64 x.f2).wf = true ∧ (Lit.int .i64 x.f3).wf = true
theorem o32 : Open.Opens Tryd.prog 32 k32 ok32 :=
  Open.Opens.iso (fun x : S32 => (x.f0, x.f1, x.f2, x.f3)) (fun p => ⟨p.1, p.2.1, p.2.2.1, p.2.2.2⟩) (fun _ => rfl) (Open.Opens.struct Tryd.underlying32 (by kernel_rfl) (Open.OpensF.cons rfl (Open.Opens.string Tryd.underlying9 (by kernel_rfl)) rfl (Open.OpensF.cons rfl (Open.Opens.int Tryd.underlying3 (by kernel_rfl)) rfl (Open.OpensF.cons rfl (Open.Opens.int Tryd.underlying3 (by kernel_rfl)) rfl (Open.OpensF.one rfl (Open.Opens.int Tryd.underlying3 (by kernel_rfl)))))))
end Go.Proofs.YtnmemkphfgdplaaDoor.PA
