/- The readers of the structs that come in: no condition. -/
import Derived.Test.YtbgdamlidohfhaaP0
import Derived.Test.YtbgdamlidohfhaaR
namespace Go.Proofs.Ytbgdamlidohfhaa.P
open Go.RowKit Go.Proofs.YtbgdamlidohfhaaW.PrintWords Go.Proofs.YtbgdamlidohfhaaW.PrintLast Go.Proofs.YtbgdamlidohfhaaW.PrintMore
attribute [local go_sem] max2_int min2_int max_two min_two max_three min_three max_four min_four   -- for this text's walks alone
set_option linter.unusedVariables false
set_option linter.unusedSimpArgs false
def wfField (x_ : SField) : Prop := (x_.f0.size ≤ 140737488351232) ∧ ((Lit.int .i64 x_.f1).wf = true)
theorem openField : Opens Try.prog 39 kField wfField := opens_struct (fun x_ : SField => (x_.f0, x_.f1)) (fun b_ => ⟨b_.1, b_.2⟩) Try.underlying39 (opens_more (opens_string Try.underlying9) (opens_one (opens_int Try.underlying3) rfl (by kernel_rfl)) rfl (by kernel_rfl)) (by kernel_rfl) (fun _ => rfl) (fun _ h_ => h_)
def wfSchema (x_ : SSchema) : Prop := (x_.f0.size ≤ 140737488351232) ∧ ((Lit.int .i64 x_.f1).wf = true) ∧ (x_.f2.length * 24 ≤ 140737488351232 ∧ ∀ y_ ∈ x_.f2, wfField y_)
theorem openSchema : Opens Try.prog 25 kSchema wfSchema := opens_struct (fun x_ : SSchema => (x_.f0, x_.f1, x_.f2)) (fun b_ => ⟨b_.1, b_.2.1, b_.2.2⟩) Try.underlying25 (opens_more (opens_string Try.underlying9) (opens_more (opens_int Try.underlying3) (opens_one (opens_slice Try.underlying23 openField (by kernel_rfl) (by kernel_rfl)) rfl (by kernel_rfl)) rfl (by kernel_rfl)) rfl (by kernel_rfl)) (by kernel_rfl) (fun _ => rfl) (fun _ h_ => h_)
end Go.Proofs.Ytbgdamlidohfhaa.P
