/- The pure statement of RegistryOne, and the call of its function out of it; the arguments' readers: no condition but those that each names. -/
import Derived.Test.YtbgdamlidohfhaaP34
import Derived.Test.YtbgdamlidohfhaaK
namespace Go.Proofs.Ytbgdamlidohfhaa.P
open Go.RowKit Go.Proofs.YtbgdamlidohfhaaW.PrintWords Go.Proofs.YtbgdamlidohfhaaW.PrintLast Go.Proofs.YtbgdamlidohfhaaW.PrintMore
attribute [local go_sem] max2_int min2_int max_two min_two max_three min_three max_four min_four   -- for this text's walks alone
set_option linter.unusedVariables false
set_option linter.unusedSimpArgs false
theorem openArg0_RegistryOne : Opens Try.prog 22 (Kd.slice 25 kSchema) (fun x_ : List (SSchema) => x_.length * 48 ≤ 140737488351232 ∧ ∀ y_ ∈ x_, wfSchema y_) := (opens_slice Try.underlying22 openSchema (by kernel_rfl) (by kernel_rfl))
def RegistryOne.Pure : Prop := ∀ (x0 : List (SSchema)) (x1 : ByteArray), (x0.length * 48 ≤ 140737488351232 ∧ ∀ y_ ∈ x0, wfSchema y_) → x1.size ≤ 140737488351232 → ∃ k, towncrierlaw07_RegistryOne.f k x0 x1 = some true
theorem RegistryOne.walk (P_ : RegistryOne.Pure) (W : World) (x0 : List (SSchema)) (A0 : Option Addr) (c0 : Nat) (hc0 : x0.length ≤ c0) (hr0 : Kd.C kSchema W A0 x0.length x0) (w0 : x0.length * 48 ≤ 140737488351232 ∧ ∀ y_ ∈ x0, wfSchema y_) (x1 : ByteArray) (w1 : x1.size ≤ 140737488351232) :
    Calls Try.prog 7 #[.slice A0 x0.length c0, .string x1] W fun e w' => e = .returned (.bool true) ∧ Below W.heap.size W w' := by
  obtain ⟨k, h⟩ := P_ x0 x1 w0 w1
  refine (towncrierlaw07_RegistryOne.calls k _ _ x0 x1 true W hr0 hc0 h).mono ?_
  rintro e w' ⟨rfl, hd⟩
  exact ⟨rfl, hd⟩
end Go.Proofs.Ytbgdamlidohfhaa.P
