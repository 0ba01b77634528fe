/- The pure statement of RegistryAdds, and the call of its function out of it; the arguments' readers: no condition but those that each names. -/
import Derived.Test.YtbgdamlidohfhaaP31
import Derived.Test.YtbgdamlidohfhaaK
namespace Go.Proofs.Ytbgdamlidohfhaa.P
open Go.RowKit Go.Proofs.YtbgdamlidohfhaaW.PrintWords Go.Proofs.YtbgdamlidohfhaaW.PrintLast Go.Proofs.YtbgdamlidohfhaaW.PrintMore
attribute [local go_sem] max2_int min2_int max_two min_two max_three min_three max_four min_four   -- for this text's walks alone
set_option linter.unusedVariables false
set_option linter.unusedSimpArgs false
theorem openArg0_RegistryAdds : Opens Try.prog 22 (Kd.slice 25 kSchema) (fun x_ : List (SSchema) => x_.length * 48 ≤ 140737488351232 ∧ ∀ y_ ∈ x_, wfSchema y_) := (opens_slice Try.underlying22 openSchema (by kernel_rfl) (by kernel_rfl))
theorem openArg1_RegistryAdds : Opens Try.prog 25 kSchema wfSchema := openSchema
def RegistryAdds.Pure : Prop := ∀ (x0 : List (SSchema)) (x1 : SSchema), (x0.length * 48 ≤ 140737488351232 ∧ ∀ y_ ∈ x0, wfSchema y_) → wfSchema x1 → ∃ k, towncrierlaw07_RegistryAdds.f k x0 x1.f0 x1.f1 x1.f2 = some true
theorem RegistryAdds.walk (P_ : RegistryAdds.Pure) (W : World) (x0 : List (SSchema)) (A0 : Option Addr) (c0 : Nat) (hc0 : x0.length ≤ c0) (hr0 : Kd.C kSchema W A0 x0.length x0) (w0 : x0.length * 48 ≤ 140737488351232 ∧ ∀ y_ ∈ x0, wfSchema y_) (x1 : SSchema) (cs1 : List Value) (K1 : kSchema.K W x1 cs1) (w1 : wfSchema x1) :
    Calls Try.prog 4 #[.slice A0 x0.length c0, .agg cs1.toArray] W fun e w' => e = .returned (.bool true) ∧ Below W.heap.size W w' := by
  obtain ⟨A1_2, c1_2, rfl, hc1_2, hr1_2⟩ := kSchema_open K1
  obtain ⟨k, h⟩ := P_ x0 x1 w0 w1
  refine (towncrierlaw07_RegistryAdds.calls k _ _ x0 x1.f0 x1.f1 _ _ x1.f2 true W hr0 hc0 hr1_2 hc1_2 h).mono ?_
  rintro e w' ⟨rfl, hd⟩
  exact ⟨rfl, hd⟩
end Go.Proofs.Ytbgdamlidohfhaa.P
