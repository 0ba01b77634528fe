/- The pure statement of AuditRight, and the call of its function out of it; the arguments' readers: no condition but those that each names. -/
import Derived.Test.YteiaoanfdkgmoaaP18
import Derived.Test.YteiaoanfdkgmoaaK
namespace Go.Proofs.Yteiaoanfdkgmoaa.P
open Go.RowKit Go.Proofs.YteiaoanfdkgmoaaW.PrintWords Go.Proofs.YteiaoanfdkgmoaaW.PrintLast Go.Proofs.YteiaoanfdkgmoaaW.PrintMore
attribute [local go_sem] max2_int min2_int max_two min_two max_three min_three max_four min_four   -- for this text's walks alone
set_option linter.unusedVariables false
set_option linter.unusedSimpArgs false
theorem openArg0_AuditRight : Opens Try.prog 22 (Kd.slice 27 kNote) (fun x_ : List (SNote) => x_.length * 56 ≤ 140737488351232 ∧ ∀ y_ ∈ x_, wfNote y_) := (opens_slice Try.underlying22 openNote (by kernel_rfl) (by kernel_rfl))
theorem openArg1_AuditRight : Opens Try.prog 34 (Kd.slice 25 kMatch) (fun x_ : List (SMatch) => x_.length * 32 ≤ 140737488351232 ∧ ∀ y_ ∈ x_, wfMatch y_) := (opens_slice Try.underlying34 openMatch (by kernel_rfl) (by kernel_rfl))
def AuditRight.Pure : Prop := ∀ (x0 : List (SNote)) (x1 : List (SMatch)) (x2 : Int), (x0.length * 56 ≤ 140737488351232 ∧ ∀ y_ ∈ x0, wfNote y_) → (x1.length * 32 ≤ 140737488351232 ∧ ∀ y_ ∈ x1, wfMatch y_) → (Lit.int .i64 x2).wf = true → ∃ k, towncrierlaw21_AuditRight.f k x0 x1 x2 = some true
theorem AuditRight.walk (P_ : AuditRight.Pure) (W : World) (x0 : List (SNote)) (A0 : Option Addr) (c0 : Nat) (hc0 : x0.length ≤ c0) (hr0 : Kd.C kNote W A0 x0.length x0) (w0 : x0.length * 56 ≤ 140737488351232 ∧ ∀ y_ ∈ x0, wfNote y_) (x1 : List (SMatch)) (A1 : Option Addr) (c1 : Nat) (hc1 : x1.length ≤ c1) (hr1 : Kd.C kMatch W A1 x1.length x1) (w1 : x1.length * 32 ≤ 140737488351232 ∧ ∀ y_ ∈ x1, wfMatch y_) (x2 : Int) (w2 : (Lit.int .i64 x2).wf = true) :
    Calls Try.prog 6 #[.slice A0 x0.length c0, .slice A1 x1.length c1, .int .i64 x2] W fun e w' => e = .returned (.bool true) ∧ Below W.heap.size W w' := by
  obtain ⟨k, h⟩ := P_ x0 x1 x2 w0 w1 w2
  refine (towncrierlaw21_AuditRight.calls k _ _ x0 _ _ x1 x2 true W hr0 hc0 hr1 hc1 h).mono ?_
  rintro e w' ⟨rfl, hd⟩
  exact ⟨rfl, hd⟩
end Go.Proofs.Yteiaoanfdkgmoaa.P
