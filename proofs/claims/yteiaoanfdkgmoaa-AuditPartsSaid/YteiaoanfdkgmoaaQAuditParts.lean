/- The pure statement of AuditParts, and the call of its function out of it; the arguments' readers: no condition but those that each names. -/
import Derived.Test.YteiaoanfdkgmoaaP15
import Derived.Test.YteiaoanfdkgmoaaK
namespace Go.Proofs.Yteiaoanfdkgmoaa.P
open Go.RowKit Go.Proofs.YteiaoanfdkgmoaaW.PrintWords Go.Proofs.YteiaoanfdkgmoaaW.PrintLast Go.Proofs.YteiaoanfdkgmoaaW.PrintMore
attribute [local go_sem] max2_int min2_int max_two min_two max_three min_three max_four min_four   -- for this text's walks alone
set_option linter.unusedVariables false
set_option linter.unusedSimpArgs false
theorem openArg0_AuditParts : Opens Try.prog 30 (Kd.slice 43 kRes) (fun x_ : List (SRes) => x_.length * 88 ≤ 140737488351232 ∧ ∀ y_ ∈ x_, wfRes y_) := (opens_slice Try.underlying30 openRes (by kernel_rfl) (by kernel_rfl))
def AuditParts.Pure : Prop := ∀ (x0 : List (SRes)) (x1 : Int) (x2 : Int) (x3 : Int), (x0.length * 88 ≤ 140737488351232 ∧ ∀ y_ ∈ x0, wfRes y_) → (Lit.int .i64 x1).wf = true → (Lit.int .i64 x2).wf = true → (Lit.int .i64 x3).wf = true → ∃ k, towncrierlaw21_AuditParts.f k x0 x1 x2 x3 = some true
theorem AuditParts.walk (P_ : AuditParts.Pure) (W : World) (x0 : List (SRes)) (A0 : Option Addr) (c0 : Nat) (hc0 : x0.length ≤ c0) (hr0 : Kd.C kRes W A0 x0.length x0) (w0 : x0.length * 88 ≤ 140737488351232 ∧ ∀ y_ ∈ x0, wfRes y_) (x1 : Int) (w1 : (Lit.int .i64 x1).wf = true) (x2 : Int) (w2 : (Lit.int .i64 x2).wf = true) (x3 : Int) (w3 : (Lit.int .i64 x3).wf = true) :
    Calls Try.prog 4 #[.slice A0 x0.length c0, .int .i64 x1, .int .i64 x2, .int .i64 x3] W fun e w' => e = .returned (.bool true) ∧ Below W.heap.size W w' := by
  obtain ⟨k, h⟩ := P_ x0 x1 x2 x3 w0 w1 w2 w3
  refine (towncrierlaw21_AuditParts.calls k _ _ x0 x1 x2 x3 true W hr0 hc0 h).mono ?_
  rintro e w' ⟨rfl, hd⟩
  exact ⟨rfl, hd⟩
end Go.Proofs.Yteiaoanfdkgmoaa.P
