/- The pure statement of AuditLog, and the call of its function out of it; the arguments' readers: no condition but those that each names. -/
import Derived.Test.YteiaoanfdkgmoaaP31
import Derived.Test.YteiaoanfdkgmoaaK
namespace Go.Proofs.Yteiaoanfdkgmoaa.P
open Go.RowKit Go.Proofs.YteiaoanfdkgmoaaW.PrintWords Go.Proofs.YteiaoanfdkgmoaaW.PrintLast Go.Proofs.YteiaoanfdkgmoaaW.PrintMore
attribute [local go_sem] max2_int min2_int max_two min_two max_three min_three max_four min_four   -- for this text's walks alone
set_option linter.unusedVariables false
set_option linter.unusedSimpArgs false
theorem openArg0_AuditLog : Opens Try.prog 45 (Kd.slice 57 kReq) (fun x_ : List (SReq) => x_.length * 184 ≤ 140737488351232 ∧ ∀ y_ ∈ x_, wfReq y_) := (opens_slice Try.underlying45 openReq (by kernel_rfl) (by kernel_rfl))
theorem openArg1_AuditLog : Opens Try.prog 30 (Kd.slice 43 kRes) (fun x_ : List (SRes) => x_.length * 88 ≤ 140737488351232 ∧ ∀ y_ ∈ x_, wfRes y_) := (opens_slice Try.underlying30 openRes (by kernel_rfl) (by kernel_rfl))
def AuditLog.Pure : Prop := ∀ (x0 : List (SReq)) (x1 : List (SRes)) (x2 : Int), (x0.length * 184 ≤ 140737488351232 ∧ ∀ y_ ∈ x0, wfReq y_) → (x1.length * 88 ≤ 140737488351232 ∧ ∀ y_ ∈ x1, wfRes y_) → (Lit.int .i64 x2).wf = true → ∃ k, towncrierlaw21_AuditLog.f k x0 x1 x2 = some true
theorem AuditLog.walk (P_ : AuditLog.Pure) (W : World) (x0 : List (SReq)) (A0 : Option Addr) (c0 : Nat) (hc0 : x0.length ≤ c0) (hr0 : Kd.C kReq W A0 x0.length x0) (w0 : x0.length * 184 ≤ 140737488351232 ∧ ∀ y_ ∈ x0, wfReq y_) (x1 : List (SRes)) (A1 : Option Addr) (c1 : Nat) (hc1 : x1.length ≤ c1) (hr1 : Kd.C kRes W A1 x1.length x1) (w1 : x1.length * 88 ≤ 140737488351232 ∧ ∀ y_ ∈ x1, wfRes y_) (x2 : Int) (w2 : (Lit.int .i64 x2).wf = true) :
    Calls Try.prog 9 #[.slice A0 x0.length c0, .slice A1 x1.length c1, .int .i64 x2] W fun e w' => e = .returned (.bool true) ∧ Below W.heap.size W w' := by
  obtain ⟨k, h⟩ := P_ x0 x1 x2 w0 w1 w2
  refine (towncrierlaw21_AuditLog.calls k _ _ x0 _ _ x1 x2 true W hr0 hc0 hr1 hc1 h).mono ?_
  rintro e w' ⟨rfl, hd⟩
  exact ⟨rfl, hd⟩
end Go.Proofs.Yteiaoanfdkgmoaa.P
