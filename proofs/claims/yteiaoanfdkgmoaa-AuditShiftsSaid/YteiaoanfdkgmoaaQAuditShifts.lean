/- The pure statement of AuditShifts, and the call of its function out of it; the arguments' readers: no condition but those that each names. -/
import Derived.Test.YteiaoanfdkgmoaaP17
import Derived.Test.YteiaoanfdkgmoaaK
namespace Go.Proofs.Yteiaoanfdkgmoaa.P
open Go.RowKit Go.Proofs.YteiaoanfdkgmoaaW.PrintWords Go.Proofs.YteiaoanfdkgmoaaW.PrintLast Go.Proofs.YteiaoanfdkgmoaaW.PrintMore
attribute [local go_sem] max2_int min2_int max_two min_two max_three min_three max_four min_four   -- for this text's walks alone
set_option linter.unusedVariables false
set_option linter.unusedSimpArgs false
theorem openArg0_AuditShifts : Opens Try.prog 34 (Kd.slice 25 kMatch) (fun x_ : List (SMatch) => x_.length * 32 ≤ 140737488351232 ∧ ∀ y_ ∈ x_, wfMatch y_) := (opens_slice Try.underlying34 openMatch (by kernel_rfl) (by kernel_rfl))
theorem openArg2_AuditShifts : Opens Try.prog 22 (Kd.slice 27 kNote) (fun x_ : List (SNote) => x_.length * 56 ≤ 140737488351232 ∧ ∀ y_ ∈ x_, wfNote y_) := (opens_slice Try.underlying22 openNote (by kernel_rfl) (by kernel_rfl))
theorem openArg3_AuditShifts : Opens Try.prog 25 kMatch wfMatch := openMatch
def AuditShifts.Pure : Prop := ∀ (x0 : List (SMatch)) (x1 : Int) (x2 : List (SNote)) (x3 : SMatch), (x0.length * 32 ≤ 140737488351232 ∧ ∀ y_ ∈ x0, wfMatch y_) → (Lit.int .i64 x1).wf = true → (x2.length * 56 ≤ 140737488351232 ∧ ∀ y_ ∈ x2, wfNote y_) → wfMatch x3 → ∃ k, towncrierlaw21_AuditShifts.f k x0 x1 x2 x3.f0 x3.f1 x3.f2 x3.f3 = some true
theorem AuditShifts.walk (P_ : AuditShifts.Pure) (W : World) (x0 : List (SMatch)) (A0 : Option Addr) (c0 : Nat) (hc0 : x0.length ≤ c0) (hr0 : Kd.C kMatch W A0 x0.length x0) (w0 : x0.length * 32 ≤ 140737488351232 ∧ ∀ y_ ∈ x0, wfMatch y_) (x1 : Int) (w1 : (Lit.int .i64 x1).wf = true) (x2 : List (SNote)) (A2 : Option Addr) (c2 : Nat) (hc2 : x2.length ≤ c2) (hr2 : Kd.C kNote W A2 x2.length x2) (w2 : x2.length * 56 ≤ 140737488351232 ∧ ∀ y_ ∈ x2, wfNote y_) (x3 : SMatch) (cs3 : List Value) (K3 : kMatch.K W x3 cs3) (w3 : wfMatch x3) :
    Calls Try.prog 5 #[.slice A0 x0.length c0, .int .i64 x1, .slice A2 x2.length c2, .agg cs3.toArray] W fun e w' => e = .returned (.bool true) ∧ Below W.heap.size W w' := by
  obtain rfl := kMatch_open K3
  obtain ⟨k, h⟩ := P_ x0 x1 x2 x3 w0 w1 w2 w3
  refine (towncrierlaw21_AuditShifts.calls k _ _ x0 x1 _ _ x2 x3.f0 x3.f1 x3.f2 x3.f3 true W hr0 hc0 hr2 hc2 h).mono ?_
  rintro e w' ⟨rfl, hd⟩
  exact ⟨rfl, hd⟩
end Go.Proofs.Yteiaoanfdkgmoaa.P
