/- The pure statement of AuditNone, and the call of its function out of it; the arguments' readers: no condition but those that each names. -/
import Derived.Test.YteiaoanfdkgmoaaP19
import Derived.Test.YteiaoanfdkgmoaaK
namespace Go.Proofs.Yteiaoanfdkgmoaa.P
open Go.RowKit Go.Proofs.YteiaoanfdkgmoaaW.PrintWords Go.Proofs.YteiaoanfdkgmoaaW.PrintLast Go.Proofs.YteiaoanfdkgmoaaW.PrintMore
attribute [local go_sem] max2_int min2_int max_two min_two max_three min_three max_four min_four   -- for this text's walks alone
set_option linter.unusedVariables false
set_option linter.unusedSimpArgs false
theorem openArg0_AuditNone : Opens Try.prog 27 kNote wfNote := openNote
def AuditNone.Pure : Prop := ∀ (x0 : SNote) (x1 : Int), wfNote x0 → (Lit.int .i64 x1).wf = true → ∃ k, towncrierlaw21_AuditNone.f k x0.f0 x0.f1 x0.f2 x0.f3.f0 x0.f3.f1 x0.f3.f2 x0.f3.f3 x1 = some true
theorem AuditNone.walk (P_ : AuditNone.Pure) (W : World) (x0 : SNote) (cs0 : List Value) (K0 : kNote.K W x0 cs0) (w0 : wfNote x0) (x1 : Int) (w1 : (Lit.int .i64 x1).wf = true) :
    Calls Try.prog 7 #[.agg cs0.toArray, .int .i64 x1] W fun e w' => e = .returned (.bool true) ∧ Below W.heap.size W w' := by
  obtain rfl := kNote_open K0
  obtain ⟨k, h⟩ := P_ x0 x1 w0 w1
  refine (towncrierlaw21_AuditNone.calls k x0.f0 x0.f1 x0.f2 x0.f3.f0 x0.f3.f1 x0.f3.f2 x0.f3.f3 x1 true W h).mono ?_
  rintro e w' ⟨rfl, hd⟩
  exact ⟨rfl, hd⟩
end Go.Proofs.Yteiaoanfdkgmoaa.P
