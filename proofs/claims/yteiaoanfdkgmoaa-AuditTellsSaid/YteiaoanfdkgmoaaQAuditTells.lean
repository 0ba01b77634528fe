/- The pure statement of AuditTells, and the call of its function out of it; the arguments' readers: no condition but those that each names. -/
import Derived.Test.YteiaoanfdkgmoaaP30
import Derived.Test.YteiaoanfdkgmoaaK
namespace Go.Proofs.Yteiaoanfdkgmoaa.P
open Go.RowKit Go.Proofs.YteiaoanfdkgmoaaW.PrintWords Go.Proofs.YteiaoanfdkgmoaaW.PrintLast Go.Proofs.YteiaoanfdkgmoaaW.PrintMore
attribute [local go_sem] max2_int min2_int max_two min_two max_three min_three max_four min_four   -- for this text's walks alone
set_option linter.unusedVariables false
set_option linter.unusedSimpArgs false
theorem openArg0_AuditTells : Opens Try.prog 30 (Kd.slice 43 kRes) (fun x_ : List (SRes) => x_.length * 88 ≤ 140737488351232 ∧ ∀ y_ ∈ x_, wfRes y_) := (opens_slice Try.underlying30 openRes (by kernel_rfl) (by kernel_rfl))
theorem openArg2_AuditTells : Opens Try.prog 22 (Kd.slice 27 kNote) (fun x_ : List (SNote) => x_.length * 56 ≤ 140737488351232 ∧ ∀ y_ ∈ x_, wfNote y_) := (opens_slice Try.underlying22 openNote (by kernel_rfl) (by kernel_rfl))
theorem openArg4_AuditTells : Opens Try.prog 45 (Kd.slice 57 kReq) (fun x_ : List (SReq) => x_.length * 184 ≤ 140737488351232 ∧ ∀ y_ ∈ x_, wfReq y_) := (opens_slice Try.underlying45 openReq (by kernel_rfl) (by kernel_rfl))
theorem openArg5_AuditTells : Opens Try.prog 34 (Kd.slice 25 kMatch) (fun x_ : List (SMatch) => x_.length * 32 ≤ 140737488351232 ∧ ∀ y_ ∈ x_, wfMatch y_) := (opens_slice Try.underlying34 openMatch (by kernel_rfl) (by kernel_rfl))
def AuditTells.Pure : Prop := ∀ (x0 : List (SRes)) (x1 : Int) (x2 : List (SNote)) (x3 : Int) (x4 : List (SReq)) (x5 : List (SMatch)) (x6 : Int), (x0.length * 88 ≤ 140737488351232 ∧ ∀ y_ ∈ x0, wfRes y_) → (Lit.int .i64 x1).wf = true → (x2.length * 56 ≤ 140737488351232 ∧ ∀ y_ ∈ x2, wfNote y_) → (Lit.int .i64 x3).wf = true → (x4.length * 184 ≤ 140737488351232 ∧ ∀ y_ ∈ x4, wfReq y_) → (x5.length * 32 ≤ 140737488351232 ∧ ∀ y_ ∈ x5, wfMatch y_) → (Lit.int .i64 x6).wf = true → ∃ k, towncrierlaw21_AuditTells.f k x0 x1 x2 x3 x4 x5 x6 = some true
theorem AuditTells.walk (P_ : AuditTells.Pure) (W : World) (x0 : List (SRes)) (A0 : Option Addr) (c0 : Nat) (hc0 : x0.length ≤ c0) (hr0 : Kd.C kRes W A0 x0.length x0) (w0 : x0.length * 88 ≤ 140737488351232 ∧ ∀ y_ ∈ x0, wfRes y_) (x1 : Int) (w1 : (Lit.int .i64 x1).wf = true) (x2 : List (SNote)) (A2 : Option Addr) (c2 : Nat) (hc2 : x2.length ≤ c2) (hr2 : Kd.C kNote W A2 x2.length x2) (w2 : x2.length * 56 ≤ 140737488351232 ∧ ∀ y_ ∈ x2, wfNote y_) (x3 : Int) (w3 : (Lit.int .i64 x3).wf = true) (x4 : List (SReq)) (A4 : Option Addr) (c4 : Nat) (hc4 : x4.length ≤ c4) (hr4 : Kd.C kReq W A4 x4.length x4) (w4 : x4.length * 184 ≤ 140737488351232 ∧ ∀ y_ ∈ x4, wfReq y_) (x5 : List (SMatch)) (A5 : Option Addr) (c5 : Nat) (hc5 : x5.length ≤ c5) (hr5 : Kd.C kMatch W A5 x5.length x5) (w5 : x5.length * 32 ≤ 140737488351232 ∧ ∀ y_ ∈ x5, wfMatch y_) (x6 : Int) (w6 : (Lit.int .i64 x6).wf = true) :
    Calls Try.prog 8 #[.slice A0 x0.length c0, .int .i64 x1, .slice A2 x2.length c2, .int .i64 x3, .slice A4 x4.length c4, .slice A5 x5.length c5, .int .i64 x6] W fun e w' => e = .returned (.bool true) ∧ Below W.heap.size W w' := by
  obtain ⟨k, h⟩ := P_ x0 x1 x2 x3 x4 x5 x6 w0 w1 w2 w3 w4 w5 w6
  refine (towncrierlaw21_AuditTells.calls k _ _ x0 x1 _ _ x2 x3 (fun k_ => k_ < W.heap.size) _ _ x4 _ _ x5 x6 true W hr0 hc0 hr2 hc2 (Kd.V_mk hc4 (Kd.F_below (Kd.C_F kReq_heap hr4) (Below.refl _ _))) hr5 hc5 h).mono ?_
  rintro e w' ⟨rfl, hd⟩
  exact ⟨rfl, hd⟩
end Go.Proofs.Yteiaoanfdkgmoaa.P
