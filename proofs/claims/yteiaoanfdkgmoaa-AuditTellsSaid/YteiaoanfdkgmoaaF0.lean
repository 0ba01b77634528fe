/- Plain facts on whole numbers and rounds; each under the conditions that it names. -/
import Derived.Test.YteiaoanfdkgmoaaB
namespace Go.Proofs.Yteiaoanfdkgmoaa.P
open Go.RowKit Go.Proofs.YteiaoanfdkgmoaaW.PrintWords Go.Proofs.YteiaoanfdkgmoaaW.PrintLast Go.Proofs.YteiaoanfdkgmoaaW.PrintMore

theorem lit_i64 {n : Int} (h : (Lit.int .i64 n).wf = true) : -9223372036854775808 ≤ n ∧ n ≤ 9223372036854775807 := by
  have e1 : IntKind.min .i64 = -9223372036854775808 := rfl
  have e2 : IntKind.max .i64 = 9223372036854775807 := rfl
  simp only [Lit.wf, Bool.and_eq_true, decide_eq_true_eq, e1, e2] at h
  exact h
theorem wrap_succ {i : Nat} (h : i < 9223372036854775807) : wrap64 ((i : Int) + 1) = ((i + 1 : Nat) : Int) := by unfold wrap64; omega
theorem rounds_of {k d : Nat} (h : d < k) : ∃ m, k = m + 1 := ⟨k - 1, by omega⟩
theorem getD_mid {α : Type} (A B : List α) (x z : α) : (A ++ x :: B).getD A.length z = x := by simp [List.getD]
theorem set_mid {α : Type} (A B : List α) (x y : α) : (A ++ x :: B).set A.length y = A ++ y :: B := by simp
theorem getD_left {α : Type} (A B : List α) (z : α) {i : Nat} (h : i < A.length) : (A ++ B).getD i z = A.getD i z := by simp [List.getD, List.getElem?_append_left h]
end Go.Proofs.Yteiaoanfdkgmoaa.P
