/- AuditRight, about lists alone: no notes are right by any matches, one that is told by its number is, and by fewer matches no more are; no condition. -/
import Derived.Test.YteiaoanfdkgmoaaQAuditRight
import Derived.Test.YteiaoanfdkgmoaaF21
namespace Go.Proofs.Yteiaoanfdkgmoaa.P
open Go.RowKit Go.Proofs.YteiaoanfdkgmoaaW.PrintWords Go.Proofs.YteiaoanfdkgmoaaW.PrintLast Go.Proofs.YteiaoanfdkgmoaaW.PrintMore

theorem wrong_own (m : List SMatch) (at_ : Nat) (h : at_ < m.length) : wrongNote m ⟨0, ((at_ + 1 : Nat) : Int), 0, m.getD at_ zMatch⟩ = false := by
  unfold wrongNote
  have e : ((at_ + 1 : Nat) : Int) - 1 = (at_ : Int) := by omega
  simp only [e, Int.toNat_natCast, neMatch_self]
  rw [decide_eq_false (by omega), decide_eq_false (by omega)]
  rfl
theorem wrong_fewer (m : List SMatch) (at_ : Nat) (x : SMatch) (h : at_ < m.length) : wrongNote (m.take at_) ⟨0, ((at_ + 1 : Nat) : Int), 0, x⟩ = true := by
  unfold wrongNote
  rw [decide_eq_true (show (((m.take at_).length : Nat) : Int) < ((at_ + 1 : Nat) : Int) from by rw [List.length_take]; omega)]
  simp
theorem wrong_take (m : List SMatch) (at_ : Nat) (t : SNote) (h : wrongNote (m.take at_) t = false) : wrongNote m t = false := by
  unfold wrongNote at h ⊢
  cases h0 : (t.f2 == 0) with
  | false => rfl
  | true =>
    rw [h0] at h
    simp only [Bool.true_and, Bool.or_eq_false_iff, decide_eq_false_iff_not] at h ⊢
    obtain ⟨h1, h2, h3⟩ := h
    rw [List.length_take] at h2
    refine ⟨h1, by omega, ?_⟩
    simp only [List.getD] at h3 ⊢
    rw [List.getElem?_take_of_lt (by omega)] at h3
    exact h3
theorem AuditRight : AuditRight.Pure := by
  intro x0 x1 x2 _ _ _
  refine ⟨x0.length + 100, ?_⟩
  unfold towncrierlaw21_AuditRight.f
  rw [awake21 (by omega)]
  simp only [Option.bind_some, if_true]
  have hj : ∀ t, t = true → towncrierlaw21_AuditRight.j0 (x0.length + 100) x0 x1 x2 true t = some true := by
    intro t ht
    subst ht
    rfl
  by_cases c1 : (x0.length : Int) > 40
  · rw [if_pos c1]; exact hj _ rfl
  · rw [if_neg c1]
    by_cases c2 : (x1.length : Int) > 40
    · rw [if_pos c2]; exact hj _ rfl
    · rw [if_neg c2]
      by_cases c3 : x2 < 0
      · rw [if_pos c3]; exact hj _ rfl
      · rw [if_neg c3]
        by_cases c4 : x2 ≥ (x1.length : Int)
        · rw [decide_eq_true c4]; exact hj _ rfl
        · rw [decide_eq_false c4]
          obtain ⟨m, hm⟩ : ∃ m, m + 1 = x0.length + 100 := ⟨x0.length + 99, by omega⟩
          obtain ⟨i, rfl⟩ := Int.eq_ofNat_of_zero_le (show 0 ≤ x2 from by omega)
          rw [← hm]
          have hi : i < x1.length := by omega
          have e1 := wrong_own x1 i hi
          have e2 := wrong_fewer x1 i (x1.getD i zMatch) hi
          simp only [towncrierlaw21_AuditRight.j0, Bool.false_eq_true, if_false]
          rw [if_pos (by omega), if_pos (by omega)]
          simp only [Option.bind_some, audit_Right.f, List.any_nil, List.any_cons, Bool.or_false, Bool.not_false, if_true, wrap_succ (show i < 9223372036854775807 from by omega), rd_TMatch, Int.toNat_natCast]
          have e3 : (⟨0, ((i + 1 : Nat) : Int), 0, ⟨(x1.getD i zMatch).f0, (x1.getD i zMatch).f1, (x1.getD i zMatch).f2, (x1.getD i zMatch).f3⟩⟩ : SNote) = ⟨0, ((i + 1 : Nat) : Int), 0, x1.getD i zMatch⟩ := rfl
          have e4 : (((i : Nat) : Int) ≤ (x1.length : Int)) = True := eq_true (by omega)
          simp only [e3, e1, e2, e4, Bool.not_false, Bool.not_true, Bool.false_eq_true, if_true, if_false]
          cases h : x0.any (wrongNote (x1.take i)) with
          | true => simp
          | false =>
            have : x0.any (wrongNote x1) = false := by
              rw [List.any_eq_false] at h ⊢
              intro t ht
              have := h t ht
              simp only [Bool.not_eq_true] at this ⊢
              exact wrong_take x1 i t this
            rw [this]
            simp
end Go.Proofs.Yteiaoanfdkgmoaa.P
