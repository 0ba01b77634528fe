/- AuditShifts, about lists alone: matches from another event on, and back, are what they were, and what is right by matches is so by more; no condition. -/
import Derived.Test.YteiaoanfdkgmoaaQAuditShifts
import Derived.Test.YteiaoanfdkgmoaaF21
namespace Go.Proofs.Yteiaoanfdkgmoaa.P
open Go.RowKit Go.Proofs.YteiaoanfdkgmoaaW.PrintWords Go.Proofs.YteiaoanfdkgmoaaW.PrintLast Go.Proofs.YteiaoanfdkgmoaaW.PrintMore

theorem shift_back (by_ : Int) (x : SMatch) (hx : wfMatch x) : shiftBy (wrap64 (-by_)) (shiftBy by_ x) = x := by
  obtain ⟨a, b, c, d⟩ := x
  obtain ⟨h1, h2, _⟩ := hx
  obtain ⟨a1, a2⟩ := lit_i64 h1
  obtain ⟨b1, b2⟩ := lit_i64 h2
  simp only at a1 a2 b1 b2
  simp only [shiftBy]
  have e1 : wrap64 (wrap64 (a + by_) + wrap64 (-by_)) = a := by
    unfold wrap64; omega
  have e2 : wrap64 (wrap64 (b + by_) + wrap64 (-by_)) = b := by
    unfold wrap64; omega
  rw [e1, e2]
theorem wrong_more (m : List SMatch) (z : SMatch) (t : SNote) (h : wrongNote m t = false) : wrongNote (m ++ [z]) t = false := by
  unfold wrongNote at h ⊢
  cases h0 : (t.f2 == 0) with
  | false => rfl
  | true =>
    rw [h0] at h
    simp only [Bool.true_and, Bool.or_eq_false_iff, decide_eq_false_iff_not] at h ⊢
    obtain ⟨h1, h2, h3⟩ := h
    refine ⟨h1, by rw [List.length_append]; simp; omega, ?_⟩
    rw [getD_left _ _ _ (by omega)]
    exact h3
theorem AuditShifts : AuditShifts.Pure := by
  intro x0 x1 x2 x3 w0 _ w2 _
  refine ⟨x0.length + 100, ?_⟩
  unfold towncrierlaw21_AuditShifts.f
  rw [awake21 (by omega)]
  simp only [Option.bind_some, if_true]
  have hj : ∀ t, t = true → towncrierlaw21_AuditShifts.j0 (x0.length + 100) x0 x1 x2 true t x3.f0 x3.f1 x3.f2 x3.f3 = some true := by
    intro t ht
    subst ht
    rfl
  by_cases c1 : (x0.length : Int) > 40
  · rw [if_pos c1]; exact hj _ rfl
  · rw [if_neg c1]
    by_cases c2 : (x2.length : Int) > 40
    · rw [decide_eq_true c2]; exact hj _ rfl
    · rw [decide_eq_false c2]
      obtain ⟨m, hm⟩ : ∃ m, m + 1 = x0.length + 100 := ⟨x0.length + 99, by omega⟩
      rw [← hm]
      simp only [towncrierlaw21_AuditShifts.j0, Bool.false_eq_true, if_false]
      rw [shift_is x0 x1 (by omega) (by omega)]
      simp only [Option.bind_some]
      rw [shift_is _ _ (by rw [List.length_map]; omega) (by rw [List.length_map]; omega)]
      have e : (x0.map (shiftBy x1)).map (shiftBy (wrap64 (-x1))) = x0 := by
        rw [List.map_map]
        conv => rhs; rw [← List.map_id x0]
        exact List.map_congr_left fun x hx => shift_back x1 x (w0.2 x hx)
      simp only [Option.bind_some]
      rw [e, same12_refl x0 (by omega) (by omega)]
      simp only [Option.bind_some, if_true, audit_Right.f, List.nil_append, List.length_nil]
      cases h : x2.any (wrongNote x0) with
      | true => simp
      | false =>
        simp only [Bool.not_false, if_true]
        rw [if_pos (by omega), if_pos (by simp; omega)]
        have : x2.any (wrongNote (x0 ++ [x3])) = false := by
          rw [List.any_eq_false] at h ⊢
          intro t ht
          have := h t ht
          simp only [Bool.not_eq_true] at this ⊢
          exact wrong_more x0 x3 t this
        show some (!(x2.any (wrongNote (x0 ++ [x3])))) = some true
        rw [this]
        rfl
end Go.Proofs.Yteiaoanfdkgmoaa.P
