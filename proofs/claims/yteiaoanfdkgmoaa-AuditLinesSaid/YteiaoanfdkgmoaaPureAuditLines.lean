/- AuditLines, about lists alone: a line's beginning is a line, and two lines are one where the former tells no end; no condition. -/
import Derived.Test.YteiaoanfdkgmoaaQAuditLines
import Derived.Test.YteiaoanfdkgmoaaF21
namespace Go.Proofs.Yteiaoanfdkgmoaa.P
open Go.RowKit Go.Proofs.YteiaoanfdkgmoaaW.PrintWords Go.Proofs.YteiaoanfdkgmoaaW.PrintLast Go.Proofs.YteiaoanfdkgmoaaW.PrintMore

theorem lines_loop (x0 : List SNote) (x1 x2 : Int) (hl : x0.length ≤ 40) (h0 : 0 ≤ x2) (h1 : x2 ≤ (x0.length : Int)) (f0 : 0 ≤ x1) (f1 : x1 ≤ 1099511627776) : ∀ (d i k : Nat), i + d = x2.toNat → (∀ j, j < i → (x0.getD j zNote).f2 = 0) → d < k → towncrierlaw21_AuditLines.l0 k x0 x1 x2 (i : Int) = some true := by
  intro d
  induction d with
  | zero =>
    intro i k hi hal hk
    obtain ⟨k, rfl⟩ := rounds_of hk
    simp only [towncrierlaw21_AuditLines.l0]
    rw [if_neg (by omega), if_pos h0, if_pos h1]
    simp only [audit_Line.f, Option.bind_some, lineOf_G]
    have hw : wrap64 (x1 + x2) = x1 + x2 := by unfold wrap64; omega
    have hal2 : ∀ x ∈ x0.take x2.toNat, x.f2 = 0 := by
      intro x hx
      obtain ⟨j, hj⟩ := List.mem_iff_getElem?.1 hx
      have hj2 := (List.getElem?_eq_some_iff.1 hj).1
      simp at hj2
      have := hal j (by omega)
      rw [List.getElem?_take_of_lt (by omega)] at hj
      simpa [List.getD, hj] using this
    have ha := lineG_append (x0.take x2.toNat) (x0.drop x2.toNat) x1 hal2
    rw [List.take_append_drop, List.length_take, show min x2.toNat x0.length = x2.toNat from by omega, Int.toNat_of_nonneg h0] at ha
    rw [hw, ha]
    cases lineG (x0.take x2.toNat) x1 <;> simp
  | succ d ih =>
    intro i k hi hal hk
    obtain ⟨k, rfl⟩ := rounds_of hk
    simp only [towncrierlaw21_AuditLines.l0]
    rw [if_pos (by omega), if_pos (by omega), if_pos (by omega)]
    by_cases h : (rd_TNote x0 (i : Int)).f2 = 0
    · rw [if_pos h, wrap_succ (by omega)]
      refine ih (i + 1) k (by omega) (fun j hj => ?_) (by omega)
      rcases Nat.lt_succ_iff_lt_or_eq.1 hj with hj | rfl
      · exact hal j hj
      · exact h
    · rw [if_neg h]
theorem AuditLines : AuditLines.Pure := by
  intro x0 x1 x2 _ _ _
  refine ⟨x0.length + 100, ?_⟩
  unfold towncrierlaw21_AuditLines.f
  rw [awake21 (by omega)]
  have hj : ∀ t, towncrierlaw21_AuditLines.j0 (x0.length + 100) x0 x1 x2 true t = if t = true then some true else towncrierlaw21_AuditLines.l0 (x0.length + 99) x0 x1 x2 0 := fun t => rfl
  simp only [Option.bind_some, if_true, hj]
  by_cases c1 : (x0.length : Int) > 40
  · rw [if_pos c1]
  · rw [if_neg c1]
    by_cases c2 : x2 < 0
    · rw [if_pos c2]
    · rw [if_neg c2]
      by_cases c3 : x2 > (x0.length : Int)
      · rw [if_pos c3]
      · rw [if_neg c3]
        by_cases c4 : x1 < 0
        · rw [if_pos c4]
        · rw [if_neg c4]
          by_cases c5 : x1 > 1099511627776
          · rw [decide_eq_true c5, if_pos rfl]
          · rw [decide_eq_false c5, if_neg (by simp)]
            exact lines_loop x0 x1 x2 (by omega) (by omega) (by omega) (by omega) (by omega) x2.toNat 0 _ (by omega) (fun j hj => by omega) (by omega)
end Go.Proofs.Yteiaoanfdkgmoaa.P
