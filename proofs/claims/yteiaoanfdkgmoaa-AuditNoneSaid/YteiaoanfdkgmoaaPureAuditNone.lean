/- AuditNone, about lists alone: a line of nothing is one, one note is one just by its number, an end alone is a line, and is right by nothing; no condition. -/
import Derived.Test.YteiaoanfdkgmoaaQAuditNone
import Derived.Test.YteiaoanfdkgmoaaF21
namespace Go.Proofs.Yteiaoanfdkgmoaa.P
open Go.RowKit Go.Proofs.YteiaoanfdkgmoaaW.PrintWords Go.Proofs.YteiaoanfdkgmoaaW.PrintLast Go.Proofs.YteiaoanfdkgmoaaW.PrintMore

theorem AuditNone : AuditNone.Pure := by
  intro x0 x1 _ _
  obtain ⟨a, b, c, ⟨d, e, f, g⟩⟩ := x0
  refine ⟨100, ?_⟩
  unfold towncrierlaw21_AuditNone.f
  rw [awake21 (by omega)]
  have l0 : lineOf ([] : List SNote) x1 = true := rfl
  simp only [Option.bind_some, if_true, audit_Line.f, l0, Bool.not_true]
  rw [show (100 : Nat) = 99 + 1 from rfl]
  simp only [towncrierlaw21_AuditNone.j0, Bool.false_eq_true, if_false, audit_Notes.f, List.length_cons, List.length_nil]
  rw [if_pos (by omega), if_pos (by omega)]
  have n0 : notesOf [⟨false, 0, 0, 0, ⟨a, b, c, ⟨d, e, f, g⟩⟩⟩] a = [] := rfl
  have n1 : notesOf [⟨true, 0, 0, 0, ⟨a, b, c, ⟨d, e, f, g⟩⟩⟩] a = [⟨a, b, c, ⟨d, e, f, g⟩⟩] := by simp [notesOf]
  simp only [Option.bind_some, n0, n1]
  rw [same21_refl [] (by simp) (by simp), same21_refl [⟨a, b, c, ⟨d, e, f, g⟩⟩] (by simp) (by simp)]
  simp only [Option.bind_some, if_true, Bool.not_true]
  rw [show (99 : Nat) = 98 + 1 from rfl]
  simp only [towncrierlaw21_AuditNone.j1, Bool.false_eq_true, if_false, audit_Line.f, Option.bind_some, lineOf_G, lineG, audit_Right.f, List.any_cons, List.any_nil, Bool.or_false, List.all_nil, Bool.and_true]
  by_cases h : c = 0
  · subst h
    simp only [if_true, beq_self_eq_true]
    have : wrongNote [] ⟨a, b, 0, ⟨d, e, f, g⟩⟩ = true := by
      unfold wrongNote
      by_cases h1 : b < 1
      · rw [decide_eq_true h1]; rfl
      · rw [decide_eq_false h1, decide_eq_true (show (((([] : List SMatch).length : Nat)) : Int) < b from by simp; omega)]; rfl
    rw [this]
    rfl
  · have : wrongNote [] ⟨a, b, c, ⟨d, e, f, g⟩⟩ = false := by simp [wrongNote, h]
    rw [if_neg h, if_neg h, this]
    rfl
end Go.Proofs.Yteiaoanfdkgmoaa.P
