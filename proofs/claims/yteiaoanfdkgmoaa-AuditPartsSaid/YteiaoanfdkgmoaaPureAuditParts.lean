/- AuditParts, about lists alone: the notes of two parts are those of both, and those of one subscription are none of another one's; no condition. -/
import Derived.Test.YteiaoanfdkgmoaaQAuditParts
import Derived.Test.YteiaoanfdkgmoaaF21
namespace Go.Proofs.Yteiaoanfdkgmoaa.P
open Go.RowKit Go.Proofs.YteiaoanfdkgmoaaW.PrintWords Go.Proofs.YteiaoanfdkgmoaaW.PrintLast Go.Proofs.YteiaoanfdkgmoaaW.PrintMore

theorem notesOf_append (a b : List SRes) (s : Int) : notesOf (a ++ b) s = notesOf a s ++ notesOf b s := by simp [notesOf]
theorem notesOf_sub (l : List SRes) (s : Int) : ∀ x ∈ notesOf l s, x.f0 = s := by
  intro x hx
  simp only [notesOf, List.mem_map, List.mem_filter] at hx
  obtain ⟨y, ⟨_, hy⟩, rfl⟩ := hx
  simp at hy
  exact hy.2
theorem parts_loop (s : Int) (m : List SNote) (hm : ∀ x ∈ m, x.f0 = s) (hl : m.length < 4611686018427387904) : ∀ (d i k : Nat), i + d = m.length → d < k → towncrierlaw21_AuditParts.l0 k s m (i : Int) = some true := by
  intro d
  induction d with
  | zero =>
    intro i k hi hk
    obtain ⟨k, rfl⟩ := rounds_of hk
    simp only [towncrierlaw21_AuditParts.l0]
    rw [if_neg (by omega)]
  | succ d ih =>
    intro i k hi hk
    obtain ⟨k, rfl⟩ := rounds_of hk
    simp only [towncrierlaw21_AuditParts.l0]
    have hx : (rd_TNote m (i : Int)).f0 = s := by
      refine hm _ ?_
      have : i < m.length := by omega
      simp [rd_TNote, List.getD, this]
    rw [if_pos (by omega), if_pos (by omega), if_pos hx, wrap_succ (by omega)]
    exact ih (i + 1) k (by omega) (by omega)
theorem AuditParts : AuditParts.Pure := by
  intro x0 x1 x2 x3 _ _ _ _
  refine ⟨x0.length + 100, ?_⟩
  unfold towncrierlaw21_AuditParts.f
  rw [awake21 (by omega)]
  simp only [Option.bind_some, if_true]
  have hj : ∀ t, t = true → towncrierlaw21_AuditParts.j0 (x0.length + 100) x0 x1 x2 x3 true t = some true := by
    intro t ht
    subst ht
    rfl
  by_cases c1 : (x0.length : Int) > 40
  · rw [if_pos c1]; exact hj _ rfl
  · rw [if_neg c1]
    by_cases c2 : x3 < 0
    · rw [if_pos c2]; exact hj _ rfl
    · rw [if_neg c2]
      by_cases c3 : x3 > (x0.length : Int)
      · rw [decide_eq_true c3]; exact hj _ rfl
      · rw [decide_eq_false c3]
        have e := notesOf_append (x0.take x3.toNat) (x0.drop x3.toNat) x1
        rw [List.take_append_drop] at e
        have l1 := notesOf_len (x0.take x3.toNat) x1
        have l2 := notesOf_len (x0.drop x3.toNat) x1
        have l3 := notesOf_len x0 x1
        have l4 := notesOf_len x0 x2
        rw [List.length_take] at l1
        rw [List.length_drop] at l2
        obtain ⟨m, hm⟩ : ∃ m, m + 1 = x0.length + 100 := ⟨x0.length + 99, by omega⟩
        rw [← hm]
        simp only [towncrierlaw21_AuditParts.j0, Bool.false_eq_true, if_false]
        rw [if_pos (by omega), if_pos (by omega)]
        simp only [audit_Notes.f]
        rw [if_pos (by rw [List.length_take]; omega), if_pos (by rw [List.length_drop]; omega), if_pos (by omega), if_pos (by omega)]
        simp only [Option.bind_some, List.nil_append, List.length_nil]
        rw [if_pos (by omega), if_pos (by omega), ← e, same21_refl _ (by omega) (by omega)]
        simp only [Option.bind_some, if_true]
        exact parts_loop x2 _ (notesOf_sub x0 x2) (by omega) _ 0 m (by rw [Nat.zero_add]) (by omega)
end Go.Proofs.Yteiaoanfdkgmoaa.P
