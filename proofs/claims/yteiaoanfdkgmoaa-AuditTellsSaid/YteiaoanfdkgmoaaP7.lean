/- The functions that the laws of this seat reach, as plain Lean functions, and for each the contract of its call: no condition but those that each theorem names. -/
import Derived.Test.YteiaoanfdkgmoaaP0
import Derived.Test.YteiaoanfdkgmoaaP6
namespace Go.Proofs.Yteiaoanfdkgmoaa.P
open Go.RowKit Go.Proofs.YteiaoanfdkgmoaaW.PrintWords Go.Proofs.YteiaoanfdkgmoaaW.PrintLast Go.Proofs.YteiaoanfdkgmoaaW.PrintMore
attribute [local go_sem] max2_int min2_int max_two min_two max_three min_three max_four min_four   -- for this text's walks alone
set_option linter.unusedVariables false
set_option linter.unusedSimpArgs false

/-! ### audit_Notes: function 12 -/
def audit_Notes.f (l0 : List SRes) (a1 : Int) : Option (List SNote) := if l0.length < 2513169434916 then some (notesOf l0 a1) else none
set_option maxHeartbeats 400000 in
theorem audit_Notes.calls (A0 : Option Addr) (c0 : Nat) (l0 : List SRes) (a1 : Int) (r : List SNote) (w : World) (hr0 : Kd.C kRes w A0 l0.length l0) (hc0 : l0.length ≤ c0) (h : audit_Notes.f l0 a1 = some r) :
    Calls Try.prog 12 #[.slice A0 l0.length c0, .int .i64 a1] w fun e w' => ∃ v0_ : Value, e = .returned v0_ ∧ Kd.R kNote 27 w' w.heap.size (fun _ => True) v0_ r ∧ Below w.heap.size w w' := by
  unfold audit_Notes.f at h
  by_cases hm : l0.length < 2513169434916
  · rw [if_pos hm] at h
    obtain rfl := Option.some.inj h
    clear h
    have HR := Aside0.mk hr0
    have HC := Aside0.mk hc0
    clear hr0 hc0
    show Calls _ _ _ _ (allPost l0 a1 w)
    go_enter Try.func12, Try.ntmps12
    go_wp2_with fail
    refine (all_told w.heap.size a1 A0 c0 l0 _ (by simp; omega) (cell_past _ ((blk_cell (blk_new w (.cells #[.int .i64 a1] 3)) 0).trans rfl)) (Kd.C_below HR.out (((Below.refl _ _).alloc (Nat.le_refl _) _).alloc (by simp) _)) HC.out hm).mono ?_
    rintro e w1 ⟨v, rfl, ho, hb⟩
    have HO := Aside0.mk ho
    clear ho
    go_wp2
    go_ret
    exact ⟨v, rfl, Kd.R_lower HO.out (by simp; omega), below_step (((Below.refl _ _).alloc (Nat.le_refl _) _).alloc (by simp) _) hb⟩
  · rw [if_neg hm] at h
    exact absurd h (by simp)

end Go.Proofs.Yteiaoanfdkgmoaa.P
