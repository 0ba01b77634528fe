/- The functions that the laws of this seat reach, as plain Lean functions, and for each the contract of its call: no condition but those that each theorem names. -/
import Derived.Test.YteiaoanfdkgmoaaP0
import Derived.Test.YteiaoanfdkgmoaaP1
import Derived.Test.YteiaoanfdkgmoaaP10
namespace Go.Proofs.Yteiaoanfdkgmoaa.P
open Go.RowKit Go.Proofs.YteiaoanfdkgmoaaW.PrintWords Go.Proofs.YteiaoanfdkgmoaaW.PrintLast Go.Proofs.YteiaoanfdkgmoaaW.PrintMore
attribute [local go_sem] max2_int min2_int max_two min_two max_three min_three max_four min_four   -- for this text's walks alone
set_option linter.unusedVariables false
set_option linter.unusedSimpArgs false

attribute [local go_sem high] eqAMatch
/-! ### audit_Right: function 16 -/
def neMatch (x y : SMatch) : Bool := !(x.f0 == y.f0) || (!(x.f1 == y.f1) || (!(x.f2 == y.f2) || !(x.f3 == y.f3)))
def wrongNote (m : List SMatch) (t : SNote) : Bool := t.f2 == 0 && (decide (t.f1 < 1) || (decide ((m.length : Int) < t.f1) || neMatch (m.getD (t.f1 - 1).toNat zMatch) t.f3))
def audit_Right.f (l0 : List SNote) (l1 : List SMatch) : Option Bool := some (!(l0.any (wrongNote l1)))
set_option maxHeartbeats 1000000 in
theorem right1_told (x : SNote) (B : Nat) (A1 : Option Addr) (c1 : Nat) (l1 : List SMatch) (w : World) (hB : B < w.heap.size) (hc : w.cell? ⟨B, 0, none⟩ = some (.slice A1 l1.length c1)) (hr : Kd.C kMatch w A1 l1.length l1) :
    Calls Try.prog 30 #[.agg #[.int .i64 x.f0, .int .i64 x.f1, .int .i64 x.f2, .int .i64 x.f3.f0, .int .i64 x.f3.f1, .int .i64 x.f3.f2, .bool x.f3.f3], .pointer (some ⟨B, 0, none⟩)] w (boolPost (wrongNote l1 x) w) := by
  have hm := hr.2.1
  have HR := Aside0.mk hr
  clear hr
  by_cases h0 : x.f2 = 0
  · have e0 : (x.f2 == 0) = true := by rw [h0]; rfl
    have HW := Aside0.mk (show wrongNote l1 x = (decide (x.f1 < 1) || (decide ((l1.length : Int) < x.f1) || neMatch (l1.getD (x.f1 - 1).toNat zMatch) x.f3)) from by unfold wrongNote; rw [e0]; rfl)
    clear h0
    by_cases h1 : x.f1 < 1
    · have d1 : decide (x.f1 < 1) = true := decide_eq_true h1
      go_enter Try.func30, Try.ntmps30
      go_wp2
      go_quiet (fail)
      go_wp2
      go_ret
      exact ⟨by rw [HW.out, d1] <;> rfl, by repeat (first | exact Below.refl _ _ | apply below_alloc | apply pw_below_drewN | apply below_drew1)⟩
    · have d1 : decide (x.f1 < 1) = false := decide_eq_false h1
      have h1' : 1 ≤ x.f1 := by omega
      by_cases h2 : (l1.length : Int) < x.f1
      · have d2 : decide ((l1.length : Int) < x.f1) = true := decide_eq_true h2
        go_enter Try.func30, Try.ntmps30
        go_wp2
        go_quiet (fail)
        go_wp2
        go_ret
        exact ⟨by rw [HW.out, d1, d2] <;> rfl, by repeat (first | exact Below.refl _ _ | apply below_alloc | apply pw_below_drewN | apply below_drew1)⟩
      · have d2 : decide ((l1.length : Int) < x.f1) = false := decide_eq_false h2
        obtain ⟨ad, e, hx0, hx1, hx2, hx3⟩ := at_TMatch (Kd.C_below HR.out ((Below.refl w.heap.size w).alloc (Nat.le_refl _) (.cells #[.int .i64 x.f0, .int .i64 x.f1, .int .i64 x.f2, .int .i64 x.f3.f0, .int .i64 x.f3.f1, .int .i64 x.f3.f2, .bool x.f3.f3] 27))) (x.f1 - 1) (by omega) (by omega)
        cases e
        rw [show (x.f1 - 1).toNat = x.f1.toNat - 1 from by omega] at hx0 hx1 hx2 hx3
        have HE := Aside0.mk (show rd_TMatch l1 (x.f1 - 1) = l1.getD (x.f1 - 1).toNat zMatch from rfl)
        generalize rd_TMatch l1 (x.f1 - 1) = y at *
        rw [← HE.out] at HW
        have hs : IntKind.i64.wrap (x.f1 - 1) = x.f1 - 1 := by rw [IntKind.wrap_i64]; omega
        have hs0 : 0 ≤ x.f1 - 1 := by omega
        have hs1 : x.f1 - 1 < (l1.length : Int) := by omega
        go_enter Try.func30, Try.ntmps30
        go_wp2
        go_quiet (fail)
        go_wp2
        go_ret
        exact ⟨by rw [HW.out, d1, d2] <;> rfl, by repeat (first | exact Below.refl _ _ | apply below_alloc | apply pw_below_drewN | apply below_drew1)⟩
  · have e0 : (x.f2 == 0) = false := beq_eq_false_iff_ne.mpr h0
    have HW := Aside0.mk (show wrongNote l1 x = false from by unfold wrongNote; rw [e0]; rfl)
    clear h0
    go_enter Try.func30, Try.ntmps30
    go_wp2
    go_quiet (fail)
    go_wp2
    go_ret
    exact ⟨by rw [HW.out] <;> rfl, by repeat (first | exact Below.refl _ _ | apply below_alloc | apply pw_below_drewN | apply below_drew1)⟩
set_option maxHeartbeats 400000 in
theorem audit_Right.calls (A0 : Option Addr) (c0 : Nat) (l0 : List SNote) (A1 : Option Addr) (c1 : Nat) (l1 : List SMatch) (r : Bool) (w : World) (hr0 : Kd.C kNote w A0 l0.length l0) (hc0 : l0.length ≤ c0) (hr1 : Kd.C kMatch w A1 l1.length l1) (hc1 : l1.length ≤ c1) (h : audit_Right.f l0 l1 = some r) :
    Calls Try.prog 16 #[.slice A0 l0.length c0, .slice A1 l1.length c1] w fun e w' => e = .returned (.bool r) ∧ Below w.heap.size w w' := by
  obtain rfl := Option.some.inj h
  clear h
  have hb0 : Below w.heap.size w (w.alloc (.cells #[.slice A1 l1.length c1] 34)) := (Below.refl _ _).alloc (Nat.le_refl _) _
  have hT : Tells Try.prog kNote 30 #[.pointer (some ⟨w.heap.size, 0, none⟩)] (wrongNote l1) (w.alloc (.cells #[.slice A1 l1.length c1] 34)) := by
    intro x cs W hW hK
    obtain rfl := kNote_open hK
    have hk := blk_below (blk_new w (.cells #[.slice A1 l1.length c1] 34)) hW
    exact right1_told x w.heap.size A1 c1 l1 W (blk_lt hk) ((blk_cell hk 0).trans rfl) (Kd.C_below hr1 (below_step hb0 hW))
  have HC := Aside0.mk (slices_ContainsFunc_api_Note.told 30 _ (wrongNote l1) A0 c0 l0 _ (enters_of Try.func30 (by kernel_rfl) rfl) hT (Kd.C_below hr0 hb0) hc0)
  have HB := Aside0.mk hb0
  clear hT hr0 hr1 hb0
  show Calls _ _ _ _ (boolPost (!(l0.any (wrongNote l1))) w)
  go_enter Try.func16, Try.ntmps16
  go_wp2_with (go_at_call 31; refine HC.out.mono ?_; rintro e w1 ⟨rfl, hb1⟩)
  go_ret
  exact ⟨rfl, below_step HB.out hb1⟩

end Go.Proofs.Yteiaoanfdkgmoaa.P
