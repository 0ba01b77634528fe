/- The functions that the laws of this seat reach, as plain Lean functions, and for each the contract of its call: no condition but those that each theorem names. -/
import Derived.Test.YteiaoanfdkgmoaaP0
import Derived.Test.YteiaoanfdkgmoaaP12
import Derived.Test.YteiaoanfdkgmoaaP27
namespace Go.Proofs.Yteiaoanfdkgmoaa.P
open Go.RowKit Go.Proofs.YteiaoanfdkgmoaaW.PrintWords Go.Proofs.YteiaoanfdkgmoaaW.PrintLast Go.Proofs.YteiaoanfdkgmoaaW.PrintMore
attribute [local go_sem] max2_int min2_int max_two min_two max_three min_three max_four min_four   -- for this text's walks alone
set_option linter.unusedVariables false
set_option linter.unusedSimpArgs false

/-! ### towncrierlaw21_AuditLog: function 9 -/
mutual
def towncrierlaw21_AuditLog.j0 : Nat → List (SReq) → List (SRes) → Int → Bool → Bool → Option (Bool)
  | 0, _, _, _, _, _ => none
  | k + 1, x0, x1, x2, x7, x36 => if x36 = true then (some x7) else (towncrierlaw21_AuditLog.l0 k x0 x1 x2 0 0)
def towncrierlaw21_AuditLog.l0 : Nat → List (SReq) → List (SRes) → Int → Int → Int → Option (Bool)
  | 0, _, _, _, _, _ => none
  | k + 1, x0, x1, x2, x8, x9 => if x9 < (x0.length : Int) then (if 0 ≤ x9 then (if ((rd_TReq x0 x9).f0) = 3 then (if x9 < (x1.length : Int) then (if ((rd_TRes x1 x9).f0 = true) then (towncrierlaw21_AuditLog.l0 k x0 x1 x2 x8 (wrap64 (x9 + 1))) else (if ((rd_TRes x1 x9).f1) = 0 then (towncrierlaw21_AuditLog.l0 k x0 x1 x2 (wrap64 (x8 + 1)) (wrap64 (x9 + 1))) else (towncrierlaw21_AuditLog.l0 k x0 x1 x2 x8 (wrap64 (x9 + 1))))) else (none)) else (towncrierlaw21_AuditLog.l0 k x0 x1 x2 x8 (wrap64 (x9 + 1)))) else (none)) else (if 0 ≤ x2 then (if x2 ≤ (x0.length : Int) then (if x2 ≤ (x1.length : Int) then ((audit_Log.f k (x0.take (x2 : Int).toNat) (x1.take (x2 : Int).toNat)).bind fun t323 => ((audit_Log.f k (x0.drop (x2 : Int).toNat) (x1.drop (x2 : Int).toNat)).bind fun t334 => ((audit_Log.f k x0 x1).bind fun t337 => (if (t337.length : Int) = x8 then (some ((wrap64 ((t323.length : Int) + (t334.length : Int))) == x8)) else (some false))))) else (none)) else (none)) else (none))
end
def towncrierlaw21_AuditLog.f (k : Nat) (l0 : List (SReq)) (l1 : List (SRes)) (a2 : Int) : Option (Bool) := (towncrierlaw21_awake.f k).bind fun t311 => (if t311 = true then (if (l0.length : Int) > 40 then (towncrierlaw21_AuditLog.j0 k l0 l1 a2 t311 true) else (if (l1.length : Int) = (l0.length : Int) then (if a2 < 0 then (towncrierlaw21_AuditLog.j0 k l0 l1 a2 t311 true) else (towncrierlaw21_AuditLog.j0 k l0 l1 a2 t311 (decide (a2 > (l0.length : Int))))) else (towncrierlaw21_AuditLog.j0 k l0 l1 a2 t311 true))) else (towncrierlaw21_AuditLog.j0 k l0 l1 a2 t311 true))
theorem towncrierlaw21_AuditLog.mono_l : ∀ k, (∀ y0 y1 y2 y3 y4, LeO (towncrierlaw21_AuditLog.j0 k y0 y1 y2 y3 y4) (towncrierlaw21_AuditLog.j0 (k + 1) y0 y1 y2 y3 y4)) ∧ (∀ y0 y1 y2 y3 y4, LeO (towncrierlaw21_AuditLog.l0 k y0 y1 y2 y3 y4) (towncrierlaw21_AuditLog.l0 (k + 1) y0 y1 y2 y3 y4))
  | 0 => ⟨fun _ _ _ _ _ r h => by simp [towncrierlaw21_AuditLog.j0] at h, fun _ _ _ _ _ r h => by simp [towncrierlaw21_AuditLog.l0] at h⟩
  | k + 1 => by
    obtain ⟨ih0, ih1⟩ := towncrierlaw21_AuditLog.mono_l k
    refine ⟨?_, ?_⟩
    · intro y0 y1 y2 y3 y4
      unfold towncrierlaw21_AuditLog.j0
      repeat' first
      | (with_reducible exact ih0 _ _ _ _ _)
      | (with_reducible exact ih1 _ _ _ _ _)
      | (with_reducible exact audit_Log.mono _ _ _)
      | (with_reducible exact towncrierlaw21_awake.mono _)
      | (with_reducible exact LeO.refl _)
      | (with_reducible exact LeO.none _)
      | (with_reducible refine LeO.ite ?_ ?_)
      | (with_reducible refine LeO.bind ?_ (fun _ => ?_))
      | exact ih0 _ _ _ _ _
      | exact ih1 _ _ _ _ _
      | exact audit_Log.mono _ _ _
      | exact towncrierlaw21_awake.mono _
      | exact LeO.none _
      | refine LeO.ite ?_ ?_
      | refine LeO.bind ?_ (fun _ => ?_)
    · intro y0 y1 y2 y3 y4
      unfold towncrierlaw21_AuditLog.l0
      repeat' first
      | (with_reducible exact ih0 _ _ _ _ _)
      | (with_reducible exact ih1 _ _ _ _ _)
      | (with_reducible exact audit_Log.mono _ _ _)
      | (with_reducible exact towncrierlaw21_awake.mono _)
      | (with_reducible exact LeO.refl _)
      | (with_reducible exact LeO.none _)
      | (with_reducible refine LeO.ite ?_ ?_)
      | (with_reducible refine LeO.bind ?_ (fun _ => ?_))
      | exact ih0 _ _ _ _ _
      | exact ih1 _ _ _ _ _
      | exact audit_Log.mono _ _ _
      | exact towncrierlaw21_awake.mono _
      | exact LeO.none _
      | refine LeO.ite ?_ ?_
      | refine LeO.bind ?_ (fun _ => ?_)
theorem towncrierlaw21_AuditLog.mono : ∀ a0 a1 a2 k, LeO (towncrierlaw21_AuditLog.f k a0 a1 a2) (towncrierlaw21_AuditLog.f (k + 1) a0 a1 a2) := by
  intro a0 a1 a2 k
  obtain ⟨ih0, ih1⟩ := towncrierlaw21_AuditLog.mono_l k
  unfold towncrierlaw21_AuditLog.f
  repeat' first
      | (with_reducible exact ih0 _ _ _ _ _)
      | (with_reducible exact ih1 _ _ _ _ _)
      | (with_reducible exact audit_Log.mono _ _ _)
      | (with_reducible exact towncrierlaw21_awake.mono _)
      | (with_reducible exact LeO.refl _)
      | (with_reducible exact LeO.none _)
      | (with_reducible refine LeO.ite ?_ ?_)
      | (with_reducible refine LeO.bind ?_ (fun _ => ?_))
      | exact ih0 _ _ _ _ _
      | exact ih1 _ _ _ _ _
      | exact audit_Log.mono _ _ _
      | exact towncrierlaw21_awake.mono _
      | exact LeO.none _
      | refine LeO.ite ?_ ?_
      | refine LeO.bind ?_ (fun _ => ?_)
def towncrierlaw21_AuditLog.T10 : Bool × List (List Nat × List Nat) := (true, [([], []), ([], []), ([0, 1], [0, 1]), ([], []), ([], []), ([3, 4], [3, 4]), ([2, 5], [2, 5]), ([6, 6, 0, 1, 2, 3, 4, 5, 6], [6])])
def towncrierlaw21_AuditLog.B10 : List Nat := [0, 0, 3, 0, 0, 24, 63, 127]
theorem towncrierlaw21_AuditLog.tab10 : rtab .any (opsOf Try.f9 10) = towncrierlaw21_AuditLog.T10 := by kernel_rfl
theorem towncrierlaw21_AuditLog.bits10 : waitsOk towncrierlaw21_AuditLog.T10.2 towncrierlaw21_AuditLog.B10 = true := by kernel_rfl
def towncrierlaw21_AuditLog.T11 : Bool × List (List Nat × List Nat) := (true, [([], []), ([], []), ([0, 1], [0, 1]), ([], []), ([], []), ([3, 4], [3, 4]), ([2, 5], [2, 5]), ([6, 6, 0, 1, 2, 3, 4, 5, 6], [6])])
def towncrierlaw21_AuditLog.B11 : List Nat := [0, 0, 3, 0, 0, 24, 63, 127]
theorem towncrierlaw21_AuditLog.tab11 : rtab .any (opsOf Try.f9 11) = towncrierlaw21_AuditLog.T11 := by kernel_rfl
theorem towncrierlaw21_AuditLog.bits11 : waitsOk towncrierlaw21_AuditLog.T11.2 towncrierlaw21_AuditLog.B11 = true := by kernel_rfl
set_option maxHeartbeats 8000000 in
set_option maxRecDepth 100000 in
theorem towncrierlaw21_AuditLog.calls (k : Nat) (A0 : Option Addr) (c0 : Nat) (l0 : List (SReq)) (A1 : Option Addr) (c1 : Nat) (l1 : List (SRes)) (a2 : Int) (r : Bool) (w : World) (hr0 : Kd.C kReq w A0 l0.length l0) (hc0 : l0.length ≤ c0) (hr1 : Kd.C kRes w A1 l1.length l1) (hc1 : l1.length ≤ c1) (h : towncrierlaw21_AuditLog.f k l0 l1 a2 = some r) :
    Calls Try.prog 9 #[.slice A0 l0.length c0, .slice A1 l1.length c1, .int .i64 a2] w fun e w' => e = .returned (.bool r) ∧ Below w.heap.size w w' := by
  have HR0 := Aside0.mk hr0
  have HC0 := Aside0.mk hc0
  clear hr0 hc0
  have HR1 := Aside0.mk hr1
  have HC1 := Aside0.mk hc1
  clear hr1 hc1
  have HB := Aside0.mk (Below.refl w.heap.size w)
  have H : ((towncrierlaw21_awake.f k).bind fun t311 => (if t311 = true then (if (l0.length : Int) > 40 then (towncrierlaw21_AuditLog.j0 k l0 l1 a2 t311 true) else (if (l1.length : Int) = (l0.length : Int) then (if a2 < 0 then (towncrierlaw21_AuditLog.j0 k l0 l1 a2 t311 true) else (towncrierlaw21_AuditLog.j0 k l0 l1 a2 t311 (decide (a2 > (l0.length : Int))))) else (towncrierlaw21_AuditLog.j0 k l0 l1 a2 t311 true))) else (towncrierlaw21_AuditLog.j0 k l0 l1 a2 t311 true))) = some r := h
  clear h
  replace H := Option.bind_eq_some_iff.mp H
  obtain ⟨t311, A40, H⟩ := H
  replace H : (if t311 = true then (if (l0.length : Int) > 40 then (towncrierlaw21_AuditLog.j0 k l0 l1 a2 t311 true) else (if (l1.length : Int) = (l0.length : Int) then (if a2 < 0 then (towncrierlaw21_AuditLog.j0 k l0 l1 a2 t311 true) else (towncrierlaw21_AuditLog.j0 k l0 l1 a2 t311 (decide (a2 > (l0.length : Int))))) else (towncrierlaw21_AuditLog.j0 k l0 l1 a2 t311 true))) else (towncrierlaw21_AuditLog.j0 k l0 l1 a2 t311 true)) = some r := H
  have A4 := Aside0.mk A40
  clear A40
  have HC5 := Aside0.mk H
  clear H
  go_enter Try.func9, Try.ntmps9
  go_upto_region 2 with (first | ((with_reducible refine gate_callee (f := 10) rfl ?_); refine goesL_ (some 12) rfl rfl Try.func10 (by kernel_rfl) rfl #[] rfl (by (try simp only [List.map_toArray, List.map_cons, List.map_nil]); first | done | rfl | (simp only [List.length_drop, List.length_take]; rfl)) ?_; (with_reducible refine (towncrierlaw21_awake.calls k  t311 _ A4.out).mono ?_); rintro e w6 ⟨rfl, hb⟩; refine ⟨_, rfl, ?_⟩; have n0_ := Aside0.mk (below_step (by repeat (first | (with_reducible first | exact HB.out | apply below_alloc | apply pw_below_drewN | apply below_drew1) | exact HB.out)) hb); clear HB; have HB := n0_; clear n0_; (try clear hb); (try clear hb2); (try clear hk); (try clear hi)))
  (try simp only [Act.put, List.setIfInBounds_toArray, List.set_cons_zero, List.set_cons_succ])
  go_cut [36] (fun v36 wc => ∃ (kq : Nat) (x36_4 : Bool), v36 = .bool x36_4 ∧ Aside0 (towncrierlaw21_AuditLog.j0 kq l0 l1 a2 t311 x36_4 = some r) ∧ Aside0 (kq ≤ k) ∧ Aside0 (Below w.heap.size w wc))
  case first =>
    have H := HC5.out
    clear HC5
    by_cases c7 : t311 = true
    · subst c7
      have H1 : (if (l0.length : Int) > 40 then (towncrierlaw21_AuditLog.j0 k l0 l1 a2 true true) else (if (l1.length : Int) = (l0.length : Int) then (if a2 < 0 then (towncrierlaw21_AuditLog.j0 k l0 l1 a2 true true) else (towncrierlaw21_AuditLog.j0 k l0 l1 a2 true (decide (a2 > (l0.length : Int))))) else (towncrierlaw21_AuditLog.j0 k l0 l1 a2 true true))) = some r := by rw [if_pos rfl] at H; exact H
      clear H
      have H := H1
      clear H1
      by_cases c8 : (l0.length : Int) > 40
      · rw [if_pos c8] at H
        have c8b0 : decide (40 < (l0.length : Int)) = true := decide_eq_true c8
        have c8b1 : decide (40 < l0.length) = true := decide_eq_true (by omega)
        clear c8
        (first | rw [c8b0] | (simp only [i64_w, i32_w]; rw [c8b0]) | skip)
        have H' := Aside0.mk H
        clear H
        go_wp2
        go_meet
        case rel => exact ⟨_, (true), (by first | rfl | (simp; done) | (simp [*]; done)), H', ⟨by first | omega | exact Nat.le_refl _⟩, ⟨by repeat (first | (with_reducible first | exact HB.out | apply below_alloc | apply pw_below_drewN | apply below_drew1) | exact HB.out)⟩⟩
      · rw [if_neg c8] at H
        have c8b0 : decide (40 < (l0.length : Int)) = false := decide_eq_false c8
        have c8b1 : decide (40 < l0.length) = false := decide_eq_false (by omega)
        clear c8
        (first | rw [c8b0] | (simp only [i64_w, i32_w]; rw [c8b0]) | skip)
        by_cases c9 : (l1.length : Int) = (l0.length : Int)
        · rw [if_pos c9] at H
          have c9b0 : ((l1.length : Int) == (l0.length : Int)) = true := beq_iff_eq.mpr c9
          have c9b1 : ((l1.length : Int) != (l0.length : Int)) = false := bne_eq_false_iff_eq.mpr c9
          have c9b2 : (l1.length == l0.length) = true := by first | simpa using c9 | (simp at c9 ⊢; omega)
          clear c9
          by_cases c10 : a2 < 0
          · rw [if_pos c10] at H
            have c10b0 : decide (a2 < 0) = true := decide_eq_true c10
            clear c10
            have H' := Aside0.mk H
            clear H
            go_wp2
            go_meet
            case rel => exact ⟨_, (true), (by first | rfl | (simp; done) | (simp [*]; done)), H', ⟨by first | omega | exact Nat.le_refl _⟩, ⟨by repeat (first | (with_reducible first | exact HB.out | apply below_alloc | apply pw_below_drewN | apply below_drew1) | exact HB.out)⟩⟩
          · rw [if_neg c10] at H
            have c10b0 : decide (a2 < 0) = false := decide_eq_false c10
            clear c10
            have H' := Aside0.mk H
            clear H
            go_wp2
            go_meet
            case rel => exact ⟨_, (decide (a2 > (l0.length : Int))), (by first | rfl | (simp; done) | (simp [*]; done)), H', ⟨by first | omega | exact Nat.le_refl _⟩, ⟨by repeat (first | (with_reducible first | exact HB.out | apply below_alloc | apply pw_below_drewN | apply below_drew1) | exact HB.out)⟩⟩
        · rw [if_neg c9] at H
          have c9b0 : ((l1.length : Int) == (l0.length : Int)) = false := beq_eq_false_iff_ne.mpr c9
          have c9b1 : ((l1.length : Int) != (l0.length : Int)) = true := bne_iff_ne.mpr c9
          have c9b2 : (l1.length == l0.length) = false := by first | simpa using c9 | (simp at c9 ⊢; omega)
          have H' := Aside0.mk H
          clear H
          go_wp2
          go_meet
          case rel => exact ⟨_, (true), (by first | rfl | (simp; done) | (simp [*]; done)), H', ⟨by first | omega | exact Nat.le_refl _⟩, ⟨by repeat (first | (with_reducible first | exact HB.out | apply below_alloc | apply pw_below_drewN | apply below_drew1) | exact HB.out)⟩⟩
    · replace c7 := Bool.eq_false_iff.mpr c7
      subst c7
      have H1 : (towncrierlaw21_AuditLog.j0 k l0 l1 a2 false true) = some r := by rw [if_neg (show ¬ (false = true) by decide)] at H; exact H
      clear H
      have H := H1
      clear H1
      have H' := Aside0.mk H
      clear H
      go_wp2
      go_meet
      case rel => exact ⟨_, (true), (by first | rfl | (simp; done) | (simp [*]; done)), H', ⟨by first | omega | exact Nat.le_refl _⟩, ⟨by repeat (first | (with_reducible first | exact HB.out | apply below_alloc | apply pw_below_drewN | apply below_drew1) | exact HB.out)⟩⟩
  case rest =>
    clear HC5
    try clear c1
    try clear p2
    try clear c7
    try clear c8
    try clear c8b0
    try clear c8b1
    try clear c9
    try clear c9b0
    try clear c9b1
    try clear c9b2
    try clear c10
    try clear c10b0
    obtain ⟨kq, x36_4, rfl, HA, HJ4, HB⟩ := hcut
    cases kq with
    | zero => exact absurd HA.out (by simp [towncrierlaw21_AuditLog.j0])
    | succ kj4 =>
      have H := HA.out
      clear HA
      simp only [towncrierlaw21_AuditLog.j0] at H
      by_cases c11 : x36_4 = true
      · subst c11
        have H1 : (some t311) = some r := by rw [if_pos rfl] at H; exact H
        clear H
        have H := H1
        clear H1
        obtain rfl := Option.some.inj H
        go_wp2
        go_ret
        exact ⟨by first | rfl | (simp [errW_none, errW_some] <;> rfl) | (simp [*, errW_none, errW_some] <;> rfl), by repeat (first | (with_reducible first | exact HB.out | apply below_alloc | apply pw_below_drewN | apply below_drew1) | exact HB.out)⟩
      · replace c11 := Bool.eq_false_iff.mpr c11
        subst c11
        have H1 : (towncrierlaw21_AuditLog.l0 kj4 l0 l1 a2 0 0) = some r := by rw [if_neg (show ¬ (false = true) by decide)] at H; exact H
        clear H
        have H := H1
        clear H1
        have H' := Aside0.mk H
        clear H
        go_wp2
        go_loopg [8, 9] kj4 (fun kq v8 v9 w' => ∃ (x8_2 : Int) (x9_2 : Int), v8 = .int .i64 x8_2 ∧ v9 = .int .i64 x9_2 ∧ Aside0 (towncrierlaw21_AuditLog.l0 kq l0 l1 a2 x8_2 x9_2 = some r) ∧ Aside0 (kq ≤ kj4) ∧ Aside0 (Below w.heap.size w w'))
        case atStart => exact ⟨(0), (0), (by first | rfl | (simp; done) | (simp [*]; done)), (by first | rfl | (simp; done) | (simp [*]; done)), H', ⟨Nat.le_refl _⟩, ⟨by repeat (first | (with_reducible first | exact HB.out | apply below_alloc | apply pw_below_drewN | apply below_drew1) | exact HB.out)⟩⟩
        case round =>
          clear H'
          try clear c1
          try clear p2
          try clear c7
          try clear c8
          try clear c8b0
          try clear c8b1
          try clear c9
          try clear c9b0
          try clear c9b1
          try clear c9b2
          try clear c10
          try clear c10b0
          try clear c11
          try clear p2
          obtain ⟨x8_2, x9_2, rfl, rfl, HA, HK2, HB⟩ := hrel
          cases gk with
          | zero => exact absurd HA.out (by simp [towncrierlaw21_AuditLog.l0])
          | succ k2 =>
            have H := HA.out
            clear HA
            simp only [towncrierlaw21_AuditLog.l0] at H
            by_cases c12 : x9_2 < (l0.length : Int)
            · rw [if_pos c12] at H
              have c12b0 : decide (x9_2 < (l0.length : Int)) = true := decide_eq_true c12
              clear c12
              by_cases c13 : 0 ≤ x9_2
              · rw [if_pos c13] at H
                have c13b0 : decide (0 ≤ x9_2) = true := decide_eq_true c13
                clear c13
                by_cases c14 : ((rd_TReq l0 x9_2).f0) = 3
                · rw [if_pos c14] at H
                  have c14b0 : (((rd_TReq l0 x9_2).f0) == 3) = true := beq_iff_eq.mpr c14
                  have c14b1 : (((rd_TReq l0 x9_2).f0) != 3) = false := bne_eq_false_iff_eq.mpr c14
                  clear c14
                  by_cases c15 : x9_2 < (l1.length : Int)
                  · rw [if_pos c15] at H
                    have c15b0 : decide (x9_2 < (l1.length : Int)) = true := decide_eq_true c15
                    clear c15
                    obtain ⟨bq16, hbq16⟩ : ∃ b_ : Bool, b_ = ((rd_TRes l1 x9_2).f0) := ⟨_, rfl⟩
                    replace H : (if (bq16 = true) then (towncrierlaw21_AuditLog.l0 k2 l0 l1 a2 x8_2 (wrap64 (x9_2 + 1))) else (if ((rd_TRes l1 x9_2).f1) = 0 then (towncrierlaw21_AuditLog.l0 k2 l0 l1 a2 (wrap64 (x8_2 + 1)) (wrap64 (x9_2 + 1))) else (towncrierlaw21_AuditLog.l0 k2 l0 l1 a2 x8_2 (wrap64 (x9_2 + 1))))) = some r := by rw [← hbq16] at H; exact H
                    have Nbq16 := Aside0.mk hbq16
                    clear hbq16
                    by_cases c17 : (bq16 = true)
                    · subst c17
                      have H1 : (towncrierlaw21_AuditLog.l0 k2 l0 l1 a2 x8_2 (wrap64 (x9_2 + 1))) = some r := by rw [if_pos rfl] at H; exact H
                      clear H
                      have H := H1
                      clear H1
                      have H' := Aside0.mk H
                      clear H
                      have p312 : 0 ≤ (x9_2 : Int) := of_decide_eq_true (by first | (with_reducible assumption) | assumption)
                      have q312 : x9_2 < (l0.length : Int) := of_decide_eq_true (by first | (with_reducible assumption) | assumption)
                      obtain ⟨ad312, A312_6, c312_6, A312_9, c312_9, A312_10, c312_10, e312, hx312_0, hx312_1, hx312_2, hx312_3, hx312_4, hx312_5, hx312_6, hx312_7, hx312_8, hx312_9, hx312_10, hx312_11, hx312_12, hx312_13, hx312_14, hl312_6, hi312_6, hl312_9, hi312_9, hl312_10, hi312_10⟩ := at_TReq HR0.out x9_2 p312 q312
                      cases e312
                      replace hx312_0 := (HB.out.cell (World.block_lt_of_cell? w _ hx312_0)).trans hx312_0
                      replace hx312_1 := (HB.out.cell (World.block_lt_of_cell? w _ hx312_1)).trans hx312_1
                      replace hx312_2 := (HB.out.cell (World.block_lt_of_cell? w _ hx312_2)).trans hx312_2
                      replace hx312_3 := (HB.out.cell (World.block_lt_of_cell? w _ hx312_3)).trans hx312_3
                      replace hx312_4 := (HB.out.cell (World.block_lt_of_cell? w _ hx312_4)).trans hx312_4
                      replace hx312_5 := (HB.out.cell (World.block_lt_of_cell? w _ hx312_5)).trans hx312_5
                      replace hx312_6 := (HB.out.cell (World.block_lt_of_cell? w _ hx312_6)).trans hx312_6
                      replace hx312_7 := (HB.out.cell (World.block_lt_of_cell? w _ hx312_7)).trans hx312_7
                      replace hx312_8 := (HB.out.cell (World.block_lt_of_cell? w _ hx312_8)).trans hx312_8
                      replace hx312_9 := (HB.out.cell (World.block_lt_of_cell? w _ hx312_9)).trans hx312_9
                      replace hx312_10 := (HB.out.cell (World.block_lt_of_cell? w _ hx312_10)).trans hx312_10
                      replace hx312_11 := (HB.out.cell (World.block_lt_of_cell? w _ hx312_11)).trans hx312_11
                      replace hx312_12 := (HB.out.cell (World.block_lt_of_cell? w _ hx312_12)).trans hx312_12
                      replace hx312_13 := (HB.out.cell (World.block_lt_of_cell? w _ hx312_13)).trans hx312_13
                      replace hx312_14 := (HB.out.cell (World.block_lt_of_cell? w _ hx312_14)).trans hx312_14
                      have HR312_6 := Aside0.mk hi312_6
                      have HC312_6 := Aside0.mk hl312_6
                      clear hi312_6 hl312_6
                      have HR312_9 := Aside0.mk hi312_9
                      have HC312_9 := Aside0.mk hl312_9
                      clear hi312_9 hl312_9
                      have HR312_10 := Aside0.mk hi312_10
                      have HC312_10 := Aside0.mk hl312_10
                      clear hi312_10 hl312_10
                      replace p312 := eq_true p312
                      replace q312 := eq_true q312
                      have p313 : 0 ≤ (x9_2 : Int) := of_decide_eq_true (by first | (with_reducible assumption) | assumption)
                      have q313 : x9_2 < (l1.length : Int) := of_decide_eq_true (by first | (with_reducible assumption) | assumption)
                      obtain ⟨ad313, e313, hx313_0, hx313_1, hx313_2, hx313_3, hx313_4, hx313_5, hx313_6, hx313_7, hx313_8, hx313_9, hx313_10⟩ := at_TRes HR1.out x9_2 p313 q313
                      (try rw [← Nbq16.out] at hx313_0)
                      (try rw [← Nbq16.out] at hx313_10)
                      cases e313
                      replace hx313_0 := (HB.out.cell (World.block_lt_of_cell? w _ hx313_0)).trans hx313_0
                      replace hx313_1 := (HB.out.cell (World.block_lt_of_cell? w _ hx313_1)).trans hx313_1
                      replace hx313_2 := (HB.out.cell (World.block_lt_of_cell? w _ hx313_2)).trans hx313_2
                      replace hx313_3 := (HB.out.cell (World.block_lt_of_cell? w _ hx313_3)).trans hx313_3
                      replace hx313_4 := (HB.out.cell (World.block_lt_of_cell? w _ hx313_4)).trans hx313_4
                      replace hx313_5 := (HB.out.cell (World.block_lt_of_cell? w _ hx313_5)).trans hx313_5
                      replace hx313_6 := (HB.out.cell (World.block_lt_of_cell? w _ hx313_6)).trans hx313_6
                      replace hx313_7 := (HB.out.cell (World.block_lt_of_cell? w _ hx313_7)).trans hx313_7
                      replace hx313_8 := (HB.out.cell (World.block_lt_of_cell? w _ hx313_8)).trans hx313_8
                      replace hx313_9 := (HB.out.cell (World.block_lt_of_cell? w _ hx313_9)).trans hx313_9
                      replace hx313_10 := (HB.out.cell (World.block_lt_of_cell? w _ hx313_10)).trans hx313_10
                      replace p313 := eq_true p313
                      replace q313 := eq_true q313
                      go_wp2
                      go_roundg k2
                      case measure => have := HJ4.out; have := HK2.out; omega
                      case rel => exact ⟨(x8_2), (wrap64 (x9_2 + 1)), (by first | rfl | (simp; done) | (simp [*]; done)), (by first | rfl | (simp; done) | (simp [*]; done)), H', ⟨by have := HJ4.out; have := HK2.out; omega⟩, ⟨by repeat (first | (with_reducible first | exact HB.out | apply below_alloc | apply pw_below_drewN | apply below_drew1) | exact HB.out)⟩⟩
                    · replace c17 := Bool.eq_false_iff.mpr c17
                      subst c17
                      have H1 : (if ((rd_TRes l1 x9_2).f1) = 0 then (towncrierlaw21_AuditLog.l0 k2 l0 l1 a2 (wrap64 (x8_2 + 1)) (wrap64 (x9_2 + 1))) else (towncrierlaw21_AuditLog.l0 k2 l0 l1 a2 x8_2 (wrap64 (x9_2 + 1)))) = some r := by rw [if_neg (show ¬ (false = true) by decide)] at H; exact H
                      clear H
                      have H := H1
                      clear H1
                      by_cases c18 : ((rd_TRes l1 x9_2).f1) = 0
                      · rw [if_pos c18] at H
                        have c18b0 : (((rd_TRes l1 x9_2).f1) == 0) = true := beq_iff_eq.mpr c18
                        have c18b1 : (((rd_TRes l1 x9_2).f1) != 0) = false := bne_eq_false_iff_eq.mpr c18
                        clear c18
                        have H' := Aside0.mk H
                        clear H
                        have p312 : 0 ≤ (x9_2 : Int) := of_decide_eq_true (by first | (with_reducible assumption) | assumption)
                        have q312 : x9_2 < (l0.length : Int) := of_decide_eq_true (by first | (with_reducible assumption) | assumption)
                        obtain ⟨ad312, A312_6, c312_6, A312_9, c312_9, A312_10, c312_10, e312, hx312_0, hx312_1, hx312_2, hx312_3, hx312_4, hx312_5, hx312_6, hx312_7, hx312_8, hx312_9, hx312_10, hx312_11, hx312_12, hx312_13, hx312_14, hl312_6, hi312_6, hl312_9, hi312_9, hl312_10, hi312_10⟩ := at_TReq HR0.out x9_2 p312 q312
                        cases e312
                        replace hx312_0 := (HB.out.cell (World.block_lt_of_cell? w _ hx312_0)).trans hx312_0
                        replace hx312_1 := (HB.out.cell (World.block_lt_of_cell? w _ hx312_1)).trans hx312_1
                        replace hx312_2 := (HB.out.cell (World.block_lt_of_cell? w _ hx312_2)).trans hx312_2
                        replace hx312_3 := (HB.out.cell (World.block_lt_of_cell? w _ hx312_3)).trans hx312_3
                        replace hx312_4 := (HB.out.cell (World.block_lt_of_cell? w _ hx312_4)).trans hx312_4
                        replace hx312_5 := (HB.out.cell (World.block_lt_of_cell? w _ hx312_5)).trans hx312_5
                        replace hx312_6 := (HB.out.cell (World.block_lt_of_cell? w _ hx312_6)).trans hx312_6
                        replace hx312_7 := (HB.out.cell (World.block_lt_of_cell? w _ hx312_7)).trans hx312_7
                        replace hx312_8 := (HB.out.cell (World.block_lt_of_cell? w _ hx312_8)).trans hx312_8
                        replace hx312_9 := (HB.out.cell (World.block_lt_of_cell? w _ hx312_9)).trans hx312_9
                        replace hx312_10 := (HB.out.cell (World.block_lt_of_cell? w _ hx312_10)).trans hx312_10
                        replace hx312_11 := (HB.out.cell (World.block_lt_of_cell? w _ hx312_11)).trans hx312_11
                        replace hx312_12 := (HB.out.cell (World.block_lt_of_cell? w _ hx312_12)).trans hx312_12
                        replace hx312_13 := (HB.out.cell (World.block_lt_of_cell? w _ hx312_13)).trans hx312_13
                        replace hx312_14 := (HB.out.cell (World.block_lt_of_cell? w _ hx312_14)).trans hx312_14
                        have HR312_6 := Aside0.mk hi312_6
                        have HC312_6 := Aside0.mk hl312_6
                        clear hi312_6 hl312_6
                        have HR312_9 := Aside0.mk hi312_9
                        have HC312_9 := Aside0.mk hl312_9
                        clear hi312_9 hl312_9
                        have HR312_10 := Aside0.mk hi312_10
                        have HC312_10 := Aside0.mk hl312_10
                        clear hi312_10 hl312_10
                        replace p312 := eq_true p312
                        replace q312 := eq_true q312
                        have p313 : 0 ≤ (x9_2 : Int) := of_decide_eq_true (by first | (with_reducible assumption) | assumption)
                        have q313 : x9_2 < (l1.length : Int) := of_decide_eq_true (by first | (with_reducible assumption) | assumption)
                        obtain ⟨ad313, e313, hx313_0, hx313_1, hx313_2, hx313_3, hx313_4, hx313_5, hx313_6, hx313_7, hx313_8, hx313_9, hx313_10⟩ := at_TRes HR1.out x9_2 p313 q313
                        (try rw [← Nbq16.out] at hx313_0)
                        (try rw [← Nbq16.out] at hx313_10)
                        cases e313
                        replace hx313_0 := (HB.out.cell (World.block_lt_of_cell? w _ hx313_0)).trans hx313_0
                        replace hx313_1 := (HB.out.cell (World.block_lt_of_cell? w _ hx313_1)).trans hx313_1
                        replace hx313_2 := (HB.out.cell (World.block_lt_of_cell? w _ hx313_2)).trans hx313_2
                        replace hx313_3 := (HB.out.cell (World.block_lt_of_cell? w _ hx313_3)).trans hx313_3
                        replace hx313_4 := (HB.out.cell (World.block_lt_of_cell? w _ hx313_4)).trans hx313_4
                        replace hx313_5 := (HB.out.cell (World.block_lt_of_cell? w _ hx313_5)).trans hx313_5
                        replace hx313_6 := (HB.out.cell (World.block_lt_of_cell? w _ hx313_6)).trans hx313_6
                        replace hx313_7 := (HB.out.cell (World.block_lt_of_cell? w _ hx313_7)).trans hx313_7
                        replace hx313_8 := (HB.out.cell (World.block_lt_of_cell? w _ hx313_8)).trans hx313_8
                        replace hx313_9 := (HB.out.cell (World.block_lt_of_cell? w _ hx313_9)).trans hx313_9
                        replace hx313_10 := (HB.out.cell (World.block_lt_of_cell? w _ hx313_10)).trans hx313_10
                        replace p313 := eq_true p313
                        replace q313 := eq_true q313
                        have p314 : 0 ≤ (x9_2 : Int) := of_decide_eq_true (by first | (with_reducible assumption) | assumption)
                        have q314 : x9_2 < (l1.length : Int) := of_decide_eq_true (by first | (with_reducible assumption) | assumption)
                        obtain ⟨ad314, e314, hx314_0, hx314_1, hx314_2, hx314_3, hx314_4, hx314_5, hx314_6, hx314_7, hx314_8, hx314_9, hx314_10⟩ := at_TRes HR1.out x9_2 p314 q314
                        (try rw [← Nbq16.out] at hx314_0)
                        (try rw [← Nbq16.out] at hx314_10)
                        obtain rfl : ad313 = ad314 := (by injection e314)
                        replace hx314_0 := (HB.out.cell (World.block_lt_of_cell? w _ hx314_0)).trans hx314_0
                        replace hx314_1 := (HB.out.cell (World.block_lt_of_cell? w _ hx314_1)).trans hx314_1
                        replace hx314_2 := (HB.out.cell (World.block_lt_of_cell? w _ hx314_2)).trans hx314_2
                        replace hx314_3 := (HB.out.cell (World.block_lt_of_cell? w _ hx314_3)).trans hx314_3
                        replace hx314_4 := (HB.out.cell (World.block_lt_of_cell? w _ hx314_4)).trans hx314_4
                        replace hx314_5 := (HB.out.cell (World.block_lt_of_cell? w _ hx314_5)).trans hx314_5
                        replace hx314_6 := (HB.out.cell (World.block_lt_of_cell? w _ hx314_6)).trans hx314_6
                        replace hx314_7 := (HB.out.cell (World.block_lt_of_cell? w _ hx314_7)).trans hx314_7
                        replace hx314_8 := (HB.out.cell (World.block_lt_of_cell? w _ hx314_8)).trans hx314_8
                        replace hx314_9 := (HB.out.cell (World.block_lt_of_cell? w _ hx314_9)).trans hx314_9
                        replace hx314_10 := (HB.out.cell (World.block_lt_of_cell? w _ hx314_10)).trans hx314_10
                        replace p314 := eq_true p314
                        replace q314 := eq_true q314
                        go_wp2
                        go_roundg k2
                        case measure => have := HJ4.out; have := HK2.out; omega
                        case rel => exact ⟨(wrap64 (x8_2 + 1)), (wrap64 (x9_2 + 1)), (by first | rfl | (simp; done) | (simp [*]; done)), (by first | rfl | (simp; done) | (simp [*]; done)), H', ⟨by have := HJ4.out; have := HK2.out; omega⟩, ⟨by repeat (first | (with_reducible first | exact HB.out | apply below_alloc | apply pw_below_drewN | apply below_drew1) | exact HB.out)⟩⟩
                      · rw [if_neg c18] at H
                        have c18b0 : (((rd_TRes l1 x9_2).f1) == 0) = false := beq_eq_false_iff_ne.mpr c18
                        have c18b1 : (((rd_TRes l1 x9_2).f1) != 0) = true := bne_iff_ne.mpr c18
                        have H' := Aside0.mk H
                        clear H
                        have p312 : 0 ≤ (x9_2 : Int) := of_decide_eq_true (by first | (with_reducible assumption) | assumption)
                        have q312 : x9_2 < (l0.length : Int) := of_decide_eq_true (by first | (with_reducible assumption) | assumption)
                        obtain ⟨ad312, A312_6, c312_6, A312_9, c312_9, A312_10, c312_10, e312, hx312_0, hx312_1, hx312_2, hx312_3, hx312_4, hx312_5, hx312_6, hx312_7, hx312_8, hx312_9, hx312_10, hx312_11, hx312_12, hx312_13, hx312_14, hl312_6, hi312_6, hl312_9, hi312_9, hl312_10, hi312_10⟩ := at_TReq HR0.out x9_2 p312 q312
                        cases e312
                        replace hx312_0 := (HB.out.cell (World.block_lt_of_cell? w _ hx312_0)).trans hx312_0
                        replace hx312_1 := (HB.out.cell (World.block_lt_of_cell? w _ hx312_1)).trans hx312_1
                        replace hx312_2 := (HB.out.cell (World.block_lt_of_cell? w _ hx312_2)).trans hx312_2
                        replace hx312_3 := (HB.out.cell (World.block_lt_of_cell? w _ hx312_3)).trans hx312_3
                        replace hx312_4 := (HB.out.cell (World.block_lt_of_cell? w _ hx312_4)).trans hx312_4
                        replace hx312_5 := (HB.out.cell (World.block_lt_of_cell? w _ hx312_5)).trans hx312_5
                        replace hx312_6 := (HB.out.cell (World.block_lt_of_cell? w _ hx312_6)).trans hx312_6
                        replace hx312_7 := (HB.out.cell (World.block_lt_of_cell? w _ hx312_7)).trans hx312_7
                        replace hx312_8 := (HB.out.cell (World.block_lt_of_cell? w _ hx312_8)).trans hx312_8
                        replace hx312_9 := (HB.out.cell (World.block_lt_of_cell? w _ hx312_9)).trans hx312_9
                        replace hx312_10 := (HB.out.cell (World.block_lt_of_cell? w _ hx312_10)).trans hx312_10
                        replace hx312_11 := (HB.out.cell (World.block_lt_of_cell? w _ hx312_11)).trans hx312_11
                        replace hx312_12 := (HB.out.cell (World.block_lt_of_cell? w _ hx312_12)).trans hx312_12
                        replace hx312_13 := (HB.out.cell (World.block_lt_of_cell? w _ hx312_13)).trans hx312_13
                        replace hx312_14 := (HB.out.cell (World.block_lt_of_cell? w _ hx312_14)).trans hx312_14
                        have HR312_6 := Aside0.mk hi312_6
                        have HC312_6 := Aside0.mk hl312_6
                        clear hi312_6 hl312_6
                        have HR312_9 := Aside0.mk hi312_9
                        have HC312_9 := Aside0.mk hl312_9
                        clear hi312_9 hl312_9
                        have HR312_10 := Aside0.mk hi312_10
                        have HC312_10 := Aside0.mk hl312_10
                        clear hi312_10 hl312_10
                        replace p312 := eq_true p312
                        replace q312 := eq_true q312
                        have p313 : 0 ≤ (x9_2 : Int) := of_decide_eq_true (by first | (with_reducible assumption) | assumption)
                        have q313 : x9_2 < (l1.length : Int) := of_decide_eq_true (by first | (with_reducible assumption) | assumption)
                        obtain ⟨ad313, e313, hx313_0, hx313_1, hx313_2, hx313_3, hx313_4, hx313_5, hx313_6, hx313_7, hx313_8, hx313_9, hx313_10⟩ := at_TRes HR1.out x9_2 p313 q313
                        (try rw [← Nbq16.out] at hx313_0)
                        (try rw [← Nbq16.out] at hx313_10)
                        cases e313
                        replace hx313_0 := (HB.out.cell (World.block_lt_of_cell? w _ hx313_0)).trans hx313_0
                        replace hx313_1 := (HB.out.cell (World.block_lt_of_cell? w _ hx313_1)).trans hx313_1
                        replace hx313_2 := (HB.out.cell (World.block_lt_of_cell? w _ hx313_2)).trans hx313_2
                        replace hx313_3 := (HB.out.cell (World.block_lt_of_cell? w _ hx313_3)).trans hx313_3
                        replace hx313_4 := (HB.out.cell (World.block_lt_of_cell? w _ hx313_4)).trans hx313_4
                        replace hx313_5 := (HB.out.cell (World.block_lt_of_cell? w _ hx313_5)).trans hx313_5
                        replace hx313_6 := (HB.out.cell (World.block_lt_of_cell? w _ hx313_6)).trans hx313_6
                        replace hx313_7 := (HB.out.cell (World.block_lt_of_cell? w _ hx313_7)).trans hx313_7
                        replace hx313_8 := (HB.out.cell (World.block_lt_of_cell? w _ hx313_8)).trans hx313_8
                        replace hx313_9 := (HB.out.cell (World.block_lt_of_cell? w _ hx313_9)).trans hx313_9
                        replace hx313_10 := (HB.out.cell (World.block_lt_of_cell? w _ hx313_10)).trans hx313_10
                        replace p313 := eq_true p313
                        replace q313 := eq_true q313
                        have p314 : 0 ≤ (x9_2 : Int) := of_decide_eq_true (by first | (with_reducible assumption) | assumption)
                        have q314 : x9_2 < (l1.length : Int) := of_decide_eq_true (by first | (with_reducible assumption) | assumption)
                        obtain ⟨ad314, e314, hx314_0, hx314_1, hx314_2, hx314_3, hx314_4, hx314_5, hx314_6, hx314_7, hx314_8, hx314_9, hx314_10⟩ := at_TRes HR1.out x9_2 p314 q314
                        (try rw [← Nbq16.out] at hx314_0)
                        (try rw [← Nbq16.out] at hx314_10)
                        obtain rfl : ad313 = ad314 := (by injection e314)
                        replace hx314_0 := (HB.out.cell (World.block_lt_of_cell? w _ hx314_0)).trans hx314_0
                        replace hx314_1 := (HB.out.cell (World.block_lt_of_cell? w _ hx314_1)).trans hx314_1
                        replace hx314_2 := (HB.out.cell (World.block_lt_of_cell? w _ hx314_2)).trans hx314_2
                        replace hx314_3 := (HB.out.cell (World.block_lt_of_cell? w _ hx314_3)).trans hx314_3
                        replace hx314_4 := (HB.out.cell (World.block_lt_of_cell? w _ hx314_4)).trans hx314_4
                        replace hx314_5 := (HB.out.cell (World.block_lt_of_cell? w _ hx314_5)).trans hx314_5
                        replace hx314_6 := (HB.out.cell (World.block_lt_of_cell? w _ hx314_6)).trans hx314_6
                        replace hx314_7 := (HB.out.cell (World.block_lt_of_cell? w _ hx314_7)).trans hx314_7
                        replace hx314_8 := (HB.out.cell (World.block_lt_of_cell? w _ hx314_8)).trans hx314_8
                        replace hx314_9 := (HB.out.cell (World.block_lt_of_cell? w _ hx314_9)).trans hx314_9
                        replace hx314_10 := (HB.out.cell (World.block_lt_of_cell? w _ hx314_10)).trans hx314_10
                        replace p314 := eq_true p314
                        replace q314 := eq_true q314
                        go_wp2
                        go_roundg k2
                        case measure => have := HJ4.out; have := HK2.out; omega
                        case rel => exact ⟨(x8_2), (wrap64 (x9_2 + 1)), (by first | rfl | (simp; done) | (simp [*]; done)), (by first | rfl | (simp; done) | (simp [*]; done)), H', ⟨by have := HJ4.out; have := HK2.out; omega⟩, ⟨by repeat (first | (with_reducible first | exact HB.out | apply below_alloc | apply pw_below_drewN | apply below_drew1) | exact HB.out)⟩⟩
                  · rw [if_neg c15] at H
                    exact absurd H (by simp)
                · rw [if_neg c14] at H
                  have c14b0 : (((rd_TReq l0 x9_2).f0) == 3) = false := beq_eq_false_iff_ne.mpr c14
                  have c14b1 : (((rd_TReq l0 x9_2).f0) != 3) = true := bne_iff_ne.mpr c14
                  have H' := Aside0.mk H
                  clear H
                  have p312 : 0 ≤ (x9_2 : Int) := of_decide_eq_true (by first | (with_reducible assumption) | assumption)
                  have q312 : x9_2 < (l0.length : Int) := of_decide_eq_true (by first | (with_reducible assumption) | assumption)
                  obtain ⟨ad312, A312_6, c312_6, A312_9, c312_9, A312_10, c312_10, e312, hx312_0, hx312_1, hx312_2, hx312_3, hx312_4, hx312_5, hx312_6, hx312_7, hx312_8, hx312_9, hx312_10, hx312_11, hx312_12, hx312_13, hx312_14, hl312_6, hi312_6, hl312_9, hi312_9, hl312_10, hi312_10⟩ := at_TReq HR0.out x9_2 p312 q312
                  cases e312
                  replace hx312_0 := (HB.out.cell (World.block_lt_of_cell? w _ hx312_0)).trans hx312_0
                  replace hx312_1 := (HB.out.cell (World.block_lt_of_cell? w _ hx312_1)).trans hx312_1
                  replace hx312_2 := (HB.out.cell (World.block_lt_of_cell? w _ hx312_2)).trans hx312_2
                  replace hx312_3 := (HB.out.cell (World.block_lt_of_cell? w _ hx312_3)).trans hx312_3
                  replace hx312_4 := (HB.out.cell (World.block_lt_of_cell? w _ hx312_4)).trans hx312_4
                  replace hx312_5 := (HB.out.cell (World.block_lt_of_cell? w _ hx312_5)).trans hx312_5
                  replace hx312_6 := (HB.out.cell (World.block_lt_of_cell? w _ hx312_6)).trans hx312_6
                  replace hx312_7 := (HB.out.cell (World.block_lt_of_cell? w _ hx312_7)).trans hx312_7
                  replace hx312_8 := (HB.out.cell (World.block_lt_of_cell? w _ hx312_8)).trans hx312_8
                  replace hx312_9 := (HB.out.cell (World.block_lt_of_cell? w _ hx312_9)).trans hx312_9
                  replace hx312_10 := (HB.out.cell (World.block_lt_of_cell? w _ hx312_10)).trans hx312_10
                  replace hx312_11 := (HB.out.cell (World.block_lt_of_cell? w _ hx312_11)).trans hx312_11
                  replace hx312_12 := (HB.out.cell (World.block_lt_of_cell? w _ hx312_12)).trans hx312_12
                  replace hx312_13 := (HB.out.cell (World.block_lt_of_cell? w _ hx312_13)).trans hx312_13
                  replace hx312_14 := (HB.out.cell (World.block_lt_of_cell? w _ hx312_14)).trans hx312_14
                  have HR312_6 := Aside0.mk hi312_6
                  have HC312_6 := Aside0.mk hl312_6
                  clear hi312_6 hl312_6
                  have HR312_9 := Aside0.mk hi312_9
                  have HC312_9 := Aside0.mk hl312_9
                  clear hi312_9 hl312_9
                  have HR312_10 := Aside0.mk hi312_10
                  have HC312_10 := Aside0.mk hl312_10
                  clear hi312_10 hl312_10
                  replace p312 := eq_true p312
                  replace q312 := eq_true q312
                  go_wp2
                  go_roundg k2
                  case measure => have := HJ4.out; have := HK2.out; omega
                  case rel => exact ⟨(x8_2), (wrap64 (x9_2 + 1)), (by first | rfl | (simp; done) | (simp [*]; done)), (by first | rfl | (simp; done) | (simp [*]; done)), H', ⟨by have := HJ4.out; have := HK2.out; omega⟩, ⟨by repeat (first | (with_reducible first | exact HB.out | apply below_alloc | apply pw_below_drewN | apply below_drew1) | exact HB.out)⟩⟩
              · rw [if_neg c13] at H
                exact absurd H (by simp)
            · rw [if_neg c12] at H
              have c12b0 : decide (x9_2 < (l0.length : Int)) = false := decide_eq_false c12
              clear c12
              by_cases c19 : 0 ≤ a2
              · rw [if_pos c19] at H
                have c19b0 := eq_true c19
                have c19b1 : decide (0 ≤ a2) = true := decide_eq_true c19
                clear c19
                by_cases c20 : a2 ≤ (l0.length : Int)
                · rw [if_pos c20] at H
                  have c20b0 := eq_true c20
                  have c20b1 : decide (a2 ≤ (l0.length : Int)) = true := decide_eq_true c20
                  clear c20
                  obtain ⟨y315, hy315⟩ : ∃ y_ : List (SReq), y_ = (l0.take (a2 : Int).toNat) := ⟨_, rfl⟩
                  replace H : (if a2 ≤ (l1.length : Int) then ((audit_Log.f k2 y315 (l1.take (a2 : Int).toNat)).bind fun t323 => ((audit_Log.f k2 (l0.drop (a2 : Int).toNat) (l1.drop (a2 : Int).toNat)).bind fun t334 => ((audit_Log.f k2 l0 l1).bind fun t337 => (if (t337.length : Int) = x8_2 then (some ((wrap64 ((t323.length : Int) + (t334.length : Int))) == x8_2)) else (some false))))) else (none)) = some r := by first | (rw [hy315]; with_reducible exact H) | (have H2_ := (Option.bind_some _ _).symm.trans H; rw [hy315]; with_reducible exact H2_) | (have H2_ := (Option.bind_some _ _).symm.trans H; with_reducible exact H2_) | with_reducible exact H | (rw [hy315]; exact H) | exact H
                  have Ny315 := Aside0.mk hy315
                  clear hy315
                  have c21b0 := eq_true (of_decide_eq_true (by first | (with_reducible assumption) | assumption) : 0 ≤ a2)
                  by_cases c22 : a2 ≤ (l1.length : Int)
                  · rw [if_pos c22] at H
                    have c22b0 := eq_true c22
                    have c22b1 : decide (a2 ≤ (l1.length : Int)) = true := decide_eq_true c22
                    clear c22
                    obtain ⟨y319, hy319⟩ : ∃ y_ : List (SRes), y_ = (l1.take (a2 : Int).toNat) := ⟨_, rfl⟩
                    replace H : ((audit_Log.f k2 y315 y319).bind fun t323 => ((audit_Log.f k2 (l0.drop (a2 : Int).toNat) (l1.drop (a2 : Int).toNat)).bind fun t334 => ((audit_Log.f k2 l0 l1).bind fun t337 => (if (t337.length : Int) = x8_2 then (some ((wrap64 ((t323.length : Int) + (t334.length : Int))) == x8_2)) else (some false))))) = some r := by first | (rw [hy319]; with_reducible exact H) | (have H2_ := (Option.bind_some _ _).symm.trans H; rw [hy319]; with_reducible exact H2_) | (have H2_ := (Option.bind_some _ _).symm.trans H; with_reducible exact H2_) | with_reducible exact H | (rw [hy319]; exact H) | exact H
                    have Ny319 := Aside0.mk hy319
                    clear hy319
                    replace H := Option.bind_eq_some_iff.mp H
                    obtain ⟨t323, A230, H⟩ := H
                    replace H : ((audit_Log.f k2 (l0.drop (a2 : Int).toNat) (l1.drop (a2 : Int).toNat)).bind fun t334 => ((audit_Log.f k2 l0 l1).bind fun t337 => (if (t337.length : Int) = x8_2 then (some ((wrap64 ((t323.length : Int) + (t334.length : Int))) == x8_2)) else (some false)))) = some r := H
                    have A23 := Aside0.mk A230
                    clear A230
                    have c24b0 := eq_true (of_decide_eq_true (by first | (with_reducible assumption) | assumption) : 0 ≤ a2)
                    have c25b0 := eq_true (of_decide_eq_true (by first | (with_reducible assumption) | assumption) : a2 ≤ (l0.length : Int))
                    obtain ⟨y326, hy326⟩ : ∃ y_ : List (SReq), y_ = (l0.drop (a2 : Int).toNat) := ⟨_, rfl⟩
                    replace H : ((audit_Log.f k2 y326 (l1.drop (a2 : Int).toNat)).bind fun t334 => ((audit_Log.f k2 l0 l1).bind fun t337 => (if (t337.length : Int) = x8_2 then (some ((wrap64 ((t323.length : Int) + (t334.length : Int))) == x8_2)) else (some false)))) = some r := by first | (rw [hy326]; with_reducible exact H) | (have H2_ := (Option.bind_some _ _).symm.trans H; rw [hy326]; with_reducible exact H2_) | (have H2_ := (Option.bind_some _ _).symm.trans H; with_reducible exact H2_) | with_reducible exact H | (rw [hy326]; exact H) | exact H
                    have Ny326 := Aside0.mk hy326
                    clear hy326
                    have c26b0 := eq_true (of_decide_eq_true (by first | (with_reducible assumption) | assumption) : 0 ≤ a2)
                    have c27b0 := eq_true (of_decide_eq_true (by first | (with_reducible assumption) | assumption) : a2 ≤ (l1.length : Int))
                    obtain ⟨y330, hy330⟩ : ∃ y_ : List (SRes), y_ = (l1.drop (a2 : Int).toNat) := ⟨_, rfl⟩
                    replace H : ((audit_Log.f k2 y326 y330).bind fun t334 => ((audit_Log.f k2 l0 l1).bind fun t337 => (if (t337.length : Int) = x8_2 then (some ((wrap64 ((t323.length : Int) + (t334.length : Int))) == x8_2)) else (some false)))) = some r := by first | (rw [hy330]; with_reducible exact H) | (have H2_ := (Option.bind_some _ _).symm.trans H; rw [hy330]; with_reducible exact H2_) | (have H2_ := (Option.bind_some _ _).symm.trans H; with_reducible exact H2_) | with_reducible exact H | (rw [hy330]; exact H) | exact H
                    have Ny330 := Aside0.mk hy330
                    clear hy330
                    replace H := Option.bind_eq_some_iff.mp H
                    obtain ⟨t334, A280, H⟩ := H
                    replace H : ((audit_Log.f k2 l0 l1).bind fun t337 => (if (t337.length : Int) = x8_2 then (some ((wrap64 ((t323.length : Int) + (t334.length : Int))) == x8_2)) else (some false))) = some r := H
                    have A28 := Aside0.mk A280
                    clear A280
                    replace H := Option.bind_eq_some_iff.mp H
                    obtain ⟨t337, A290, H⟩ := H
                    replace H : (if (t337.length : Int) = x8_2 then (some ((wrap64 ((t323.length : Int) + (t334.length : Int))) == x8_2)) else (some false)) = some r := H
                    have A29 := Aside0.mk A290
                    clear A290
                    by_cases c30 : (t337.length : Int) = x8_2
                    · rw [if_pos c30] at H
                      have c30b0 : ((t337.length : Int) == x8_2) = true := beq_iff_eq.mpr c30
                      have c30b1 : ((t337.length : Int) != x8_2) = false := bne_eq_false_iff_eq.mpr c30
                      clear c30
                      obtain rfl := Option.some.inj H
                      try go_wp2
                      have n0_ := Aside0.mk (below_drew1 HB.out)
                      clear HB
                      have HB := n0_
                      clear n0_
                      have q32 : (a2 : Int) ≤ ((l0.length : Int) : Int) := of_decide_eq_true (by first | (with_reducible assumption) | assumption)
                      obtain ⟨i032, hi032, _, hsz32, _⟩ := info_parts infoReq
                      have hroom32 : l0.length ≤ c0 := HC0.out
                      have hC32 : Kd.C kReq _ A0 l0.length l0 := HR0.out
                      have hcut32 := cut_to (P := Try.prog) 45 57 .i64 Try.underlying45 hi032 A0 l0.length c0 a2 (of_decide_eq_true (by first | (with_reducible assumption) | assumption)) q32 hroom32
                      have hr32 := Kd.C_take (m := (a2 : Int).toNat) hC32 (by omega)
                      have hy32 : y315.length = (a2 : Int).toNat := (by rw [Ny315.out, List.length_take]; omega)
                      rw [← Ny315.out] at hr32
                      rw [← hy32] at hcut32
                      have HR318 := Aside0.mk hr32
                      have HC318 := Aside0.mk (show y315.length ≤ c0 from by omega)
                      clear hr32 hC32 hroom32 hi032 hsz32
                      have KY32 := Aside0.mk hy32
                      clear hy32
                      replace q32 := eq_true q32
                      have q33 : (a2 : Int) ≤ ((l1.length : Int) : Int) := of_decide_eq_true (by first | (with_reducible assumption) | assumption)
                      obtain ⟨i033, hi033, _, hsz33, _⟩ := info_parts infoRes
                      have hroom33 : l1.length ≤ c1 := HC1.out
                      have hC33 : Kd.C kRes _ A1 l1.length l1 := HR1.out
                      have hcut33 := cut_to (P := Try.prog) 30 43 .i64 Try.underlying30 hi033 A1 l1.length c1 a2 (of_decide_eq_true (by first | (with_reducible assumption) | assumption)) q33 hroom33
                      have hr33 := Kd.C_take (m := (a2 : Int).toNat) hC33 (by omega)
                      have hy33 : y319.length = (a2 : Int).toNat := (by rw [Ny319.out, List.length_take]; omega)
                      rw [← Ny319.out] at hr33
                      rw [← hy33] at hcut33
                      have HR322 := Aside0.mk hr33
                      have HC322 := Aside0.mk (show y319.length ≤ c1 from by omega)
                      clear hr33 hC33 hroom33 hi033 hsz33
                      have KY33 := Aside0.mk hy33
                      clear hy33
                      replace q33 := eq_true q33
                      refine start_ (n := 8) (S := fun w' => True) (ds := []) #[false, false, false, false, false, false, false, false] (by kernel_rfl) rfl rfl trivial (fun hHeld => ?_); refine with_tabW towncrierlaw21_AuditLog.tab10 towncrierlaw21_AuditLog.bits10 (fun HT_ HW_ => ?_)
                      generalize wr.drew = w31 at HB HR318 HR322 hHeld ⊢
                      refine pure_ (i := 0) (N := some 68) (v := ?_) (a' := ?_) #[true, false, false, false, false, false, false, false] rfl rfl (any_of HT_.out (by kernel_rfl)) (fun _ _ _ h => h) (Or.inl ⟨by rfl, ?_⟩) ?_ ?_
                      rotate_left
                      · intro w'
                        go_simp
                        with_reducible rfl
                      rotate_left
                      · simp only [Act.put, List.setIfInBounds_toArray, List.set_cons_zero, List.set_cons_succ, i64_w, i32_w]
                        rfl
                      refine pure_ (i := 1) (N := some 69) (v := ?_) (a' := ?_) #[true, true, false, false, false, false, false, false] rfl rfl (any_of HT_.out (by kernel_rfl)) (fun _ _ _ h => h) (Or.inl ⟨by rfl, ?_⟩) ?_ ?_
                      rotate_left
                      · intro w'
                        go_simp
                        with_reducible rfl
                      rotate_left
                      · simp only [Act.put, List.setIfInBounds_toArray, List.set_cons_zero, List.set_cons_succ, i64_w, i32_w]
                        rfl
                      refine pure_ (i := 2) (N := some 70) (v := ?_) (a' := ?_) #[true, true, true, false, false, false, false, false] rfl rfl (any_of HT_.out (by kernel_rfl)) (fun _ _ _ h => h) (Or.inl ⟨by rfl, ?_⟩) ?_ ?_
                      rotate_left
                      · intro w'
                        go_simp
                        with_reducible rfl
                      rotate_left
                      · simp only [Act.put, List.setIfInBounds_toArray, List.set_cons_zero, List.set_cons_succ, i64_w, i32_w]
                        rfl
                      refine pure_ (i := 3) (N := some 71) (v := ?_) (a' := ?_) #[true, true, true, true, false, false, false, false] rfl rfl (any_of HT_.out (by kernel_rfl)) (fun _ _ _ h => h) (Or.inl ⟨by rfl, ?_⟩) ?_ ?_
                      rotate_left
                      · intro w'
                        go_simp
                        with_reducible rfl
                      rotate_left
                      · simp only [Act.put, List.setIfInBounds_toArray, List.set_cons_zero, List.set_cons_succ, i64_w, i32_w]
                        rfl
                      refine pure_ (i := 4) (N := some 72) (v := ?_) (a' := ?_) #[true, true, true, true, true, false, false, false] rfl rfl (any_of HT_.out (by kernel_rfl)) (fun _ _ _ h => h) (Or.inl ⟨by rfl, ?_⟩) ?_ ?_
                      rotate_left
                      · intro w'
                        go_simp
                        with_reducible rfl
                      rotate_left
                      · simp only [Act.put, List.setIfInBounds_toArray, List.set_cons_zero, List.set_cons_succ, i64_w, i32_w]
                        rfl
                      refine pure_ (i := 5) (N := some 73) (v := ?_) (a' := ?_) #[true, true, true, true, true, true, false, false] rfl rfl (any_of HT_.out (by kernel_rfl)) (fun _ _ _ h => h) (Or.inl ⟨by rfl, ?_⟩) ?_ ?_
                      rotate_left
                      · intro w'
                        go_simp
                        with_reducible rfl
                      rotate_left
                      · simp only [Act.put, List.setIfInBounds_toArray, List.set_cons_zero, List.set_cons_succ, i64_w, i32_w]
                        rfl
                      refine one_ (i := 6) (N := some 74) #[true, true, true, true, true, true, true, false] rfl rfl (one_of HT_.out (by kernel_rfl)) (by decide) (fun K hK => ?_)
                      refine goes_ Try.func22 (by kernel_rfl) rfl #[.slice A0 y315.length c0, .slice A1 y319.length c1] (by rfl) rfl rfl (by (try simp only [List.map_toArray, List.map_cons, List.map_nil]); first | done | rfl | (simp only [List.length_drop, List.length_take]; rfl)) ?_
                      with_reducible refine (audit_Log.calls k2 _ _ y315 _ _ y319 t323 _ ?side1 ?side2 ?side3 ?side4 A23.out).mono ?_
                      (case side1 => repeat (first | exact (Kd.C_below HR318.out HB.out) | (with_reducible refine Kd.C_alloc ?_ _) | (with_reducible refine Kd.C_drewN ?_ _) | (with_reducible refine Kd.C_drew ?_)))
                      (case side2 => exact HC318.out)
                      (case side3 => repeat (first | exact (Kd.C_below HR322.out HB.out) | (with_reducible refine Kd.C_alloc ?_ _) | (with_reducible refine Kd.C_drewN ?_ _) | (with_reducible refine Kd.C_drew ?_)))
                      (case side4 => exact HC322.out)
                      rintro e w34 ⟨v324, rfl, ho0, hb⟩
                      refine ⟨_, rfl, ?_⟩
                      have n0_ := Aside0.mk (Kd.S_lower ho0 (below_size (by repeat (first | (with_reducible first | exact HB.out | apply below_alloc | apply pw_below_drewN | apply below_drew1) | exact HB.out))))
                      have n1_ := Aside0.mk (below_step (by repeat (first | (with_reducible first | exact HB.out | apply below_alloc | apply pw_below_drewN | apply below_drew1) | exact HB.out)) hb)
                      clear HB
                      have HO325 := n0_
                      have HB := n1_
                      clear n0_ n1_
                      (try clear hb)
                      (try clear hb2)
                      (try clear hk)
                      (try clear hi)
                      (try clear ho0)
                      refine hK.out _ _ trivial (fun hHeld => ?_)
                      clear hK K
                      refine norm_ (a' := ?_) ?_ ?_
                      rotate_left
                      · show Act.put _ (some 74) _ = _
                        simp only [Act.put, List.setIfInBounds_toArray, List.set_cons_zero, List.set_cons_succ, i64_w, i32_w]
                        rfl
                      refine pure_ (i := 7) (N := some 10) (v := ?_) (a' := ?_) #[true, true, true, true, true, true, true, true] rfl rfl (any_of HT_.out (by kernel_rfl)) (fun _ _ _ h => h) (Or.inl ⟨by rfl, ?_⟩) ?_ ?_
                      rotate_left
                      · intro w'
                        go_simp
                        with_reducible rfl
                      rotate_left
                      · simp only [Act.put, List.setIfInBounds_toArray, List.set_cons_zero, List.set_cons_succ, i64_w, i32_w]
                        rfl
                      refine done_ (done_of HT_.out (by kernel_rfl)) ?_
                      try go_wp2
                      have n0_ := Aside0.mk (Kd.S_drew HO325.out)
                      have n1_ := Aside0.mk (below_drew1 HB.out)
                      clear HO325
                      clear HB
                      have HO325 := n0_
                      have HB := n1_
                      clear n0_ n1_
                      have q36 : (a2 : Int) ≤ ((l0.length : Int) : Int) := of_decide_eq_true (by first | (with_reducible assumption) | assumption)
                      obtain ⟨i036, hi036, _, hsz36, _⟩ := info_parts infoReq
                      have hroom36 : l0.length ≤ c0 := HC0.out
                      have hC36 : Kd.C kReq _ A0 l0.length l0 := HR0.out
                      have q036 : (0 : Int) ≤ (a2 : Int) := of_decide_eq_true (by first | (with_reducible assumption) | assumption)
                      have hcut36 := cut_from (P := Try.prog) 45 57 .i64 Try.underlying45 hi036 15 hsz36 A0 l0.length c0 a2 q036 q36
                      have hr36 := Kd.C_drop (m := (a2 : Int).toNat) (c := c0) hC36 (by omega) hroom36
                      obtain ⟨A36, hA36⟩ : ∃ A1z_, A1z_ = (if c0 = (a2 : Int).toNat then A0 else (A0 : Option Addr).map (·.add ((a2 : Int).toNat * 15))) := ⟨_, rfl⟩
                      obtain ⟨c36, hc36⟩ : ∃ c1z_, c1z_ = c0 - (a2 : Int).toNat := ⟨_, rfl⟩
                      have hy36 : y326.length = l0.length - (a2 : Int).toNat := (by rw [Ny326.out, List.length_drop] <;> omega)
                      rw [show (l0).drop (a2 : Int).toNat = y326 from Ny326.out.symm] at hr36
                      replace hr36 : Kd.C kReq _ A36 y326.length y326 := (by rw [hA36]; exact hr36)
                      rw [← hy36, ← hA36, ← hc36] at hcut36
                      have HR329 := Aside0.mk hr36
                      have HC329 := Aside0.mk (show y326.length ≤ c36 from by rw [hy36, hc36]; exact Nat.sub_le_sub_right hroom36 _)
                      clear hr36 hC36 hroom36 hi036 hsz36 hc36
                      have KY36 := Aside0.mk hy36
                      have KA36 := Aside0.mk hA36
                      clear hy36 hA36
                      replace q36 := eq_true q36
                      have q37 : (a2 : Int) ≤ ((l1.length : Int) : Int) := of_decide_eq_true (by first | (with_reducible assumption) | assumption)
                      obtain ⟨i037, hi037, _, hsz37, _⟩ := info_parts infoRes
                      have hroom37 : l1.length ≤ c1 := HC1.out
                      have hC37 : Kd.C kRes _ A1 l1.length l1 := HR1.out
                      have q037 : (0 : Int) ≤ (a2 : Int) := of_decide_eq_true (by first | (with_reducible assumption) | assumption)
                      have hcut37 := cut_from (P := Try.prog) 30 43 .i64 Try.underlying30 hi037 11 hsz37 A1 l1.length c1 a2 q037 q37
                      have hr37 := Kd.C_drop (m := (a2 : Int).toNat) (c := c1) hC37 (by omega) hroom37
                      obtain ⟨A37, hA37⟩ : ∃ A1z_, A1z_ = (if c1 = (a2 : Int).toNat then A1 else (A1 : Option Addr).map (·.add ((a2 : Int).toNat * 11))) := ⟨_, rfl⟩
                      obtain ⟨c37, hc37⟩ : ∃ c1z_, c1z_ = c1 - (a2 : Int).toNat := ⟨_, rfl⟩
                      have hy37 : y330.length = l1.length - (a2 : Int).toNat := (by rw [Ny330.out, List.length_drop] <;> omega)
                      rw [show (l1).drop (a2 : Int).toNat = y330 from Ny330.out.symm] at hr37
                      replace hr37 : Kd.C kRes _ A37 y330.length y330 := (by rw [hA37]; exact hr37)
                      rw [← hy37, ← hA37, ← hc37] at hcut37
                      have HR333 := Aside0.mk hr37
                      have HC333 := Aside0.mk (show y330.length ≤ c37 from by rw [hy37, hc37]; exact Nat.sub_le_sub_right hroom37 _)
                      clear hr37 hC37 hroom37 hi037 hsz37 hc37
                      have KY37 := Aside0.mk hy37
                      have KA37 := Aside0.mk hA37
                      clear hy37 hA37
                      replace q37 := eq_true q37
                      refine start_ (n := 8) (S := fun w' => True) (ds := []) #[false, false, false, false, false, false, false, false] (by kernel_rfl) rfl rfl trivial (fun hHeld => ?_); refine with_tabW towncrierlaw21_AuditLog.tab11 towncrierlaw21_AuditLog.bits11 (fun HT_ HW_ => ?_)
                      generalize w34.drew = w35 at HO325 HB HR329 HR333 hHeld ⊢
                      refine pure_ (i := 0) (N := some 75) (v := ?_) (a' := ?_) #[true, false, false, false, false, false, false, false] rfl rfl (any_of HT_.out (by kernel_rfl)) (fun _ _ _ h => h) (Or.inl ⟨by rfl, ?_⟩) ?_ ?_
                      rotate_left
                      · intro w'
                        go_simp
                        with_reducible rfl
                      rotate_left
                      · simp only [Act.put, List.setIfInBounds_toArray, List.set_cons_zero, List.set_cons_succ, i64_w, i32_w]
                        rfl
                      refine pure_ (i := 1) (N := some 76) (v := ?_) (a' := ?_) #[true, true, false, false, false, false, false, false] rfl rfl (any_of HT_.out (by kernel_rfl)) (fun _ _ _ h => h) (Or.inl ⟨by rfl, ?_⟩) ?_ ?_
                      rotate_left
                      · intro w'
                        go_simp
                        with_reducible rfl
                      rotate_left
                      · simp only [Act.put, List.setIfInBounds_toArray, List.set_cons_zero, List.set_cons_succ, i64_w, i32_w]
                        rfl
                      refine pure_ (i := 2) (N := some 77) (v := ?_) (a' := ?_) #[true, true, true, false, false, false, false, false] rfl rfl (any_of HT_.out (by kernel_rfl)) (fun _ _ _ h => h) (Or.inl ⟨by rfl, ?_⟩) ?_ ?_
                      rotate_left
                      · intro w'
                        go_simp
                        with_reducible rfl
                      rotate_left
                      · simp only [Act.put, List.setIfInBounds_toArray, List.set_cons_zero, List.set_cons_succ, i64_w, i32_w]
                        rfl
                      refine pure_ (i := 3) (N := some 78) (v := ?_) (a' := ?_) #[true, true, true, true, false, false, false, false] rfl rfl (any_of HT_.out (by kernel_rfl)) (fun _ _ _ h => h) (Or.inl ⟨by rfl, ?_⟩) ?_ ?_
                      rotate_left
                      · intro w'
                        go_simp
                        with_reducible rfl
                      rotate_left
                      · simp only [Act.put, List.setIfInBounds_toArray, List.set_cons_zero, List.set_cons_succ, i64_w, i32_w]
                        rfl
                      refine pure_ (i := 4) (N := some 79) (v := ?_) (a' := ?_) #[true, true, true, true, true, false, false, false] rfl rfl (any_of HT_.out (by kernel_rfl)) (fun _ _ _ h => h) (Or.inl ⟨by rfl, ?_⟩) ?_ ?_
                      rotate_left
                      · intro w'
                        go_simp
                        with_reducible rfl
                      rotate_left
                      · simp only [Act.put, List.setIfInBounds_toArray, List.set_cons_zero, List.set_cons_succ, i64_w, i32_w]
                        rfl
                      refine pure_ (i := 5) (N := some 80) (v := ?_) (a' := ?_) #[true, true, true, true, true, true, false, false] rfl rfl (any_of HT_.out (by kernel_rfl)) (fun _ _ _ h => h) (Or.inl ⟨by rfl, ?_⟩) ?_ ?_
                      rotate_left
                      · intro w'
                        go_simp
                        with_reducible rfl
                      rotate_left
                      · simp only [Act.put, List.setIfInBounds_toArray, List.set_cons_zero, List.set_cons_succ, i64_w, i32_w]
                        rfl
                      refine one_ (i := 6) (N := some 81) #[true, true, true, true, true, true, true, false] rfl rfl (one_of HT_.out (by kernel_rfl)) (by decide) (fun K hK => ?_)
                      refine goes_ Try.func22 (by kernel_rfl) rfl #[.slice A36 y326.length c36, .slice A37 y330.length c37] (by rfl) rfl rfl (by (try simp only [List.map_toArray, List.map_cons, List.map_nil]); first | done | rfl | (simp only [List.length_drop, List.length_take]; rfl)) ?_
                      with_reducible refine (audit_Log.calls k2 _ _ y326 _ _ y330 t334 _ ?side1 ?side2 ?side3 ?side4 A28.out).mono ?_
                      (case side1 => repeat (first | exact (Kd.C_below HR329.out HB.out) | (with_reducible refine Kd.C_alloc ?_ _) | (with_reducible refine Kd.C_drewN ?_ _) | (with_reducible refine Kd.C_drew ?_)))
                      (case side2 => exact HC329.out)
                      (case side3 => repeat (first | exact (Kd.C_below HR333.out HB.out) | (with_reducible refine Kd.C_alloc ?_ _) | (with_reducible refine Kd.C_drewN ?_ _) | (with_reducible refine Kd.C_drew ?_)))
                      (case side4 => exact HC333.out)
                      rintro e w38 ⟨v335, rfl, ho0, hb⟩
                      refine ⟨_, rfl, ?_⟩
                      have n0_ := Aside0.mk (Kd.S_elder' (by (with_reducible repeat (first | apply Kd.S_alloc | apply Kd.S_drewN | apply Kd.S_drew)); exact HO325.out) (Kd.S_base ho0) hb)
                      have n1_ := Aside0.mk (Kd.S_lower (Kd.S_new' ho0 (Kd.S_lt (by (with_reducible repeat (first | apply Kd.S_alloc | apply Kd.S_drewN | apply Kd.S_drew)); exact HO325.out))) (below_size (by repeat (first | (with_reducible first | exact HB.out | apply below_alloc | apply pw_below_drewN | apply below_drew1) | exact HB.out))))
                      have n2_ := Aside0.mk (below_step (by repeat (first | (with_reducible first | exact HB.out | apply below_alloc | apply pw_below_drewN | apply below_drew1) | exact HB.out)) hb)
                      clear HO325
                      clear HB
                      have HO325 := n0_
                      have HO336 := n1_
                      have HB := n2_
                      clear n0_ n1_ n2_
                      (try clear hb)
                      (try clear hb2)
                      (try clear hk)
                      (try clear hi)
                      (try clear ho0)
                      refine hK.out _ _ trivial (fun hHeld => ?_)
                      clear hK K
                      refine norm_ (a' := ?_) ?_ ?_
                      rotate_left
                      · show Act.put _ (some 81) _ = _
                        simp only [Act.put, List.setIfInBounds_toArray, List.set_cons_zero, List.set_cons_succ, i64_w, i32_w]
                        rfl
                      refine pure_ (i := 7) (N := some 11) (v := ?_) (a' := ?_) #[true, true, true, true, true, true, true, true] rfl rfl (any_of HT_.out (by kernel_rfl)) (fun _ _ _ h => h) (Or.inl ⟨by rfl, ?_⟩) ?_ ?_
                      rotate_left
                      · intro w'
                        go_simp
                        with_reducible rfl
                      rotate_left
                      · simp only [Act.put, List.setIfInBounds_toArray, List.set_cons_zero, List.set_cons_succ, i64_w, i32_w]
                        rfl
                      refine done_ (done_of HT_.out (by kernel_rfl)) ?_
                      try go_wp2_with (first | ((with_reducible refine gate_callee (f := 22) rfl ?_); refine goesL_ (some 84) rfl rfl Try.func22 (by kernel_rfl) rfl #[.slice A0 l0.length c0, .slice A1 l1.length c1] rfl (by (try simp only [List.map_toArray, List.map_cons, List.map_nil]); first | done | rfl | (simp only [List.length_drop, List.length_take]; rfl)) ?_; (with_reducible refine (audit_Log.calls k2 _ _ l0 _ _ l1 t337 _ ?side1 ?side2 ?side3 ?side4 A29.out).mono ?_); (case side1 => repeat (first | exact (Kd.C_below HR0.out HB.out) | (with_reducible refine Kd.C_alloc ?_ _) | (with_reducible refine Kd.C_drewN ?_ _) | (with_reducible refine Kd.C_drew ?_))); (case side2 => exact HC0.out); (case side3 => repeat (first | exact (Kd.C_below HR1.out HB.out) | (with_reducible refine Kd.C_alloc ?_ _) | (with_reducible refine Kd.C_drewN ?_ _) | (with_reducible refine Kd.C_drew ?_))); (case side4 => exact HC1.out); rintro e w39 ⟨v338, rfl, ho0, hb⟩; refine ⟨_, rfl, ?_⟩; have n0_ := Aside0.mk (Kd.S_elder' (by (with_reducible repeat (first | apply Kd.S_alloc | apply Kd.S_drewN | apply Kd.S_drew)); exact HO325.out) (Kd.S_base ho0) hb); have n1_ := Aside0.mk (Kd.S_elder' (by (with_reducible repeat (first | apply Kd.S_alloc | apply Kd.S_drewN | apply Kd.S_drew)); exact HO336.out) (Kd.S_base ho0) hb); have n2_ := Aside0.mk (Kd.S_lower (Kd.S_new' (Kd.S_new' ho0 (Kd.S_lt (by (with_reducible repeat (first | apply Kd.S_alloc | apply Kd.S_drewN | apply Kd.S_drew)); exact HO325.out))) (Kd.S_lt (by (with_reducible repeat (first | apply Kd.S_alloc | apply Kd.S_drewN | apply Kd.S_drew)); exact HO336.out))) (below_size (by repeat (first | (with_reducible first | exact HB.out | apply below_alloc | apply pw_below_drewN | apply below_drew1) | exact HB.out)))); have n3_ := Aside0.mk (below_step (by repeat (first | (with_reducible first | exact HB.out | apply below_alloc | apply pw_below_drewN | apply below_drew1) | exact HB.out)) hb); clear HO325; clear HO336; clear HB; have HO325 := n0_; have HO336 := n1_; have HO339 := n2_; have HB := n3_; clear n0_ n1_ n2_ n3_; (try clear hb); (try clear hb2); (try clear hk); (try clear hi); (try clear ho0); obtain ⟨Ao40, co40, eo40⟩ := Kd.S_slice HO339.out; subst eo40; obtain ⟨Ao41, co41, eo41⟩ := Kd.S_slice HO325.out; subst eo41; obtain ⟨Ao42, co42, eo42⟩ := Kd.S_slice HO336.out; subst eo42))
                      go_ret
                      exact ⟨by first | rfl | (simp [errW_none, errW_some] <;> rfl) | (simp [*, errW_none, errW_some] <;> rfl), by repeat (first | (with_reducible first | exact HB.out | apply below_alloc | apply pw_below_drewN | apply below_drew1) | exact HB.out)⟩
                    · rw [if_neg c30] at H
                      have c30b0 : ((t337.length : Int) == x8_2) = false := beq_eq_false_iff_ne.mpr c30
                      have c30b1 : ((t337.length : Int) != x8_2) = true := bne_iff_ne.mpr c30
                      obtain rfl := Option.some.inj H
                      try go_wp2
                      have n0_ := Aside0.mk (below_drew1 HB.out)
                      clear HB
                      have HB := n0_
                      clear n0_
                      have q44 : (a2 : Int) ≤ ((l0.length : Int) : Int) := of_decide_eq_true (by first | (with_reducible assumption) | assumption)
                      obtain ⟨i044, hi044, _, hsz44, _⟩ := info_parts infoReq
                      have hroom44 : l0.length ≤ c0 := HC0.out
                      have hC44 : Kd.C kReq _ A0 l0.length l0 := HR0.out
                      have hcut44 := cut_to (P := Try.prog) 45 57 .i64 Try.underlying45 hi044 A0 l0.length c0 a2 (of_decide_eq_true (by first | (with_reducible assumption) | assumption)) q44 hroom44
                      have hr44 := Kd.C_take (m := (a2 : Int).toNat) hC44 (by omega)
                      have hy44 : y315.length = (a2 : Int).toNat := (by rw [Ny315.out, List.length_take]; omega)
                      rw [← Ny315.out] at hr44
                      rw [← hy44] at hcut44
                      have HR318 := Aside0.mk hr44
                      have HC318 := Aside0.mk (show y315.length ≤ c0 from by omega)
                      clear hr44 hC44 hroom44 hi044 hsz44
                      have KY44 := Aside0.mk hy44
                      clear hy44
                      replace q44 := eq_true q44
                      have q45 : (a2 : Int) ≤ ((l1.length : Int) : Int) := of_decide_eq_true (by first | (with_reducible assumption) | assumption)
                      obtain ⟨i045, hi045, _, hsz45, _⟩ := info_parts infoRes
                      have hroom45 : l1.length ≤ c1 := HC1.out
                      have hC45 : Kd.C kRes _ A1 l1.length l1 := HR1.out
                      have hcut45 := cut_to (P := Try.prog) 30 43 .i64 Try.underlying30 hi045 A1 l1.length c1 a2 (of_decide_eq_true (by first | (with_reducible assumption) | assumption)) q45 hroom45
                      have hr45 := Kd.C_take (m := (a2 : Int).toNat) hC45 (by omega)
                      have hy45 : y319.length = (a2 : Int).toNat := (by rw [Ny319.out, List.length_take]; omega)
                      rw [← Ny319.out] at hr45
                      rw [← hy45] at hcut45
                      have HR322 := Aside0.mk hr45
                      have HC322 := Aside0.mk (show y319.length ≤ c1 from by omega)
                      clear hr45 hC45 hroom45 hi045 hsz45
                      have KY45 := Aside0.mk hy45
                      clear hy45
                      replace q45 := eq_true q45
                      refine start_ (n := 8) (S := fun w' => True) (ds := []) #[false, false, false, false, false, false, false, false] (by kernel_rfl) rfl rfl trivial (fun hHeld => ?_); refine with_tabW towncrierlaw21_AuditLog.tab10 towncrierlaw21_AuditLog.bits10 (fun HT_ HW_ => ?_)
                      generalize wr.drew = w43 at HB HR318 HR322 hHeld ⊢
                      refine pure_ (i := 0) (N := some 68) (v := ?_) (a' := ?_) #[true, false, false, false, false, false, false, false] rfl rfl (any_of HT_.out (by kernel_rfl)) (fun _ _ _ h => h) (Or.inl ⟨by rfl, ?_⟩) ?_ ?_
                      rotate_left
                      · intro w'
                        go_simp
                        with_reducible rfl
                      rotate_left
                      · simp only [Act.put, List.setIfInBounds_toArray, List.set_cons_zero, List.set_cons_succ, i64_w, i32_w]
                        rfl
                      refine pure_ (i := 1) (N := some 69) (v := ?_) (a' := ?_) #[true, true, false, false, false, false, false, false] rfl rfl (any_of HT_.out (by kernel_rfl)) (fun _ _ _ h => h) (Or.inl ⟨by rfl, ?_⟩) ?_ ?_
                      rotate_left
                      · intro w'
                        go_simp
                        with_reducible rfl
                      rotate_left
                      · simp only [Act.put, List.setIfInBounds_toArray, List.set_cons_zero, List.set_cons_succ, i64_w, i32_w]
                        rfl
                      refine pure_ (i := 2) (N := some 70) (v := ?_) (a' := ?_) #[true, true, true, false, false, false, false, false] rfl rfl (any_of HT_.out (by kernel_rfl)) (fun _ _ _ h => h) (Or.inl ⟨by rfl, ?_⟩) ?_ ?_
                      rotate_left
                      · intro w'
                        go_simp
                        with_reducible rfl
                      rotate_left
                      · simp only [Act.put, List.setIfInBounds_toArray, List.set_cons_zero, List.set_cons_succ, i64_w, i32_w]
                        rfl
                      refine pure_ (i := 3) (N := some 71) (v := ?_) (a' := ?_) #[true, true, true, true, false, false, false, false] rfl rfl (any_of HT_.out (by kernel_rfl)) (fun _ _ _ h => h) (Or.inl ⟨by rfl, ?_⟩) ?_ ?_
                      rotate_left
                      · intro w'
                        go_simp
                        with_reducible rfl
                      rotate_left
                      · simp only [Act.put, List.setIfInBounds_toArray, List.set_cons_zero, List.set_cons_succ, i64_w, i32_w]
                        rfl
                      refine pure_ (i := 4) (N := some 72) (v := ?_) (a' := ?_) #[true, true, true, true, true, false, false, false] rfl rfl (any_of HT_.out (by kernel_rfl)) (fun _ _ _ h => h) (Or.inl ⟨by rfl, ?_⟩) ?_ ?_
                      rotate_left
                      · intro w'
                        go_simp
                        with_reducible rfl
                      rotate_left
                      · simp only [Act.put, List.setIfInBounds_toArray, List.set_cons_zero, List.set_cons_succ, i64_w, i32_w]
                        rfl
                      refine pure_ (i := 5) (N := some 73) (v := ?_) (a' := ?_) #[true, true, true, true, true, true, false, false] rfl rfl (any_of HT_.out (by kernel_rfl)) (fun _ _ _ h => h) (Or.inl ⟨by rfl, ?_⟩) ?_ ?_
                      rotate_left
                      · intro w'
                        go_simp
                        with_reducible rfl
                      rotate_left
                      · simp only [Act.put, List.setIfInBounds_toArray, List.set_cons_zero, List.set_cons_succ, i64_w, i32_w]
                        rfl
                      refine one_ (i := 6) (N := some 74) #[true, true, true, true, true, true, true, false] rfl rfl (one_of HT_.out (by kernel_rfl)) (by decide) (fun K hK => ?_)
                      refine goes_ Try.func22 (by kernel_rfl) rfl #[.slice A0 y315.length c0, .slice A1 y319.length c1] (by rfl) rfl rfl (by (try simp only [List.map_toArray, List.map_cons, List.map_nil]); first | done | rfl | (simp only [List.length_drop, List.length_take]; rfl)) ?_
                      with_reducible refine (audit_Log.calls k2 _ _ y315 _ _ y319 t323 _ ?side1 ?side2 ?side3 ?side4 A23.out).mono ?_
                      (case side1 => repeat (first | exact (Kd.C_below HR318.out HB.out) | (with_reducible refine Kd.C_alloc ?_ _) | (with_reducible refine Kd.C_drewN ?_ _) | (with_reducible refine Kd.C_drew ?_)))
                      (case side2 => exact HC318.out)
                      (case side3 => repeat (first | exact (Kd.C_below HR322.out HB.out) | (with_reducible refine Kd.C_alloc ?_ _) | (with_reducible refine Kd.C_drewN ?_ _) | (with_reducible refine Kd.C_drew ?_)))
                      (case side4 => exact HC322.out)
                      rintro e w46 ⟨v324, rfl, ho0, hb⟩
                      refine ⟨_, rfl, ?_⟩
                      have n0_ := Aside0.mk (Kd.S_lower ho0 (below_size (by repeat (first | (with_reducible first | exact HB.out | apply below_alloc | apply pw_below_drewN | apply below_drew1) | exact HB.out))))
                      have n1_ := Aside0.mk (below_step (by repeat (first | (with_reducible first | exact HB.out | apply below_alloc | apply pw_below_drewN | apply below_drew1) | exact HB.out)) hb)
                      clear HB
                      have HO325 := n0_
                      have HB := n1_
                      clear n0_ n1_
                      (try clear hb)
                      (try clear hb2)
                      (try clear hk)
                      (try clear hi)
                      (try clear ho0)
                      refine hK.out _ _ trivial (fun hHeld => ?_)
                      clear hK K
                      refine norm_ (a' := ?_) ?_ ?_
                      rotate_left
                      · show Act.put _ (some 74) _ = _
                        simp only [Act.put, List.setIfInBounds_toArray, List.set_cons_zero, List.set_cons_succ, i64_w, i32_w]
                        rfl
                      refine pure_ (i := 7) (N := some 10) (v := ?_) (a' := ?_) #[true, true, true, true, true, true, true, true] rfl rfl (any_of HT_.out (by kernel_rfl)) (fun _ _ _ h => h) (Or.inl ⟨by rfl, ?_⟩) ?_ ?_
                      rotate_left
                      · intro w'
                        go_simp
                        with_reducible rfl
                      rotate_left
                      · simp only [Act.put, List.setIfInBounds_toArray, List.set_cons_zero, List.set_cons_succ, i64_w, i32_w]
                        rfl
                      refine done_ (done_of HT_.out (by kernel_rfl)) ?_
                      try go_wp2
                      have n0_ := Aside0.mk (Kd.S_drew HO325.out)
                      have n1_ := Aside0.mk (below_drew1 HB.out)
                      clear HO325
                      clear HB
                      have HO325 := n0_
                      have HB := n1_
                      clear n0_ n1_
                      have q48 : (a2 : Int) ≤ ((l0.length : Int) : Int) := of_decide_eq_true (by first | (with_reducible assumption) | assumption)
                      obtain ⟨i048, hi048, _, hsz48, _⟩ := info_parts infoReq
                      have hroom48 : l0.length ≤ c0 := HC0.out
                      have hC48 : Kd.C kReq _ A0 l0.length l0 := HR0.out
                      have q048 : (0 : Int) ≤ (a2 : Int) := of_decide_eq_true (by first | (with_reducible assumption) | assumption)
                      have hcut48 := cut_from (P := Try.prog) 45 57 .i64 Try.underlying45 hi048 15 hsz48 A0 l0.length c0 a2 q048 q48
                      have hr48 := Kd.C_drop (m := (a2 : Int).toNat) (c := c0) hC48 (by omega) hroom48
                      obtain ⟨A48, hA48⟩ : ∃ A1z_, A1z_ = (if c0 = (a2 : Int).toNat then A0 else (A0 : Option Addr).map (·.add ((a2 : Int).toNat * 15))) := ⟨_, rfl⟩
                      obtain ⟨c48, hc48⟩ : ∃ c1z_, c1z_ = c0 - (a2 : Int).toNat := ⟨_, rfl⟩
                      have hy48 : y326.length = l0.length - (a2 : Int).toNat := (by rw [Ny326.out, List.length_drop] <;> omega)
                      rw [show (l0).drop (a2 : Int).toNat = y326 from Ny326.out.symm] at hr48
                      replace hr48 : Kd.C kReq _ A48 y326.length y326 := (by rw [hA48]; exact hr48)
                      rw [← hy48, ← hA48, ← hc48] at hcut48
                      have HR329 := Aside0.mk hr48
                      have HC329 := Aside0.mk (show y326.length ≤ c48 from by rw [hy48, hc48]; exact Nat.sub_le_sub_right hroom48 _)
                      clear hr48 hC48 hroom48 hi048 hsz48 hc48
                      have KY48 := Aside0.mk hy48
                      have KA48 := Aside0.mk hA48
                      clear hy48 hA48
                      replace q48 := eq_true q48
                      have q49 : (a2 : Int) ≤ ((l1.length : Int) : Int) := of_decide_eq_true (by first | (with_reducible assumption) | assumption)
                      obtain ⟨i049, hi049, _, hsz49, _⟩ := info_parts infoRes
                      have hroom49 : l1.length ≤ c1 := HC1.out
                      have hC49 : Kd.C kRes _ A1 l1.length l1 := HR1.out
                      have q049 : (0 : Int) ≤ (a2 : Int) := of_decide_eq_true (by first | (with_reducible assumption) | assumption)
                      have hcut49 := cut_from (P := Try.prog) 30 43 .i64 Try.underlying30 hi049 11 hsz49 A1 l1.length c1 a2 q049 q49
                      have hr49 := Kd.C_drop (m := (a2 : Int).toNat) (c := c1) hC49 (by omega) hroom49
                      obtain ⟨A49, hA49⟩ : ∃ A1z_, A1z_ = (if c1 = (a2 : Int).toNat then A1 else (A1 : Option Addr).map (·.add ((a2 : Int).toNat * 11))) := ⟨_, rfl⟩
                      obtain ⟨c49, hc49⟩ : ∃ c1z_, c1z_ = c1 - (a2 : Int).toNat := ⟨_, rfl⟩
                      have hy49 : y330.length = l1.length - (a2 : Int).toNat := (by rw [Ny330.out, List.length_drop] <;> omega)
                      rw [show (l1).drop (a2 : Int).toNat = y330 from Ny330.out.symm] at hr49
                      replace hr49 : Kd.C kRes _ A49 y330.length y330 := (by rw [hA49]; exact hr49)
                      rw [← hy49, ← hA49, ← hc49] at hcut49
                      have HR333 := Aside0.mk hr49
                      have HC333 := Aside0.mk (show y330.length ≤ c49 from by rw [hy49, hc49]; exact Nat.sub_le_sub_right hroom49 _)
                      clear hr49 hC49 hroom49 hi049 hsz49 hc49
                      have KY49 := Aside0.mk hy49
                      have KA49 := Aside0.mk hA49
                      clear hy49 hA49
                      replace q49 := eq_true q49
                      refine start_ (n := 8) (S := fun w' => True) (ds := []) #[false, false, false, false, false, false, false, false] (by kernel_rfl) rfl rfl trivial (fun hHeld => ?_); refine with_tabW towncrierlaw21_AuditLog.tab11 towncrierlaw21_AuditLog.bits11 (fun HT_ HW_ => ?_)
                      generalize w46.drew = w47 at HO325 HB HR329 HR333 hHeld ⊢
                      refine pure_ (i := 0) (N := some 75) (v := ?_) (a' := ?_) #[true, false, false, false, false, false, false, false] rfl rfl (any_of HT_.out (by kernel_rfl)) (fun _ _ _ h => h) (Or.inl ⟨by rfl, ?_⟩) ?_ ?_
                      rotate_left
                      · intro w'
                        go_simp
                        with_reducible rfl
                      rotate_left
                      · simp only [Act.put, List.setIfInBounds_toArray, List.set_cons_zero, List.set_cons_succ, i64_w, i32_w]
                        rfl
                      refine pure_ (i := 1) (N := some 76) (v := ?_) (a' := ?_) #[true, true, false, false, false, false, false, false] rfl rfl (any_of HT_.out (by kernel_rfl)) (fun _ _ _ h => h) (Or.inl ⟨by rfl, ?_⟩) ?_ ?_
                      rotate_left
                      · intro w'
                        go_simp
                        with_reducible rfl
                      rotate_left
                      · simp only [Act.put, List.setIfInBounds_toArray, List.set_cons_zero, List.set_cons_succ, i64_w, i32_w]
                        rfl
                      refine pure_ (i := 2) (N := some 77) (v := ?_) (a' := ?_) #[true, true, true, false, false, false, false, false] rfl rfl (any_of HT_.out (by kernel_rfl)) (fun _ _ _ h => h) (Or.inl ⟨by rfl, ?_⟩) ?_ ?_
                      rotate_left
                      · intro w'
                        go_simp
                        with_reducible rfl
                      rotate_left
                      · simp only [Act.put, List.setIfInBounds_toArray, List.set_cons_zero, List.set_cons_succ, i64_w, i32_w]
                        rfl
                      refine pure_ (i := 3) (N := some 78) (v := ?_) (a' := ?_) #[true, true, true, true, false, false, false, false] rfl rfl (any_of HT_.out (by kernel_rfl)) (fun _ _ _ h => h) (Or.inl ⟨by rfl, ?_⟩) ?_ ?_
                      rotate_left
                      · intro w'
                        go_simp
                        with_reducible rfl
                      rotate_left
                      · simp only [Act.put, List.setIfInBounds_toArray, List.set_cons_zero, List.set_cons_succ, i64_w, i32_w]
                        rfl
                      refine pure_ (i := 4) (N := some 79) (v := ?_) (a' := ?_) #[true, true, true, true, true, false, false, false] rfl rfl (any_of HT_.out (by kernel_rfl)) (fun _ _ _ h => h) (Or.inl ⟨by rfl, ?_⟩) ?_ ?_
                      rotate_left
                      · intro w'
                        go_simp
                        with_reducible rfl
                      rotate_left
                      · simp only [Act.put, List.setIfInBounds_toArray, List.set_cons_zero, List.set_cons_succ, i64_w, i32_w]
                        rfl
                      refine pure_ (i := 5) (N := some 80) (v := ?_) (a' := ?_) #[true, true, true, true, true, true, false, false] rfl rfl (any_of HT_.out (by kernel_rfl)) (fun _ _ _ h => h) (Or.inl ⟨by rfl, ?_⟩) ?_ ?_
                      rotate_left
                      · intro w'
                        go_simp
                        with_reducible rfl
                      rotate_left
                      · simp only [Act.put, List.setIfInBounds_toArray, List.set_cons_zero, List.set_cons_succ, i64_w, i32_w]
                        rfl
                      refine one_ (i := 6) (N := some 81) #[true, true, true, true, true, true, true, false] rfl rfl (one_of HT_.out (by kernel_rfl)) (by decide) (fun K hK => ?_)
                      refine goes_ Try.func22 (by kernel_rfl) rfl #[.slice A48 y326.length c48, .slice A49 y330.length c49] (by rfl) rfl rfl (by (try simp only [List.map_toArray, List.map_cons, List.map_nil]); first | done | rfl | (simp only [List.length_drop, List.length_take]; rfl)) ?_
                      with_reducible refine (audit_Log.calls k2 _ _ y326 _ _ y330 t334 _ ?side1 ?side2 ?side3 ?side4 A28.out).mono ?_
                      (case side1 => repeat (first | exact (Kd.C_below HR329.out HB.out) | (with_reducible refine Kd.C_alloc ?_ _) | (with_reducible refine Kd.C_drewN ?_ _) | (with_reducible refine Kd.C_drew ?_)))
                      (case side2 => exact HC329.out)
                      (case side3 => repeat (first | exact (Kd.C_below HR333.out HB.out) | (with_reducible refine Kd.C_alloc ?_ _) | (with_reducible refine Kd.C_drewN ?_ _) | (with_reducible refine Kd.C_drew ?_)))
                      (case side4 => exact HC333.out)
                      rintro e w50 ⟨v335, rfl, ho0, hb⟩
                      refine ⟨_, rfl, ?_⟩
                      have n0_ := Aside0.mk (Kd.S_elder' (by (with_reducible repeat (first | apply Kd.S_alloc | apply Kd.S_drewN | apply Kd.S_drew)); exact HO325.out) (Kd.S_base ho0) hb)
                      have n1_ := Aside0.mk (Kd.S_lower (Kd.S_new' ho0 (Kd.S_lt (by (with_reducible repeat (first | apply Kd.S_alloc | apply Kd.S_drewN | apply Kd.S_drew)); exact HO325.out))) (below_size (by repeat (first | (with_reducible first | exact HB.out | apply below_alloc | apply pw_below_drewN | apply below_drew1) | exact HB.out))))
                      have n2_ := Aside0.mk (below_step (by repeat (first | (with_reducible first | exact HB.out | apply below_alloc | apply pw_below_drewN | apply below_drew1) | exact HB.out)) hb)
                      clear HO325
                      clear HB
                      have HO325 := n0_
                      have HO336 := n1_
                      have HB := n2_
                      clear n0_ n1_ n2_
                      (try clear hb)
                      (try clear hb2)
                      (try clear hk)
                      (try clear hi)
                      (try clear ho0)
                      refine hK.out _ _ trivial (fun hHeld => ?_)
                      clear hK K
                      refine norm_ (a' := ?_) ?_ ?_
                      rotate_left
                      · show Act.put _ (some 81) _ = _
                        simp only [Act.put, List.setIfInBounds_toArray, List.set_cons_zero, List.set_cons_succ, i64_w, i32_w]
                        rfl
                      refine pure_ (i := 7) (N := some 11) (v := ?_) (a' := ?_) #[true, true, true, true, true, true, true, true] rfl rfl (any_of HT_.out (by kernel_rfl)) (fun _ _ _ h => h) (Or.inl ⟨by rfl, ?_⟩) ?_ ?_
                      rotate_left
                      · intro w'
                        go_simp
                        with_reducible rfl
                      rotate_left
                      · simp only [Act.put, List.setIfInBounds_toArray, List.set_cons_zero, List.set_cons_succ, i64_w, i32_w]
                        rfl
                      refine done_ (done_of HT_.out (by kernel_rfl)) ?_
                      try go_wp2_with (first | ((with_reducible refine gate_callee (f := 22) rfl ?_); refine goesL_ (some 84) rfl rfl Try.func22 (by kernel_rfl) rfl #[.slice A0 l0.length c0, .slice A1 l1.length c1] rfl (by (try simp only [List.map_toArray, List.map_cons, List.map_nil]); first | done | rfl | (simp only [List.length_drop, List.length_take]; rfl)) ?_; (with_reducible refine (audit_Log.calls k2 _ _ l0 _ _ l1 t337 _ ?side1 ?side2 ?side3 ?side4 A29.out).mono ?_); (case side1 => repeat (first | exact (Kd.C_below HR0.out HB.out) | (with_reducible refine Kd.C_alloc ?_ _) | (with_reducible refine Kd.C_drewN ?_ _) | (with_reducible refine Kd.C_drew ?_))); (case side2 => exact HC0.out); (case side3 => repeat (first | exact (Kd.C_below HR1.out HB.out) | (with_reducible refine Kd.C_alloc ?_ _) | (with_reducible refine Kd.C_drewN ?_ _) | (with_reducible refine Kd.C_drew ?_))); (case side4 => exact HC1.out); rintro e w51 ⟨v338, rfl, ho0, hb⟩; refine ⟨_, rfl, ?_⟩; have n0_ := Aside0.mk (Kd.S_elder' (by (with_reducible repeat (first | apply Kd.S_alloc | apply Kd.S_drewN | apply Kd.S_drew)); exact HO325.out) (Kd.S_base ho0) hb); have n1_ := Aside0.mk (Kd.S_elder' (by (with_reducible repeat (first | apply Kd.S_alloc | apply Kd.S_drewN | apply Kd.S_drew)); exact HO336.out) (Kd.S_base ho0) hb); have n2_ := Aside0.mk (Kd.S_lower (Kd.S_new' (Kd.S_new' ho0 (Kd.S_lt (by (with_reducible repeat (first | apply Kd.S_alloc | apply Kd.S_drewN | apply Kd.S_drew)); exact HO325.out))) (Kd.S_lt (by (with_reducible repeat (first | apply Kd.S_alloc | apply Kd.S_drewN | apply Kd.S_drew)); exact HO336.out))) (below_size (by repeat (first | (with_reducible first | exact HB.out | apply below_alloc | apply pw_below_drewN | apply below_drew1) | exact HB.out)))); have n3_ := Aside0.mk (below_step (by repeat (first | (with_reducible first | exact HB.out | apply below_alloc | apply pw_below_drewN | apply below_drew1) | exact HB.out)) hb); clear HO325; clear HO336; clear HB; have HO325 := n0_; have HO336 := n1_; have HO339 := n2_; have HB := n3_; clear n0_ n1_ n2_ n3_; (try clear hb); (try clear hb2); (try clear hk); (try clear hi); (try clear ho0); obtain ⟨Ao52, co52, eo52⟩ := Kd.S_slice HO339.out; subst eo52))
                      go_ret
                      exact ⟨by first | rfl | (simp [errW_none, errW_some] <;> rfl) | (simp [*, errW_none, errW_some] <;> rfl), by repeat (first | (with_reducible first | exact HB.out | apply below_alloc | apply pw_below_drewN | apply below_drew1) | exact HB.out)⟩
                  · rw [if_neg c22] at H
                    exact absurd H (by simp)
                · rw [if_neg c20] at H
                  exact absurd H (by simp)
              · rw [if_neg c19] at H
                exact absurd H (by simp)

end Go.Proofs.Yteiaoanfdkgmoaa.P
