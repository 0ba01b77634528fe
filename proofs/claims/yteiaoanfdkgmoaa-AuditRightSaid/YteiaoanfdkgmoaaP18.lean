/- The functions that the laws of this seat reach, as plain Lean functions, and for each the contract of its call: no condition but those that each theorem names. -/
import Derived.Test.YteiaoanfdkgmoaaP0
import Derived.Test.YteiaoanfdkgmoaaP11
import Derived.Test.YteiaoanfdkgmoaaP12
namespace Go.Proofs.Yteiaoanfdkgmoaa.P
open Go.RowKit Go.Proofs.YteiaoanfdkgmoaaW.PrintWords Go.Proofs.YteiaoanfdkgmoaaW.PrintLast Go.Proofs.YteiaoanfdkgmoaaW.PrintMore
attribute [local go_sem] max2_int min2_int max_two min_two max_three min_three max_four min_four   -- for this text's walks alone
set_option linter.unusedVariables false
set_option linter.unusedSimpArgs false

/-! ### towncrierlaw21_AuditRight: function 6 -/
def towncrierlaw21_AuditRight.j0 : Nat → List (SNote) → List (SMatch) → Int → Bool → Bool → Option (Bool)
  | 0, _, _, _, _, _ => none
  | k + 1, x0, x1, x2, x7, x31 => if x31 = true then (some x7) else (if 0 ≤ x2 then (if x2 < (x1.length : Int) then ((some (([(⟨0, wrap64 (x2 + 1), 0, (⟨(rd_TMatch x1 x2).f0, (rd_TMatch x1 x2).f1, (rd_TMatch x1 x2).f2, (rd_TMatch x1 x2).f3⟩ : SMatch)⟩ : SNote)] : List (SNote)) : List (SNote))).bind fun y200 => ((audit_Right.f ([] : List (SNote)) x1).bind fun t203 => (if t203 = true then ((audit_Right.f y200 x1).bind fun t204 => (if t204 = true then (if x2 ≤ (x1.length : Int) then ((some (x1.take (x2 : Int).toNat : List (SMatch))).bind fun y205 => ((audit_Right.f y200 y205).bind fun t209 => (if t209 = true then (some false) else ((audit_Right.f x0 y205).bind fun t214 => (if t214 = true then ((audit_Right.f x0 x1).bind fun t215 => (some t215)) else (some true)))))) else (none)) else (some false))) else (some false)))) else (none)) else (none))
def towncrierlaw21_AuditRight.f (k : Nat) (l0 : List (SNote)) (l1 : List (SMatch)) (a2 : Int) : Option (Bool) := (towncrierlaw21_awake.f k).bind fun t198 => (if t198 = true then (if (l0.length : Int) > 40 then (towncrierlaw21_AuditRight.j0 k l0 l1 a2 t198 true) else (if (l1.length : Int) > 40 then (towncrierlaw21_AuditRight.j0 k l0 l1 a2 t198 true) else (if a2 < 0 then (towncrierlaw21_AuditRight.j0 k l0 l1 a2 t198 true) else (towncrierlaw21_AuditRight.j0 k l0 l1 a2 t198 (decide (a2 ≥ (l1.length : Int))))))) else (towncrierlaw21_AuditRight.j0 k l0 l1 a2 t198 true))
theorem towncrierlaw21_AuditRight.mono_l : ∀ k, (∀ y0 y1 y2 y3 y4, LeO (towncrierlaw21_AuditRight.j0 k y0 y1 y2 y3 y4) (towncrierlaw21_AuditRight.j0 (k + 1) y0 y1 y2 y3 y4))
  | 0 => fun _ _ _ _ _ r h => by simp [towncrierlaw21_AuditRight.j0] at h
  | k + 1 => by
    have ih0 := towncrierlaw21_AuditRight.mono_l k
    · intro y0 y1 y2 y3 y4
      unfold towncrierlaw21_AuditRight.j0
      repeat' first
      | (with_reducible exact ih0 _ _ _ _ _)
      | (with_reducible exact towncrierlaw21_awake.mono _)
      | (with_reducible exact LeO.refl _)
      | (with_reducible exact LeO.none _)
      | (with_reducible refine LeO.ite ?_ ?_)
      | (with_reducible refine LeO.bind ?_ (fun _ => ?_))
      | exact ih0 _ _ _ _ _
      | exact towncrierlaw21_awake.mono _
      | exact LeO.none _
      | refine LeO.ite ?_ ?_
      | refine LeO.bind ?_ (fun _ => ?_)
theorem towncrierlaw21_AuditRight.mono : ∀ a0 a1 a2 k, LeO (towncrierlaw21_AuditRight.f k a0 a1 a2) (towncrierlaw21_AuditRight.f (k + 1) a0 a1 a2) := by
  intro a0 a1 a2 k
  have ih0 := towncrierlaw21_AuditRight.mono_l k
  unfold towncrierlaw21_AuditRight.f
  repeat' first
      | (with_reducible exact ih0 _ _ _ _ _)
      | (with_reducible exact towncrierlaw21_awake.mono _)
      | (with_reducible exact LeO.refl _)
      | (with_reducible exact LeO.none _)
      | (with_reducible refine LeO.ite ?_ ?_)
      | (with_reducible refine LeO.bind ?_ (fun _ => ?_))
      | exact ih0 _ _ _ _ _
      | exact towncrierlaw21_awake.mono _
      | exact LeO.none _
      | refine LeO.ite ?_ ?_
      | refine LeO.bind ?_ (fun _ => ?_)
set_option maxHeartbeats 8000000 in
set_option maxRecDepth 100000 in
theorem towncrierlaw21_AuditRight.calls (k : Nat) (A0 : Option Addr) (c0 : Nat) (l0 : List (SNote)) (A1 : Option Addr) (c1 : Nat) (l1 : List (SMatch)) (a2 : Int) (r : Bool) (w : World) (hr0 : Kd.C kNote w A0 l0.length l0) (hc0 : l0.length ≤ c0) (hr1 : Kd.C kMatch w A1 l1.length l1) (hc1 : l1.length ≤ c1) (h : towncrierlaw21_AuditRight.f k l0 l1 a2 = some r) :
    Calls Try.prog 6 #[.slice A0 l0.length c0, .slice A1 l1.length c1, .int .i64 a2] w fun e w' => e = .returned (.bool r) ∧ Below w.heap.size w w' := by
  have hu25 := Try.underlying25
  have hu27 := Try.underlying27
  have HR0 := Aside0.mk hr0
  have HC0 := Aside0.mk hc0
  clear hr0 hc0
  have HR1 := Aside0.mk hr1
  have HC1 := Aside0.mk hc1
  clear hr1 hc1
  have HB := Aside0.mk (Below.refl w.heap.size w)
  have H : ((towncrierlaw21_awake.f k).bind fun t198 => (if t198 = true then (if (l0.length : Int) > 40 then (towncrierlaw21_AuditRight.j0 k l0 l1 a2 t198 true) else (if (l1.length : Int) > 40 then (towncrierlaw21_AuditRight.j0 k l0 l1 a2 t198 true) else (if a2 < 0 then (towncrierlaw21_AuditRight.j0 k l0 l1 a2 t198 true) else (towncrierlaw21_AuditRight.j0 k l0 l1 a2 t198 (decide (a2 ≥ (l1.length : Int))))))) else (towncrierlaw21_AuditRight.j0 k l0 l1 a2 t198 true))) = some r := h
  clear h
  replace H := Option.bind_eq_some_iff.mp H
  obtain ⟨t198, A40, H⟩ := H
  replace H : (if t198 = true then (if (l0.length : Int) > 40 then (towncrierlaw21_AuditRight.j0 k l0 l1 a2 t198 true) else (if (l1.length : Int) > 40 then (towncrierlaw21_AuditRight.j0 k l0 l1 a2 t198 true) else (if a2 < 0 then (towncrierlaw21_AuditRight.j0 k l0 l1 a2 t198 true) else (towncrierlaw21_AuditRight.j0 k l0 l1 a2 t198 (decide (a2 ≥ (l1.length : Int))))))) else (towncrierlaw21_AuditRight.j0 k l0 l1 a2 t198 true)) = some r := H
  have A4 := Aside0.mk A40
  clear A40
  have HC5 := Aside0.mk H
  clear H
  go_enter Try.func6, Try.ntmps6
  go_upto_region 2 with (first | ((with_reducible refine gate_callee (f := 10) rfl ?_); refine goesL_ (some 9) rfl rfl Try.func10 (by kernel_rfl) rfl #[] rfl (by (try simp only [List.map_toArray, List.map_cons, List.map_nil]); first | done | rfl | (simp only [List.length_drop, List.length_take]; rfl)) ?_; (with_reducible refine (towncrierlaw21_awake.calls k  t198 _ A4.out).mono ?_); rintro e w6 ⟨rfl, hb⟩; refine ⟨_, rfl, ?_⟩; have n0_ := Aside0.mk (below_step (by repeat (first | (with_reducible first | exact HB.out | apply below_alloc | apply pw_below_drewN | apply below_drew1) | exact HB.out)) hb); clear HB; have HB := n0_; clear n0_; (try clear hb); (try clear hb2); (try clear hk); (try clear hi)))
  (try simp only [Act.put, List.setIfInBounds_toArray, List.set_cons_zero, List.set_cons_succ])
  go_cut [31] (fun v31 wc => ∃ (kq : Nat) (x31_4 : Bool), v31 = .bool x31_4 ∧ Aside0 (towncrierlaw21_AuditRight.j0 kq l0 l1 a2 t198 x31_4 = some r) ∧ Aside0 (kq ≤ k) ∧ Aside0 (Below w.heap.size w wc))
  case first =>
    have H := HC5.out
    clear HC5
    by_cases c7 : t198 = true
    · subst c7
      have H1 : (if (l0.length : Int) > 40 then (towncrierlaw21_AuditRight.j0 k l0 l1 a2 true true) else (if (l1.length : Int) > 40 then (towncrierlaw21_AuditRight.j0 k l0 l1 a2 true true) else (if a2 < 0 then (towncrierlaw21_AuditRight.j0 k l0 l1 a2 true true) else (towncrierlaw21_AuditRight.j0 k l0 l1 a2 true (decide (a2 ≥ (l1.length : Int))))))) = some r := by rw [if_pos rfl] at H; exact H
      clear H
      have H := H1
      clear H1
      by_cases c8 : (l0.length : Int) > 40
      · rw [if_pos c8] at H
        have c8b0 : decide (40 < (l0.length : Int)) = true := decide_eq_true c8
        have c8b1 : decide (40 < l0.length) = true := decide_eq_true (by omega)
        clear c8
        (first | rw [c8b0] | (simp only [i64_w, i32_w]; rw [c8b0]) | skip)
        have H' := Aside0.mk H
        clear H
        go_wp2
        go_meet
        case rel => exact ⟨_, (true), (by first | rfl | (simp; done) | (simp [*]; done)), H', ⟨by first | omega | exact Nat.le_refl _⟩, ⟨by repeat (first | (with_reducible first | exact HB.out | apply below_alloc | apply pw_below_drewN | apply below_drew1) | exact HB.out)⟩⟩
      · rw [if_neg c8] at H
        have c8b0 : decide (40 < (l0.length : Int)) = false := decide_eq_false c8
        have c8b1 : decide (40 < l0.length) = false := decide_eq_false (by omega)
        clear c8
        (first | rw [c8b0] | (simp only [i64_w, i32_w]; rw [c8b0]) | skip)
        by_cases c9 : (l1.length : Int) > 40
        · rw [if_pos c9] at H
          have c9b0 : decide (40 < (l1.length : Int)) = true := decide_eq_true c9
          have c9b1 : decide (40 < l1.length) = true := decide_eq_true (by omega)
          clear c9
          have H' := Aside0.mk H
          clear H
          go_wp2
          go_meet
          case rel => exact ⟨_, (true), (by first | rfl | (simp; done) | (simp [*]; done)), H', ⟨by first | omega | exact Nat.le_refl _⟩, ⟨by repeat (first | (with_reducible first | exact HB.out | apply below_alloc | apply pw_below_drewN | apply below_drew1) | exact HB.out)⟩⟩
        · rw [if_neg c9] at H
          have c9b0 : decide (40 < (l1.length : Int)) = false := decide_eq_false c9
          have c9b1 : decide (40 < l1.length) = false := decide_eq_false (by omega)
          clear c9
          by_cases c10 : a2 < 0
          · rw [if_pos c10] at H
            have c10b0 : decide (a2 < 0) = true := decide_eq_true c10
            clear c10
            have H' := Aside0.mk H
            clear H
            go_wp2
            go_meet
            case rel => exact ⟨_, (true), (by first | rfl | (simp; done) | (simp [*]; done)), H', ⟨by first | omega | exact Nat.le_refl _⟩, ⟨by repeat (first | (with_reducible first | exact HB.out | apply below_alloc | apply pw_below_drewN | apply below_drew1) | exact HB.out)⟩⟩
          · rw [if_neg c10] at H
            have c10b0 : decide (a2 < 0) = false := decide_eq_false c10
            clear c10
            have H' := Aside0.mk H
            clear H
            go_wp2
            go_meet
            case rel => exact ⟨_, (decide (a2 ≥ (l1.length : Int))), (by first | rfl | (simp; done) | (simp [*]; done)), H', ⟨by first | omega | exact Nat.le_refl _⟩, ⟨by repeat (first | (with_reducible first | exact HB.out | apply below_alloc | apply pw_below_drewN | apply below_drew1) | exact HB.out)⟩⟩
    · replace c7 := Bool.eq_false_iff.mpr c7
      subst c7
      have H1 : (towncrierlaw21_AuditRight.j0 k l0 l1 a2 false true) = some r := by rw [if_neg (show ¬ (false = true) by decide)] at H; exact H
      clear H
      have H := H1
      clear H1
      have H' := Aside0.mk H
      clear H
      go_wp2
      go_meet
      case rel => exact ⟨_, (true), (by first | rfl | (simp; done) | (simp [*]; done)), H', ⟨by first | omega | exact Nat.le_refl _⟩, ⟨by repeat (first | (with_reducible first | exact HB.out | apply below_alloc | apply pw_below_drewN | apply below_drew1) | exact HB.out)⟩⟩
  case rest =>
    clear HC5
    try clear c1
    try clear p2
    try clear c6
    try clear c7
    try clear c8
    try clear c8b0
    try clear c8b1
    try clear c9
    try clear c9b0
    try clear c9b1
    try clear c10
    try clear c10b0
    obtain ⟨kq, x31_4, rfl, HA, HJ4, HB⟩ := hcut
    cases kq with
    | zero => exact absurd HA.out (by simp [towncrierlaw21_AuditRight.j0])
    | succ kj4 =>
      have H := HA.out
      clear HA
      simp only [towncrierlaw21_AuditRight.j0] at H
      by_cases c11 : x31_4 = true
      · subst c11
        have H1 : (some t198) = some r := by rw [if_pos rfl] at H; exact H
        clear H
        have H := H1
        clear H1
        obtain rfl := Option.some.inj H
        go_wp2
        go_ret
        exact ⟨by first | rfl | (simp [errW_none, errW_some] <;> rfl) | (simp [*, errW_none, errW_some] <;> rfl), by repeat (first | (with_reducible first | exact HB.out | apply below_alloc | apply pw_below_drewN | apply below_drew1) | exact HB.out)⟩
      · replace c11 := Bool.eq_false_iff.mpr c11
        subst c11
        have H1 : (if 0 ≤ a2 then (if a2 < (l1.length : Int) then ((some (([(⟨0, wrap64 (a2 + 1), 0, (⟨(rd_TMatch l1 a2).f0, (rd_TMatch l1 a2).f1, (rd_TMatch l1 a2).f2, (rd_TMatch l1 a2).f3⟩ : SMatch)⟩ : SNote)] : List (SNote)) : List (SNote))).bind fun y200 => ((audit_Right.f ([] : List (SNote)) l1).bind fun t203 => (if t203 = true then ((audit_Right.f y200 l1).bind fun t204 => (if t204 = true then (if a2 ≤ (l1.length : Int) then ((some (l1.take (a2 : Int).toNat : List (SMatch))).bind fun y205 => ((audit_Right.f y200 y205).bind fun t209 => (if t209 = true then (some false) else ((audit_Right.f l0 y205).bind fun t214 => (if t214 = true then ((audit_Right.f l0 l1).bind fun t215 => (some t215)) else (some true)))))) else (none)) else (some false))) else (some false)))) else (none)) else (none)) = some r := by rw [if_neg (show ¬ (false = true) by decide)] at H; exact H
        clear H
        have H := H1
        clear H1
        by_cases c12 : 0 ≤ a2
        · rw [if_pos c12] at H
          have c12b0 : decide (0 ≤ a2) = true := decide_eq_true c12
          clear c12
          by_cases c13 : a2 < (l1.length : Int)
          · rw [if_pos c13] at H
            have c13b0 : decide (a2 < (l1.length : Int)) = true := decide_eq_true c13
            clear c13
            obtain ⟨y200, hy200⟩ : ∃ y_ : List (SNote), y_ = (([(⟨0, wrap64 (a2 + 1), 0, (⟨(rd_TMatch l1 a2).f0, (rd_TMatch l1 a2).f1, (rd_TMatch l1 a2).f2, (rd_TMatch l1 a2).f3⟩ : SMatch)⟩ : SNote)] : List (SNote))) := ⟨_, rfl⟩
            replace H : ((audit_Right.f ([] : List (SNote)) l1).bind fun t203 => (if t203 = true then ((audit_Right.f y200 l1).bind fun t204 => (if t204 = true then (if a2 ≤ (l1.length : Int) then ((some (l1.take (a2 : Int).toNat : List (SMatch))).bind fun y205 => ((audit_Right.f y200 y205).bind fun t209 => (if t209 = true then (some false) else ((audit_Right.f l0 y205).bind fun t214 => (if t214 = true then ((audit_Right.f l0 l1).bind fun t215 => (some t215)) else (some true)))))) else (none)) else (some false))) else (some false))) = some r := by first | (rw [hy200]; with_reducible exact H) | (have H2_ := (Option.bind_some _ _).symm.trans H; rw [hy200]; with_reducible exact H2_) | (have H2_ := (Option.bind_some _ _).symm.trans H; with_reducible exact H2_) | with_reducible exact H | (rw [hy200]; exact H) | exact H
            have Ny200 := Aside0.mk hy200
            clear hy200
            replace H := Option.bind_eq_some_iff.mp H
            obtain ⟨t203, A140, H⟩ := H
            replace H : (if t203 = true then ((audit_Right.f y200 l1).bind fun t204 => (if t204 = true then (if a2 ≤ (l1.length : Int) then ((some (l1.take (a2 : Int).toNat : List (SMatch))).bind fun y205 => ((audit_Right.f y200 y205).bind fun t209 => (if t209 = true then (some false) else ((audit_Right.f l0 y205).bind fun t214 => (if t214 = true then ((audit_Right.f l0 l1).bind fun t215 => (some t215)) else (some true)))))) else (none)) else (some false))) else (some false)) = some r := H
            have A14 := Aside0.mk A140
            clear A140
            by_cases c15 : t203 = true
            · subst c15
              have H1 : ((audit_Right.f y200 l1).bind fun t204 => (if t204 = true then (if a2 ≤ (l1.length : Int) then ((some (l1.take (a2 : Int).toNat : List (SMatch))).bind fun y205 => ((audit_Right.f y200 y205).bind fun t209 => (if t209 = true then (some false) else ((audit_Right.f l0 y205).bind fun t214 => (if t214 = true then ((audit_Right.f l0 l1).bind fun t215 => (some t215)) else (some true)))))) else (none)) else (some false))) = some r := by rw [if_pos rfl] at H; exact H
              clear H
              have H := H1
              clear H1
              replace H := Option.bind_eq_some_iff.mp H
              obtain ⟨t204, A160, H⟩ := H
              replace H : (if t204 = true then (if a2 ≤ (l1.length : Int) then ((some (l1.take (a2 : Int).toNat : List (SMatch))).bind fun y205 => ((audit_Right.f y200 y205).bind fun t209 => (if t209 = true then (some false) else ((audit_Right.f l0 y205).bind fun t214 => (if t214 = true then ((audit_Right.f l0 l1).bind fun t215 => (some t215)) else (some true)))))) else (none)) else (some false)) = some r := H
              have A16 := Aside0.mk A160
              clear A160
              by_cases c17 : t204 = true
              · subst c17
                have H1 : (if a2 ≤ (l1.length : Int) then ((some (l1.take (a2 : Int).toNat : List (SMatch))).bind fun y205 => ((audit_Right.f y200 y205).bind fun t209 => (if t209 = true then (some false) else ((audit_Right.f l0 y205).bind fun t214 => (if t214 = true then ((audit_Right.f l0 l1).bind fun t215 => (some t215)) else (some true)))))) else (none)) = some r := by rw [if_pos rfl] at H; exact H
                clear H
                have H := H1
                clear H1
                have c18b0 := eq_true (of_decide_eq_true (by first | (with_reducible assumption) | assumption) : 0 ≤ a2)
                by_cases c19 : a2 ≤ (l1.length : Int)
                · rw [if_pos c19] at H
                  have c19b0 := eq_true c19
                  have c19b1 : decide (a2 ≤ (l1.length : Int)) = true := decide_eq_true c19
                  clear c19
                  obtain ⟨y205, hy205⟩ : ∃ y_ : List (SMatch), y_ = (l1.take (a2 : Int).toNat) := ⟨_, rfl⟩
                  replace H : ((audit_Right.f y200 y205).bind fun t209 => (if t209 = true then (some false) else ((audit_Right.f l0 y205).bind fun t214 => (if t214 = true then ((audit_Right.f l0 l1).bind fun t215 => (some t215)) else (some true))))) = some r := by first | (rw [hy205]; with_reducible exact H) | (have H2_ := (Option.bind_some _ _).symm.trans H; rw [hy205]; with_reducible exact H2_) | (have H2_ := (Option.bind_some _ _).symm.trans H; with_reducible exact H2_) | with_reducible exact H | (rw [hy205]; exact H) | exact H
                  have Ny205 := Aside0.mk hy205
                  clear hy205
                  replace H := Option.bind_eq_some_iff.mp H
                  obtain ⟨t209, A200, H⟩ := H
                  replace H : (if t209 = true then (some false) else ((audit_Right.f l0 y205).bind fun t214 => (if t214 = true then ((audit_Right.f l0 l1).bind fun t215 => (some t215)) else (some true)))) = some r := H
                  have A20 := Aside0.mk A200
                  clear A200
                  by_cases c21 : t209 = true
                  · subst c21
                    have H1 : (some false) = some r := by rw [if_pos rfl] at H; exact H
                    clear H
                    have H := H1
                    clear H1
                    obtain rfl := Option.some.inj H
                    have p199 : 0 ≤ (a2 : Int) := of_decide_eq_true (by first | (with_reducible assumption) | assumption)
                    have q199 : a2 < (l1.length : Int) := of_decide_eq_true (by first | (with_reducible assumption) | assumption)
                    obtain ⟨ad199, e199, hx199_0, hx199_1, hx199_2, hx199_3⟩ := at_TMatch HR1.out a2 p199 q199
                    cases e199
                    replace hx199_0 := (HB.out.cell (World.block_lt_of_cell? w _ hx199_0)).trans hx199_0
                    replace hx199_1 := (HB.out.cell (World.block_lt_of_cell? w _ hx199_1)).trans hx199_1
                    replace hx199_2 := (HB.out.cell (World.block_lt_of_cell? w _ hx199_2)).trans hx199_2
                    replace hx199_3 := (HB.out.cell (World.block_lt_of_cell? w _ hx199_3)).trans hx199_3
                    replace p199 := eq_true p199
                    replace q199 := eq_true q199
                    go_wp2_with (first | ((with_reducible refine gate_dst (N := 40) rfl ?_); (try (refine gate_guard (by rfl) ?_; dsimp only)); refine Kd.R_lit kNote _ 27 ?hg (N := 40) ?hd (xs := ([(⟨0, wrap64 (a2 + 1), 0, (⟨(rd_TMatch l1 a2).f0, (rd_TMatch l1 a2).f1, (rd_TMatch l1 a2).f2, (rd_TMatch l1 a2).f3⟩ : SMatch)⟩ : SNote)] : List (SNote))) (inner := [.int .i64 0, .int .i64 (wrap64 (a2 + 1)), .int .i64 0, .int .i64 ((rd_TMatch l1 a2).f0), .int .i64 ((rd_TMatch l1 a2).f1), .int .i64 ((rd_TMatch l1 a2).f2), .bool ((rd_TMatch l1 a2).f3)]) (ok := fun _ => True) (okp := fun _ => True) ?hr ?hp (fun _ hk => hk) trivial (Below.refl _ _) (Nat.le_refl _) (by simp) ?_; (case hd => rfl); (case hg => rfl); (case hr => first | (go_simp; done) | (go_simp; rfl)); (case hp => exact (Reps.c7 (show Kd.M kNote _ _ _ (⟨0, wrap64 (a2 + 1), 0, (⟨(rd_TMatch l1 a2).f0, (rd_TMatch l1 a2).f1, (rd_TMatch l1 a2).f2, (rd_TMatch l1 a2).f3⟩ : SMatch)⟩ : SNote) [.int .i64 0, .int .i64 (wrap64 (a2 + 1)), .int .i64 0, .int .i64 ((rd_TMatch l1 a2).f0), .int .i64 ((rd_TMatch l1 a2).f1), .int .i64 ((rd_TMatch l1 a2).f2), .bool ((rd_TMatch l1 a2).f3)] from (kNote_mkM _ _ _ (⟨0, wrap64 (a2 + 1), 0, (⟨(rd_TMatch l1 a2).f0, (rd_TMatch l1 a2).f1, (rd_TMatch l1 a2).f2, (rd_TMatch l1 a2).f3⟩ : SMatch)⟩ : SNote) )) (Reps.none _ _))); intro v201 w22 ho23 hb hg_ hnew_; clear hg_ hnew_; (first | rw [← Ny200.out] at ho23 | (simp only [Int.reduceToNat] at ho23; rw [← Ny200.out] at ho23)); have n0_ := Aside0.mk (Kd.R_lower ho23 (below_size (by repeat (first | (with_reducible first | exact HB.out | apply below_alloc | apply pw_below_drewN | apply below_drew1) | exact HB.out)))); have n1_ := Aside0.mk (below_step (by repeat (first | (with_reducible first | exact HB.out | apply below_alloc | apply pw_below_drewN | apply below_drew1) | exact HB.out)) hb); clear HB; have HO202 := n0_; have HB := n1_; clear n0_ n1_; clear hb ho23) | ((with_reducible refine gate_callee (f := 16) rfl ?_); refine goesL_ (some 42) rfl rfl Try.func16 (by kernel_rfl) rfl #[.slice none 0 0, .slice (some ad199) l1.length c1] rfl (by (try simp only [List.map_toArray, List.map_cons, List.map_nil]); first | done | rfl | (simp only [List.length_drop, List.length_take]; rfl)) ?_; (refine (audit_Right.calls _ _ ([] : List (SNote)) _ _ l1 true _ ?side1 ?side2 ?side3 ?side4 A14.out).mono ?_); (case side1 => exact Kd.C_nil _ _); (case side2 => exact Nat.le_refl _); (case side3 => repeat (first | exact (Kd.C_below HR1.out HB.out) | (with_reducible refine Kd.C_alloc ?_ _) | (with_reducible refine Kd.C_drewN ?_ _) | (with_reducible refine Kd.C_drew ?_))); (case side4 => exact HC1.out); rintro e w24 ⟨rfl, hb⟩; refine ⟨_, rfl, ?_⟩; have n0_ := Aside0.mk (Kd.R_below (by (with_reducible repeat (first | apply Kd.R_alloc | apply Kd.R_drewN | apply Kd.R_drew)); exact HO202.out) hb); have n1_ := Aside0.mk (below_step (by repeat (first | (with_reducible first | exact HB.out | apply below_alloc | apply pw_below_drewN | apply below_drew1) | exact HB.out)) hb); clear HO202; clear HB; have HO202 := n0_; have HB := n1_; clear n0_ n1_; (try clear hb); (try clear hb2); (try clear hk); (try clear hi); obtain ⟨Ao25, co25, eo25⟩ := Kd.R_slice HO202.out; subst eo25) | (go_at_call 16; (with_reducible refine (audit_Right.calls _ _ y200 _ _ l1 true _ ?side1 ?side2 ?side3 ?side4 A16.out).mono ?_); (case side1 => repeat (first | exact (Kd.R_reads' HO202.out).2.2 | (with_reducible refine Kd.C_alloc ?_ _) | (with_reducible refine Kd.C_drewN ?_ _) | (with_reducible refine Kd.C_drew ?_))); (case side2 => exact (Kd.R_reads' HO202.out).2.1); (case side3 => repeat (first | exact (Kd.C_below HR1.out HB.out) | (with_reducible refine Kd.C_alloc ?_ _) | (with_reducible refine Kd.C_drewN ?_ _) | (with_reducible refine Kd.C_drew ?_))); (case side4 => exact HC1.out); rintro e w26 ⟨rfl, hb⟩; have n0_ := Aside0.mk (Kd.R_below (by (with_reducible repeat (first | apply Kd.R_alloc | apply Kd.R_drewN | apply Kd.R_drew)); exact HO202.out) hb); have n1_ := Aside0.mk (below_step (by repeat (first | (with_reducible first | exact HB.out | apply below_alloc | apply pw_below_drewN | apply below_drew1) | exact HB.out)) hb); clear HO202; clear HB; have HO202 := n0_; have HB := n1_; clear n0_ n1_; (try clear hb); (try clear hb2); (try clear hk); (try clear hi); have q27 : (a2 : Int) ≤ ((l1.length : Int) : Int) := of_decide_eq_true (by first | (with_reducible assumption) | assumption); obtain ⟨i027, hi027, _, hsz27, _⟩ := info_parts infoMatch; have hroom27 : l1.length ≤ c1 := HC1.out; have hC27 : Kd.C kMatch _ (some ad199) l1.length l1 := HR1.out; have hcut27 := cut_to (P := Try.prog) 34 25 .i64 Try.underlying34 hi027 (some ad199) l1.length c1 a2 (of_decide_eq_true (by first | (with_reducible assumption) | assumption)) q27 hroom27; have hr27 := Kd.C_take (m := (a2 : Int).toNat) hC27 (by omega); have hy27 : y205.length = (a2 : Int).toNat := (by rw [Ny205.out, List.length_take]; omega); rw [← Ny205.out] at hr27; rw [← hy27] at hcut27; have HR208 := Aside0.mk hr27; have HC208 := Aside0.mk (show y205.length ≤ c1 from by omega); clear hr27 hC27 hroom27 hi027 hsz27; have KY27 := Aside0.mk hy27; clear hy27; replace q27 := eq_true q27) | (go_at_call 16; (with_reducible refine (audit_Right.calls _ _ y200 _ _ y205 true _ ?side1 ?side2 ?side3 ?side4 A20.out).mono ?_); (case side1 => repeat (first | exact (Kd.R_reads' HO202.out).2.2 | (with_reducible refine Kd.C_alloc ?_ _) | (with_reducible refine Kd.C_drewN ?_ _) | (with_reducible refine Kd.C_drew ?_))); (case side2 => exact (Kd.R_reads' HO202.out).2.1); (case side3 => repeat (first | exact (Kd.C_below HR208.out HB.out) | (with_reducible refine Kd.C_alloc ?_ _) | (with_reducible refine Kd.C_drewN ?_ _) | (with_reducible refine Kd.C_drew ?_))); (case side4 => exact HC208.out); rintro e w28 ⟨rfl, hb⟩; have n0_ := Aside0.mk (Kd.R_below (by (with_reducible repeat (first | apply Kd.R_alloc | apply Kd.R_drewN | apply Kd.R_drew)); exact HO202.out) hb); have n1_ := Aside0.mk (below_step (by repeat (first | (with_reducible first | exact HB.out | apply below_alloc | apply pw_below_drewN | apply below_drew1) | exact HB.out)) hb); clear HO202; clear HB; have HO202 := n0_; have HB := n1_; clear n0_ n1_; (try clear hb); (try clear hb2); (try clear hk); (try clear hi)))
                    go_ret
                    exact ⟨by first | rfl | (simp [errW_none, errW_some] <;> rfl) | (simp [*, errW_none, errW_some] <;> rfl), by repeat (first | (with_reducible first | exact HB.out | apply below_alloc | apply pw_below_drewN | apply below_drew1) | exact HB.out)⟩
                  · replace c21 := Bool.eq_false_iff.mpr c21
                    subst c21
                    have H1 : ((audit_Right.f l0 y205).bind fun t214 => (if t214 = true then ((audit_Right.f l0 l1).bind fun t215 => (some t215)) else (some true))) = some r := by rw [if_neg (show ¬ (false = true) by decide)] at H; exact H
                    clear H
                    have H := H1
                    clear H1
                    replace H := Option.bind_eq_some_iff.mp H
                    obtain ⟨t214, A290, H⟩ := H
                    replace H : (if t214 = true then ((audit_Right.f l0 l1).bind fun t215 => (some t215)) else (some true)) = some r := H
                    have A29 := Aside0.mk A290
                    clear A290
                    by_cases c30 : t214 = true
                    · subst c30
                      have H1 : ((audit_Right.f l0 l1).bind fun t215 => (some t215)) = some r := by rw [if_pos rfl] at H; exact H
                      clear H
                      have H := H1
                      clear H1
                      replace H := Option.bind_eq_some_iff.mp H
                      obtain ⟨t215, A310, H⟩ := H
                      replace H : (some t215) = some r := H
                      have A31 := Aside0.mk A310
                      clear A310
                      obtain rfl := Option.some.inj H
                      have p199 : 0 ≤ (a2 : Int) := of_decide_eq_true (by first | (with_reducible assumption) | assumption)
                      have q199 : a2 < (l1.length : Int) := of_decide_eq_true (by first | (with_reducible assumption) | assumption)
                      obtain ⟨ad199, e199, hx199_0, hx199_1, hx199_2, hx199_3⟩ := at_TMatch HR1.out a2 p199 q199
                      cases e199
                      replace hx199_0 := (HB.out.cell (World.block_lt_of_cell? w _ hx199_0)).trans hx199_0
                      replace hx199_1 := (HB.out.cell (World.block_lt_of_cell? w _ hx199_1)).trans hx199_1
                      replace hx199_2 := (HB.out.cell (World.block_lt_of_cell? w _ hx199_2)).trans hx199_2
                      replace hx199_3 := (HB.out.cell (World.block_lt_of_cell? w _ hx199_3)).trans hx199_3
                      replace p199 := eq_true p199
                      replace q199 := eq_true q199
                      go_wp2_with (first | ((with_reducible refine gate_dst (N := 40) rfl ?_); (try (refine gate_guard (by rfl) ?_; dsimp only)); refine Kd.R_lit kNote _ 27 ?hg (N := 40) ?hd (xs := ([(⟨0, wrap64 (a2 + 1), 0, (⟨(rd_TMatch l1 a2).f0, (rd_TMatch l1 a2).f1, (rd_TMatch l1 a2).f2, (rd_TMatch l1 a2).f3⟩ : SMatch)⟩ : SNote)] : List (SNote))) (inner := [.int .i64 0, .int .i64 (wrap64 (a2 + 1)), .int .i64 0, .int .i64 ((rd_TMatch l1 a2).f0), .int .i64 ((rd_TMatch l1 a2).f1), .int .i64 ((rd_TMatch l1 a2).f2), .bool ((rd_TMatch l1 a2).f3)]) (ok := fun _ => True) (okp := fun _ => True) ?hr ?hp (fun _ hk => hk) trivial (Below.refl _ _) (Nat.le_refl _) (by simp) ?_; (case hd => rfl); (case hg => rfl); (case hr => first | (go_simp; done) | (go_simp; rfl)); (case hp => exact (Reps.c7 (show Kd.M kNote _ _ _ (⟨0, wrap64 (a2 + 1), 0, (⟨(rd_TMatch l1 a2).f0, (rd_TMatch l1 a2).f1, (rd_TMatch l1 a2).f2, (rd_TMatch l1 a2).f3⟩ : SMatch)⟩ : SNote) [.int .i64 0, .int .i64 (wrap64 (a2 + 1)), .int .i64 0, .int .i64 ((rd_TMatch l1 a2).f0), .int .i64 ((rd_TMatch l1 a2).f1), .int .i64 ((rd_TMatch l1 a2).f2), .bool ((rd_TMatch l1 a2).f3)] from (kNote_mkM _ _ _ (⟨0, wrap64 (a2 + 1), 0, (⟨(rd_TMatch l1 a2).f0, (rd_TMatch l1 a2).f1, (rd_TMatch l1 a2).f2, (rd_TMatch l1 a2).f3⟩ : SMatch)⟩ : SNote) )) (Reps.none _ _))); intro v201 w32 ho33 hb hg_ hnew_; clear hg_ hnew_; (first | rw [← Ny200.out] at ho33 | (simp only [Int.reduceToNat] at ho33; rw [← Ny200.out] at ho33)); have n0_ := Aside0.mk (Kd.R_lower ho33 (below_size (by repeat (first | (with_reducible first | exact HB.out | apply below_alloc | apply pw_below_drewN | apply below_drew1) | exact HB.out)))); have n1_ := Aside0.mk (below_step (by repeat (first | (with_reducible first | exact HB.out | apply below_alloc | apply pw_below_drewN | apply below_drew1) | exact HB.out)) hb); clear HB; have HO202 := n0_; have HB := n1_; clear n0_ n1_; clear hb ho33) | ((with_reducible refine gate_callee (f := 16) rfl ?_); refine goesL_ (some 42) rfl rfl Try.func16 (by kernel_rfl) rfl #[.slice none 0 0, .slice (some ad199) l1.length c1] rfl (by (try simp only [List.map_toArray, List.map_cons, List.map_nil]); first | done | rfl | (simp only [List.length_drop, List.length_take]; rfl)) ?_; (refine (audit_Right.calls _ _ ([] : List (SNote)) _ _ l1 true _ ?side1 ?side2 ?side3 ?side4 A14.out).mono ?_); (case side1 => exact Kd.C_nil _ _); (case side2 => exact Nat.le_refl _); (case side3 => repeat (first | exact (Kd.C_below HR1.out HB.out) | (with_reducible refine Kd.C_alloc ?_ _) | (with_reducible refine Kd.C_drewN ?_ _) | (with_reducible refine Kd.C_drew ?_))); (case side4 => exact HC1.out); rintro e w34 ⟨rfl, hb⟩; refine ⟨_, rfl, ?_⟩; have n0_ := Aside0.mk (Kd.R_below (by (with_reducible repeat (first | apply Kd.R_alloc | apply Kd.R_drewN | apply Kd.R_drew)); exact HO202.out) hb); have n1_ := Aside0.mk (below_step (by repeat (first | (with_reducible first | exact HB.out | apply below_alloc | apply pw_below_drewN | apply below_drew1) | exact HB.out)) hb); clear HO202; clear HB; have HO202 := n0_; have HB := n1_; clear n0_ n1_; (try clear hb); (try clear hb2); (try clear hk); (try clear hi); obtain ⟨Ao35, co35, eo35⟩ := Kd.R_slice HO202.out; subst eo35) | (go_at_call 16; (with_reducible refine (audit_Right.calls _ _ y200 _ _ l1 true _ ?side1 ?side2 ?side3 ?side4 A16.out).mono ?_); (case side1 => repeat (first | exact (Kd.R_reads' HO202.out).2.2 | (with_reducible refine Kd.C_alloc ?_ _) | (with_reducible refine Kd.C_drewN ?_ _) | (with_reducible refine Kd.C_drew ?_))); (case side2 => exact (Kd.R_reads' HO202.out).2.1); (case side3 => repeat (first | exact (Kd.C_below HR1.out HB.out) | (with_reducible refine Kd.C_alloc ?_ _) | (with_reducible refine Kd.C_drewN ?_ _) | (with_reducible refine Kd.C_drew ?_))); (case side4 => exact HC1.out); rintro e w36 ⟨rfl, hb⟩; have n0_ := Aside0.mk (Kd.R_below (by (with_reducible repeat (first | apply Kd.R_alloc | apply Kd.R_drewN | apply Kd.R_drew)); exact HO202.out) hb); have n1_ := Aside0.mk (below_step (by repeat (first | (with_reducible first | exact HB.out | apply below_alloc | apply pw_below_drewN | apply below_drew1) | exact HB.out)) hb); clear HO202; clear HB; have HO202 := n0_; have HB := n1_; clear n0_ n1_; (try clear hb); (try clear hb2); (try clear hk); (try clear hi); have q37 : (a2 : Int) ≤ ((l1.length : Int) : Int) := of_decide_eq_true (by first | (with_reducible assumption) | assumption); obtain ⟨i037, hi037, _, hsz37, _⟩ := info_parts infoMatch; have hroom37 : l1.length ≤ c1 := HC1.out; have hC37 : Kd.C kMatch _ (some ad199) l1.length l1 := HR1.out; have hcut37 := cut_to (P := Try.prog) 34 25 .i64 Try.underlying34 hi037 (some ad199) l1.length c1 a2 (of_decide_eq_true (by first | (with_reducible assumption) | assumption)) q37 hroom37; have hr37 := Kd.C_take (m := (a2 : Int).toNat) hC37 (by omega); have hy37 : y205.length = (a2 : Int).toNat := (by rw [Ny205.out, List.length_take]; omega); rw [← Ny205.out] at hr37; rw [← hy37] at hcut37; have HR208 := Aside0.mk hr37; have HC208 := Aside0.mk (show y205.length ≤ c1 from by omega); clear hr37 hC37 hroom37 hi037 hsz37; have KY37 := Aside0.mk hy37; clear hy37; replace q37 := eq_true q37) | (go_at_call 16; (with_reducible refine (audit_Right.calls _ _ y200 _ _ y205 false _ ?side1 ?side2 ?side3 ?side4 A20.out).mono ?_); (case side1 => repeat (first | exact (Kd.R_reads' HO202.out).2.2 | (with_reducible refine Kd.C_alloc ?_ _) | (with_reducible refine Kd.C_drewN ?_ _) | (with_reducible refine Kd.C_drew ?_))); (case side2 => exact (Kd.R_reads' HO202.out).2.1); (case side3 => repeat (first | exact (Kd.C_below HR208.out HB.out) | (with_reducible refine Kd.C_alloc ?_ _) | (with_reducible refine Kd.C_drewN ?_ _) | (with_reducible refine Kd.C_drew ?_))); (case side4 => exact HC208.out); rintro e w38 ⟨rfl, hb⟩; have n0_ := Aside0.mk (Kd.R_below (by (with_reducible repeat (first | apply Kd.R_alloc | apply Kd.R_drewN | apply Kd.R_drew)); exact HO202.out) hb); have n1_ := Aside0.mk (below_step (by repeat (first | (with_reducible first | exact HB.out | apply below_alloc | apply pw_below_drewN | apply below_drew1) | exact HB.out)) hb); clear HO202; clear HB; have HO202 := n0_; have HB := n1_; clear n0_ n1_; (try clear hb); (try clear hb2); (try clear hk); (try clear hi)) | (go_at_call 16; (with_reducible refine (audit_Right.calls _ _ l0 _ _ y205 true _ ?side1 ?side2 ?side3 ?side4 A29.out).mono ?_); (case side1 => repeat (first | exact (Kd.C_below HR0.out HB.out) | (with_reducible refine Kd.C_alloc ?_ _) | (with_reducible refine Kd.C_drewN ?_ _) | (with_reducible refine Kd.C_drew ?_))); (case side2 => exact HC0.out); (case side3 => repeat (first | exact (Kd.C_below HR208.out HB.out) | (with_reducible refine Kd.C_alloc ?_ _) | (with_reducible refine Kd.C_drewN ?_ _) | (with_reducible refine Kd.C_drew ?_))); (case side4 => exact HC208.out); rintro e w39 ⟨rfl, hb⟩; have n0_ := Aside0.mk (Kd.R_below (by (with_reducible repeat (first | apply Kd.R_alloc | apply Kd.R_drewN | apply Kd.R_drew)); exact HO202.out) hb); have n1_ := Aside0.mk (below_step (by repeat (first | (with_reducible first | exact HB.out | apply below_alloc | apply pw_below_drewN | apply below_drew1) | exact HB.out)) hb); clear HO202; clear HB; have HO202 := n0_; have HB := n1_; clear n0_ n1_; (try clear hb); (try clear hb2); (try clear hk); (try clear hi)) | (go_at_call 16; (with_reducible refine (audit_Right.calls _ _ l0 _ _ l1 t215 _ ?side1 ?side2 ?side3 ?side4 A31.out).mono ?_); (case side1 => repeat (first | exact (Kd.C_below HR0.out HB.out) | (with_reducible refine Kd.C_alloc ?_ _) | (with_reducible refine Kd.C_drewN ?_ _) | (with_reducible refine Kd.C_drew ?_))); (case side2 => exact HC0.out); (case side3 => repeat (first | exact (Kd.C_below HR1.out HB.out) | (with_reducible refine Kd.C_alloc ?_ _) | (with_reducible refine Kd.C_drewN ?_ _) | (with_reducible refine Kd.C_drew ?_))); (case side4 => exact HC1.out); rintro e w40 ⟨rfl, hb⟩; have n0_ := Aside0.mk (Kd.R_below (by (with_reducible repeat (first | apply Kd.R_alloc | apply Kd.R_drewN | apply Kd.R_drew)); exact HO202.out) hb); have n1_ := Aside0.mk (below_step (by repeat (first | (with_reducible first | exact HB.out | apply below_alloc | apply pw_below_drewN | apply below_drew1) | exact HB.out)) hb); clear HO202; clear HB; have HO202 := n0_; have HB := n1_; clear n0_ n1_; (try clear hb); (try clear hb2); (try clear hk); (try clear hi)))
                      go_ret
                      exact ⟨by first | rfl | (simp [errW_none, errW_some] <;> rfl) | (simp [*, errW_none, errW_some] <;> rfl), by repeat (first | (with_reducible first | exact HB.out | apply below_alloc | apply pw_below_drewN | apply below_drew1) | exact HB.out)⟩
                    · replace c30 := Bool.eq_false_iff.mpr c30
                      subst c30
                      have H1 : (some true) = some r := by rw [if_neg (show ¬ (false = true) by decide)] at H; exact H
                      clear H
                      have H := H1
                      clear H1
                      obtain rfl := Option.some.inj H
                      have p199 : 0 ≤ (a2 : Int) := of_decide_eq_true (by first | (with_reducible assumption) | assumption)
                      have q199 : a2 < (l1.length : Int) := of_decide_eq_true (by first | (with_reducible assumption) | assumption)
                      obtain ⟨ad199, e199, hx199_0, hx199_1, hx199_2, hx199_3⟩ := at_TMatch HR1.out a2 p199 q199
                      cases e199
                      replace hx199_0 := (HB.out.cell (World.block_lt_of_cell? w _ hx199_0)).trans hx199_0
                      replace hx199_1 := (HB.out.cell (World.block_lt_of_cell? w _ hx199_1)).trans hx199_1
                      replace hx199_2 := (HB.out.cell (World.block_lt_of_cell? w _ hx199_2)).trans hx199_2
                      replace hx199_3 := (HB.out.cell (World.block_lt_of_cell? w _ hx199_3)).trans hx199_3
                      replace p199 := eq_true p199
                      replace q199 := eq_true q199
                      go_wp2_with (first | ((with_reducible refine gate_dst (N := 40) rfl ?_); (try (refine gate_guard (by rfl) ?_; dsimp only)); refine Kd.R_lit kNote _ 27 ?hg (N := 40) ?hd (xs := ([(⟨0, wrap64 (a2 + 1), 0, (⟨(rd_TMatch l1 a2).f0, (rd_TMatch l1 a2).f1, (rd_TMatch l1 a2).f2, (rd_TMatch l1 a2).f3⟩ : SMatch)⟩ : SNote)] : List (SNote))) (inner := [.int .i64 0, .int .i64 (wrap64 (a2 + 1)), .int .i64 0, .int .i64 ((rd_TMatch l1 a2).f0), .int .i64 ((rd_TMatch l1 a2).f1), .int .i64 ((rd_TMatch l1 a2).f2), .bool ((rd_TMatch l1 a2).f3)]) (ok := fun _ => True) (okp := fun _ => True) ?hr ?hp (fun _ hk => hk) trivial (Below.refl _ _) (Nat.le_refl _) (by simp) ?_; (case hd => rfl); (case hg => rfl); (case hr => first | (go_simp; done) | (go_simp; rfl)); (case hp => exact (Reps.c7 (show Kd.M kNote _ _ _ (⟨0, wrap64 (a2 + 1), 0, (⟨(rd_TMatch l1 a2).f0, (rd_TMatch l1 a2).f1, (rd_TMatch l1 a2).f2, (rd_TMatch l1 a2).f3⟩ : SMatch)⟩ : SNote) [.int .i64 0, .int .i64 (wrap64 (a2 + 1)), .int .i64 0, .int .i64 ((rd_TMatch l1 a2).f0), .int .i64 ((rd_TMatch l1 a2).f1), .int .i64 ((rd_TMatch l1 a2).f2), .bool ((rd_TMatch l1 a2).f3)] from (kNote_mkM _ _ _ (⟨0, wrap64 (a2 + 1), 0, (⟨(rd_TMatch l1 a2).f0, (rd_TMatch l1 a2).f1, (rd_TMatch l1 a2).f2, (rd_TMatch l1 a2).f3⟩ : SMatch)⟩ : SNote) )) (Reps.none _ _))); intro v201 w41 ho42 hb hg_ hnew_; clear hg_ hnew_; (first | rw [← Ny200.out] at ho42 | (simp only [Int.reduceToNat] at ho42; rw [← Ny200.out] at ho42)); have n0_ := Aside0.mk (Kd.R_lower ho42 (below_size (by repeat (first | (with_reducible first | exact HB.out | apply below_alloc | apply pw_below_drewN | apply below_drew1) | exact HB.out)))); have n1_ := Aside0.mk (below_step (by repeat (first | (with_reducible first | exact HB.out | apply below_alloc | apply pw_below_drewN | apply below_drew1) | exact HB.out)) hb); clear HB; have HO202 := n0_; have HB := n1_; clear n0_ n1_; clear hb ho42) | ((with_reducible refine gate_callee (f := 16) rfl ?_); refine goesL_ (some 42) rfl rfl Try.func16 (by kernel_rfl) rfl #[.slice none 0 0, .slice (some ad199) l1.length c1] rfl (by (try simp only [List.map_toArray, List.map_cons, List.map_nil]); first | done | rfl | (simp only [List.length_drop, List.length_take]; rfl)) ?_; (refine (audit_Right.calls _ _ ([] : List (SNote)) _ _ l1 true _ ?side1 ?side2 ?side3 ?side4 A14.out).mono ?_); (case side1 => exact Kd.C_nil _ _); (case side2 => exact Nat.le_refl _); (case side3 => repeat (first | exact (Kd.C_below HR1.out HB.out) | (with_reducible refine Kd.C_alloc ?_ _) | (with_reducible refine Kd.C_drewN ?_ _) | (with_reducible refine Kd.C_drew ?_))); (case side4 => exact HC1.out); rintro e w43 ⟨rfl, hb⟩; refine ⟨_, rfl, ?_⟩; have n0_ := Aside0.mk (Kd.R_below (by (with_reducible repeat (first | apply Kd.R_alloc | apply Kd.R_drewN | apply Kd.R_drew)); exact HO202.out) hb); have n1_ := Aside0.mk (below_step (by repeat (first | (with_reducible first | exact HB.out | apply below_alloc | apply pw_below_drewN | apply below_drew1) | exact HB.out)) hb); clear HO202; clear HB; have HO202 := n0_; have HB := n1_; clear n0_ n1_; (try clear hb); (try clear hb2); (try clear hk); (try clear hi); obtain ⟨Ao44, co44, eo44⟩ := Kd.R_slice HO202.out; subst eo44) | (go_at_call 16; (with_reducible refine (audit_Right.calls _ _ y200 _ _ l1 true _ ?side1 ?side2 ?side3 ?side4 A16.out).mono ?_); (case side1 => repeat (first | exact (Kd.R_reads' HO202.out).2.2 | (with_reducible refine Kd.C_alloc ?_ _) | (with_reducible refine Kd.C_drewN ?_ _) | (with_reducible refine Kd.C_drew ?_))); (case side2 => exact (Kd.R_reads' HO202.out).2.1); (case side3 => repeat (first | exact (Kd.C_below HR1.out HB.out) | (with_reducible refine Kd.C_alloc ?_ _) | (with_reducible refine Kd.C_drewN ?_ _) | (with_reducible refine Kd.C_drew ?_))); (case side4 => exact HC1.out); rintro e w45 ⟨rfl, hb⟩; have n0_ := Aside0.mk (Kd.R_below (by (with_reducible repeat (first | apply Kd.R_alloc | apply Kd.R_drewN | apply Kd.R_drew)); exact HO202.out) hb); have n1_ := Aside0.mk (below_step (by repeat (first | (with_reducible first | exact HB.out | apply below_alloc | apply pw_below_drewN | apply below_drew1) | exact HB.out)) hb); clear HO202; clear HB; have HO202 := n0_; have HB := n1_; clear n0_ n1_; (try clear hb); (try clear hb2); (try clear hk); (try clear hi); have q46 : (a2 : Int) ≤ ((l1.length : Int) : Int) := of_decide_eq_true (by first | (with_reducible assumption) | assumption); obtain ⟨i046, hi046, _, hsz46, _⟩ := info_parts infoMatch; have hroom46 : l1.length ≤ c1 := HC1.out; have hC46 : Kd.C kMatch _ (some ad199) l1.length l1 := HR1.out; have hcut46 := cut_to (P := Try.prog) 34 25 .i64 Try.underlying34 hi046 (some ad199) l1.length c1 a2 (of_decide_eq_true (by first | (with_reducible assumption) | assumption)) q46 hroom46; have hr46 := Kd.C_take (m := (a2 : Int).toNat) hC46 (by omega); have hy46 : y205.length = (a2 : Int).toNat := (by rw [Ny205.out, List.length_take]; omega); rw [← Ny205.out] at hr46; rw [← hy46] at hcut46; have HR208 := Aside0.mk hr46; have HC208 := Aside0.mk (show y205.length ≤ c1 from by omega); clear hr46 hC46 hroom46 hi046 hsz46; have KY46 := Aside0.mk hy46; clear hy46; replace q46 := eq_true q46) | (go_at_call 16; (with_reducible refine (audit_Right.calls _ _ y200 _ _ y205 false _ ?side1 ?side2 ?side3 ?side4 A20.out).mono ?_); (case side1 => repeat (first | exact (Kd.R_reads' HO202.out).2.2 | (with_reducible refine Kd.C_alloc ?_ _) | (with_reducible refine Kd.C_drewN ?_ _) | (with_reducible refine Kd.C_drew ?_))); (case side2 => exact (Kd.R_reads' HO202.out).2.1); (case side3 => repeat (first | exact (Kd.C_below HR208.out HB.out) | (with_reducible refine Kd.C_alloc ?_ _) | (with_reducible refine Kd.C_drewN ?_ _) | (with_reducible refine Kd.C_drew ?_))); (case side4 => exact HC208.out); rintro e w47 ⟨rfl, hb⟩; have n0_ := Aside0.mk (Kd.R_below (by (with_reducible repeat (first | apply Kd.R_alloc | apply Kd.R_drewN | apply Kd.R_drew)); exact HO202.out) hb); have n1_ := Aside0.mk (below_step (by repeat (first | (with_reducible first | exact HB.out | apply below_alloc | apply pw_below_drewN | apply below_drew1) | exact HB.out)) hb); clear HO202; clear HB; have HO202 := n0_; have HB := n1_; clear n0_ n1_; (try clear hb); (try clear hb2); (try clear hk); (try clear hi)) | (go_at_call 16; (with_reducible refine (audit_Right.calls _ _ l0 _ _ y205 false _ ?side1 ?side2 ?side3 ?side4 A29.out).mono ?_); (case side1 => repeat (first | exact (Kd.C_below HR0.out HB.out) | (with_reducible refine Kd.C_alloc ?_ _) | (with_reducible refine Kd.C_drewN ?_ _) | (with_reducible refine Kd.C_drew ?_))); (case side2 => exact HC0.out); (case side3 => repeat (first | exact (Kd.C_below HR208.out HB.out) | (with_reducible refine Kd.C_alloc ?_ _) | (with_reducible refine Kd.C_drewN ?_ _) | (with_reducible refine Kd.C_drew ?_))); (case side4 => exact HC208.out); rintro e w48 ⟨rfl, hb⟩; have n0_ := Aside0.mk (Kd.R_below (by (with_reducible repeat (first | apply Kd.R_alloc | apply Kd.R_drewN | apply Kd.R_drew)); exact HO202.out) hb); have n1_ := Aside0.mk (below_step (by repeat (first | (with_reducible first | exact HB.out | apply below_alloc | apply pw_below_drewN | apply below_drew1) | exact HB.out)) hb); clear HO202; clear HB; have HO202 := n0_; have HB := n1_; clear n0_ n1_; (try clear hb); (try clear hb2); (try clear hk); (try clear hi)))
                      go_ret
                      exact ⟨by first | rfl | (simp [errW_none, errW_some] <;> rfl) | (simp [*, errW_none, errW_some] <;> rfl), by repeat (first | (with_reducible first | exact HB.out | apply below_alloc | apply pw_below_drewN | apply below_drew1) | exact HB.out)⟩
                · rw [if_neg c19] at H
                  exact absurd H (by simp)
              · replace c17 := Bool.eq_false_iff.mpr c17
                subst c17
                have H1 : (some false) = some r := by rw [if_neg (show ¬ (false = true) by decide)] at H; exact H
                clear H
                have H := H1
                clear H1
                obtain rfl := Option.some.inj H
                have p199 : 0 ≤ (a2 : Int) := of_decide_eq_true (by first | (with_reducible assumption) | assumption)
                have q199 : a2 < (l1.length : Int) := of_decide_eq_true (by first | (with_reducible assumption) | assumption)
                obtain ⟨ad199, e199, hx199_0, hx199_1, hx199_2, hx199_3⟩ := at_TMatch HR1.out a2 p199 q199
                cases e199
                replace hx199_0 := (HB.out.cell (World.block_lt_of_cell? w _ hx199_0)).trans hx199_0
                replace hx199_1 := (HB.out.cell (World.block_lt_of_cell? w _ hx199_1)).trans hx199_1
                replace hx199_2 := (HB.out.cell (World.block_lt_of_cell? w _ hx199_2)).trans hx199_2
                replace hx199_3 := (HB.out.cell (World.block_lt_of_cell? w _ hx199_3)).trans hx199_3
                replace p199 := eq_true p199
                replace q199 := eq_true q199
                go_wp2_with (first | ((with_reducible refine gate_dst (N := 40) rfl ?_); (try (refine gate_guard (by rfl) ?_; dsimp only)); refine Kd.R_lit kNote _ 27 ?hg (N := 40) ?hd (xs := ([(⟨0, wrap64 (a2 + 1), 0, (⟨(rd_TMatch l1 a2).f0, (rd_TMatch l1 a2).f1, (rd_TMatch l1 a2).f2, (rd_TMatch l1 a2).f3⟩ : SMatch)⟩ : SNote)] : List (SNote))) (inner := [.int .i64 0, .int .i64 (wrap64 (a2 + 1)), .int .i64 0, .int .i64 ((rd_TMatch l1 a2).f0), .int .i64 ((rd_TMatch l1 a2).f1), .int .i64 ((rd_TMatch l1 a2).f2), .bool ((rd_TMatch l1 a2).f3)]) (ok := fun _ => True) (okp := fun _ => True) ?hr ?hp (fun _ hk => hk) trivial (Below.refl _ _) (Nat.le_refl _) (by simp) ?_; (case hd => rfl); (case hg => rfl); (case hr => first | (go_simp; done) | (go_simp; rfl)); (case hp => exact (Reps.c7 (show Kd.M kNote _ _ _ (⟨0, wrap64 (a2 + 1), 0, (⟨(rd_TMatch l1 a2).f0, (rd_TMatch l1 a2).f1, (rd_TMatch l1 a2).f2, (rd_TMatch l1 a2).f3⟩ : SMatch)⟩ : SNote) [.int .i64 0, .int .i64 (wrap64 (a2 + 1)), .int .i64 0, .int .i64 ((rd_TMatch l1 a2).f0), .int .i64 ((rd_TMatch l1 a2).f1), .int .i64 ((rd_TMatch l1 a2).f2), .bool ((rd_TMatch l1 a2).f3)] from (kNote_mkM _ _ _ (⟨0, wrap64 (a2 + 1), 0, (⟨(rd_TMatch l1 a2).f0, (rd_TMatch l1 a2).f1, (rd_TMatch l1 a2).f2, (rd_TMatch l1 a2).f3⟩ : SMatch)⟩ : SNote) )) (Reps.none _ _))); intro v201 w49 ho50 hb hg_ hnew_; clear hg_ hnew_; (first | rw [← Ny200.out] at ho50 | (simp only [Int.reduceToNat] at ho50; rw [← Ny200.out] at ho50)); have n0_ := Aside0.mk (Kd.R_lower ho50 (below_size (by repeat (first | (with_reducible first | exact HB.out | apply below_alloc | apply pw_below_drewN | apply below_drew1) | exact HB.out)))); have n1_ := Aside0.mk (below_step (by repeat (first | (with_reducible first | exact HB.out | apply below_alloc | apply pw_below_drewN | apply below_drew1) | exact HB.out)) hb); clear HB; have HO202 := n0_; have HB := n1_; clear n0_ n1_; clear hb ho50) | ((with_reducible refine gate_callee (f := 16) rfl ?_); refine goesL_ (some 42) rfl rfl Try.func16 (by kernel_rfl) rfl #[.slice none 0 0, .slice (some ad199) l1.length c1] rfl (by (try simp only [List.map_toArray, List.map_cons, List.map_nil]); first | done | rfl | (simp only [List.length_drop, List.length_take]; rfl)) ?_; (refine (audit_Right.calls _ _ ([] : List (SNote)) _ _ l1 true _ ?side1 ?side2 ?side3 ?side4 A14.out).mono ?_); (case side1 => exact Kd.C_nil _ _); (case side2 => exact Nat.le_refl _); (case side3 => repeat (first | exact (Kd.C_below HR1.out HB.out) | (with_reducible refine Kd.C_alloc ?_ _) | (with_reducible refine Kd.C_drewN ?_ _) | (with_reducible refine Kd.C_drew ?_))); (case side4 => exact HC1.out); rintro e w51 ⟨rfl, hb⟩; refine ⟨_, rfl, ?_⟩; have n0_ := Aside0.mk (Kd.R_below (by (with_reducible repeat (first | apply Kd.R_alloc | apply Kd.R_drewN | apply Kd.R_drew)); exact HO202.out) hb); have n1_ := Aside0.mk (below_step (by repeat (first | (with_reducible first | exact HB.out | apply below_alloc | apply pw_below_drewN | apply below_drew1) | exact HB.out)) hb); clear HO202; clear HB; have HO202 := n0_; have HB := n1_; clear n0_ n1_; (try clear hb); (try clear hb2); (try clear hk); (try clear hi); obtain ⟨Ao52, co52, eo52⟩ := Kd.R_slice HO202.out; subst eo52) | (go_at_call 16; (with_reducible refine (audit_Right.calls _ _ y200 _ _ l1 false _ ?side1 ?side2 ?side3 ?side4 A16.out).mono ?_); (case side1 => repeat (first | exact (Kd.R_reads' HO202.out).2.2 | (with_reducible refine Kd.C_alloc ?_ _) | (with_reducible refine Kd.C_drewN ?_ _) | (with_reducible refine Kd.C_drew ?_))); (case side2 => exact (Kd.R_reads' HO202.out).2.1); (case side3 => repeat (first | exact (Kd.C_below HR1.out HB.out) | (with_reducible refine Kd.C_alloc ?_ _) | (with_reducible refine Kd.C_drewN ?_ _) | (with_reducible refine Kd.C_drew ?_))); (case side4 => exact HC1.out); rintro e w53 ⟨rfl, hb⟩; have n0_ := Aside0.mk (Kd.R_below (by (with_reducible repeat (first | apply Kd.R_alloc | apply Kd.R_drewN | apply Kd.R_drew)); exact HO202.out) hb); have n1_ := Aside0.mk (below_step (by repeat (first | (with_reducible first | exact HB.out | apply below_alloc | apply pw_below_drewN | apply below_drew1) | exact HB.out)) hb); clear HO202; clear HB; have HO202 := n0_; have HB := n1_; clear n0_ n1_; (try clear hb); (try clear hb2); (try clear hk); (try clear hi)))
                go_ret
                exact ⟨by first | rfl | (simp [errW_none, errW_some] <;> rfl) | (simp [*, errW_none, errW_some] <;> rfl), by repeat (first | (with_reducible first | exact HB.out | apply below_alloc | apply pw_below_drewN | apply below_drew1) | exact HB.out)⟩
            · replace c15 := Bool.eq_false_iff.mpr c15
              subst c15
              have H1 : (some false) = some r := by rw [if_neg (show ¬ (false = true) by decide)] at H; exact H
              clear H
              have H := H1
              clear H1
              obtain rfl := Option.some.inj H
              have p199 : 0 ≤ (a2 : Int) := of_decide_eq_true (by first | (with_reducible assumption) | assumption)
              have q199 : a2 < (l1.length : Int) := of_decide_eq_true (by first | (with_reducible assumption) | assumption)
              obtain ⟨ad199, e199, hx199_0, hx199_1, hx199_2, hx199_3⟩ := at_TMatch HR1.out a2 p199 q199
              cases e199
              replace hx199_0 := (HB.out.cell (World.block_lt_of_cell? w _ hx199_0)).trans hx199_0
              replace hx199_1 := (HB.out.cell (World.block_lt_of_cell? w _ hx199_1)).trans hx199_1
              replace hx199_2 := (HB.out.cell (World.block_lt_of_cell? w _ hx199_2)).trans hx199_2
              replace hx199_3 := (HB.out.cell (World.block_lt_of_cell? w _ hx199_3)).trans hx199_3
              replace p199 := eq_true p199
              replace q199 := eq_true q199
              go_wp2_with (first | ((with_reducible refine gate_dst (N := 40) rfl ?_); (try (refine gate_guard (by rfl) ?_; dsimp only)); refine Kd.R_lit kNote _ 27 ?hg (N := 40) ?hd (xs := ([(⟨0, wrap64 (a2 + 1), 0, (⟨(rd_TMatch l1 a2).f0, (rd_TMatch l1 a2).f1, (rd_TMatch l1 a2).f2, (rd_TMatch l1 a2).f3⟩ : SMatch)⟩ : SNote)] : List (SNote))) (inner := [.int .i64 0, .int .i64 (wrap64 (a2 + 1)), .int .i64 0, .int .i64 ((rd_TMatch l1 a2).f0), .int .i64 ((rd_TMatch l1 a2).f1), .int .i64 ((rd_TMatch l1 a2).f2), .bool ((rd_TMatch l1 a2).f3)]) (ok := fun _ => True) (okp := fun _ => True) ?hr ?hp (fun _ hk => hk) trivial (Below.refl _ _) (Nat.le_refl _) (by simp) ?_; (case hd => rfl); (case hg => rfl); (case hr => first | (go_simp; done) | (go_simp; rfl)); (case hp => exact (Reps.c7 (show Kd.M kNote _ _ _ (⟨0, wrap64 (a2 + 1), 0, (⟨(rd_TMatch l1 a2).f0, (rd_TMatch l1 a2).f1, (rd_TMatch l1 a2).f2, (rd_TMatch l1 a2).f3⟩ : SMatch)⟩ : SNote) [.int .i64 0, .int .i64 (wrap64 (a2 + 1)), .int .i64 0, .int .i64 ((rd_TMatch l1 a2).f0), .int .i64 ((rd_TMatch l1 a2).f1), .int .i64 ((rd_TMatch l1 a2).f2), .bool ((rd_TMatch l1 a2).f3)] from (kNote_mkM _ _ _ (⟨0, wrap64 (a2 + 1), 0, (⟨(rd_TMatch l1 a2).f0, (rd_TMatch l1 a2).f1, (rd_TMatch l1 a2).f2, (rd_TMatch l1 a2).f3⟩ : SMatch)⟩ : SNote) )) (Reps.none _ _))); intro v201 w54 ho55 hb hg_ hnew_; clear hg_ hnew_; (first | rw [← Ny200.out] at ho55 | (simp only [Int.reduceToNat] at ho55; rw [← Ny200.out] at ho55)); have n0_ := Aside0.mk (Kd.R_lower ho55 (below_size (by repeat (first | (with_reducible first | exact HB.out | apply below_alloc | apply pw_below_drewN | apply below_drew1) | exact HB.out)))); have n1_ := Aside0.mk (below_step (by repeat (first | (with_reducible first | exact HB.out | apply below_alloc | apply pw_below_drewN | apply below_drew1) | exact HB.out)) hb); clear HB; have HO202 := n0_; have HB := n1_; clear n0_ n1_; clear hb ho55) | ((with_reducible refine gate_callee (f := 16) rfl ?_); refine goesL_ (some 42) rfl rfl Try.func16 (by kernel_rfl) rfl #[.slice none 0 0, .slice (some ad199) l1.length c1] rfl (by (try simp only [List.map_toArray, List.map_cons, List.map_nil]); first | done | rfl | (simp only [List.length_drop, List.length_take]; rfl)) ?_; (refine (audit_Right.calls _ _ ([] : List (SNote)) _ _ l1 false _ ?side1 ?side2 ?side3 ?side4 A14.out).mono ?_); (case side1 => exact Kd.C_nil _ _); (case side2 => exact Nat.le_refl _); (case side3 => repeat (first | exact (Kd.C_below HR1.out HB.out) | (with_reducible refine Kd.C_alloc ?_ _) | (with_reducible refine Kd.C_drewN ?_ _) | (with_reducible refine Kd.C_drew ?_))); (case side4 => exact HC1.out); rintro e w56 ⟨rfl, hb⟩; refine ⟨_, rfl, ?_⟩; have n0_ := Aside0.mk (Kd.R_below (by (with_reducible repeat (first | apply Kd.R_alloc | apply Kd.R_drewN | apply Kd.R_drew)); exact HO202.out) hb); have n1_ := Aside0.mk (below_step (by repeat (first | (with_reducible first | exact HB.out | apply below_alloc | apply pw_below_drewN | apply below_drew1) | exact HB.out)) hb); clear HO202; clear HB; have HO202 := n0_; have HB := n1_; clear n0_ n1_; (try clear hb); (try clear hb2); (try clear hk); (try clear hi)))
              go_ret
              exact ⟨by first | rfl | (simp [errW_none, errW_some] <;> rfl) | (simp [*, errW_none, errW_some] <;> rfl), by repeat (first | (with_reducible first | exact HB.out | apply below_alloc | apply pw_below_drewN | apply below_drew1) | exact HB.out)⟩
          · rw [if_neg c13] at H
            exact absurd H (by simp)
        · rw [if_neg c12] at H
          exact absurd H (by simp)

end Go.Proofs.Yteiaoanfdkgmoaa.P
