/- The functions that the laws of this seat reach, as plain Lean functions, and for each the contract of its call: no condition but those that each theorem names. -/
import Derived.Test.YteiaoanfdkgmoaaP0
import Derived.Test.YteiaoanfdkgmoaaP1
namespace Go.Proofs.Yteiaoanfdkgmoaa.P
open Go.RowKit Go.Proofs.YteiaoanfdkgmoaaW.PrintWords Go.Proofs.YteiaoanfdkgmoaaW.PrintLast Go.Proofs.YteiaoanfdkgmoaaW.PrintMore
attribute [local go_sem] max2_int min2_int max_two min_two max_three min_three max_four min_four   -- for this text's walks alone
set_option linter.unusedVariables false
set_option linter.unusedSimpArgs false

attribute [local go_sem high] eqAMatch
/-! ### towncrierref21_Right: function 21 -/
def towncrierref21_Right.l0 : Nat → List (SNote) → List (SMatch) → Int → Option (Bool)
  | 0, _, _, _ => none
  | k + 1, x0, x1, x5 => if x5 < (x0.length : Int) then (if 0 ≤ x5 then (if ((rd_TNote x0 x5).f2) = 0 then (if ((rd_TNote x0 x5).f1) < 1 then (some false) else (if ((rd_TNote x0 x5).f1) > (x1.length : Int) then (some false) else (if 0 ≤ (wrap64 (((rd_TNote x0 x5).f1) - 1)) then (if (wrap64 (((rd_TNote x0 x5).f1) - 1)) < (x1.length : Int) then (if (!(((rd_TMatch x1 (wrap64 (((rd_TNote x0 x5).f1) - 1))).f0) == ((rd_TNote x0 x5).f3.f0)) || (!(((rd_TMatch x1 (wrap64 (((rd_TNote x0 x5).f1) - 1))).f1) == ((rd_TNote x0 x5).f3.f1)) || (!(((rd_TMatch x1 (wrap64 (((rd_TNote x0 x5).f1) - 1))).f2) == ((rd_TNote x0 x5).f3.f2)) || (!(((rd_TMatch x1 (wrap64 (((rd_TNote x0 x5).f1) - 1))).f3) == ((rd_TNote x0 x5).f3.f3)))))) = true then (some false) else (towncrierref21_Right.l0 k x0 x1 (wrap64 (x5 + 1)))) else (none)) else (none)))) else (towncrierref21_Right.l0 k x0 x1 (wrap64 (x5 + 1)))) else (none)) else (some true)
def towncrierref21_Right.f (k : Nat) (l0 : List (SNote)) (l1 : List (SMatch)) : Option (Bool) := towncrierref21_Right.l0 k l0 l1 0
theorem towncrierref21_Right.mono_l : ∀ k, (∀ y0 y1 y2, LeO (towncrierref21_Right.l0 k y0 y1 y2) (towncrierref21_Right.l0 (k + 1) y0 y1 y2))
  | 0 => fun _ _ _ r h => by simp [towncrierref21_Right.l0] at h
  | k + 1 => by
    have ih0 := towncrierref21_Right.mono_l k
    · intro y0 y1 y2
      unfold towncrierref21_Right.l0
      repeat' first
      | (with_reducible exact ih0 _ _ _)
      | (with_reducible exact LeO.refl _)
      | (with_reducible exact LeO.none _)
      | (with_reducible refine LeO.ite ?_ ?_)
      | (with_reducible refine LeO.bind ?_ (fun _ => ?_))
      | exact ih0 _ _ _
      | exact LeO.none _
      | refine LeO.ite ?_ ?_
      | refine LeO.bind ?_ (fun _ => ?_)
theorem towncrierref21_Right.mono : ∀ a0 a1 k, LeO (towncrierref21_Right.f k a0 a1) (towncrierref21_Right.f (k + 1) a0 a1) := by
  intro a0 a1 k
  have ih0 := towncrierref21_Right.mono_l k
  unfold towncrierref21_Right.f
  repeat' first
      | (with_reducible exact ih0 _ _ _)
      | (with_reducible exact LeO.refl _)
      | (with_reducible exact LeO.none _)
      | (with_reducible refine LeO.ite ?_ ?_)
      | (with_reducible refine LeO.bind ?_ (fun _ => ?_))
      | exact ih0 _ _ _
      | exact LeO.none _
      | refine LeO.ite ?_ ?_
      | refine LeO.bind ?_ (fun _ => ?_)
set_option maxHeartbeats 8000000 in
set_option maxRecDepth 100000 in
theorem towncrierref21_Right.calls (k : Nat) (A0 : Option Addr) (c0 : Nat) (l0 : List (SNote)) (A1 : Option Addr) (c1 : Nat) (l1 : List (SMatch)) (r : Bool) (w : World) (hr0 : Kd.C kNote w A0 l0.length l0) (hc0 : l0.length ≤ c0) (hr1 : Kd.C kMatch w A1 l1.length l1) (hc1 : l1.length ≤ c1) (h : towncrierref21_Right.f k l0 l1 = some r) :
    Calls Try.prog 21 #[.slice A0 l0.length c0, .slice A1 l1.length c1] w fun e w' => e = .returned (.bool r) ∧ Drawn0 w w' := by
  have hu25 := Try.underlying25
  have HR0 := Aside0.mk hr0
  have HC0 := Aside0.mk hc0
  clear hr0 hc0
  have HR1 := Aside0.mk hr1
  have HC1 := Aside0.mk hc1
  clear hr1 hc1
  have H : (towncrierref21_Right.l0 k l0 l1 0) = some r := h
  clear h
  have H' := Aside0.mk H
  clear H
  go_enter Try.func21, Try.ntmps21
  go_wp2
  repeat (go_quiet (fail); try go_wp2)
  go_loopg [5] k (fun kq v5 w' => ∃ (x5_1 : Int), v5 = .int .i64 x5_1 ∧ Aside0 (towncrierref21_Right.l0 kq l0 l1 x5_1 = some r) ∧ Aside0 (kq ≤ k) ∧ Drawn0 w w')
  case atStart => exact ⟨(0), (by first | rfl | (simp; done) | (simp [*]; done)), H', ⟨Nat.le_refl _⟩, by repeat (first | exact Drawn0.refl _ | apply Drawn0.step)⟩
  case round =>
    clear H'
    try clear c1
    try clear c2
    try clear p2
    obtain ⟨x5_1, rfl, HA, HK1, ⟨m1, rfl⟩⟩ := hrel
    cases gk with
    | zero => exact absurd HA.out (by simp [towncrierref21_Right.l0])
    | succ k1 =>
      have H := HA.out
      clear HA
      simp only [towncrierref21_Right.l0] at H
      by_cases c3 : x5_1 < (l0.length : Int)
      · rw [if_pos c3] at H
        have c3b0 : decide (x5_1 < (l0.length : Int)) = true := decide_eq_true c3
        clear c3
        by_cases c4 : 0 ≤ x5_1
        · rw [if_pos c4] at H
          have c4b0 : decide (0 ≤ x5_1) = true := decide_eq_true c4
          clear c4
          by_cases c5 : ((rd_TNote l0 x5_1).f2) = 0
          · rw [if_pos c5] at H
            have c5b0 : (((rd_TNote l0 x5_1).f2) == 0) = true := beq_iff_eq.mpr c5
            have c5b1 : (((rd_TNote l0 x5_1).f2) != 0) = false := bne_eq_false_iff_eq.mpr c5
            clear c5
            by_cases c6 : ((rd_TNote l0 x5_1).f1) < 1
            · rw [if_pos c6] at H
              have c6b0 : decide (((rd_TNote l0 x5_1).f1) < 1) = true := decide_eq_true c6
              clear c6
              obtain rfl := Option.some.inj H
              have p252 : 0 ≤ (x5_1 : Int) := of_decide_eq_true (by first | (with_reducible assumption) | assumption)
              have q252 : x5_1 < (l0.length : Int) := of_decide_eq_true (by first | (with_reducible assumption) | assumption)
              obtain ⟨ad252, e252, hx252_0, hx252_1, hx252_2, hx252_3, hx252_4, hx252_5, hx252_6⟩ := at_TNote HR0.out x5_1 p252 q252
              cases e252
              replace p252 := eq_true p252
              replace q252 := eq_true q252
              have p253 : 0 ≤ (x5_1 : Int) := of_decide_eq_true (by first | (with_reducible assumption) | assumption)
              have q253 : x5_1 < (l0.length : Int) := of_decide_eq_true (by first | (with_reducible assumption) | assumption)
              obtain ⟨ad253, e253, hx253_0, hx253_1, hx253_2, hx253_3, hx253_4, hx253_5, hx253_6⟩ := at_TNote HR0.out x5_1 p253 q253
              obtain rfl : ad252 = ad253 := (by injection e253)
              replace p253 := eq_true p253
              replace q253 := eq_true q253
              go_wp2
              repeat (go_quiet (fail); try go_wp2)
              go_ret
              exact ⟨by first | rfl | (simp; done) | (simp [*]; done), by repeat (first | exact Drawn0.refl _ | apply Drawn0.step)⟩
            · rw [if_neg c6] at H
              have c6b0 : decide (((rd_TNote l0 x5_1).f1) < 1) = false := decide_eq_false c6
              clear c6
              by_cases c7 : ((rd_TNote l0 x5_1).f1) > (l1.length : Int)
              · rw [if_pos c7] at H
                have c7b0 : decide ((l1.length : Int) < ((rd_TNote l0 x5_1).f1)) = true := decide_eq_true c7
                clear c7
                obtain rfl := Option.some.inj H
                have p252 : 0 ≤ (x5_1 : Int) := of_decide_eq_true (by first | (with_reducible assumption) | assumption)
                have q252 : x5_1 < (l0.length : Int) := of_decide_eq_true (by first | (with_reducible assumption) | assumption)
                obtain ⟨ad252, e252, hx252_0, hx252_1, hx252_2, hx252_3, hx252_4, hx252_5, hx252_6⟩ := at_TNote HR0.out x5_1 p252 q252
                cases e252
                replace p252 := eq_true p252
                replace q252 := eq_true q252
                have p253 : 0 ≤ (x5_1 : Int) := of_decide_eq_true (by first | (with_reducible assumption) | assumption)
                have q253 : x5_1 < (l0.length : Int) := of_decide_eq_true (by first | (with_reducible assumption) | assumption)
                obtain ⟨ad253, e253, hx253_0, hx253_1, hx253_2, hx253_3, hx253_4, hx253_5, hx253_6⟩ := at_TNote HR0.out x5_1 p253 q253
                obtain rfl : ad252 = ad253 := (by injection e253)
                replace p253 := eq_true p253
                replace q253 := eq_true q253
                go_wp2
                repeat (go_quiet (fail); try go_wp2)
                go_ret
                exact ⟨by first | rfl | (simp; done) | (simp [*]; done), by repeat (first | exact Drawn0.refl _ | apply Drawn0.step)⟩
              · rw [if_neg c7] at H
                have c7b0 : decide ((l1.length : Int) < ((rd_TNote l0 x5_1).f1)) = false := decide_eq_false c7
                clear c7
                obtain ⟨ji8, hji8⟩ : ∃ j_ : Int, (wrap64 (((rd_TNote l0 x5_1).f1) - 1)) = j_ := ⟨_, rfl⟩
                replace H : (if 0 ≤ (ji8) then (if (ji8) < (l1.length : Int) then (if (!(((rd_TMatch l1 (ji8)).f0) == ((rd_TNote l0 x5_1).f3.f0)) || (!(((rd_TMatch l1 (ji8)).f1) == ((rd_TNote l0 x5_1).f3.f1)) || (!(((rd_TMatch l1 (ji8)).f2) == ((rd_TNote l0 x5_1).f3.f2)) || (!(((rd_TMatch l1 (ji8)).f3) == ((rd_TNote l0 x5_1).f3.f3)))))) = true then (some false) else (towncrierref21_Right.l0 k1 l0 l1 (wrap64 (x5_1 + 1)))) else (none)) else (none)) = some r := by first | (rw [hji8] at H; exact H) | (simp only [hji8] at H ⊢; exact H)
                have hji8w : (IntKind.i64.wrap (((rd_TNote l0 x5_1).f1) - 1)) = ji8 := (i64_w _).trans hji8
                by_cases c9 : 0 ≤ (ji8)
                · rw [if_pos c9] at H
                  have c9b0 : decide (0 ≤ (ji8)) = true := decide_eq_true c9
                  clear c9
                  by_cases c10 : (ji8) < (l1.length : Int)
                  · rw [if_pos c10] at H
                    have c10b0 : decide ((ji8) < (l1.length : Int)) = true := decide_eq_true c10
                    clear c10
                    by_cases c11 : (!(((rd_TMatch l1 (ji8)).f0) == ((rd_TNote l0 x5_1).f3.f0)) || (!(((rd_TMatch l1 (ji8)).f1) == ((rd_TNote l0 x5_1).f3.f1)) || (!(((rd_TMatch l1 (ji8)).f2) == ((rd_TNote l0 x5_1).f3.f2)) || (!(((rd_TMatch l1 (ji8)).f3) == ((rd_TNote l0 x5_1).f3.f3)))))) = true
                    · rw [if_pos c11] at H
                      have c11b0 : (!(((rd_TMatch l1 (ji8)).f0) == ((rd_TNote l0 x5_1).f3.f0)) || (!(((rd_TMatch l1 (ji8)).f1) == ((rd_TNote l0 x5_1).f3.f1)) || (!(((rd_TMatch l1 (ji8)).f2) == ((rd_TNote l0 x5_1).f3.f2)) || (!(((rd_TMatch l1 (ji8)).f3) == ((rd_TNote l0 x5_1).f3.f3)))))) = true := c11
                      clear c11
                      obtain rfl := Option.some.inj H
                      have p252 : 0 ≤ (x5_1 : Int) := of_decide_eq_true (by first | (with_reducible assumption) | assumption)
                      have q252 : x5_1 < (l0.length : Int) := of_decide_eq_true (by first | (with_reducible assumption) | assumption)
                      obtain ⟨ad252, e252, hx252_0, hx252_1, hx252_2, hx252_3, hx252_4, hx252_5, hx252_6⟩ := at_TNote HR0.out x5_1 p252 q252
                      cases e252
                      replace p252 := eq_true p252
                      replace q252 := eq_true q252
                      have p253 : 0 ≤ (x5_1 : Int) := of_decide_eq_true (by first | (with_reducible assumption) | assumption)
                      have q253 : x5_1 < (l0.length : Int) := of_decide_eq_true (by first | (with_reducible assumption) | assumption)
                      obtain ⟨ad253, e253, hx253_0, hx253_1, hx253_2, hx253_3, hx253_4, hx253_5, hx253_6⟩ := at_TNote HR0.out x5_1 p253 q253
                      obtain rfl : ad252 = ad253 := (by injection e253)
                      replace p253 := eq_true p253
                      replace q253 := eq_true q253
                      have p254 : 0 ≤ ((ji8) : Int) := of_decide_eq_true (by first | (with_reducible assumption) | assumption)
                      have q254 : (ji8) < (l1.length : Int) := of_decide_eq_true (by first | (with_reducible assumption) | assumption)
                      obtain ⟨ad254, e254, hx254_0, hx254_1, hx254_2, hx254_3⟩ := at_TMatch HR1.out (ji8) p254 q254
                      cases e254
                      replace p254 := eq_true p254
                      replace q254 := eq_true q254
                      have p255 : 0 ≤ (x5_1 : Int) := of_decide_eq_true (by first | (with_reducible assumption) | assumption)
                      have q255 : x5_1 < (l0.length : Int) := of_decide_eq_true (by first | (with_reducible assumption) | assumption)
                      obtain ⟨ad255, e255, hx255_0, hx255_1, hx255_2, hx255_3, hx255_4, hx255_5, hx255_6⟩ := at_TNote HR0.out x5_1 p255 q255
                      obtain rfl : ad252 = ad255 := (by injection e255)
                      replace p255 := eq_true p255
                      replace q255 := eq_true q255
                      go_wp2
                      repeat (go_quiet (fail); try go_wp2)
                      go_ret
                      exact ⟨by first | rfl | (simp; done) | (simp only [← hji8] <;> (first | rfl | simp)) | (simp [*]; done), by repeat (first | exact Drawn0.refl _ | apply Drawn0.step)⟩
                    · rw [if_neg c11] at H
                      have c11b0 : (!(((rd_TMatch l1 (ji8)).f0) == ((rd_TNote l0 x5_1).f3.f0)) || (!(((rd_TMatch l1 (ji8)).f1) == ((rd_TNote l0 x5_1).f3.f1)) || (!(((rd_TMatch l1 (ji8)).f2) == ((rd_TNote l0 x5_1).f3.f2)) || (!(((rd_TMatch l1 (ji8)).f3) == ((rd_TNote l0 x5_1).f3.f3)))))) = false := by simpa using c11
                      clear c11
                      have H' := Aside0.mk H
                      clear H
                      have p252 : 0 ≤ (x5_1 : Int) := of_decide_eq_true (by first | (with_reducible assumption) | assumption)
                      have q252 : x5_1 < (l0.length : Int) := of_decide_eq_true (by first | (with_reducible assumption) | assumption)
                      obtain ⟨ad252, e252, hx252_0, hx252_1, hx252_2, hx252_3, hx252_4, hx252_5, hx252_6⟩ := at_TNote HR0.out x5_1 p252 q252
                      cases e252
                      replace p252 := eq_true p252
                      replace q252 := eq_true q252
                      have p253 : 0 ≤ (x5_1 : Int) := of_decide_eq_true (by first | (with_reducible assumption) | assumption)
                      have q253 : x5_1 < (l0.length : Int) := of_decide_eq_true (by first | (with_reducible assumption) | assumption)
                      obtain ⟨ad253, e253, hx253_0, hx253_1, hx253_2, hx253_3, hx253_4, hx253_5, hx253_6⟩ := at_TNote HR0.out x5_1 p253 q253
                      obtain rfl : ad252 = ad253 := (by injection e253)
                      replace p253 := eq_true p253
                      replace q253 := eq_true q253
                      have p254 : 0 ≤ ((ji8) : Int) := of_decide_eq_true (by first | (with_reducible assumption) | assumption)
                      have q254 : (ji8) < (l1.length : Int) := of_decide_eq_true (by first | (with_reducible assumption) | assumption)
                      obtain ⟨ad254, e254, hx254_0, hx254_1, hx254_2, hx254_3⟩ := at_TMatch HR1.out (ji8) p254 q254
                      cases e254
                      replace p254 := eq_true p254
                      replace q254 := eq_true q254
                      have p255 : 0 ≤ (x5_1 : Int) := of_decide_eq_true (by first | (with_reducible assumption) | assumption)
                      have q255 : x5_1 < (l0.length : Int) := of_decide_eq_true (by first | (with_reducible assumption) | assumption)
                      obtain ⟨ad255, e255, hx255_0, hx255_1, hx255_2, hx255_3, hx255_4, hx255_5, hx255_6⟩ := at_TNote HR0.out x5_1 p255 q255
                      obtain rfl : ad252 = ad255 := (by injection e255)
                      replace p255 := eq_true p255
                      replace q255 := eq_true q255
                      go_wp2
                      repeat (go_quiet (fail); try go_wp2)
                      go_roundg k1
                      case measure => have := HK1.out; omega
                      case rel => exact ⟨(wrap64 (x5_1 + 1)), (by first | rfl | (simp; done) | (simp [*]; done)), H', ⟨by have := HK1.out; omega⟩, by repeat (first | exact Drawn0.refl _ | apply Drawn0.step)⟩
                  · rw [if_neg c10] at H
                    exact absurd H (by simp)
                · rw [if_neg c9] at H
                  exact absurd H (by simp)
          · rw [if_neg c5] at H
            have c5b0 : (((rd_TNote l0 x5_1).f2) == 0) = false := beq_eq_false_iff_ne.mpr c5
            have c5b1 : (((rd_TNote l0 x5_1).f2) != 0) = true := bne_iff_ne.mpr c5
            have H' := Aside0.mk H
            clear H
            have p252 : 0 ≤ (x5_1 : Int) := of_decide_eq_true (by first | (with_reducible assumption) | assumption)
            have q252 : x5_1 < (l0.length : Int) := of_decide_eq_true (by first | (with_reducible assumption) | assumption)
            obtain ⟨ad252, e252, hx252_0, hx252_1, hx252_2, hx252_3, hx252_4, hx252_5, hx252_6⟩ := at_TNote HR0.out x5_1 p252 q252
            cases e252
            replace p252 := eq_true p252
            replace q252 := eq_true q252
            have p253 : 0 ≤ (x5_1 : Int) := of_decide_eq_true (by first | (with_reducible assumption) | assumption)
            have q253 : x5_1 < (l0.length : Int) := of_decide_eq_true (by first | (with_reducible assumption) | assumption)
            obtain ⟨ad253, e253, hx253_0, hx253_1, hx253_2, hx253_3, hx253_4, hx253_5, hx253_6⟩ := at_TNote HR0.out x5_1 p253 q253
            obtain rfl : ad252 = ad253 := (by injection e253)
            replace p253 := eq_true p253
            replace q253 := eq_true q253
            go_wp2
            repeat (go_quiet (fail); try go_wp2)
            go_roundg k1
            case measure => have := HK1.out; omega
            case rel => exact ⟨(wrap64 (x5_1 + 1)), (by first | rfl | (simp; done) | (simp [*]; done)), H', ⟨by have := HK1.out; omega⟩, by repeat (first | exact Drawn0.refl _ | apply Drawn0.step)⟩
        · rw [if_neg c4] at H
          exact absurd H (by simp)
      · rw [if_neg c3] at H
        have c3b0 : decide (x5_1 < (l0.length : Int)) = false := decide_eq_false c3
        clear c3
        obtain rfl := Option.some.inj H
        go_wp2
        repeat (go_quiet (fail); try go_wp2)
        go_ret
        exact ⟨by first | rfl | (simp; done) | (simp [*]; done), by repeat (first | exact Drawn0.refl _ | apply Drawn0.step)⟩

end Go.Proofs.Yteiaoanfdkgmoaa.P
