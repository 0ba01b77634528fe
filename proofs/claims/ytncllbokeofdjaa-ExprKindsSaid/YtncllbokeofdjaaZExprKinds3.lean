/- What ExprKinds's row stands on: words, contracts of the functions that it reaches, plain facts, its walk (part 3): no condition but those that each theorem names. -/
import Derived.Test.YtncllbokeofdjaaZExprKinds2
set_option linter.unusedVariables false
set_option linter.unusedSimpArgs false
namespace Go.Proofs.Ytncllbokeofdjaa.P
open Go.RowKit Go.Proofs.YtncllbokeofdjaaW.PrintWords Go.Proofs.YtncllbokeofdjaaW.PrintLast Go.Proofs.YtncllbokeofdjaaW.PrintMore
attribute [local go_sem] max2_int min2_int max_two min_two max_three min_three max_four min_four   -- for this text's walks alone
set_option linter.unusedVariables false
set_option linter.unusedSimpArgs false
attribute [local go_sem high] eqAValue
attribute [local go_sem high] eqAValue
set_option maxHeartbeats 8000000 in
set_option maxRecDepth 100000 in
theorem may1O_told (w : World) : TellsW Try.prog kOp 57 #[] (fun x => !mayP x) (fun x => i64V x.f2) w := by
  intro x cs W hwf hW hK
  obtain rfl := kOp_open hK
  have HWF := Aside0.mk hwf
  obtain ⟨b, hb⟩ : ∃ b, mayV x.f2 = b := ⟨_, rfl⟩
  have HM := Aside0.mk hb
  have hne := @neV x.f2 zeroV
  have heq : (x.f2.f0 == 0 && (x.f2.f1 == 0 && x.f2.f2.toList.isEmpty)) = eqV x.f2 zeroV := by unfold eqV zeroV; rw [show (⟨#[]⟩ : ByteArray).toList = [] from by decide +kernel]; cases x.f2.f2.toList <;> rfl
  obtain ⟨q, hq⟩ : ∃ q, eqV x.f2 zeroV = q := ⟨_, rfl⟩
  rw [hq] at heq
  have HQ := Aside0.mk hq
  clear hne hq
  show Calls _ _ #[.agg #[.int .i64 x.f0, .int .i64 x.f1, .int .i64 x.f2.f0, .int .i64 x.f2.f1, .string x.f2.f2]] W (boolPost (!(mayP x)) W)
  have HP := Aside0.mk (show mayP x = (decide (0 ≤ x.f0) && (decide (x.f0 < 10) && (decide (0 ≤ x.f1) && (decide (x.f1 < 6) && ((x.f0 == 1 || x.f1 == 0) && ((x.f0 == 0 || q) && b)))))) from by rw [← hb, ← HQ.out]; rfl)
  rw [HP.out]
  clear hW hK hwf hb
  by_cases e1 : x.f0 = 1
  · have e10 : (x.f0 == 1) = true := beq_iff_eq.2 e1
    have e3 : (x.f0 == 0) = false := beq_eq_false_iff_ne.2 (by omega)
    have g0 : decide (x.f0 < 0) = false := decide_eq_false (by omega)
    have g1 : decide (10 ≤ x.f0) = false := decide_eq_false (by omega)
    cases q
    · by_cases hsb2 : x.f1 < 0
      · have hsb20 : decide (x.f1 < 0) = true := decide_eq_true hsb2
        have hres : (!(decide (0 ≤ x.f0) && (decide (x.f0 < 10) && (decide (0 ≤ x.f1) && (decide (x.f1 < 6) && ((x.f0 == 1 || x.f1 == 0) && ((x.f0 == 0 || false) && b))))))) = true := by clear HP HQ heq HM HWF; cases b <;> simp [*] <;> omega
        rw [hres]
        clear hres
        go_enter Try.func57, Try.ntmps57
        go_wp2
        go_ret
        exact ⟨rfl, below_alloc (Below.refl _ _) _⟩
      · have hsb20 : decide (x.f1 < 0) = false := decide_eq_false (by omega)
        by_cases hsb3 : 6 ≤ x.f1
        · have hsb30 : decide (6 ≤ x.f1) = true := decide_eq_true hsb3
          have hres : (!(decide (0 ≤ x.f0) && (decide (x.f0 < 10) && (decide (0 ≤ x.f1) && (decide (x.f1 < 6) && ((x.f0 == 1 || x.f1 == 0) && ((x.f0 == 0 || false) && b))))))) = true := by clear HP HQ heq HM HWF; cases b <;> simp [*] <;> omega
          rw [hres]
          clear hres
          go_enter Try.func57, Try.ntmps57
          go_wp2
          go_ret
          exact ⟨rfl, below_alloc (Below.refl _ _) _⟩
        · have hsb30 : decide (6 ≤ x.f1) = false := decide_eq_false (by omega)
          have hres : (!(decide (0 ≤ x.f0) && (decide (x.f0 < 10) && (decide (0 ≤ x.f1) && (decide (x.f1 < 6) && ((x.f0 == 1 || x.f1 == 0) && ((x.f0 == 0 || false) && b))))))) = true := by clear HP HQ heq HM HWF; cases b <;> simp [*] <;> omega
          rw [hres]
          clear hres
          go_enter Try.func57, Try.ntmps57
          go_wp2
          go_ret
          exact ⟨rfl, below_alloc (Below.refl _ _) _⟩
    · by_cases hsb2 : x.f1 < 0
      · have hsb20 : decide (x.f1 < 0) = true := decide_eq_true hsb2
        have hres : (!(decide (0 ≤ x.f0) && (decide (x.f0 < 10) && (decide (0 ≤ x.f1) && (decide (x.f1 < 6) && ((x.f0 == 1 || x.f1 == 0) && ((x.f0 == 0 || true) && b))))))) = true := by clear HP HQ heq HM HWF; cases b <;> simp [*] <;> omega
        rw [hres]
        clear hres
        go_enter Try.func57, Try.ntmps57
        go_wp2
        go_ret
        exact ⟨rfl, below_alloc (Below.refl _ _) _⟩
      · have hsb20 : decide (x.f1 < 0) = false := decide_eq_false (by omega)
        by_cases hsb3 : 6 ≤ x.f1
        · have hsb30 : decide (6 ≤ x.f1) = true := decide_eq_true hsb3
          have hres : (!(decide (0 ≤ x.f0) && (decide (x.f0 < 10) && (decide (0 ≤ x.f1) && (decide (x.f1 < 6) && ((x.f0 == 1 || x.f1 == 0) && ((x.f0 == 0 || true) && b))))))) = true := by clear HP HQ heq HM HWF; cases b <;> simp [*] <;> omega
          rw [hres]
          clear hres
          go_enter Try.func57, Try.ntmps57
          go_wp2
          go_ret
          exact ⟨rfl, below_alloc (Below.refl _ _) _⟩
        · have hsb30 : decide (6 ≤ x.f1) = false := decide_eq_false (by omega)
          have hres : (!(decide (0 ≤ x.f0) && (decide (x.f0 < 10) && (decide (0 ≤ x.f1) && (decide (x.f1 < 6) && ((x.f0 == 1 || x.f1 == 0) && ((x.f0 == 0 || true) && b))))))) = !b := by clear HP HQ heq HM HWF; cases b <;> simp [*] <;> omega
          rw [hres]
          clear hres
          go_enter Try.func57, Try.ntmps57
          go_wp2_with (go_at_call 27; refine (mayV_told x.f2 _ HWF.out HM.out).mono ?_; rintro e w1 ⟨rfl, hb1⟩)
          go_ret
          exact ⟨rfl, below_step (below_alloc (Below.refl _ _) _) hb1⟩
  · have e10 : (x.f0 == 1) = false := beq_eq_false_iff_ne.2 e1
    by_cases e2 : x.f1 = 0
    · have e20 : (x.f1 == 0) = true := beq_iff_eq.2 e2
      by_cases e3 : x.f0 = 0
      · have e30 : (x.f0 == 0) = true := beq_iff_eq.2 e3
        have g0 : decide (x.f0 < 0) = false := decide_eq_false (by omega)
        have g1 : decide (10 ≤ x.f0) = false := decide_eq_false (by omega)
        have g2 : decide (x.f1 < 0) = false := decide_eq_false (by omega)
        have g3 : decide (6 ≤ x.f1) = false := decide_eq_false (by omega)
        have hres : (!(decide (0 ≤ x.f0) && (decide (x.f0 < 10) && (decide (0 ≤ x.f1) && (decide (x.f1 < 6) && ((x.f0 == 1 || x.f1 == 0) && ((x.f0 == 0 || q) && b))))))) = !b := by clear HP HQ heq HM HWF; cases b <;> simp [*] <;> omega
        rw [hres]
        clear hres
        go_enter Try.func57, Try.ntmps57
        go_wp2_with (go_at_call 27; refine (mayV_told x.f2 _ HWF.out HM.out).mono ?_; rintro e w1 ⟨rfl, hb1⟩)
        go_ret
        exact ⟨rfl, below_step (below_alloc (Below.refl _ _) _) hb1⟩
      · have e30 : (x.f0 == 0) = false := beq_eq_false_iff_ne.2 e3
        have g2 : decide (x.f1 < 0) = false := decide_eq_false (by omega)
        have g3 : decide (6 ≤ x.f1) = false := decide_eq_false (by omega)
        cases q
        · by_cases hsb0 : x.f0 < 0
          · have hsb00 : decide (x.f0 < 0) = true := decide_eq_true hsb0
            have hres : (!(decide (0 ≤ x.f0) && (decide (x.f0 < 10) && (decide (0 ≤ x.f1) && (decide (x.f1 < 6) && ((x.f0 == 1 || x.f1 == 0) && ((x.f0 == 0 || false) && b))))))) = true := by clear HP HQ heq HM HWF; cases b <;> simp [*] <;> omega
            rw [hres]
            clear hres
            go_enter Try.func57, Try.ntmps57
            go_wp2
            go_ret
            exact ⟨rfl, below_alloc (Below.refl _ _) _⟩
          · have hsb00 : decide (x.f0 < 0) = false := decide_eq_false (by omega)
            by_cases hsb1 : 10 ≤ x.f0
            · have hsb10 : decide (10 ≤ x.f0) = true := decide_eq_true hsb1
              have hres : (!(decide (0 ≤ x.f0) && (decide (x.f0 < 10) && (decide (0 ≤ x.f1) && (decide (x.f1 < 6) && ((x.f0 == 1 || x.f1 == 0) && ((x.f0 == 0 || false) && b))))))) = true := by clear HP HQ heq HM HWF; cases b <;> simp [*] <;> omega
              rw [hres]
              clear hres
              go_enter Try.func57, Try.ntmps57
              go_wp2
              go_ret
              exact ⟨rfl, below_alloc (Below.refl _ _) _⟩
            · have hsb10 : decide (10 ≤ x.f0) = false := decide_eq_false (by omega)
              have hres : (!(decide (0 ≤ x.f0) && (decide (x.f0 < 10) && (decide (0 ≤ x.f1) && (decide (x.f1 < 6) && ((x.f0 == 1 || x.f1 == 0) && ((x.f0 == 0 || false) && b))))))) = true := by clear HP HQ heq HM HWF; cases b <;> simp [*] <;> omega
              rw [hres]
              clear hres
              go_enter Try.func57, Try.ntmps57
              go_wp2
              go_ret
              exact ⟨rfl, below_alloc (Below.refl _ _) _⟩
        · by_cases hsb0 : x.f0 < 0
          · have hsb00 : decide (x.f0 < 0) = true := decide_eq_true hsb0
            have hres : (!(decide (0 ≤ x.f0) && (decide (x.f0 < 10) && (decide (0 ≤ x.f1) && (decide (x.f1 < 6) && ((x.f0 == 1 || x.f1 == 0) && ((x.f0 == 0 || true) && b))))))) = true := by clear HP HQ heq HM HWF; cases b <;> simp [*] <;> omega
            rw [hres]
            clear hres
            go_enter Try.func57, Try.ntmps57
            go_wp2
            go_ret
            exact ⟨rfl, below_alloc (Below.refl _ _) _⟩
          · have hsb00 : decide (x.f0 < 0) = false := decide_eq_false (by omega)
            by_cases hsb1 : 10 ≤ x.f0
            · have hsb10 : decide (10 ≤ x.f0) = true := decide_eq_true hsb1
              have hres : (!(decide (0 ≤ x.f0) && (decide (x.f0 < 10) && (decide (0 ≤ x.f1) && (decide (x.f1 < 6) && ((x.f0 == 1 || x.f1 == 0) && ((x.f0 == 0 || true) && b))))))) = true := by clear HP HQ heq HM HWF; cases b <;> simp [*] <;> omega
              rw [hres]
              clear hres
              go_enter Try.func57, Try.ntmps57
              go_wp2
              go_ret
              exact ⟨rfl, below_alloc (Below.refl _ _) _⟩
            · have hsb10 : decide (10 ≤ x.f0) = false := decide_eq_false (by omega)
              have hres : (!(decide (0 ≤ x.f0) && (decide (x.f0 < 10) && (decide (0 ≤ x.f1) && (decide (x.f1 < 6) && ((x.f0 == 1 || x.f1 == 0) && ((x.f0 == 0 || true) && b))))))) = !b := by clear HP HQ heq HM HWF; cases b <;> simp [*] <;> omega
              rw [hres]
              clear hres
              go_enter Try.func57, Try.ntmps57
              go_wp2_with (go_at_call 27; refine (mayV_told x.f2 _ HWF.out HM.out).mono ?_; rintro e w1 ⟨rfl, hb1⟩)
              go_ret
              exact ⟨rfl, below_step (below_alloc (Below.refl _ _) _) hb1⟩
    · have e20 : (x.f1 == 0) = false := beq_eq_false_iff_ne.2 e2
      by_cases e3 : x.f0 = 0
      · have e30 : (x.f0 == 0) = true := beq_iff_eq.2 e3
        have g0 : decide (x.f0 < 0) = false := decide_eq_false (by omega)
        have g1 : decide (10 ≤ x.f0) = false := decide_eq_false (by omega)
        by_cases hsb2 : x.f1 < 0
        · have hsb20 : decide (x.f1 < 0) = true := decide_eq_true hsb2
          have hres : (!(decide (0 ≤ x.f0) && (decide (x.f0 < 10) && (decide (0 ≤ x.f1) && (decide (x.f1 < 6) && ((x.f0 == 1 || x.f1 == 0) && ((x.f0 == 0 || q) && b))))))) = true := by clear HP HQ heq HM HWF; cases b <;> simp [*] <;> omega
          rw [hres]
          clear hres
          go_enter Try.func57, Try.ntmps57
          go_wp2
          go_ret
          exact ⟨rfl, below_alloc (Below.refl _ _) _⟩
        · have hsb20 : decide (x.f1 < 0) = false := decide_eq_false (by omega)
          by_cases hsb3 : 6 ≤ x.f1
          · have hsb30 : decide (6 ≤ x.f1) = true := decide_eq_true hsb3
            have hres : (!(decide (0 ≤ x.f0) && (decide (x.f0 < 10) && (decide (0 ≤ x.f1) && (decide (x.f1 < 6) && ((x.f0 == 1 || x.f1 == 0) && ((x.f0 == 0 || q) && b))))))) = true := by clear HP HQ heq HM HWF; cases b <;> simp [*] <;> omega
            rw [hres]
            clear hres
            go_enter Try.func57, Try.ntmps57
            go_wp2
            go_ret
            exact ⟨rfl, below_alloc (Below.refl _ _) _⟩
          · have hsb30 : decide (6 ≤ x.f1) = false := decide_eq_false (by omega)
            have hres : (!(decide (0 ≤ x.f0) && (decide (x.f0 < 10) && (decide (0 ≤ x.f1) && (decide (x.f1 < 6) && ((x.f0 == 1 || x.f1 == 0) && ((x.f0 == 0 || q) && b))))))) = true := by clear HP HQ heq HM HWF; cases b <;> simp [*] <;> omega
            rw [hres]
            clear hres
            go_enter Try.func57, Try.ntmps57
            go_wp2
            go_ret
            exact ⟨rfl, below_alloc (Below.refl _ _) _⟩
      · have e30 : (x.f0 == 0) = false := beq_eq_false_iff_ne.2 e3
        cases q
        · by_cases hsb0 : x.f0 < 0
          · have hsb00 : decide (x.f0 < 0) = true := decide_eq_true hsb0
            have hres : (!(decide (0 ≤ x.f0) && (decide (x.f0 < 10) && (decide (0 ≤ x.f1) && (decide (x.f1 < 6) && ((x.f0 == 1 || x.f1 == 0) && ((x.f0 == 0 || false) && b))))))) = true := by clear HP HQ heq HM HWF; cases b <;> simp [*] <;> omega
            rw [hres]
            clear hres
            go_enter Try.func57, Try.ntmps57
            go_wp2
            go_ret
            exact ⟨rfl, below_alloc (Below.refl _ _) _⟩
          · have hsb00 : decide (x.f0 < 0) = false := decide_eq_false (by omega)
            by_cases hsb1 : 10 ≤ x.f0
            · have hsb10 : decide (10 ≤ x.f0) = true := decide_eq_true hsb1
              have hres : (!(decide (0 ≤ x.f0) && (decide (x.f0 < 10) && (decide (0 ≤ x.f1) && (decide (x.f1 < 6) && ((x.f0 == 1 || x.f1 == 0) && ((x.f0 == 0 || false) && b))))))) = true := by clear HP HQ heq HM HWF; cases b <;> simp [*] <;> omega
              rw [hres]
              clear hres
              go_enter Try.func57, Try.ntmps57
              go_wp2
              go_ret
              exact ⟨rfl, below_alloc (Below.refl _ _) _⟩
            · have hsb10 : decide (10 ≤ x.f0) = false := decide_eq_false (by omega)
              by_cases hsb2 : x.f1 < 0
              · have hsb20 : decide (x.f1 < 0) = true := decide_eq_true hsb2
                have hres : (!(decide (0 ≤ x.f0) && (decide (x.f0 < 10) && (decide (0 ≤ x.f1) && (decide (x.f1 < 6) && ((x.f0 == 1 || x.f1 == 0) && ((x.f0 == 0 || false) && b))))))) = true := by clear HP HQ heq HM HWF; cases b <;> simp [*] <;> omega
                rw [hres]
                clear hres
                go_enter Try.func57, Try.ntmps57
                go_wp2
                go_ret
                exact ⟨rfl, below_alloc (Below.refl _ _) _⟩
              · have hsb20 : decide (x.f1 < 0) = false := decide_eq_false (by omega)
                by_cases hsb3 : 6 ≤ x.f1
                · have hsb30 : decide (6 ≤ x.f1) = true := decide_eq_true hsb3
                  have hres : (!(decide (0 ≤ x.f0) && (decide (x.f0 < 10) && (decide (0 ≤ x.f1) && (decide (x.f1 < 6) && ((x.f0 == 1 || x.f1 == 0) && ((x.f0 == 0 || false) && b))))))) = true := by clear HP HQ heq HM HWF; cases b <;> simp [*] <;> omega
                  rw [hres]
                  clear hres
                  go_enter Try.func57, Try.ntmps57
                  go_wp2
                  go_ret
                  exact ⟨rfl, below_alloc (Below.refl _ _) _⟩
                · have hsb30 : decide (6 ≤ x.f1) = false := decide_eq_false (by omega)
                  have hres : (!(decide (0 ≤ x.f0) && (decide (x.f0 < 10) && (decide (0 ≤ x.f1) && (decide (x.f1 < 6) && ((x.f0 == 1 || x.f1 == 0) && ((x.f0 == 0 || false) && b))))))) = true := by clear HP HQ heq HM HWF; cases b <;> simp [*] <;> omega
                  rw [hres]
                  clear hres
                  go_enter Try.func57, Try.ntmps57
                  go_wp2
                  go_ret
                  exact ⟨rfl, below_alloc (Below.refl _ _) _⟩
        · by_cases hsb0 : x.f0 < 0
          · have hsb00 : decide (x.f0 < 0) = true := decide_eq_true hsb0
            have hres : (!(decide (0 ≤ x.f0) && (decide (x.f0 < 10) && (decide (0 ≤ x.f1) && (decide (x.f1 < 6) && ((x.f0 == 1 || x.f1 == 0) && ((x.f0 == 0 || true) && b))))))) = true := by clear HP HQ heq HM HWF; cases b <;> simp [*] <;> omega
            rw [hres]
            clear hres
            go_enter Try.func57, Try.ntmps57
            go_wp2
            go_ret
            exact ⟨rfl, below_alloc (Below.refl _ _) _⟩
          · have hsb00 : decide (x.f0 < 0) = false := decide_eq_false (by omega)
            by_cases hsb1 : 10 ≤ x.f0
            · have hsb10 : decide (10 ≤ x.f0) = true := decide_eq_true hsb1
              have hres : (!(decide (0 ≤ x.f0) && (decide (x.f0 < 10) && (decide (0 ≤ x.f1) && (decide (x.f1 < 6) && ((x.f0 == 1 || x.f1 == 0) && ((x.f0 == 0 || true) && b))))))) = true := by clear HP HQ heq HM HWF; cases b <;> simp [*] <;> omega
              rw [hres]
              clear hres
              go_enter Try.func57, Try.ntmps57
              go_wp2
              go_ret
              exact ⟨rfl, below_alloc (Below.refl _ _) _⟩
            · have hsb10 : decide (10 ≤ x.f0) = false := decide_eq_false (by omega)
              by_cases hsb2 : x.f1 < 0
              · have hsb20 : decide (x.f1 < 0) = true := decide_eq_true hsb2
                have hres : (!(decide (0 ≤ x.f0) && (decide (x.f0 < 10) && (decide (0 ≤ x.f1) && (decide (x.f1 < 6) && ((x.f0 == 1 || x.f1 == 0) && ((x.f0 == 0 || true) && b))))))) = true := by clear HP HQ heq HM HWF; cases b <;> simp [*] <;> omega
                rw [hres]
                clear hres
                go_enter Try.func57, Try.ntmps57
                go_wp2
                go_ret
                exact ⟨rfl, below_alloc (Below.refl _ _) _⟩
              · have hsb20 : decide (x.f1 < 0) = false := decide_eq_false (by omega)
                by_cases hsb3 : 6 ≤ x.f1
                · have hsb30 : decide (6 ≤ x.f1) = true := decide_eq_true hsb3
                  have hres : (!(decide (0 ≤ x.f0) && (decide (x.f0 < 10) && (decide (0 ≤ x.f1) && (decide (x.f1 < 6) && ((x.f0 == 1 || x.f1 == 0) && ((x.f0 == 0 || true) && b))))))) = true := by clear HP HQ heq HM HWF; cases b <;> simp [*] <;> omega
                  rw [hres]
                  clear hres
                  go_enter Try.func57, Try.ntmps57
                  go_wp2
                  go_ret
                  exact ⟨rfl, below_alloc (Below.refl _ _) _⟩
                · have hsb30 : decide (6 ≤ x.f1) = false := decide_eq_false (by omega)
                  have hres : (!(decide (0 ≤ x.f0) && (decide (x.f0 < 10) && (decide (0 ≤ x.f1) && (decide (x.f1 < 6) && ((x.f0 == 1 || x.f1 == 0) && ((x.f0 == 0 || true) && b))))))) = true := by clear HP HQ heq HM HWF; cases b <;> simp [*] <;> omega
                  rw [hres]
                  clear hres
                  go_enter Try.func57, Try.ntmps57
                  go_wp2
                  go_ret
                  exact ⟨rfl, below_alloc (Below.refl _ _) _⟩
set_option maxHeartbeats 1000000 in
set_option maxRecDepth 100000 in
theorem mayO_told (l : List SOp) (A : Option Addr) (c : Nat) (w : World) (hr : Kd.C kOp w A l.length l) (hc : l.length ≤ c) (hwf : ∀ x ∈ l, i64V x.f2) {b : Bool} (hm : mayO l = b) :
    Calls Try.prog 32 #[.slice A l.length c] w (boolPost b w) := by
  have HR := Aside0.mk hr
  have HC := Aside0.mk hc
  have HWF := Aside0.mk hwf
  have hl := hr.2.1
  clear hr hc hwf
  unfold mayO at hm
  by_cases h2 : l.length ≤ 12
  · rw [decide_eq_true h2, Bool.true_and] at hm
    have HCF := Aside0.mk (fun (W : World) (h : Below w.heap.size w W) => slices_ContainsFunc_api_Op.toldw 57 #[] (fun x => !mayP x) (fun x => i64V x.f2) A c l W (enters_of Try.func57 (by kernel_rfl) rfl) (may1O_told W) HWF.out (Kd.C_below HR.out h) HC.out)
    have e : l.any (fun x => !mayP x) = !b := by rw [← hm, List.not_all_eq_any_not]
    rw [e] at HCF
    clear e hm
    have h2i : (l.length : Int) ≤ 12 := by omega
    go_enter Try.func32, Try.ntmps32
    go_wp2_with (go_at_call 58; refine (HCF.out _ (Below.refl _ _)).mono ?_; rintro e w2 ⟨rfl, hb2⟩)
    go_ret
    exact ⟨rfl, hb2⟩
  · rw [decide_eq_false h2, Bool.false_and] at hm
    subst hm
    have h2i : ¬ (l.length : Int) ≤ 12 := by omega
    go_enter Try.func32, Try.ntmps32
    go_wp2
    go_ret
    exact ⟨rfl, Below.refl _ _⟩
end Go.Proofs.Ytncllbokeofdjaa.P

namespace Go.Proofs.Ytncllbokeofdjaa.P
open Go.RowKit Go.Proofs.YtncllbokeofdjaaW.PrintWords Go.Proofs.YtncllbokeofdjaaW.PrintLast Go.Proofs.YtncllbokeofdjaaW.PrintMore
attribute [local go_sem] max2_int min2_int max_two min_two max_three min_three max_four min_four   -- for this text's walks alone
set_option linter.unusedVariables false
set_option linter.unusedSimpArgs false
def putORel (P0 : List Int) (l : List SOp) (w : World) (k : Nat) (v : Value) (w' : World) : Prop := k ≤ l.length ∧ Own8 5 w.heap.size w' v (P0 ++ opsL (l.take k)) ∧ Below w.heap.size w w' ∧ (P0 ++ opsL (l.take k)).length ≤ 10 + 60 * k
theorem bytesV_few {x : SValue} (h : okV x) : (bytesV x).length ≤ 51 := by
  have h1 := lePut_len (numV_lt h.2 h.1)
  have h2 : x.f2.size ≤ 40 := by
    rcases mayV_iff.1 h.1 with ⟨_, hs⟩ | ⟨_, hs, _⟩ | ⟨_, _, hs⟩ | ⟨_, hs, _⟩
    · rw [toList_nil hs]; decide
    · rw [toList_nil hs]; decide
    · exact hs
    · rw [toList_nil hs]; decide
  unfold bytesV
  simp only [List.length_cons, List.length_append, bytesOf_length]
  omega
set_option maxHeartbeats 1000000 in
set_option maxRecDepth 100000 in
theorem putO_no (l : List SOp) (A : Option Addr) (c : Nat) (w : World) (hr : Kd.C kOp w A l.length l) (hc : l.length ≤ c) (hwf : ∀ x ∈ l, i64V x.f2) (h1 : mayO l = false) : Calls Try.prog 19 #[.slice A l.length c] w (bytesPost 5 [] false w) := by
  go_enter Try.func19, Try.ntmps19
  go_wp2_with fail
  go_at_call 32
  refine (mayO_told l A c _ hr hc hwf h1).mono ?_
  rintro e w1 ⟨rfl, hb1⟩
  go_wp2_with fail
  go_ret2
  exact ⟨_, rfl, Kd.R_nil _ _ _ _ _, hb1⟩
set_option maxHeartbeats 8000000 in
set_option maxRecDepth 100000 in
theorem putO_go (l : List SOp) (A : Option Addr) (c : Nat) (w : World) (hr : Kd.C kOp w A l.length l) (hc : l.length ≤ c) (hwf : ∀ x ∈ l, i64V x.f2) (h1 : mayO l = true) : Calls Try.prog 19 #[.slice A l.length c] w (bytesPost 5 (bytesO l) true w) := by
  have HR := Aside0.mk hr
  have HC := Aside0.mk hc
  have HWF := Aside0.mk hwf
  have HM := Aside0.mk h1
  have HMP := Aside0.mk (mayO_iff.1 h1).2
  have hl := (mayO_iff.1 h1).1
  have hlp := lePut_len (n := l.length) (by omega)
  have hu : IntKind.u64.wrap (l.length : Int) = (l.length : Int) := u64_small' (by omega)
  obtain ⟨P0, hP0⟩ : ∃ P0, lePut l.length = P0 := ⟨_, rfl⟩
  have HP0 := Aside0.mk hP0
  have HBO : Aside0 (P0 ++ opsL l = bytesO l) := ⟨by rw [← hP0]; rfl⟩
  rw [hP0] at hlp
  clear hr hc hwf h1 hP0
  go_enter Try.func19, Try.ntmps19
  go_wp2_with fail
  go_at_call 32
  refine (mayO_told l A c _ HR.out HC.out HWF.out HM.out).mono ?_
  rintro e w1 ⟨rfl, hb1⟩
  have HB1 := Aside0.mk hb1
  clear hb1
  go_wp2_with fail
  go_at_call 39
  refine (le_Put.told l.length _ (by omega)).mono ?_
  rintro e w2 ⟨v2, rfl, ho2, hb2⟩
  rw [HP0.out] at ho2
  have HO2 := Aside0.mk (Own8.lower (show Own8 _ _ _ _ _ from ho2) (below_size HB1.out))
  have HB2 := Aside0.mk (below_step HB1.out hb2)
  clear ho2 hb2
  go_wp2_with fail
  go_loopw [4, 6, 7, 8, 18] (fun v4 _ _ _ v18 w' => ∃ k : Nat, v18 = .int .i64 k ∧ putORel P0 l w k v4 w') (fun _ _ _ _ i _ => l.length - (intOf i).toNat)
  case atStart => exact ⟨0, rfl, Nat.zero_le _, by rw [show P0 ++ opsL (l.take 0) = P0 from by simp [opsL]]; exact HO2.out, HB2.out, by rw [show P0 ++ opsL (l.take 0) = P0 from by simp [opsL]]; omega⟩
  case round =>
    obtain ⟨k, rfl, hk, ho, hb, hlen⟩ := hrel
    have HO := Aside0.mk ho
    have HB := Aside0.mk hb
    clear ho hb HO2 HB2
    by_cases hlt : k < l.length
    · obtain ⟨ad, e, z0, z1, z2, z3, z4⟩ := at_TOp (Kd.C_below HR.out HB.out) (k : Int) (by omega) (by omega)
      cases e
      simp only [Int.toNat_natCast] at z0 z1 z2 z3 z4
      rw [show rd_TOp l (k : Int) = l.getD k zOp from rfl] at z0 z1 z2 z3 z4
      have hin := getD_in zOp hlt
      have hmp := HMP.out _ hin
      have hix := HWF.out _ hin
      have HSN := Aside0.mk (opsL_snoc l k hlt)
      generalize l.getD k zOp = x at *
      have hmq := mayP_iff.1 hmp
      obtain ⟨q0, q1, q2, q3, _, _, q6⟩ := hmq
      have HKX : Aside0 (okV x.f2) := ⟨⟨q6, hix⟩⟩
      have hbf := bytesV_few HKX.out
      have hw0 : IntKind.u8.wrap x.f0 = x.f0 := by rw [show IntKind.u8.wrap x.f0 = x.f0 % 256 from rfl]; omega
      have hw1 : IntKind.u8.wrap x.f1 = x.f1 := by rw [show IntKind.u8.wrap x.f1 = x.f1 % 256 from rfl]; omega
      obtain ⟨pre, hpre⟩ : ∃ pre, P0 ++ opsL (l.take k) = pre := ⟨_, rfl⟩
      rw [hpre] at HO hlen
      have HPRE := Aside0.mk hpre
      have HBX := Aside0.mk (below_alloc HB.out (.cells #[.int .i64 x.f0, .int .i64 x.f1, .int .i64 x.f2.f0, .int .i64 x.f2.f1, .string x.f2.f2] 50))
      have HOX := Aside0.mk (Kd.R_alloc HO.out (.cells #[.int .i64 x.f0, .int .i64 x.f1, .int .i64 x.f2.f0, .int .i64 x.f2.f1, .string x.f2.f2] 50))
      have HKB := Aside0.mk (blk_new wr (.cells #[.int .i64 x.f0, .int .i64 x.f1, .int .i64 x.f2.f0, .int .i64 x.f2.f1, .string x.f2.f2] 50))
      clear hpre hmp hix q6 q2 hin
      have HNE := Aside0.mk (Kd.R_ne HOX.out HKB.out (by decide))
      have hpl : (pre ++ [x.f0]).length = pre.length + 1 := by simp
      have hk1 : k + 1 ≤ l.length := by omega
      obtain ⟨pr2, hpr2⟩ : ∃ pr2, pre ++ [x.f0] = pr2 := ⟨_, rfl⟩
      rw [hpr2] at hpl
      have HPR2 := Aside0.mk hpr2
      clear hpr2
      by_cases c0 : x.f0 = 0
      · have c0b : (x.f0 == 0) = true := beq_iff_eq.2 c0
        have HPN : Aside0 (P0 ++ opsL (l.take (k + 1)) = pr2 ++ bytesV x.f2) := ⟨by rw [HSN.out, ← List.append_assoc, HPRE.out, ← HPR2.out, show bytesP x = x.f0 :: bytesV x.f2 from by unfold bytesP; rw [if_pos c0], List.append_assoc]; rfl⟩
        clear c0
        go_wp2_with ((with_reducible refine gate_builtin (b := .append) (xs := #[.tmp 22, .tmp 26]) rfl ?_); at_builtin; refine Kd.R_append (Kd.int .u8) (w0 := w) w.heap.size rfl (.tmp 22) (.tmp 26) 29 5 (.int .u8 0) 1 rfl Try.underlying29 info5 rfl ?h1 ?h2 u4 (pre) (x.f0) [.int .u8 (x.f0)] (fun _ => True) (fun _ => False) ?hs ?hx ?aP (fun _ hk => hk.elim) (fun _ _ => trivial) ?aO ?aB ?aS ?aL ?_; (case h1 => decide); (case h2 => decide); (case hs => rfl); (case hx => first | rfl | (show Value.slice (some ⟨wr.heap.size + 1, 0, none⟩) 1 1 = _; rw [World.size_alloc])); (case aP => exact rfl); (case aO => exact HOX.out); (case aB => exact HBX.out); (case aS => exact below_size (HBX.out)); (case aL => omega); intro v3 w3 ho3 hb3 hg3 hat3; have HO3 := Aside0.mk ho3; have HB3 := Aside0.mk hb3; have HK3 := Aside0.mk (blk_grown HKB.out hg3 HNE.out); obtain ⟨j1, j2, j3, j4⟩ := know HK3.out; rw [HPR2.out] at HO3; clear ho3 hb3 hg3 hat3)
        go_at_call 40
        refine (value_Put.told x.f2 _ HKX.out.2 HKX.out.1 (if_pos rfl)).mono ?_
        rintro e w7 ⟨v7, rfl, ho7, hb7⟩
        obtain ⟨A7, c7, rfl, hc7, hr7⟩ := Own8.reads ho7
        have HR7 := Aside0.mk hr7
        have HO7 := Aside0.mk (Own8.below (show Own8 _ _ _ _ _ from HO3.out) hb7)
        have HB7 := Aside0.mk (below_step HB3.out hb7)
        clear ho7 hr7 hb7 j1 j2 j3 j4
        go_wp2_with ((with_reducible refine gate_builtin (b := .append) (xs := #[.tmp 38, .tmp 39]) rfl ?_); at_builtin; refine app8 (w0 := w) w.heap.size rfl _ _ 29 5 rfl Try.underlying29 info5 _ pr2 (bytesV x.f2) A7 _ c7 rfl rfl HO7.out HR7.out HB7.out (below_size HB7.out) (by omega) ?_; intro v8 w8 ho8 hb8 hg8; have HO8 := Aside0.mk ho8; have HB8 := Aside0.mk hb8; clear ho8 hb8 hg8)
        go_roundw
        case rel => exact ⟨k + 1, by go_num, hk1, by rw [HPN.out]; exact HO8.out, HB8.out, by rw [HPN.out, List.length_append]; omega⟩
        case measure => simp [intOf]; omega
      · have c0b : (x.f0 == 0) = false := beq_eq_false_iff_ne.2 c0
        by_cases c1 : x.f0 = 1
        · have c1b : (x.f0 == 1) = true := beq_iff_eq.2 c1
          have HPN : Aside0 (P0 ++ opsL (l.take (k + 1)) = pr2 ++ [x.f1]) := ⟨by rw [HSN.out, ← List.append_assoc, HPRE.out, ← HPR2.out, show bytesP x = x.f0 :: [x.f1] from by unfold bytesP; rw [if_neg c0, if_pos c1], List.append_assoc]; rfl⟩
          clear c0 c1
          go_wp2_with (first
            | ((with_reducible refine gate_builtin (b := .append) (xs := #[.tmp 22, .tmp 26]) rfl ?_); at_builtin; refine Kd.R_append (Kd.int .u8) (w0 := w) w.heap.size rfl (.tmp 22) (.tmp 26) 29 5 (.int .u8 0) 1 rfl Try.underlying29 info5 rfl ?h1 ?h2 u4 (pre) (x.f0) [.int .u8 (x.f0)] (fun _ => True) (fun _ => False) ?hs ?hx ?aP (fun _ hk => hk.elim) (fun _ _ => trivial) ?aO ?aB ?aS ?aL ?_; (case h1 => decide); (case h2 => decide); (case hs => rfl); (case hx => first | rfl | (show Value.slice (some ⟨wr.heap.size + 1, 0, none⟩) 1 1 = _; rw [World.size_alloc])); (case aP => exact rfl); (case aO => exact HOX.out); (case aB => exact HBX.out); (case aS => exact below_size (HBX.out)); (case aL => omega); intro v3 w3 ho3 hb3 hg3 hat3; have HO3 := Aside0.mk ho3; have HB3 := Aside0.mk hb3; have HK3 := Aside0.mk (blk_grown HKB.out hg3 HNE.out); obtain ⟨j1, j2, j3, j4⟩ := know HK3.out; rw [HPR2.out] at HO3; clear ho3 hb3 hg3 hat3)
            | ((with_reducible refine gate_builtin (b := .append) (xs := #[.tmp 43, .tmp 47]) rfl ?_); at_builtin; refine Kd.R_append (Kd.int .u8) (w0 := w) w.heap.size rfl (.tmp 43) (.tmp 47) 29 5 (.int .u8 0) 1 rfl Try.underlying29 info5 rfl ?h1 ?h2 v3 (pr2) (x.f1) [.int .u8 (x.f1)] (fun _ => True) (fun _ => False) ?hs ?hx ?aP (fun _ hk => hk.elim) (fun _ _ => trivial) ?aO ?aB ?aS ?aL ?_; (case h1 => decide); (case h2 => decide); (case hs => rfl); (case hx => first | rfl | (show Value.slice (some ⟨wr.heap.size + 1, 0, none⟩) 1 1 = _; rw [World.size_alloc])); (case aP => exact rfl); (case aO => exact HO3.out); (case aB => exact HB3.out); (case aS => exact below_size (HB3.out)); (case aL => omega); intro v4 w4 ho4 hb4 hg4 hat4; have HO4 := Aside0.mk ho4; have HB4 := Aside0.mk hb4; clear ho4 hb4 hg4 hat4))
          go_roundw
          case rel => exact ⟨k + 1, by go_num, hk1, by rw [HPN.out]; exact HO4.out, HB4.out, by rw [HPN.out, List.length_append, List.length_singleton]; omega⟩
          case measure => simp [intOf]; omega
        · have c1b : (x.f0 == 1) = false := beq_eq_false_iff_ne.2 c1
          have HPN : Aside0 (P0 ++ opsL (l.take (k + 1)) = pr2) := ⟨by rw [HSN.out, ← List.append_assoc, HPRE.out, ← HPR2.out, show bytesP x = [x.f0] from by unfold bytesP; rw [if_neg c0, if_neg c1]]⟩
          clear c0 c1
          go_wp2_with ((with_reducible refine gate_builtin (b := .append) (xs := #[.tmp 22, .tmp 26]) rfl ?_); at_builtin; refine Kd.R_append (Kd.int .u8) (w0 := w) w.heap.size rfl (.tmp 22) (.tmp 26) 29 5 (.int .u8 0) 1 rfl Try.underlying29 info5 rfl ?h1 ?h2 u4 (pre) (x.f0) [.int .u8 (x.f0)] (fun _ => True) (fun _ => False) ?hs ?hx ?aP (fun _ hk => hk.elim) (fun _ _ => trivial) ?aO ?aB ?aS ?aL ?_; (case h1 => decide); (case h2 => decide); (case hs => rfl); (case hx => first | rfl | (show Value.slice (some ⟨wr.heap.size + 1, 0, none⟩) 1 1 = _; rw [World.size_alloc])); (case aP => exact rfl); (case aO => exact HOX.out); (case aB => exact HBX.out); (case aS => exact below_size (HBX.out)); (case aL => omega); intro v3 w3 ho3 hb3 hg3 hat3; have HO3 := Aside0.mk ho3; have HB3 := Aside0.mk hb3; have HK3 := Aside0.mk (blk_grown HKB.out hg3 HNE.out); obtain ⟨j1, j2, j3, j4⟩ := know HK3.out; rw [HPR2.out] at HO3; clear ho3 hb3 hg3 hat3)
          go_roundw
          case rel => exact ⟨k + 1, by go_num, hk1, by rw [HPN.out]; exact HO3.out, HB3.out, by rw [HPN.out]; omega⟩
          case measure => simp [intOf]; omega
    · have hk3 : k = l.length := by omega
      have hfin := HO.out
      rw [hk3, List.take_length, HBO.out] at hfin
      have HFIN := Aside0.mk hfin
      clear hfin hk3
      go_wp2_with fail
      go_ret2
      exact ⟨_, rfl, HFIN.out, HB.out⟩
theorem putO_told (l : List SOp) (A : Option Addr) (c : Nat) (w : World) (hr : Kd.C kOp w A l.length l) (hc : l.length ≤ c) (hwf : ∀ x ∈ l, i64V x.f2) {b : Bool} (hm : mayO l = b) {P : List Int} (hP : (if b then bytesO l else []) = P) : Calls Try.prog 19 #[.slice A l.length c] w (bytesPost 5 P b w) := by
  subst hP
  cases b with
  | false => exact putO_no l A c w hr hc hwf hm
  | true => exact putO_go l A c w hr hc hwf hm
end Go.Proofs.Ytncllbokeofdjaa.P

namespace Go.Proofs.Ytncllbokeofdjaa.P
open Go.RowKit Go.Proofs.YtncllbokeofdjaaW.PrintWords Go.Proofs.YtncllbokeofdjaaW.PrintLast Go.Proofs.YtncllbokeofdjaaW.PrintMore
attribute [local go_sem] max2_int min2_int max_two min_two max_three min_three max_four min_four   -- for this text's walks alone
set_option linter.unusedVariables false
set_option linter.unusedSimpArgs false
theorem eqAOp (d : Nat) (w : World) (x0 y0 : Int) (x1 y1 : Int) (x2 y2 : Int) (x3 y3 : Int) (x4 y4 : ByteArray) :
    (Op.equalIn (d + 3) 50 (.agg #[.int .i64 x0, .int .i64 x1, .int .i64 x2, .int .i64 x3, .string x4]) (.agg #[.int .i64 y0, .int .i64 y1, .int .i64 y2, .int .i64 y3, .string y4])).run Try.prog w = .ok (x0 == y0 && (x1 == y1 && ((x2 == y2 && (x3 == y3 && (x4.toList == y4.toList)))))) w := by
  refine eqA_of Try.underlying50 (by kernel_rfl) ?_
  refine eqf_cons (by rfl) (by go_simp; rfl) (by go_simp; rfl) (by go_simp) ?_
  refine eqf_cons (by rfl) (by go_simp; rfl) (by go_simp; rfl) (by go_simp) ?_
  exact eqf_last (by rfl) (by go_simp) (by go_simp) (eqAValue (d + 0) w _ _ _ _ _ _)
end Go.Proofs.Ytncllbokeofdjaa.P

namespace Go.Proofs.Ytncllbokeofdjaa.P
open Go.RowKit Go.Proofs.YtncllbokeofdjaaW.PrintWords Go.Proofs.YtncllbokeofdjaaW.PrintLast Go.Proofs.YtncllbokeofdjaaW.PrintMore
attribute [local go_sem] max2_int min2_int max_two min_two max_three min_three max_four min_four   -- for this text's walks alone
set_option linter.unusedVariables false
set_option linter.unusedSimpArgs false
attribute [local go_sem high] eqAOp
def slices_Equal_api_Op.l0 : Nat → List (SOp) → List (SOp) → Int → Int → Option (Bool)
  | 0, _, _, _, _ => none
  | k + 1, x0, x1, x12, x13 => if x13 < x12 then (if 0 ≤ x13 then (if x13 < (x0.length : Int) then (if x13 < (x1.length : Int) then (if (!(((rd_TOp x0 x13).f0) == ((rd_TOp x1 x13).f0)) || (!(((rd_TOp x0 x13).f1) == ((rd_TOp x1 x13).f1)) || ((!(((rd_TOp x0 x13).f2.f0) == ((rd_TOp x1 x13).f2.f0)) || (!(((rd_TOp x0 x13).f2.f1) == ((rd_TOp x1 x13).f2.f1)) || (!((((rd_TOp x0 x13).f2.f2).toList) == (((rd_TOp x1 x13).f2.f2).toList)))))))) = true then (some false) else (slices_Equal_api_Op.l0 k x0 x1 x12 (wrap64 (x13 + 1)))) else (none)) else (none)) else (none)) else (some true)
def slices_Equal_api_Op.f (k : Nat) (l0 : List (SOp)) (l1 : List (SOp)) : Option (Bool) := if (l0.length : Int) = (l1.length : Int) then (slices_Equal_api_Op.l0 k l0 l1 (l0.length : Int) 0) else (some false)
set_option maxHeartbeats 8000000 in
set_option maxRecDepth 100000 in
theorem slices_Equal_api_Op.calls (k : Nat) (A0 : Option Addr) (c0 : Nat) (l0 : List (SOp)) (A1 : Option Addr) (c1 : Nat) (l1 : List (SOp)) (r : Bool) (w : World) (hr0 : Kd.C kOp w A0 l0.length l0) (hc0 : l0.length ≤ c0) (hr1 : Kd.C kOp w A1 l1.length l1) (hc1 : l1.length ≤ c1) (h : slices_Equal_api_Op.f k l0 l1 = some r) :
    Calls Try.prog 48 #[.slice A0 l0.length c0, .slice A1 l1.length c1] w fun e w' => e = .returned (.bool r) ∧ Drawn0 w w' := by
  have hu50 := Try.underlying50
  have HR0 := Aside0.mk hr0
  have HC0 := Aside0.mk hc0
  clear hr0 hc0
  have HR1 := Aside0.mk hr1
  have HC1 := Aside0.mk hc1
  clear hr1 hc1
  have H : (if (l0.length : Int) = (l1.length : Int) then (slices_Equal_api_Op.l0 k l0 l1 (l0.length : Int) 0) else (some false)) = some r := h
  clear h
  by_cases c3 : (l0.length : Int) = (l1.length : Int)
  · rw [if_pos c3] at H
    have c3b0 : ((l0.length : Int) == (l1.length : Int)) = true := beq_iff_eq.mpr c3
    have c3b1 : ((l0.length : Int) != (l1.length : Int)) = false := bne_eq_false_iff_eq.mpr c3
    have c3b2 : (l0.length == l1.length) = true := by first | simpa using c3 | (simp at c3 ⊢; omega)
    clear c3
    have H' := Aside0.mk H
    clear H
    go_enter Try.func48, Try.ntmps48
    go_wp2
    repeat (go_quiet (fail); try go_wp2)
    go_loopg [13] k (fun kq v13 w' => ∃ (x13_1 : Int), v13 = .int .i64 x13_1 ∧ Aside0 (slices_Equal_api_Op.l0 kq l0 l1 (l0.length : Int) x13_1 = some r) ∧ Aside0 (kq ≤ k) ∧ Drawn0 w w')
    case atStart => exact ⟨(0), (by first | rfl | (simp; done) | (simp [*]; done)), H', ⟨Nat.le_refl _⟩, by repeat (first | exact Drawn0.refl _ | apply Drawn0.step)⟩
    case round =>
      clear H'
      try clear c1
      try clear p2
      try clear c3
      try clear c3b0
      try clear c3b1
      try clear c3b2
      obtain ⟨x13_1, rfl, HA, HK1, ⟨m1, rfl⟩⟩ := hrel
      cases gk with
      | zero => exact absurd HA.out (by simp [slices_Equal_api_Op.l0])
      | succ k1 =>
        have H := HA.out
        clear HA
        simp only [slices_Equal_api_Op.l0] at H
        by_cases c4 : x13_1 < (l0.length : Int)
        · rw [if_pos c4] at H
          have c4b0 : decide (x13_1 < (l0.length : Int)) = true := decide_eq_true c4
          clear c4
          by_cases c5 : 0 ≤ x13_1
          · rw [if_pos c5] at H
            have c5b0 : decide (0 ≤ x13_1) = true := decide_eq_true c5
            clear c5
            by_cases c6 : x13_1 < (l0.length : Int)
            · rw [if_pos c6] at H
              have c6b0 : decide (x13_1 < (l0.length : Int)) = true := decide_eq_true c6
              clear c6
              by_cases c7 : x13_1 < (l1.length : Int)
              · rw [if_pos c7] at H
                have c7b0 : decide (x13_1 < (l1.length : Int)) = true := decide_eq_true c7
                clear c7
                by_cases c8 : (!(((rd_TOp l0 x13_1).f0) == ((rd_TOp l1 x13_1).f0)) || (!(((rd_TOp l0 x13_1).f1) == ((rd_TOp l1 x13_1).f1)) || ((!(((rd_TOp l0 x13_1).f2.f0) == ((rd_TOp l1 x13_1).f2.f0)) || (!(((rd_TOp l0 x13_1).f2.f1) == ((rd_TOp l1 x13_1).f2.f1)) || (!((((rd_TOp l0 x13_1).f2.f2).toList) == (((rd_TOp l1 x13_1).f2.f2).toList)))))))) = true
                · rw [if_pos c8] at H
                  have c8b0 : (!(((rd_TOp l0 x13_1).f0) == ((rd_TOp l1 x13_1).f0)) || (!(((rd_TOp l0 x13_1).f1) == ((rd_TOp l1 x13_1).f1)) || ((!(((rd_TOp l0 x13_1).f2.f0) == ((rd_TOp l1 x13_1).f2.f0)) || (!(((rd_TOp l0 x13_1).f2.f1) == ((rd_TOp l1 x13_1).f2.f1)) || (!((((rd_TOp l0 x13_1).f2.f2).toList) == (((rd_TOp l1 x13_1).f2.f2).toList)))))))) = true := c8
                  clear c8
                  obtain rfl := Option.some.inj H
                  have p116 : 0 ≤ (x13_1 : Int) := of_decide_eq_true (by first | (with_reducible assumption) | assumption)
                  have q116 : x13_1 < (l0.length : Int) := of_decide_eq_true (by first | (with_reducible assumption) | assumption)
                  obtain ⟨ad116, e116, hx116_0, hx116_1, hx116_2, hx116_3, hx116_4⟩ := at_TOp HR0.out x13_1 p116 q116
                  cases e116
                  replace p116 := eq_true p116
                  replace q116 := eq_true q116
                  have p117 : 0 ≤ (x13_1 : Int) := of_decide_eq_true (by first | (with_reducible assumption) | assumption)
                  have q117 : x13_1 < (l1.length : Int) := of_decide_eq_true (by first | (with_reducible assumption) | assumption)
                  obtain ⟨ad117, e117, hx117_0, hx117_1, hx117_2, hx117_3, hx117_4⟩ := at_TOp HR1.out x13_1 p117 q117
                  cases e117
                  replace p117 := eq_true p117
                  replace q117 := eq_true q117
                  go_wp2
                  repeat (go_quiet (fail); try go_wp2)
                  go_ret
                  exact ⟨by first | rfl | (simp; done) | (simp [*]; done), by repeat (first | exact Drawn0.refl _ | apply Drawn0.step)⟩
                · rw [if_neg c8] at H
                  have c8b0 : (!(((rd_TOp l0 x13_1).f0) == ((rd_TOp l1 x13_1).f0)) || (!(((rd_TOp l0 x13_1).f1) == ((rd_TOp l1 x13_1).f1)) || ((!(((rd_TOp l0 x13_1).f2.f0) == ((rd_TOp l1 x13_1).f2.f0)) || (!(((rd_TOp l0 x13_1).f2.f1) == ((rd_TOp l1 x13_1).f2.f1)) || (!((((rd_TOp l0 x13_1).f2.f2).toList) == (((rd_TOp l1 x13_1).f2.f2).toList)))))))) = false := by simpa using c8
                  clear c8
                  have H' := Aside0.mk H
                  clear H
                  have p116 : 0 ≤ (x13_1 : Int) := of_decide_eq_true (by first | (with_reducible assumption) | assumption)
                  have q116 : x13_1 < (l0.length : Int) := of_decide_eq_true (by first | (with_reducible assumption) | assumption)
                  obtain ⟨ad116, e116, hx116_0, hx116_1, hx116_2, hx116_3, hx116_4⟩ := at_TOp HR0.out x13_1 p116 q116
                  cases e116
                  replace p116 := eq_true p116
                  replace q116 := eq_true q116
                  have p117 : 0 ≤ (x13_1 : Int) := of_decide_eq_true (by first | (with_reducible assumption) | assumption)
                  have q117 : x13_1 < (l1.length : Int) := of_decide_eq_true (by first | (with_reducible assumption) | assumption)
                  obtain ⟨ad117, e117, hx117_0, hx117_1, hx117_2, hx117_3, hx117_4⟩ := at_TOp HR1.out x13_1 p117 q117
                  cases e117
                  replace p117 := eq_true p117
                  replace q117 := eq_true q117
                  go_wp2
                  repeat (go_quiet (fail); try go_wp2)
                  go_roundg k1
                  case measure => have := HK1.out; omega
                  case rel => exact ⟨(wrap64 (x13_1 + 1)), (by first | rfl | (simp; done) | (simp [*]; done)), H', ⟨by have := HK1.out; omega⟩, by repeat (first | exact Drawn0.refl _ | apply Drawn0.step)⟩
              · rw [if_neg c7] at H
                exact absurd H (by simp)
            · rw [if_neg c6] at H
              exact absurd H (by simp)
          · rw [if_neg c5] at H
            exact absurd H (by simp)
        · rw [if_neg c4] at H
          have c4b0 : decide (x13_1 < (l0.length : Int)) = false := decide_eq_false c4
          clear c4
          obtain rfl := Option.some.inj H
          go_wp2
          repeat (go_quiet (fail); try go_wp2)
          go_ret
          exact ⟨by first | rfl | (simp; done) | (simp [*]; done), by repeat (first | exact Drawn0.refl _ | apply Drawn0.step)⟩
  · rw [if_neg c3] at H
    have c3b0 : ((l0.length : Int) == (l1.length : Int)) = false := beq_eq_false_iff_ne.mpr c3
    have c3b1 : ((l0.length : Int) != (l1.length : Int)) = true := bne_iff_ne.mpr c3
    have c3b2 : (l0.length == l1.length) = false := by first | simpa using c3 | (simp at c3 ⊢; omega)
    obtain rfl := Option.some.inj H
    go_enter Try.func48, Try.ntmps48
    go_wp2
    repeat (go_quiet (fail); try go_wp2)
    go_ret
    exact ⟨by first | rfl | (simp; done) | (simp [*]; done), by repeat (first | exact Drawn0.refl _ | apply Drawn0.step)⟩
end Go.Proofs.Ytncllbokeofdjaa.P

namespace Go.Proofs.Ytncllbokeofdjaa.P
open Go.RowKit Go.Proofs.YtncllbokeofdjaaW.PrintWords Go.Proofs.YtncllbokeofdjaaW.PrintLast Go.Proofs.YtncllbokeofdjaaW.PrintMore
attribute [local go_sem] max2_int min2_int max_two min_two max_three min_three max_four min_four   -- for this text's walks alone
set_option linter.unusedVariables false
set_option linter.unusedSimpArgs false
def expr_Same.f (k : Nat) (l0 : List (SOp)) (l1 : List (SOp)) : Option (Bool) := (slices_Equal_api_Op.f k l0 l1).bind fun t118 => (some t118)
set_option maxHeartbeats 8000000 in
set_option maxRecDepth 100000 in
theorem expr_Same.calls (k : Nat) (A0 : Option Addr) (c0 : Nat) (l0 : List (SOp)) (A1 : Option Addr) (c1 : Nat) (l1 : List (SOp)) (r : Bool) (w : World) (hr0 : Kd.C kOp w A0 l0.length l0) (hc0 : l0.length ≤ c0) (hr1 : Kd.C kOp w A1 l1.length l1) (hc1 : l1.length ≤ c1) (h : expr_Same.f k l0 l1 = some r) :
    Calls Try.prog 26 #[.slice A0 l0.length c0, .slice A1 l1.length c1] w fun e w' => e = .returned (.bool r) ∧ Drawn0 w w' := by
  have HR0 := Aside0.mk hr0
  have HC0 := Aside0.mk hc0
  clear hr0 hc0
  have HR1 := Aside0.mk hr1
  have HC1 := Aside0.mk hc1
  clear hr1 hc1
  have H : ((slices_Equal_api_Op.f k l0 l1).bind fun t118 => (some t118)) = some r := h
  clear h
  replace H := Option.bind_eq_some_iff.mp H
  obtain ⟨t118, A30, H⟩ := H
  replace H : (some t118) = some r := H
  have A3 := Aside0.mk A30
  clear A30
  obtain rfl := Option.some.inj H
  go_enter Try.func26, Try.ntmps26
  go_wp2_with (first | ((with_reducible refine gate_callee (f := 48) rfl ?_); refine goesL_ (some 7) rfl rfl Try.func48 (by kernel_rfl) rfl #[.slice A0 l0.length c0, .slice A1 l1.length c1] rfl (by (try simp only [List.map_toArray, List.map_cons, List.map_nil]); first | done | rfl | (simp only [List.length_drop, List.length_take]; rfl)) ?_; (with_reducible refine (slices_Equal_api_Op.calls k _ _ l0 _ _ l1 t118 _ ?side1 ?side2 ?side3 ?side4 A3.out).mono ?_); (case side1 => repeat (first | exact HR0.out | (with_reducible refine Kd.C_alloc ?_ _) | (with_reducible refine Kd.C_drewN ?_ _) | (with_reducible refine Kd.C_drew ?_))); (case side2 => exact HC0.out); (case side3 => repeat (first | exact HR1.out | (with_reducible refine Kd.C_alloc ?_ _) | (with_reducible refine Kd.C_drewN ?_ _) | (with_reducible refine Kd.C_drew ?_))); (case side4 => exact HC1.out); rintro e w' ⟨rfl, ⟨nd, rfl⟩⟩; refine ⟨_, rfl, ?_⟩))
  go_ret
  exact ⟨by first | rfl | (simp; done) | (simp [*]; done), by repeat (first | exact Drawn0.refl _ | apply Drawn0.step)⟩
end Go.Proofs.Ytncllbokeofdjaa.P

namespace Go.Proofs.Ytncllbokeofdjaa.P
open Go.RowKit Go.Proofs.YtncllbokeofdjaaW.PrintWords Go.Proofs.YtncllbokeofdjaaW.PrintLast Go.Proofs.YtncllbokeofdjaaW.PrintMore
attribute [local go_sem] max2_int min2_int max_two min_two max_three min_three max_four min_four   -- for this text's walks alone
set_option linter.unusedVariables false
set_option linter.unusedSimpArgs false
def towncrierlaw08_Below.f (a0 : Int) : Option ((List (SOp))) := some (([(⟨1, 0, (⟨0, 0, (⟨#[]⟩ : ByteArray)⟩ : SValue)⟩ : SOp), (⟨0, 0, (⟨0, a0, (⟨#[]⟩ : ByteArray)⟩ : SValue)⟩ : SOp), (⟨5, 0, (⟨0, 0, (⟨#[]⟩ : ByteArray)⟩ : SValue)⟩ : SOp)] : List (SOp)))
set_option maxHeartbeats 8000000 in
set_option maxRecDepth 100000 in
theorem towncrierlaw08_Below.calls (a0 : Int) (r : List (SOp)) (w : World) (h : towncrierlaw08_Below.f a0 = some r) :
    Calls Try.prog 30 #[.int .i64 a0] w fun e w' => ∃ v0_ : Value, e = .returned (v0_) ∧ Kd.R kOp 50 w' w.heap.size (fun _ => True) v0_ r ∧ Below w.heap.size w w' := by
  have hu50 := Try.underlying50
  have hu38 := Try.underlying38
  have HB := Aside0.mk (Below.refl w.heap.size w)
  have H : (some (([(⟨1, 0, (⟨0, 0, (⟨#[]⟩ : ByteArray)⟩ : SValue)⟩ : SOp), (⟨0, 0, (⟨0, a0, (⟨#[]⟩ : ByteArray)⟩ : SValue)⟩ : SOp), (⟨5, 0, (⟨0, 0, (⟨#[]⟩ : ByteArray)⟩ : SValue)⟩ : SOp)] : List (SOp)))) = some r := h
  clear h
  obtain ⟨y119, hy119⟩ : ∃ y_ : List (SOp), y_ = (([(⟨1, 0, (⟨0, 0, (⟨#[]⟩ : ByteArray)⟩ : SValue)⟩ : SOp), (⟨0, 0, (⟨0, a0, (⟨#[]⟩ : ByteArray)⟩ : SValue)⟩ : SOp), (⟨5, 0, (⟨0, 0, (⟨#[]⟩ : ByteArray)⟩ : SValue)⟩ : SOp)] : List (SOp))) := ⟨_, rfl⟩
  replace H : (some y119) = some r := by first | (rw [hy119]; with_reducible exact H) | (have H2_ := (Option.bind_some _ _).symm.trans H; rw [hy119]; with_reducible exact H2_) | (have H2_ := (Option.bind_some _ _).symm.trans H; with_reducible exact H2_) | with_reducible exact H | (rw [hy119]; exact H) | exact H
  have Ny119 := Aside0.mk hy119
  clear hy119
  obtain rfl := Option.some.inj H
  go_enter Try.func30, Try.ntmps30
  go_wp2_with (first | ((with_reducible refine gate_dst (N := 8) rfl ?_); refine Kd.R_lit kOp _ 50 ?hg (N := 8) ?hd (xs := ([(⟨1, 0, (⟨0, 0, (⟨#[]⟩ : ByteArray)⟩ : SValue)⟩ : SOp), (⟨0, 0, (⟨0, a0, (⟨#[]⟩ : ByteArray)⟩ : SValue)⟩ : SOp), (⟨5, 0, (⟨0, 0, (⟨#[]⟩ : ByteArray)⟩ : SValue)⟩ : SOp)] : List (SOp))) (inner := [.int .i64 1, .int .i64 0, .int .i64 0, .int .i64 0, .string (⟨#[]⟩ : ByteArray), .int .i64 0, .int .i64 0, .int .i64 0, .int .i64 a0, .string (⟨#[]⟩ : ByteArray), .int .i64 5, .int .i64 0, .int .i64 0, .int .i64 0, .string (⟨#[]⟩ : ByteArray)]) (ok := fun _ => True) (okp := fun _ => True) ?hr ?hp (fun _ hk => hk) trivial (Below.refl _ _) (Nat.le_refl _) (by simp) ?_; (case hd => rfl); (case hg => rfl); (case hr => first | (go_simp; done) | (go_simp; rfl)); (case hp => exact (Reps.c5 (show Kd.M kOp _ _ _ (⟨1, 0, (⟨0, 0, (⟨#[]⟩ : ByteArray)⟩ : SValue)⟩ : SOp) [.int .i64 1, .int .i64 0, .int .i64 0, .int .i64 0, .string (⟨#[]⟩ : ByteArray)] from (kOp_mkM _ _ _ (⟨1, 0, (⟨0, 0, (⟨#[]⟩ : ByteArray)⟩ : SValue)⟩ : SOp) )) (Reps.c5 (show Kd.M kOp _ _ _ (⟨0, 0, (⟨0, a0, (⟨#[]⟩ : ByteArray)⟩ : SValue)⟩ : SOp) [.int .i64 0, .int .i64 0, .int .i64 0, .int .i64 a0, .string (⟨#[]⟩ : ByteArray)] from (kOp_mkM _ _ _ (⟨0, 0, (⟨0, a0, (⟨#[]⟩ : ByteArray)⟩ : SValue)⟩ : SOp) )) (Reps.c5 (show Kd.M kOp _ _ _ (⟨5, 0, (⟨0, 0, (⟨#[]⟩ : ByteArray)⟩ : SValue)⟩ : SOp) [.int .i64 5, .int .i64 0, .int .i64 0, .int .i64 0, .string (⟨#[]⟩ : ByteArray)] from (kOp_mkM _ _ _ (⟨5, 0, (⟨0, 0, (⟨#[]⟩ : ByteArray)⟩ : SValue)⟩ : SOp) )) (Reps.none _ _))))); intro v120 w2 ho3 hb hg_ hnew_; clear hg_ hnew_; (first | rw [← Ny119.out] at ho3 | (simp only [Int.reduceToNat] at ho3; rw [← Ny119.out] at ho3)); have n0_ := Aside0.mk (Kd.R_lower ho3 (below_size (by repeat (first | (with_reducible first | exact HB.out | apply below_alloc | apply pw_below_drewN | apply below_drew1) | exact HB.out)))); have n1_ := Aside0.mk (below_step (by repeat (first | (with_reducible first | exact HB.out | apply below_alloc | apply pw_below_drewN | apply below_drew1) | exact HB.out)) hb); clear HB; have HO121 := n0_; have HB := n1_; clear n0_ n1_; clear hb ho3))
  go_ret
  exact ⟨_, by first | rfl | (simp [errW_none, errW_some] <;> rfl) | (simp [*, errW_none, errW_some] <;> rfl), by (with_reducible repeat (first | apply Kd.R_alloc | apply Kd.R_drewN | apply Kd.R_drew)); exact HO121.out, by repeat (first | (with_reducible first | exact HB.out | apply below_alloc | apply pw_below_drewN | apply below_drew1) | exact HB.out)⟩
end Go.Proofs.Ytncllbokeofdjaa.P

namespace Go.Proofs.Ytncllbokeofdjaa.P
open Go.RowKit Go.Proofs.YtncllbokeofdjaaW.PrintWords Go.Proofs.YtncllbokeofdjaaW.PrintLast Go.Proofs.YtncllbokeofdjaaW.PrintMore
attribute [local go_sem] max2_int min2_int max_two min_two max_three min_three max_four min_four   -- for this text's walks alone
set_option linter.unusedVariables false
set_option linter.unusedSimpArgs false
def towncrierlaw08_Few.l0 : Nat → List (SOp) → Int → Option (Bool)
  | 0, _, _ => none
  | k + 1, x0, x3 => if x3 < (x0.length : Int) then (if 0 ≤ x3 then (if (((rd_TOp x0 x3).f2.f2).size : Int) > 100 then (some false) else (towncrierlaw08_Few.l0 k x0 (wrap64 (x3 + 1)))) else (none)) else (some true)
def towncrierlaw08_Few.f (k : Nat) (l0 : List (SOp)) : Option (Bool) := if (l0.length : Int) > 20 then (some false) else (towncrierlaw08_Few.l0 k l0 0)
set_option maxHeartbeats 8000000 in
set_option maxRecDepth 100000 in
theorem towncrierlaw08_Few.calls (k : Nat) (A0 : Option Addr) (c0 : Nat) (l0 : List (SOp)) (r : Bool) (w : World) (hr0 : Kd.C kOp w A0 l0.length l0) (hc0 : l0.length ≤ c0) (h : towncrierlaw08_Few.f k l0 = some r) :
    Calls Try.prog 14 #[.slice A0 l0.length c0] w fun e w' => e = .returned (.bool r) ∧ Drawn0 w w' := by
  have HR0 := Aside0.mk hr0
  have HC0 := Aside0.mk hc0
  clear hr0 hc0
  have H : (if (l0.length : Int) > 20 then (some false) else (towncrierlaw08_Few.l0 k l0 0)) = some r := h
  clear h
  by_cases c2 : (l0.length : Int) > 20
  · rw [if_pos c2] at H
    have c2b0 : decide (20 < (l0.length : Int)) = true := decide_eq_true c2
    have c2b1 : decide (20 < l0.length) = true := decide_eq_true (by omega)
    clear c2
    obtain rfl := Option.some.inj H
    go_enter Try.func14, Try.ntmps14
    go_wp2
    go_ret
    exact ⟨by first | rfl | (simp; done) | (simp [*]; done), by repeat (first | exact Drawn0.refl _ | apply Drawn0.step)⟩
  · rw [if_neg c2] at H
    have c2b0 : decide (20 < (l0.length : Int)) = false := decide_eq_false c2
    have c2b1 : decide (20 < l0.length) = false := decide_eq_false (by omega)
    clear c2
    have H' := Aside0.mk H
    clear H
    go_enter Try.func14, Try.ntmps14
    go_wp2
    go_loopg [3] k (fun kq v3 w' => ∃ (x3_1 : Int), v3 = .int .i64 x3_1 ∧ Aside0 (towncrierlaw08_Few.l0 kq l0 x3_1 = some r) ∧ Aside0 (kq ≤ k) ∧ Drawn0 w w')
    case atStart => exact ⟨(0), (by first | rfl | (simp; done) | (simp [*]; done)), H', ⟨Nat.le_refl _⟩, by repeat (first | exact Drawn0.refl _ | apply Drawn0.step)⟩
    case round =>
      clear H'
      try clear c1
      try clear c2
      try clear c2b0
      try clear c2b1
      try clear p2
      obtain ⟨x3_1, rfl, HA, HK1, ⟨m1, rfl⟩⟩ := hrel
      cases gk with
      | zero => exact absurd HA.out (by simp [towncrierlaw08_Few.l0])
      | succ k1 =>
        have H := HA.out
        clear HA
        simp only [towncrierlaw08_Few.l0] at H
        by_cases c3 : x3_1 < (l0.length : Int)
        · rw [if_pos c3] at H
          have c3b0 : decide (x3_1 < (l0.length : Int)) = true := decide_eq_true c3
          clear c3
          by_cases c4 : 0 ≤ x3_1
          · rw [if_pos c4] at H
            have c4b0 : decide (0 ≤ x3_1) = true := decide_eq_true c4
            clear c4
            by_cases c5 : (((rd_TOp l0 x3_1).f2.f2).size : Int) > 100
            · rw [if_pos c5] at H
              have c5b0 : decide (100 < (((rd_TOp l0 x3_1).f2.f2).size : Int)) = true := decide_eq_true c5
              have c5b1 : decide (100 < ((rd_TOp l0 x3_1).f2.f2).size) = true := decide_eq_true (by omega)
              clear c5
              obtain rfl := Option.some.inj H
              have p133 : 0 ≤ (x3_1 : Int) := of_decide_eq_true (by first | (with_reducible assumption) | assumption)
              have q133 : x3_1 < (l0.length : Int) := of_decide_eq_true (by first | (with_reducible assumption) | assumption)
              obtain ⟨ad133, e133, hx133_0, hx133_1, hx133_2, hx133_3, hx133_4⟩ := at_TOp HR0.out x3_1 p133 q133
              cases e133
              replace p133 := eq_true p133
              replace q133 := eq_true q133
              go_wp2
              go_ret
              exact ⟨by first | rfl | (simp; done) | (simp [*]; done), by repeat (first | exact Drawn0.refl _ | apply Drawn0.step)⟩
            · rw [if_neg c5] at H
              have c5b0 : decide (100 < (((rd_TOp l0 x3_1).f2.f2).size : Int)) = false := decide_eq_false c5
              have c5b1 : decide (100 < ((rd_TOp l0 x3_1).f2.f2).size) = false := decide_eq_false (by omega)
              clear c5
              have H' := Aside0.mk H
              clear H
              have p133 : 0 ≤ (x3_1 : Int) := of_decide_eq_true (by first | (with_reducible assumption) | assumption)
              have q133 : x3_1 < (l0.length : Int) := of_decide_eq_true (by first | (with_reducible assumption) | assumption)
              obtain ⟨ad133, e133, hx133_0, hx133_1, hx133_2, hx133_3, hx133_4⟩ := at_TOp HR0.out x3_1 p133 q133
              cases e133
              replace p133 := eq_true p133
              replace q133 := eq_true q133
              go_wp2
              go_roundg k1
              case measure => have := HK1.out; omega
              case rel => exact ⟨(wrap64 (x3_1 + 1)), (by first | rfl | (simp; done) | (simp [*]; done)), H', ⟨by have := HK1.out; omega⟩, by repeat (first | exact Drawn0.refl _ | apply Drawn0.step)⟩
          · rw [if_neg c4] at H
            exact absurd H (by simp)
        · rw [if_neg c3] at H
          have c3b0 : decide (x3_1 < (l0.length : Int)) = false := decide_eq_false c3
          clear c3
          obtain rfl := Option.some.inj H
          go_wp2
          go_ret
          exact ⟨by first | rfl | (simp; done) | (simp [*]; done), by repeat (first | exact Drawn0.refl _ | apply Drawn0.step)⟩
end Go.Proofs.Ytncllbokeofdjaa.P

namespace Go.Proofs.Ytncllbokeofdjaa.P
open Go.RowKit Go.Proofs.YtncllbokeofdjaaW.PrintWords Go.Proofs.YtncllbokeofdjaaW.PrintLast Go.Proofs.YtncllbokeofdjaaW.PrintMore
set_option linter.unusedVariables false
def eqP (x y : SOp) : Bool := (x.f0 == y.f0) && ((x.f1 == y.f1) && eqV x.f2 y.f2)
theorem neP {x y : SOp} : (!(x.f0 == y.f0) || (!(x.f1 == y.f1) || (!(x.f2.f0 == y.f2.f0) || (!(x.f2.f1 == y.f2.f1) || !(x.f2.f2.toList == y.f2.f2.toList))))) = !(eqP x y) := by
  unfold eqP
  rw [neV]
  cases (x.f0 == y.f0) <;> cases (x.f1 == y.f1) <;> cases (eqV x.f2 y.f2) <;> rfl
theorem eqP_iff {x y : SOp} : eqP x y = true ↔ x = y := by
  unfold eqP
  simp only [Bool.and_eq_true, beq_iff_eq, eqV_iff]
  constructor
  · rintro ⟨h1, h2, h3⟩
    obtain ⟨a, b, c⟩ := x
    obtain ⟨d, e, f⟩ := y
    obtain rfl : a = d := h1
    obtain rfl : b = e := h2
    obtain rfl : c = f := h3
    rfl
  · rintro rfl
    exact ⟨rfl, rfl, rfl⟩
def eqO (a b : List SOp) : Bool := eqf eqP zOp a b
theorem eqO_iff {a b : List SOp} : eqO a b = true ↔ a = b := by
  unfold eqO
  rw [eqf_iff]
  constructor
  · rintro ⟨h1, h2⟩
    refine List.ext_getElem h1 (fun i hi hj => ?_)
    have := eqP_iff.1 (h2 i hi)
    simpa [List.getD, hi, hj] using this
  · rintro rfl
    exact ⟨rfl, fun i _ => eqP_iff.2 rfl⟩
theorem equalO_loop (a b : List SOp) (hl : a.length ≤ 9223372036854775807) (he : a.length = b.length) : ∀ (d i k : Nat), i + d = a.length → d < k → (∀ j, j < i → eqP (a.getD j zOp) (b.getD j zOp) = true) → slices_Equal_api_Op.l0 k a b (a.length : Int) (i : Int) = some (eqf eqP zOp a b) := by
  intro d
  induction d with
  | zero =>
    intro i k hi hk hj
    obtain ⟨k, rfl⟩ := rounds_of hk
    simp only [slices_Equal_api_Op.l0]
    rw [if_neg (by omega), eqf_all he (fun j h => hj j (by omega))]
  | succ d ih =>
    intro i k hi hk hj
    obtain ⟨k, rfl⟩ := rounds_of hk
    simp only [slices_Equal_api_Op.l0]
    rw [if_pos (by omega), if_pos (by omega), if_pos (by omega), if_pos (by omega), show rd_TOp a (i : Int) = a.getD i zOp from rfl, show rd_TOp b (i : Int) = b.getD i zOp from rfl, neP]
    cases hq : eqP (a.getD i zOp) (b.getD i zOp) with
    | true =>
      rw [if_neg (by simp), wrap_succ (by omega)]
      exact ih (i + 1) k (by omega) (by omega) (all_next hj hq)
    | false => rw [if_pos (by simp), eqf_hit i (by omega) hq]
theorem sameO_is (a b : List SOp) (hl : a.length ≤ 9223372036854775807) : expr_Same.f (a.length + 1) a b = some (eqO a b) := by
  unfold expr_Same.f slices_Equal_api_Op.f eqO
  by_cases he : a.length = b.length
  · have h := equalO_loop a b hl he a.length 0 (a.length + 1) (by omega) (by omega) (fun j h => by omega)
    rw [if_pos (by omega), show slices_Equal_api_Op.l0 (a.length + 1) a b (a.length : Int) 0 = _ from h, Option.bind_some]
  · rw [if_neg (by omega), eqf_len he, Option.bind_some]
theorem sameO_told (a b : List SOp) (A0 : Option Addr) (c0 : Nat) (A1 : Option Addr) (c1 : Nat) (w : World) (hr0 : Kd.C kOp w A0 a.length a) (hc0 : a.length ≤ c0) (hr1 : Kd.C kOp w A1 b.length b) (hc1 : b.length ≤ c1) {r : Bool} (h : eqO a b = r) :
    Calls Try.prog 26 #[.slice A0 a.length c0, .slice A1 b.length c1] w (boolPost r w) :=
  (expr_Same.calls (a.length + 1) A0 c0 a A1 c1 b r w hr0 hc0 hr1 hc1 (by rw [sameO_is a b hr0.2.1, h])).mono fun e w' ⟨h1, h2⟩ => ⟨h1, h2.below⟩
theorem few8_loop (l : List SOp) (hl : l.length ≤ 20) : ∀ (d i k : Nat), i + d = l.length → d < k → ∃ b, towncrierlaw08_Few.l0 k l (i : Int) = some b := by
  intro d
  induction d with
  | zero =>
    intro i k hi hk
    obtain ⟨k, rfl⟩ := rounds_of hk
    simp only [towncrierlaw08_Few.l0]
    rw [if_neg (by omega)]
    exact ⟨_, rfl⟩
  | succ d ih =>
    intro i k hi hk
    obtain ⟨k, rfl⟩ := rounds_of hk
    simp only [towncrierlaw08_Few.l0]
    rw [if_pos (by omega), if_pos (by omega), wrap_succ (by omega)]
    split
    · exact ⟨_, rfl⟩
    · exact ih (i + 1) k (by omega) (by omega)
theorem few8_told (l : List SOp) : ∃ b, (b = true → l.length ≤ 20) ∧ ∀ (A : Option Addr) (c : Nat) (w : World), Kd.C kOp w A l.length l → l.length ≤ c → Calls Try.prog 14 #[.slice A l.length c] w (boolPost b w) := by
  have key : ∃ b, towncrierlaw08_Few.f 30 l = some b ∧ (b = true → l.length ≤ 20) := by
    unfold towncrierlaw08_Few.f
    by_cases h : (l.length : Int) > 20
    · rw [if_pos h]; exact ⟨false, rfl, fun h => by cases h⟩
    · rw [if_neg h]
      obtain ⟨b, hb⟩ := few8_loop l (by omega) l.length 0 30 (by omega) (by omega)
      exact ⟨b, hb, fun _ => by omega⟩
  obtain ⟨b, h1, h2⟩ := key
  exact ⟨b, h2, fun A c w hr hc => (towncrierlaw08_Few.calls 30 A c l b w hr hc h1).mono fun e w' h => by first | exact h | exact ⟨h.1, h.2.below⟩⟩
def belowL (n : Int) : List SOp := [⟨1, 0, zeroV⟩, ⟨0, 0, ⟨0, n, ⟨#[]⟩⟩⟩, ⟨5, 0, zeroV⟩]
theorem below_told (n : Int) (w : World) : Calls Try.prog 30 #[.int .i64 n] w (rowPost kOp 50 (belowL n) w) := towncrierlaw08_Below.calls n _ w rfl
theorem belowL_i64 {n : Int} (h : -9223372036854775808 ≤ n ∧ n ≤ 9223372036854775807) : ∀ x ∈ belowL n, i64V x.f2 := by
  intro x hx
  simp only [belowL, List.mem_cons, List.not_mem_nil, or_false] at hx
  rcases hx with rfl | rfl | rfl
  · exact okV_zero.2
  · exact h
  · exact okV_zero.2
theorem getP_put {x : SOp} (rest : List Int) (h : mayP x = true) (hi : i64V x.f2) : getP (bytesP x ++ rest) = some (x, (bytesP x).length) := by
  obtain ⟨h0, h1, h2, h3, h4, h5, h6⟩ := mayP_iff.1 h
  obtain ⟨c, a, v⟩ := x
  simp only at h0 h1 h2 h3 h4 h5 h6 hi
  unfold bytesP
  simp only [List.cons_append, getP]
  by_cases c0 : c = 0
  · subst c0
    have ha : a = 0 := by omega
    subst ha
    rw [if_pos rfl, if_pos rfl, getV_put rest hi h6]
    simp
  · rw [if_neg c0, if_neg c0]
    have hv : v = zeroV := by rcases h5 with h5 | h5; exact absurd h5 c0; exact h5
    subst hv
    by_cases c1 : c = 1
    · subst c1
      rw [if_pos rfl, if_pos rfl]
      rfl
    · rw [if_neg c1, if_neg c1]
      have ha : a = 0 := by rcases h4 with h4 | h4; exact absurd h4 c1; exact h4
      subst ha
      rfl
theorem opsL_cons (x : SOp) (l : List SOp) : opsL (x :: l) = bytesP x ++ opsL l := by unfold opsL; simp
theorem getOs_put : ∀ (F : List SOp) (rest : List Int), (∀ x ∈ F, mayP x = true) → (∀ x ∈ F, i64V x.f2) → getOs F.length (opsL F ++ rest) = some (F, (opsL F).length)
  | [], rest, _, _ => rfl
  | x :: F, rest, h, hi => by
    rw [opsL_cons, List.append_assoc]
    simp only [List.length_cons, getOs, getP_put _ (h x (by simp)) (hi x (by simp)), List.drop_left, getOs_put F rest (fun y hy => h y (by simp [hy])) (fun y hy => hi y (by simp [hy])), List.length_append]
theorem getO_put {l : List SOp} (rest : List Int) (h : mayO l = true) (hi : ∀ x ∈ l, i64V x.f2) : getO (bytesO l ++ rest) = some (l, (bytesO l).length) := by
  obtain ⟨h12, hp⟩ := mayO_iff.1 h
  have hg : getN (bytesO l ++ rest) = some (l.length, (lePut l.length).length) := by
    unfold bytesO
    rw [List.append_assoc]
    exact getN_put _ _ (by omega)
  rw [getO_some (show getM _ 12 = some (l.length, (lePut l.length).length) from by rw [getM_some hg, if_pos h12])]
  unfold contO
  rw [show (bytesO l ++ rest).drop (lePut l.length).length = opsL l ++ rest from by unfold bytesO; rw [List.append_assoc, List.drop_left], getOs_put l rest hp hi]
  simp only [List.nil_append, h, if_true]
  unfold bytesO
  rw [List.length_append]
theorem gotO_some {l : List Int} {x : List SOp} {n : Nat} (h : getO l = some (x, n)) : gotO (getO l) = (x, n, true) := by rw [h]; rfl
end Go.Proofs.Ytncllbokeofdjaa.P

namespace Go.Proofs.Ytncllbokeofdjaa.P
open Go.RowKit Go.Proofs.YtncllbokeofdjaaW.PrintWords Go.Proofs.YtncllbokeofdjaaW.PrintLast Go.Proofs.YtncllbokeofdjaaW.PrintMore
set_option linter.unusedVariables false
theorem few5_told (x : SSchema) : ∃ b, (b = true → x.f2.length ≤ 10) ∧ ∀ (A : Option Addr) (c : Nat) (w : World), Kd.C kField w A x.f2.length x.f2 → x.f2.length ≤ c → Calls Try.prog 12 #[.agg #[.string x.f0, .int .i64 x.f1, .slice A x.f2.length c]] w (boolPost b w) := by
  obtain ⟨b, h1, h2⟩ := few5_some x.f0 x.f1 x.f2 (k := 20) (by decide)
  exact ⟨b, h2, fun A c w hr hc => towncrierlaw05_Few.calls 20 x.f0 x.f1 A c x.f2 b w hr hc h1⟩
end Go.Proofs.Ytncllbokeofdjaa.P

namespace Go.Proofs.Ytncllbokeofdjaa.P
open Go.RowKit Go.Proofs.YtncllbokeofdjaaW.PrintWords Go.Proofs.YtncllbokeofdjaaW.PrintLast Go.Proofs.YtncllbokeofdjaaW.PrintMore
attribute [local go_sem] max2_int min2_int max_two min_two max_three min_three max_four min_four   -- for this text's walks alone
set_option linter.unusedVariables false
set_option linter.unusedSimpArgs false
theorem infoThing : (Try.prog.info? 95).map (fun i => (i.zero, i.size, i.bytes)) = some (some .nilIface, 1, 16) := by kernel_rfl
theorem Spares.low {S : Nat → Prop} {w0 W w1 : World} (h : Spares S w0 W) (k : Below w0.heap.size W w1) : Spares S w0 w1 := ⟨h.1.trans (k.mono (Nat.zero_le _)), fun i hi hs => (k.block i hi).trans (h.2 i hi hs)⟩
def pileBlk (v V : Value) (k : Bool) : Obj := .cells #[v, V, .bool k] 67 (0, 0)
def pileRel (w0 : World) (B : Nat) (V : Value) (k : Bool) (xs : List SValue) (w : World) : Prop := ∃ v, w.heap[B]? = some (pileBlk v V k) ∧ Kd.R kThing 95 w w0.heap.size (fun _ => True) v xs ∧ Spares (fun i => i = B) w0 w
theorem pileRel.size {w0 : World} {B : Nat} {V : Value} {k : Bool} {xs : List SValue} {w : World} (h : pileRel w0 B V k xs w) : w0.heap.size ≤ w.heap.size := by obtain ⟨_, _, _, hs⟩ := h; exact hs.size
theorem pileRel.below {w0 : World} {B : Nat} {V : Value} {k : Bool} {xs : List SValue} {w w1 : World} (h : pileRel w0 B V k xs w) (hb : Below w.heap.size w w1) : pileRel w0 B V k xs w1 := by
  obtain ⟨v, h1, h2, h3⟩ := h
  exact ⟨v, blk_below h1 hb, Kd.R_below h2 hb, h3.step hb⟩
theorem thing_types : ∀ q, q ∈ 95 :: kThing.E → q ≠ 67 := by
  intro q hq
  rw [show kThing.E = [] from rfl, List.mem_singleton] at hq
  subst hq
  decide
theorem pile_put {w0 w : World} {B : Nat} {v V v1 : Value} {k : Bool} {xs : List SValue} (h1 : w.heap[B]? = some (pileBlk v V k)) (h2 : Kd.R kThing 95 w w0.heap.size (fun _ => True) v1 xs) (h3 : Spares (fun i => i = B) w0 w) : pileRel w0 B V k xs (w.setCell ⟨B, 0, none⟩ v1) :=
  ⟨v1, blk_put h1 0 v1 rfl, Kd.R_set h2 h1 thing_types 0 v1, h3.set 0 (.inl rfl) v1⟩
set_option maxHeartbeats 1000000 in
set_option maxRecDepth 100000 in
theorem lay_told (w0 : World) (B : Nat) (V : Value) (k : Bool) (xs : List SValue) (x : SValue) (w : World) (h : pileRel w0 B V k xs w) (hB : B < w0.heap.size) (hl : xs.length ≤ 1000) :
    Calls Try.prog 75 #[.pointer (some ⟨B, 0, none⟩), thV x] w fun e w' => e = .returned (.tuple #[]) ∧ pileRel w0 B V k (xs ++ [x]) w' := by
  obtain ⟨v, hb, ho, hs⟩ := h
  obtain ⟨A, c, rfl⟩ := Kd.R_slice ho
  have HO := Aside0.mk ho
  have HS := Aside0.mk hs
  have HK := Aside0.mk hb
  have hne := Kd.R_ne ho hb (by decide : (95 : Nat) ≠ 67)
  have HNE := Aside0.mk hne
  have hone := thV_one x
  unfold pileBlk at hb
  obtain ⟨k1, k2, k3, k4⟩ := know hb
  obtain ⟨t, u, hy⟩ := thV_iface x
  rw [hy] at hone ⊢
  have HY := Aside0.mk hy
  have hsz := hs.size
  clear ho hs hb hne hy hone
  go_enter Try.func75, Try.ntmps75
  go_wp2_with ((with_reducible refine gate_builtin (b := .append) (xs := #[.tmp 8, .tmp 10]) rfl ?_); at_builtin; refine Kd.R_append kThing (w0 := w) w0.heap.size rfl (.tmp 8) (.tmp 10) 65 95 .nilIface 16 rfl Try.underlying65 infoThing rfl (by decide) (by decide) (.slice A xs.length c) xs x [.iface t u] (fun _ => True) (fun _ => False) ?hs ?hx ?aP (fun _ h => h.elim) (fun _ _ => trivial) HO.out (Below.refl _ _) hsz (by omega) ?_; (case hs => rfl); (case hx => rfl); (case aP => rw [← HY.out]; rfl); intro v1 w1 ho1 hb1 hg1 hat1; have HO1 := Aside0.mk ho1; have HB1 := Aside0.mk hb1; have HK1 := Aside0.mk (blk_grown HK.out hg1 HNE.out); obtain ⟨A1, c1, hv1⟩ := Kd.R_slice ho1; rw [List.length_append, List.length_singleton] at hv1; subst hv1; obtain ⟨j1, j2, j3, j4⟩ := know HK1.out; clear ho1 hb1 hg1 hat1 k1 k2 k3 k4)
  go_end0
  exact ⟨rfl, pile_put HK1.out HO1.out (HS.out.low HB1.out)⟩
end Go.Proofs.Ytncllbokeofdjaa.P

namespace Go.Proofs.Ytncllbokeofdjaa.P
open Go.RowKit Go.Proofs.YtncllbokeofdjaaW.PrintWords Go.Proofs.YtncllbokeofdjaaW.PrintLast Go.Proofs.YtncllbokeofdjaaW.PrintMore
attribute [local go_sem] max2_int min2_int max_two min_two max_three min_three max_four min_four   -- for this text's walks alone
set_option linter.unusedVariables false
set_option linter.unusedSimpArgs false
set_option maxHeartbeats 1000000 in
set_option maxRecDepth 100000 in
theorem cloneTh_told (ad : Addr) (m c : Nat) (l : List SValue) (w : World) (hr0 : Kd.C kThing w (some ad) m l) (hm : m ≤ 1000) :
    Calls Try.prog 86 #[.slice (some ad) m c] w (rowPost kThing 95 l w) := by
  obtain rfl : l.length = m := hr0.1
  have HR := Aside0.mk hr0
  clear hr0
  have hu := Try.underlying65
  have hq := fun (W : World) (m c : Nat) => Go.Lib.run_eql_slice_nil (P := Try.prog) W 65 95 (some ad) m c 0 0 hu
  go_enter Try.func86, Try.ntmps86
  go_wp2_with ((with_reducible refine gate_builtin (b := .append) (xs := #[.tmp 5, .tmp 6]) rfl ?_); at_builtin; refine Kd.R_append_rows kThing (Rr := Kd.K kThing (w.alloc (.cells #[] 95))) (w0 := w) w.heap.size rfl (.tmp 5) (.tmp 6) 65 95 .nilIface 16 rfl Try.underlying65 infoThing rfl (by decide) (by omega) (.slice (some ⟨w.heap.size, 0, none⟩) 0 0) [] l (some ad) l.length c (fun _ => True) (fun _ => False) rfl rfl ?aO ?aR ?aK (fun _ h => h.elim) (fun _ _ => trivial) ?aB ?aS ?aL ?_; (case aO => exact Kd.R_empty _ _ _ _ (Nat.le_refl _)); (case aR => exact Kd.C_below HR.out ((Below.refl _ _).alloc (Nat.le_refl _) _)); (case aB => exact (Below.refl _ _).alloc (Nat.le_refl _) _); (case aK => exact (fun x cs h => h)); (case aS => simp); (case aL => simp; omega); intro v1 w2 ho hb hg hat; have HO := Aside0.mk ho; clear ho hg hat)
  go_ret
  exact ⟨_, rfl, HO.out, hb⟩
end Go.Proofs.Ytncllbokeofdjaa.P

namespace Go.Proofs.Ytncllbokeofdjaa.P
open Go.RowKit Go.Proofs.YtncllbokeofdjaaW.PrintWords Go.Proofs.YtncllbokeofdjaaW.PrintLast Go.Proofs.YtncllbokeofdjaaW.PrintMore
attribute [local go_sem] max2_int min2_int max_two min_two max_three min_three max_four min_four   -- for this text's walks alone
set_option linter.unusedVariables false
set_option linter.unusedSimpArgs false
def takePost (w0 : World) (B n : Nat) (V : Value) (k : Bool) (xs : List SValue) (w : World) (e : Ending) (w' : World) : Prop := ∃ A c, (e = .returned (.tuple #[.slice (some A) n c, .bool true]) ∧ n ≤ c ∧ Kd.C kThing w' (some A) n (xs.drop (xs.length - n))) ∧ pileRel w0 B V k (xs.take (xs.length - n)) w' ∧ Spares (fun i => i = B) w w'
set_option maxHeartbeats 1000000 in
set_option maxRecDepth 100000 in
theorem take_no (w0 : World) (B n : Nat) (V : Value) (k : Bool) (xs : List SValue) (w : World) (h : pileRel w0 B V k xs w) (hn : xs.length < n) (hn2 : n ≤ 2) :
    Calls Try.prog 78 #[.pointer (some ⟨B, 0, none⟩), .int .i64 (n : Int)] w fun e w' => e = .returned (.tuple #[.slice none 0 0, .bool false]) ∧ w' = w := by
  have HH := Aside0.mk h
  obtain ⟨v, hb, ho, hs⟩ := h
  obtain ⟨A, c, rfl⟩ := Kd.R_slice ho
  unfold pileBlk at hb
  obtain ⟨k1, k2, k3, k4⟩ := know hb
  have hw : IntKind.i64.wrap ((xs.length : Int) - (n : Int)) = (xs.length : Int) - (n : Int) := IntWalk.i64_in _ (by omega)
  have hd : decide ((xs.length : Int) - (n : Int) < 0) = true := decide_eq_true (by omega)
  have hd2 : (xs.length : Int) - (n : Int) < 0 := by omega
  clear ho hs hb hn hn2
  go_enter Try.func78, Try.ntmps78
  go_wp2
  go_ret2
  exact ⟨rfl, rfl⟩
set_option maxHeartbeats 1000000 in
set_option maxRecDepth 100000 in
theorem take_told (w0 : World) (B n : Nat) (V : Value) (k : Bool) (xs : List SValue) (w : World) (h : pileRel w0 B V k xs w) (hB : B < w0.heap.size) (hn0 : 1 ≤ n) (hn2 : n ≤ 2) (hl : xs.length ≤ 1000) (hle : n ≤ xs.length) :
    Calls Try.prog 78 #[.pointer (some ⟨B, 0, none⟩), .int .i64 (n : Int)] w (takePost w0 B n V k xs w) := by
  obtain ⟨v, hb, ho, hs⟩ := h
  obtain ⟨A, c, rfl, hc, hr⟩ := Kd.R_reads ho
  obtain ⟨i0, hi0, _, hsz0, _⟩ := info_parts infoThing
  obtain ⟨m, hm⟩ : ∃ m, xs.length = m + n := ⟨xs.length - n, by omega⟩
  obtain ⟨A', hcut, hC', hlc⟩ := drop_row (P := Try.prog) (d := kThing) Try.underlying65 hi0 hsz0 A c xs m (m : Int) rfl (by omega) hc
  obtain ⟨hcut2, hC2⟩ := take_row (P := Try.prog) (d := kThing) Try.underlying65 hi0 A c xs m (m : Int) rfl (by omega) hc
  have hln : (xs.drop m).length = n := by rw [List.length_drop]; omega
  rw [hln] at hcut hC' hlc
  have hrow := hC' w hr
  obtain ⟨a, rfl⟩ : ∃ a, A' = some a := by
    obtain ⟨ad, e, _⟩ := hrow.2.2 (by omega)
    exact ⟨ad, e⟩
  have HROW := Aside0.mk hrow
  have HO := Aside0.mk ho
  have HS := Aside0.mk hs
  have HK := Aside0.mk hb
  unfold takePost
  rw [show xs.length - n = m from by omega]
  have HT := Aside0.mk (Kd.R_take (m := m) ho (by omega))
  unfold pileBlk at hb
  obtain ⟨k1, k2, k3, k4⟩ := know hb
  have hw : IntKind.i64.wrap ((xs.length : Int) - (n : Int)) = (m : Int) := by rw [IntWalk.i64_in _ (by omega)]; omega
  have hm0 : ¬ (m : Int) < 0 := by omega
  have hn1000 : n ≤ 1000 := by omega
  clear ho hs hb hC' hC2 hlc hi0 hsz0 hr hrow hm
  go_enter Try.func78, Try.ntmps78
  go_wp2_with (go_at_call 86; refine (cloneTh_told a n _ (xs.drop m) _ HROW.out hn1000).mono ?_; rintro e w1 ⟨v1, rfl, ho1, hb1⟩; obtain ⟨A1, c1, hv1, hc1, hr1⟩ := Kd.R_reads ho1; rw [hln] at hv1 hc1 hr1; subst hv1; have HC1 := Aside0.mk hc1; have HR1 := Aside0.mk hr1; have HOR := Aside0.mk ho1; have HB1 := Aside0.mk hb1; have HK1 := Aside0.mk (blk_below HK.out hb1); obtain ⟨j1, j2, j3, j4⟩ := know HK1.out; clear ho1 hb1 hc1 hr1 k1 k2 k3 k4)
  go_ret2
  have hb : A1 ≠ none := by
    rintro rfl
    obtain ⟨ad, e, _⟩ := HR1.out.2.2 (by omega)
    cases e
  obtain ⟨a1, rfl⟩ := Option.ne_none_iff_exists'.1 hb
  refine ⟨a1, c1, ⟨rfl, HC1.out, ?_⟩, pile_put HK1.out (Kd.R_below HT.out HB1.out) (HS.out.step HB1.out), Spares.set (S := fun i => i = B) (Spares.of_below HB1.out) (g := B) 0 (.inl rfl) _⟩
  have hfin := (Kd.R_reads' (Kd.R_set HOR.out HK1.out thing_types 0 (.slice A m c))).2.2
  rwa [hln] at hfin
end Go.Proofs.Ytncllbokeofdjaa.P

namespace Go.Proofs.Ytncllbokeofdjaa.P
open Go.RowKit Go.Proofs.YtncllbokeofdjaaW.PrintWords Go.Proofs.YtncllbokeofdjaaW.PrintLast Go.Proofs.YtncllbokeofdjaaW.PrintMore
attribute [local go_sem] max2_int min2_int max_two min_two max_three min_three max_four min_four   -- for this text's walks alone
set_option linter.unusedVariables false
set_option linter.unusedSimpArgs false
def cmp_isNaN_int.f (a0 : Int) : Option (Bool) := some (a0 != a0)
set_option maxHeartbeats 8000000 in
set_option maxRecDepth 100000 in
theorem cmp_isNaN_int.calls (a0 : Int) (r : Bool) (w : World) (h : cmp_isNaN_int.f a0 = some r) :
    Calls Try.prog 70 #[.int .i64 a0] w fun e w' => e = .returned (.bool r) ∧ Drawn0 w w' := by
  have H : (some (a0 != a0)) = some r := h
  clear h
  obtain rfl := Option.some.inj H
  go_enter Try.func70, Try.ntmps70
  go_wp2
  go_ret
  exact ⟨by first | rfl | (simp; done) | (simp [*]; done), by repeat (first | exact Drawn0.refl _ | apply Drawn0.step)⟩
end Go.Proofs.Ytncllbokeofdjaa.P

namespace Go.Proofs.Ytncllbokeofdjaa.P
open Go.RowKit Go.Proofs.YtncllbokeofdjaaW.PrintWords Go.Proofs.YtncllbokeofdjaaW.PrintLast Go.Proofs.YtncllbokeofdjaaW.PrintMore
attribute [local go_sem] max2_int min2_int max_two min_two max_three min_three max_four min_four   -- for this text's walks alone
set_option linter.unusedVariables false
set_option linter.unusedSimpArgs false
def cmp_Or_int.l0 : Nat → Int → List Int → Int → Int → Option (Int)
  | 0, _, _, _, _ => none
  | k + 1, x3, x6, x7, x8 => if x8 < x7 then (if 0 ≤ x8 then (if x8 < (x6.length : Int) then (if (rd x6 x8) = x3 then (cmp_Or_int.l0 k x3 x6 x7 (wrap64 (x8 + 1))) else (some (rd x6 x8))) else (none)) else (none)) else (some x3)
def cmp_Or_int.f (k : Nat) (l0 : List Int) : Option (Int) := cmp_Or_int.l0 k 0 l0 (l0.length : Int) 0
set_option maxHeartbeats 8000000 in
set_option maxRecDepth 100000 in
theorem cmp_Or_int.calls (k : Nat) (A0 : Option Addr) (c0 : Nat) (l0 : List Int) (r : Int) (w : World) (hr0 : Kd.C (Kd.int .i64) w A0 l0.length l0) (hc0 : l0.length ≤ c0) (h : cmp_Or_int.f k l0 = some r) :
    Calls Try.prog 50 #[.slice A0 l0.length c0] w fun e w' => e = .returned (.int .i64 r) ∧ Drawn0 w w' := by
  have HR0 := Aside0.mk hr0
  have HC0 := Aside0.mk hc0
  clear hr0 hc0
  have H : (cmp_Or_int.l0 k 0 l0 (l0.length : Int) 0) = some r := h
  clear h
  have H' := Aside0.mk H
  clear H
  go_enter Try.func50, Try.ntmps50
  go_wp2
  go_loopg [8] k (fun kq v8 w' => ∃ (x8_1 : Int), v8 = .int .i64 x8_1 ∧ Aside0 (cmp_Or_int.l0 kq 0 l0 (l0.length : Int) x8_1 = some r) ∧ Aside0 (kq ≤ k) ∧ Drawn0 w w')
  case atStart => exact ⟨(0), (by first | rfl | (simp; done) | (simp [*]; done)), H', ⟨Nat.le_refl _⟩, by repeat (first | exact Drawn0.refl _ | apply Drawn0.step)⟩
  case round =>
    clear H'
    obtain ⟨x8_1, rfl, HA, HK1, ⟨m1, rfl⟩⟩ := hrel
    cases gk with
    | zero => exact absurd HA.out (by simp [cmp_Or_int.l0])
    | succ k1 =>
      have H := HA.out
      clear HA
      simp only [cmp_Or_int.l0] at H
      by_cases c2 : x8_1 < (l0.length : Int)
      · rw [if_pos c2] at H
        have c2b0 : decide (x8_1 < (l0.length : Int)) = true := decide_eq_true c2
        clear c2
        by_cases c3 : 0 ≤ x8_1
        · rw [if_pos c3] at H
          have c3b0 : decide (0 ≤ x8_1) = true := decide_eq_true c3
          clear c3
          by_cases c4 : x8_1 < (l0.length : Int)
          · rw [if_pos c4] at H
            have c4b0 : decide (x8_1 < (l0.length : Int)) = true := decide_eq_true c4
            clear c4
            by_cases c5 : (rd l0 x8_1) = 0
            · rw [if_pos c5] at H
              have c5b0 : ((rd l0 x8_1) == 0) = true := beq_iff_eq.mpr c5
              have c5b1 : ((rd l0 x8_1) != 0) = false := bne_eq_false_iff_eq.mpr c5
              clear c5
              have H' := Aside0.mk H
              clear H
              have p101 : 0 ≤ (x8_1 : Int) := of_decide_eq_true (by first | (with_reducible assumption) | assumption)
              have q101 : x8_1 < (l0.length : Int) := of_decide_eq_true (by first | (with_reducible assumption) | assumption)
              obtain ⟨ad101, e101, hx101_0⟩ := Kd.at_int HR0.out x8_1 p101 q101
              cases e101
              replace p101 := eq_true p101
              replace q101 := eq_true q101
              go_wp2
              go_roundg k1
              case measure => have := HK1.out; omega
              case rel => exact ⟨(wrap64 (x8_1 + 1)), (by first | rfl | (simp; done) | (simp [*]; done)), H', ⟨by have := HK1.out; omega⟩, by repeat (first | exact Drawn0.refl _ | apply Drawn0.step)⟩
            · rw [if_neg c5] at H
              have c5b0 : ((rd l0 x8_1) == 0) = false := beq_eq_false_iff_ne.mpr c5
              have c5b1 : ((rd l0 x8_1) != 0) = true := bne_iff_ne.mpr c5
              obtain rfl := Option.some.inj H
              have p101 : 0 ≤ (x8_1 : Int) := of_decide_eq_true (by first | (with_reducible assumption) | assumption)
              have q101 : x8_1 < (l0.length : Int) := of_decide_eq_true (by first | (with_reducible assumption) | assumption)
              obtain ⟨ad101, e101, hx101_0⟩ := Kd.at_int HR0.out x8_1 p101 q101
              cases e101
              replace p101 := eq_true p101
              replace q101 := eq_true q101
              go_wp2
              go_ret
              exact ⟨by first | rfl | (simp; done) | (simp [*]; done), by repeat (first | exact Drawn0.refl _ | apply Drawn0.step)⟩
          · rw [if_neg c4] at H
            exact absurd H (by simp)
        · rw [if_neg c3] at H
          exact absurd H (by simp)
      · rw [if_neg c2] at H
        have c2b0 : decide (x8_1 < (l0.length : Int)) = false := decide_eq_false c2
        clear c2
        obtain rfl := Option.some.inj H
        go_wp2
        go_ret
        exact ⟨by first | rfl | (simp; done) | (simp [*]; done), by repeat (first | exact Drawn0.refl _ | apply Drawn0.step)⟩
end Go.Proofs.Ytncllbokeofdjaa.P

namespace Go.Proofs.Ytncllbokeofdjaa.P
open Go.RowKit Go.Proofs.YtncllbokeofdjaaW.PrintWords Go.Proofs.YtncllbokeofdjaaW.PrintLast Go.Proofs.YtncllbokeofdjaaW.PrintMore
attribute [local go_sem] max2_int min2_int max_two min_two max_three min_three max_four min_four   -- for this text's walks alone
set_option linter.unusedVariables false
set_option linter.unusedSimpArgs false
def cmp_Compare_int.f (a0 : Int) (a1 : Int) : Option (Int) := (cmp_isNaN_int.f a0).bind fun t102 => ((cmp_isNaN_int.f a1).bind fun t103 => (if t102 = true then (if t103 = true then (some 0) else (some (-1))) else (if t103 = true then (some 1) else (if a0 < a1 then (some (-1)) else (if a0 > a1 then (some 1) else (some 0))))))
set_option maxHeartbeats 8000000 in
set_option maxRecDepth 100000 in
theorem cmp_Compare_int.calls (a0 : Int) (a1 : Int) (r : Int) (w : World) (h : cmp_Compare_int.f a0 a1 = some r) :
    Calls Try.prog 51 #[.int .i64 a0, .int .i64 a1] w fun e w' => e = .returned (.int .i64 r) ∧ Drawn0 w w' := by
  have H : ((cmp_isNaN_int.f a0).bind fun t102 => ((cmp_isNaN_int.f a1).bind fun t103 => (if t102 = true then (if t103 = true then (some 0) else (some (-1))) else (if t103 = true then (some 1) else (if a0 < a1 then (some (-1)) else (if a0 > a1 then (some 1) else (some 0))))))) = some r := h
  clear h
  replace H := Option.bind_eq_some_iff.mp H
  obtain ⟨t102, A30, H⟩ := H
  replace H : ((cmp_isNaN_int.f a1).bind fun t103 => (if t102 = true then (if t103 = true then (some 0) else (some (-1))) else (if t103 = true then (some 1) else (if a0 < a1 then (some (-1)) else (if a0 > a1 then (some 1) else (some 0)))))) = some r := H
  have A3 := Aside0.mk A30
  clear A30
  replace H := Option.bind_eq_some_iff.mp H
  obtain ⟨t103, A40, H⟩ := H
  replace H : (if t102 = true then (if t103 = true then (some 0) else (some (-1))) else (if t103 = true then (some 1) else (if a0 < a1 then (some (-1)) else (if a0 > a1 then (some 1) else (some 0))))) = some r := H
  have A4 := Aside0.mk A40
  clear A40
  by_cases c5 : t102 = true
  · subst c5
    have H1 : (if t103 = true then (some 0) else (some (-1))) = some r := by rw [if_pos rfl] at H; exact H
    clear H
    have H := H1
    clear H1
    by_cases c6 : t103 = true
    · subst c6
      have H1 : (some 0) = some r := by rw [if_pos rfl] at H; exact H
      clear H
      have H := H1
      clear H1
      obtain rfl := Option.some.inj H
      go_enter Try.func51, Try.ntmps51
      go_wp2_with (first | ((with_reducible refine gate_callee (f := 70) rfl ?_); refine goesL_ (some 8) rfl rfl Try.func70 (by kernel_rfl) rfl #[.int .i64 a0] rfl (by (try simp only [List.map_toArray, List.map_cons, List.map_nil]); first | done | rfl | (simp only [List.length_drop, List.length_take]; rfl)) ?_; (with_reducible refine (cmp_isNaN_int.calls a0 true _ A3.out).mono ?_); rintro e w' ⟨rfl, ⟨nd, rfl⟩⟩; refine ⟨_, rfl, ?_⟩) | ((with_reducible refine gate_callee (f := 70) rfl ?_); refine goesL_ (some 10) rfl rfl Try.func70 (by kernel_rfl) rfl #[.int .i64 a1] rfl (by (try simp only [List.map_toArray, List.map_cons, List.map_nil]); first | done | rfl | (simp only [List.length_drop, List.length_take]; rfl)) ?_; (with_reducible refine (cmp_isNaN_int.calls a1 true _ A4.out).mono ?_); rintro e w' ⟨rfl, ⟨nd, rfl⟩⟩; refine ⟨_, rfl, ?_⟩))
      go_ret
      exact ⟨by first | rfl | (simp; done) | (simp [*]; done), by repeat (first | exact Drawn0.refl _ | apply Drawn0.step)⟩
    · replace c6 := Bool.eq_false_iff.mpr c6
      subst c6
      have H1 : (some (-1)) = some r := by rw [if_neg (show ¬ (false = true) by decide)] at H; exact H
      clear H
      have H := H1
      clear H1
      obtain rfl := Option.some.inj H
      go_enter Try.func51, Try.ntmps51
      go_wp2_with (first | ((with_reducible refine gate_callee (f := 70) rfl ?_); refine goesL_ (some 8) rfl rfl Try.func70 (by kernel_rfl) rfl #[.int .i64 a0] rfl (by (try simp only [List.map_toArray, List.map_cons, List.map_nil]); first | done | rfl | (simp only [List.length_drop, List.length_take]; rfl)) ?_; (with_reducible refine (cmp_isNaN_int.calls a0 true _ A3.out).mono ?_); rintro e w' ⟨rfl, ⟨nd, rfl⟩⟩; refine ⟨_, rfl, ?_⟩) | ((with_reducible refine gate_callee (f := 70) rfl ?_); refine goesL_ (some 10) rfl rfl Try.func70 (by kernel_rfl) rfl #[.int .i64 a1] rfl (by (try simp only [List.map_toArray, List.map_cons, List.map_nil]); first | done | rfl | (simp only [List.length_drop, List.length_take]; rfl)) ?_; (with_reducible refine (cmp_isNaN_int.calls a1 false _ A4.out).mono ?_); rintro e w' ⟨rfl, ⟨nd, rfl⟩⟩; refine ⟨_, rfl, ?_⟩))
      go_ret
      exact ⟨by first | rfl | (simp; done) | (simp [*]; done), by repeat (first | exact Drawn0.refl _ | apply Drawn0.step)⟩
  · replace c5 := Bool.eq_false_iff.mpr c5
    subst c5
    have H1 : (if t103 = true then (some 1) else (if a0 < a1 then (some (-1)) else (if a0 > a1 then (some 1) else (some 0)))) = some r := by rw [if_neg (show ¬ (false = true) by decide)] at H; exact H
    clear H
    have H := H1
    clear H1
    by_cases c7 : t103 = true
    · subst c7
      have H1 : (some 1) = some r := by rw [if_pos rfl] at H; exact H
      clear H
      have H := H1
      clear H1
      obtain rfl := Option.some.inj H
      go_enter Try.func51, Try.ntmps51
      go_wp2_with (first | ((with_reducible refine gate_callee (f := 70) rfl ?_); refine goesL_ (some 8) rfl rfl Try.func70 (by kernel_rfl) rfl #[.int .i64 a0] rfl (by (try simp only [List.map_toArray, List.map_cons, List.map_nil]); first | done | rfl | (simp only [List.length_drop, List.length_take]; rfl)) ?_; (with_reducible refine (cmp_isNaN_int.calls a0 false _ A3.out).mono ?_); rintro e w' ⟨rfl, ⟨nd, rfl⟩⟩; refine ⟨_, rfl, ?_⟩) | ((with_reducible refine gate_callee (f := 70) rfl ?_); refine goesL_ (some 10) rfl rfl Try.func70 (by kernel_rfl) rfl #[.int .i64 a1] rfl (by (try simp only [List.map_toArray, List.map_cons, List.map_nil]); first | done | rfl | (simp only [List.length_drop, List.length_take]; rfl)) ?_; (with_reducible refine (cmp_isNaN_int.calls a1 true _ A4.out).mono ?_); rintro e w' ⟨rfl, ⟨nd, rfl⟩⟩; refine ⟨_, rfl, ?_⟩))
      go_ret
      exact ⟨by first | rfl | (simp; done) | (simp [*]; done), by repeat (first | exact Drawn0.refl _ | apply Drawn0.step)⟩
    · replace c7 := Bool.eq_false_iff.mpr c7
      subst c7
      have H1 : (if a0 < a1 then (some (-1)) else (if a0 > a1 then (some 1) else (some 0))) = some r := by rw [if_neg (show ¬ (false = true) by decide)] at H; exact H
      clear H
      have H := H1
      clear H1
      by_cases c8 : a0 < a1
      · rw [if_pos c8] at H
        have c8b0 : decide (a0 < a1) = true := decide_eq_true c8
        clear c8
        obtain rfl := Option.some.inj H
        go_enter Try.func51, Try.ntmps51
        go_wp2_with (first | ((with_reducible refine gate_callee (f := 70) rfl ?_); refine goesL_ (some 8) rfl rfl Try.func70 (by kernel_rfl) rfl #[.int .i64 a0] rfl (by (try simp only [List.map_toArray, List.map_cons, List.map_nil]); first | done | rfl | (simp only [List.length_drop, List.length_take]; rfl)) ?_; (with_reducible refine (cmp_isNaN_int.calls a0 false _ A3.out).mono ?_); rintro e w' ⟨rfl, ⟨nd, rfl⟩⟩; refine ⟨_, rfl, ?_⟩) | ((with_reducible refine gate_callee (f := 70) rfl ?_); refine goesL_ (some 10) rfl rfl Try.func70 (by kernel_rfl) rfl #[.int .i64 a1] rfl (by (try simp only [List.map_toArray, List.map_cons, List.map_nil]); first | done | rfl | (simp only [List.length_drop, List.length_take]; rfl)) ?_; (with_reducible refine (cmp_isNaN_int.calls a1 false _ A4.out).mono ?_); rintro e w' ⟨rfl, ⟨nd, rfl⟩⟩; refine ⟨_, rfl, ?_⟩))
        go_ret
        exact ⟨by first | rfl | (simp; done) | (simp [*]; done), by repeat (first | exact Drawn0.refl _ | apply Drawn0.step)⟩
      · rw [if_neg c8] at H
        have c8b0 : decide (a0 < a1) = false := decide_eq_false c8
        clear c8
        by_cases c9 : a0 > a1
        · rw [if_pos c9] at H
          have c9b0 : decide (a1 < a0) = true := decide_eq_true c9
          clear c9
          obtain rfl := Option.some.inj H
          go_enter Try.func51, Try.ntmps51
          go_wp2_with (first | ((with_reducible refine gate_callee (f := 70) rfl ?_); refine goesL_ (some 8) rfl rfl Try.func70 (by kernel_rfl) rfl #[.int .i64 a0] rfl (by (try simp only [List.map_toArray, List.map_cons, List.map_nil]); first | done | rfl | (simp only [List.length_drop, List.length_take]; rfl)) ?_; (with_reducible refine (cmp_isNaN_int.calls a0 false _ A3.out).mono ?_); rintro e w' ⟨rfl, ⟨nd, rfl⟩⟩; refine ⟨_, rfl, ?_⟩) | ((with_reducible refine gate_callee (f := 70) rfl ?_); refine goesL_ (some 10) rfl rfl Try.func70 (by kernel_rfl) rfl #[.int .i64 a1] rfl (by (try simp only [List.map_toArray, List.map_cons, List.map_nil]); first | done | rfl | (simp only [List.length_drop, List.length_take]; rfl)) ?_; (with_reducible refine (cmp_isNaN_int.calls a1 false _ A4.out).mono ?_); rintro e w' ⟨rfl, ⟨nd, rfl⟩⟩; refine ⟨_, rfl, ?_⟩))
          go_ret
          exact ⟨by first | rfl | (simp; done) | (simp [*]; done), by repeat (first | exact Drawn0.refl _ | apply Drawn0.step)⟩
        · rw [if_neg c9] at H
          have c9b0 : decide (a1 < a0) = false := decide_eq_false c9
          clear c9
          obtain rfl := Option.some.inj H
          go_enter Try.func51, Try.ntmps51
          go_wp2_with (first | ((with_reducible refine gate_callee (f := 70) rfl ?_); refine goesL_ (some 8) rfl rfl Try.func70 (by kernel_rfl) rfl #[.int .i64 a0] rfl (by (try simp only [List.map_toArray, List.map_cons, List.map_nil]); first | done | rfl | (simp only [List.length_drop, List.length_take]; rfl)) ?_; (with_reducible refine (cmp_isNaN_int.calls a0 false _ A3.out).mono ?_); rintro e w' ⟨rfl, ⟨nd, rfl⟩⟩; refine ⟨_, rfl, ?_⟩) | ((with_reducible refine gate_callee (f := 70) rfl ?_); refine goesL_ (some 10) rfl rfl Try.func70 (by kernel_rfl) rfl #[.int .i64 a1] rfl (by (try simp only [List.map_toArray, List.map_cons, List.map_nil]); first | done | rfl | (simp only [List.length_drop, List.length_take]; rfl)) ?_; (with_reducible refine (cmp_isNaN_int.calls a1 false _ A4.out).mono ?_); rintro e w' ⟨rfl, ⟨nd, rfl⟩⟩; refine ⟨_, rfl, ?_⟩))
          go_ret
          exact ⟨by first | rfl | (simp; done) | (simp [*]; done), by repeat (first | exact Drawn0.refl _ | apply Drawn0.step)⟩
end Go.Proofs.Ytncllbokeofdjaa.P

namespace Go.Proofs.Ytncllbokeofdjaa.P
open Go.RowKit Go.Proofs.YtncllbokeofdjaaW.PrintWords Go.Proofs.YtncllbokeofdjaaW.PrintLast Go.Proofs.YtncllbokeofdjaaW.PrintMore
attribute [local go_sem] max2_int min2_int max_two min_two max_three min_three max_four min_four   -- for this text's walks alone
set_option linter.unusedVariables false
set_option linter.unusedSimpArgs false
def cmp_isNaN_string.f (a0 : ByteArray) : Option (Bool) := some (a0.toList != a0.toList)
set_option maxHeartbeats 8000000 in
set_option maxRecDepth 100000 in
theorem cmp_isNaN_string.calls (a0 : ByteArray) (r : Bool) (w : World) (h : cmp_isNaN_string.f a0 = some r) :
    Calls Try.prog 71 #[.string a0] w fun e w' => e = .returned (.bool r) ∧ Drawn0 w w' := by
  have H : (some (a0.toList != a0.toList)) = some r := h
  clear h
  obtain rfl := Option.some.inj H
  go_enter Try.func71, Try.ntmps71
  go_wp2
  go_ret
  exact ⟨by first | rfl | (simp; done) | (simp [*]; done), by repeat (first | exact Drawn0.refl _ | apply Drawn0.step)⟩
end Go.Proofs.Ytncllbokeofdjaa.P

namespace Go.Proofs.Ytncllbokeofdjaa.P
open Go.RowKit Go.Proofs.YtncllbokeofdjaaW.PrintWords Go.Proofs.YtncllbokeofdjaaW.PrintLast Go.Proofs.YtncllbokeofdjaaW.PrintMore
attribute [local go_sem] max2_int min2_int max_two min_two max_three min_three max_four min_four   -- for this text's walks alone
set_option linter.unusedVariables false
set_option linter.unusedSimpArgs false
def cmpS (a b : ByteArray) : Int := if Op.bytesLess a.toList b.toList = true then -1 else if (a.toList == b.toList) = true then 0 else 1
def cmp_Compare_string.f (a0 : ByteArray) (a1 : ByteArray) : Option Int := some (cmpS a0 a1)
set_option maxHeartbeats 4000000 in
set_option maxRecDepth 100000 in
theorem cmp_Compare_string.calls (a0 : ByteArray) (a1 : ByteArray) (r : Int) (w : World) (h : cmp_Compare_string.f a0 a1 = some r) :
    Calls Try.prog 52 #[.string a0, .string a1] w fun e w' => e = .returned (.int .i64 r) ∧ Drawn0 w w' := by
  obtain rfl := Option.some.inj h
  clear h
  have hN : ∀ s : ByteArray, cmp_isNaN_string.f s = some false := fun s => by
    unfold cmp_isNaN_string.f
    rw [bne_self_eq_false]
  have HN := Aside0.mk hN
  unfold cmpS
  obtain ⟨p, hp⟩ : ∃ p, Op.bytesLess a0.toList a1.toList = p := ⟨_, rfl⟩
  obtain ⟨q, hq⟩ : ∃ q, (a0.toList == a1.toList) = q := ⟨_, rfl⟩
  clear hN
  cases p <;> cases q
  all_goals
    go_enter Try.func52, Try.ntmps52
    go_wp2_with (first
      | (go_at_call 71; refine (cmp_isNaN_string.calls _ false _ (HN.out _)).mono ?_; rintro e w' ⟨rfl, ⟨nd, rfl⟩⟩))
    all_goals
      go_ret
      exact ⟨by simp [*], by repeat (first | exact Drawn0.refl _ | apply Drawn0.step)⟩
end Go.Proofs.Ytncllbokeofdjaa.P

namespace Go.Proofs.Ytncllbokeofdjaa.P
open Go.RowKit Go.Proofs.YtncllbokeofdjaaW.PrintWords Go.Proofs.YtncllbokeofdjaaW.PrintLast Go.Proofs.YtncllbokeofdjaaW.PrintMore
attribute [local go_sem] max2_int min2_int max_two min_two max_three min_three max_four min_four   -- for this text's walks alone
set_option linter.unusedVariables false
set_option linter.unusedSimpArgs false
def value_Less.j0 : Nat → Bool → Int → Int → ByteArray → Int → Int → ByteArray → Option (Bool × Bool)
  | 0, _, _, _, _, _, _, _ => none
  | k + 1, x20, x105000, x105001, x105002, x106000, x106001, x106002 => if x20 = true then (some (false, false)) else ((cmp_Compare_int.f x105001 x106001).bind fun t108 => ((cmp_Compare_string.f x105002 x106002).bind fun t109 => ((cmp_Or_int.f k (([t108, t109] : List Int))).bind fun t113 => (some (decide (t113 < 0), true)))))
def value_Less.f (k : Nat) (a0_0 : Int) (a0_1 : Int) (a0_2 : ByteArray) (a1_0 : Int) (a1_1 : Int) (a1_2 : ByteArray) : Option (Bool × Bool) := (value_May.f a0_0 a0_1 a0_2).bind fun t106 => (if t106 = true then ((value_May.f a1_0 a1_1 a1_2).bind fun t107 => (if t107 = true then (value_Less.j0 k (a0_0 != a1_0) a0_0 a0_1 a0_2 a1_0 a1_1 a1_2) else (value_Less.j0 k true a0_0 a0_1 a0_2 a1_0 a1_1 a1_2))) else (value_Less.j0 k true a0_0 a0_1 a0_2 a1_0 a1_1 a1_2))
def value_Less.T3 : Bool × List (List Nat × List Nat) := (true, [([], []), ([0], [0]), ([], []), ([2], [2]), ([1, 3], [1, 3]), ([], []), ([5], [5]), ([], []), ([7], [7]), ([6, 8, 4], [6, 8]), ([4, 9], [4, 9]), ([10, 9], [10]), ([11], [11]), ([12, 11, 0, 1, 2, 3, 4, 5, 6, 7, 8, 9, 10, 11, 12], [12]), ([13, 0, 1, 2, 3, 4, 5, 6, 7, 8, 9, 10, 11, 12, 13], [])])
def value_Less.B3 : List Nat := [0, 1, 0, 4, 15, 0, 32, 0, 128, 511, 1023, 2047, 4095, 8191, 16383]
theorem value_Less.tab3 : rtab .any (opsOf Try.f28 3) = value_Less.T3 := by kernel_rfl
theorem value_Less.bits3 : waitsOk value_Less.T3.2 value_Less.B3 = true := by kernel_rfl
set_option maxHeartbeats 8000000 in
set_option maxRecDepth 100000 in
theorem value_Less.calls (k : Nat) (a0_0 : Int) (a0_1 : Int) (a0_2 : ByteArray) (a1_0 : Int) (a1_1 : Int) (a1_2 : ByteArray) (r1 : Bool) (r2 : Bool) (w : World) (h : value_Less.f k a0_0 a0_1 a0_2 a1_0 a1_1 a1_2 = some (r1, r2)) :
    Calls Try.prog 28 #[.agg #[.int .i64 a0_0, .int .i64 a0_1, .string a0_2], .agg #[.int .i64 a1_0, .int .i64 a1_1, .string a1_2]] w fun e w' => e = .returned (.tuple #[.bool r1, .bool r2]) ∧ Below w.heap.size w w' := by
  have hu38 := Try.underlying38
  have HB := Aside0.mk (Below.refl w.heap.size w)
  have H : ((value_May.f a0_0 a0_1 a0_2).bind fun t106 => (if t106 = true then ((value_May.f a1_0 a1_1 a1_2).bind fun t107 => (if t107 = true then (value_Less.j0 k (a0_0 != a1_0) a0_0 a0_1 a0_2 a1_0 a1_1 a1_2) else (value_Less.j0 k true a0_0 a0_1 a0_2 a1_0 a1_1 a1_2))) else (value_Less.j0 k true a0_0 a0_1 a0_2 a1_0 a1_1 a1_2))) = some (r1, r2) := h
  clear h
  have HC3 := Aside0.mk H
  clear H
  go_enter Try.func28, Try.ntmps28
  go_upto_region 1 with (first | ((with_reducible refine gate_dst (N := 2) rfl ?_); refine box_event ?hg (N := 2) ?hd (cs := #[.int .i64 a0_0, .int .i64 a0_1, .string a0_2]) (t := 38) ?hr ?_; (case hd => rfl); (case hg => rfl); (case hr => first | (go_simp; done) | (go_simp; rfl)); intro gb104 hg w4 hbox hb; have n0_ := Aside0.mk (below_step (by repeat (first | (with_reducible first | exact HB.out | apply below_alloc | apply pw_below_drewN | apply below_drew1) | exact HB.out)) hb); have n1_ := Aside0.mk (hbox); have n2_ := Aside0.mk ((by rw [hg]; exact (below_size (by repeat (first | (with_reducible first | exact HB.out | apply below_alloc | apply pw_below_drewN | apply below_drew1) | exact HB.out))) : w.heap.size ≤ gb104)); have n3_ := Aside0.mk ((by rw [hg]; exact (below_size (by repeat (first | (with_reducible first | exact HB.out | apply below_alloc | apply pw_below_drewN | apply below_drew1) | exact HB.out))) : w.heap.size ≤ gb104)); clear HB; have HB := n0_; have BK104 := n1_; have GW104 := n2_; have GE104 := n3_; clear n0_ n1_ n2_ n3_; clear hb hbox hg) | ((with_reducible refine gate_dst (N := 3) rfl ?_); refine box_event ?hg (N := 3) ?hd (cs := #[.int .i64 a1_0, .int .i64 a1_1, .string a1_2]) (t := 38) ?hr ?_; (case hd => rfl); (case hg => rfl); (case hr => first | (go_simp; done) | (go_simp; rfl)); intro gb105 hg w5 hbox hb; have n0_ := Aside0.mk (blk_below (g := gb104) (o := .cells #[.int .i64 a0_0, .int .i64 a0_1, .string a0_2] 38 (0, 0)) (by (with_reducible repeat (first | refine blk_drewN ?_ _ | refine blk_drew ?_ | refine blk_alloc ?_ _)); exact BK104.out) hb); have n1_ := Aside0.mk (below_step (by repeat (first | (with_reducible first | exact HB.out | apply below_alloc | apply pw_below_drewN | apply below_drew1 | refine below_set ?_ GE104.out) | exact HB.out)) hb); have n2_ := Aside0.mk (hbox); have n3_ := Aside0.mk ((by rw [hg]; exact (below_size (by repeat (first | (with_reducible first | exact HB.out | apply below_alloc | apply pw_below_drewN | apply below_drew1 | refine below_set ?_ GE104.out) | exact HB.out))) : w.heap.size ≤ gb105)); have n4_ := Aside0.mk ((by rw [hg]; exact (below_size (by repeat (first | (with_reducible first | exact HB.out | apply below_alloc | apply pw_below_drewN | apply below_drew1 | refine below_set ?_ GE104.out) | exact HB.out))) : w.heap.size ≤ gb105)); have n5_ := Aside0.mk ((by rw [hg]; exact Nat.ne_of_lt (blk_lt (g := gb104) (o := .cells #[.int .i64 a0_0, .int .i64 a0_1, .string a0_2] 38 (0, 0)) (by (with_reducible repeat (first | refine blk_drewN ?_ _ | refine blk_drew ?_ | refine blk_alloc ?_ _)); exact BK104.out)) : gb104 ≠ gb105)); have n6_ := Aside0.mk ((by rw [hg]; exact Nat.ne_of_gt (blk_lt (g := gb104) (o := .cells #[.int .i64 a0_0, .int .i64 a0_1, .string a0_2] 38 (0, 0)) (by (with_reducible repeat (first | refine blk_drewN ?_ _ | refine blk_drew ?_ | refine blk_alloc ?_ _)); exact BK104.out)) : gb105 ≠ gb104)); clear BK104; clear HB; have BK104 := n0_; have HB := n1_; have BK105 := n2_; have GW105 := n3_; have GE105 := n4_; have NB104_105 := n5_; have NB105_104 := n6_; clear n0_ n1_ n2_ n3_ n4_ n5_ n6_; clear hb hbox hg))
  (try simp only [Act.put, List.setIfInBounds_toArray, List.set_cons_zero, List.set_cons_succ])
  go_cut [20] (fun v20 wc => ∃ (kq : Nat) (x20_2 : Bool), v20 = .bool x20_2 ∧ Aside0 (value_Less.j0 kq x20_2 a0_0 a0_1 a0_2 a1_0 a1_1 a1_2 = some (r1, r2)) ∧ Aside0 (kq ≤ k) ∧ Aside0 (wc.heap[gb104]? = some (.cells #[.int .i64 a0_0, .int .i64 a0_1, .string a0_2] 38 (0, 0))) ∧ Aside0 (wc.heap[gb105]? = some (.cells #[.int .i64 a1_0, .int .i64 a1_1, .string a1_2] 38 (0, 0))) ∧ Aside0 (Below w.heap.size w wc))
  case first =>
    have H := HC3.out
    clear HC3
    replace H := Option.bind_eq_some_iff.mp H
    obtain ⟨t106, A60, H⟩ := H
    replace H : (if t106 = true then ((value_May.f a1_0 a1_1 a1_2).bind fun t107 => (if t107 = true then (value_Less.j0 k (a0_0 != a1_0) a0_0 a0_1 a0_2 a1_0 a1_1 a1_2) else (value_Less.j0 k true a0_0 a0_1 a0_2 a1_0 a1_1 a1_2))) else (value_Less.j0 k true a0_0 a0_1 a0_2 a1_0 a1_1 a1_2)) = some (r1, r2) := H
    have A6 := Aside0.mk A60
    clear A60
    by_cases c7 : t106 = true
    · subst c7
      have H1 : ((value_May.f a1_0 a1_1 a1_2).bind fun t107 => (if t107 = true then (value_Less.j0 k (a0_0 != a1_0) a0_0 a0_1 a0_2 a1_0 a1_1 a1_2) else (value_Less.j0 k true a0_0 a0_1 a0_2 a1_0 a1_1 a1_2))) = some (r1, r2) := by rw [if_pos rfl] at H; exact H
      clear H
      have H := H1
      clear H1
      replace H := Option.bind_eq_some_iff.mp H
      obtain ⟨t107, A80, H⟩ := H
      replace H : (if t107 = true then (value_Less.j0 k (a0_0 != a1_0) a0_0 a0_1 a0_2 a1_0 a1_1 a1_2) else (value_Less.j0 k true a0_0 a0_1 a0_2 a1_0 a1_1 a1_2)) = some (r1, r2) := H
      have A8 := Aside0.mk A80
      clear A80
      by_cases c9 : t107 = true
      · subst c9
        have H1 : (value_Less.j0 k (a0_0 != a1_0) a0_0 a0_1 a0_2 a1_0 a1_1 a1_2) = some (r1, r2) := by rw [if_pos rfl] at H; exact H
        clear H
        have H := H1
        clear H1
        have H' := Aside0.mk H
        clear H
        have hnb10 := NB104_105.out
        have hnc10 := NB105_104.out
        have hcz11_0 : w5.cell? ⟨gb104, 0, none⟩ = some (.int .i64 a0_0) := (blk_cell BK104.out 0).trans rfl
        have hcz11_1 : w5.cell? ⟨gb104, 1, none⟩ = some (.int .i64 a0_1) := (blk_cell BK104.out 1).trans rfl
        have hcz11_2 : w5.cell? ⟨gb104, 2, none⟩ = some (.string a0_2) := (blk_cell BK104.out 2).trans rfl
        have hfz11_0 := blk_frozen BK104.out 0
        have hfz11_1 := blk_frozen BK104.out 1
        have hfz11_2 := blk_frozen BK104.out 2
        go_wp2_with (first | ((with_reducible refine gate_callee (f := 27) rfl ?_); refine goesL_ (some 7) rfl rfl Try.func27 (by kernel_rfl) rfl #[.agg #[.int .i64 a0_0, .int .i64 a0_1, .string a0_2]] rfl (by (try simp only [List.map_toArray, List.map_cons, List.map_nil]); first | done | rfl | (simp only [List.length_drop, List.length_take]; rfl)) ?_; (with_reducible refine (value_May.calls a0_0 a0_1 a0_2 true _ A6.out).mono ?_); rintro e w12 ⟨rfl, hb⟩; refine ⟨_, rfl, ?_⟩; have n0_ := Aside0.mk (blk_below (g := gb104) (o := .cells #[.int .i64 a0_0, .int .i64 a0_1, .string a0_2] 38 (0, 0)) (by (with_reducible repeat (first | refine blk_drewN ?_ _ | refine blk_drew ?_ | refine blk_alloc ?_ _)); exact BK104.out) hb); have n1_ := Aside0.mk (blk_below (g := gb105) (o := .cells #[.int .i64 a1_0, .int .i64 a1_1, .string a1_2] 38 (0, 0)) (by (with_reducible repeat (first | refine blk_drewN ?_ _ | refine blk_drew ?_ | refine blk_alloc ?_ _)); exact BK105.out) hb); have n2_ := Aside0.mk (below_step (by repeat (first | (with_reducible first | exact HB.out | apply below_alloc | apply pw_below_drewN | apply below_drew1 | refine below_set ?_ GE104.out | refine below_set ?_ GE105.out) | exact HB.out)) hb); clear BK104; clear BK105; clear HB; have BK104 := n0_; have BK105 := n1_; have HB := n2_; clear n0_ n1_ n2_; (try clear hb); (try clear hb2); (try clear hk); (try clear hi); have hcz13_0 : w12.cell? ⟨gb105, 0, none⟩ = some (.int .i64 a1_0) := (blk_cell BK105.out 0).trans rfl; have hcz13_1 : w12.cell? ⟨gb105, 1, none⟩ = some (.int .i64 a1_1) := (blk_cell BK105.out 1).trans rfl; have hcz13_2 : w12.cell? ⟨gb105, 2, none⟩ = some (.string a1_2) := (blk_cell BK105.out 2).trans rfl; have hfz13_0 := blk_frozen BK105.out 0; have hfz13_1 := blk_frozen BK105.out 1; have hfz13_2 := blk_frozen BK105.out 2) | (go_at_call 27; (with_reducible refine (value_May.calls a1_0 a1_1 a1_2 true _ A8.out).mono ?_); rintro e w14 ⟨rfl, hb⟩; have n0_ := Aside0.mk (blk_below (g := gb104) (o := .cells #[.int .i64 a0_0, .int .i64 a0_1, .string a0_2] 38 (0, 0)) (by (with_reducible repeat (first | refine blk_drewN ?_ _ | refine blk_drew ?_ | refine blk_alloc ?_ _)); exact BK104.out) hb); have n1_ := Aside0.mk (blk_below (g := gb105) (o := .cells #[.int .i64 a1_0, .int .i64 a1_1, .string a1_2] 38 (0, 0)) (by (with_reducible repeat (first | refine blk_drewN ?_ _ | refine blk_drew ?_ | refine blk_alloc ?_ _)); exact BK105.out) hb); have n2_ := Aside0.mk (below_step (by repeat (first | (with_reducible first | exact HB.out | apply below_alloc | apply pw_below_drewN | apply below_drew1 | refine below_set ?_ GE104.out | refine below_set ?_ GE105.out) | exact HB.out)) hb); clear BK104; clear BK105; clear HB; have BK104 := n0_; have BK105 := n1_; have HB := n2_; clear n0_ n1_ n2_; (try clear hb); (try clear hb2); (try clear hk); (try clear hi); have hcz15_0 : w14.cell? ⟨gb104, 0, none⟩ = some (.int .i64 a0_0) := (blk_cell BK104.out 0).trans rfl; have hcz15_1 : w14.cell? ⟨gb104, 1, none⟩ = some (.int .i64 a0_1) := (blk_cell BK104.out 1).trans rfl; have hcz15_2 : w14.cell? ⟨gb104, 2, none⟩ = some (.string a0_2) := (blk_cell BK104.out 2).trans rfl; have hfz15_0 := blk_frozen BK104.out 0; have hfz15_1 := blk_frozen BK104.out 1; have hfz15_2 := blk_frozen BK104.out 2; have hcz16_0 : w14.cell? ⟨gb105, 0, none⟩ = some (.int .i64 a1_0) := (blk_cell BK105.out 0).trans rfl; have hcz16_1 : w14.cell? ⟨gb105, 1, none⟩ = some (.int .i64 a1_1) := (blk_cell BK105.out 1).trans rfl; have hcz16_2 : w14.cell? ⟨gb105, 2, none⟩ = some (.string a1_2) := (blk_cell BK105.out 2).trans rfl; have hfz16_0 := blk_frozen BK105.out 0; have hfz16_1 := blk_frozen BK105.out 1; have hfz16_2 := blk_frozen BK105.out 2))
        go_meet
        case rel => exact ⟨_, ((a0_0 != a1_0)), (by first | rfl | (simp; done) | (simp [*]; done)), H', ⟨by first | omega | exact Nat.le_refl _⟩, ⟨by (with_reducible repeat (first | refine blk_drewN ?_ _ | refine blk_drew ?_ | refine blk_alloc ?_ _)); exact BK104.out⟩, ⟨by (with_reducible repeat (first | refine blk_drewN ?_ _ | refine blk_drew ?_ | refine blk_alloc ?_ _)); exact BK105.out⟩, ⟨by repeat (first | (with_reducible first | exact HB.out | apply below_alloc | apply pw_below_drewN | apply below_drew1 | refine below_set ?_ GE104.out | refine below_set ?_ GE105.out) | exact HB.out)⟩⟩
      · replace c9 := Bool.eq_false_iff.mpr c9
        subst c9
        have H1 : (value_Less.j0 k true a0_0 a0_1 a0_2 a1_0 a1_1 a1_2) = some (r1, r2) := by rw [if_neg (show ¬ (false = true) by decide)] at H; exact H
        clear H
        have H := H1
        clear H1
        have H' := Aside0.mk H
        clear H
        have hnb17 := NB104_105.out
        have hnc17 := NB105_104.out
        have hcz18_0 : w5.cell? ⟨gb104, 0, none⟩ = some (.int .i64 a0_0) := (blk_cell BK104.out 0).trans rfl
        have hcz18_1 : w5.cell? ⟨gb104, 1, none⟩ = some (.int .i64 a0_1) := (blk_cell BK104.out 1).trans rfl
        have hcz18_2 : w5.cell? ⟨gb104, 2, none⟩ = some (.string a0_2) := (blk_cell BK104.out 2).trans rfl
        have hfz18_0 := blk_frozen BK104.out 0
        have hfz18_1 := blk_frozen BK104.out 1
        have hfz18_2 := blk_frozen BK104.out 2
        go_wp2_with (first | ((with_reducible refine gate_callee (f := 27) rfl ?_); refine goesL_ (some 7) rfl rfl Try.func27 (by kernel_rfl) rfl #[.agg #[.int .i64 a0_0, .int .i64 a0_1, .string a0_2]] rfl (by (try simp only [List.map_toArray, List.map_cons, List.map_nil]); first | done | rfl | (simp only [List.length_drop, List.length_take]; rfl)) ?_; (with_reducible refine (value_May.calls a0_0 a0_1 a0_2 true _ A6.out).mono ?_); rintro e w19 ⟨rfl, hb⟩; refine ⟨_, rfl, ?_⟩; have n0_ := Aside0.mk (blk_below (g := gb104) (o := .cells #[.int .i64 a0_0, .int .i64 a0_1, .string a0_2] 38 (0, 0)) (by (with_reducible repeat (first | refine blk_drewN ?_ _ | refine blk_drew ?_ | refine blk_alloc ?_ _)); exact BK104.out) hb); have n1_ := Aside0.mk (blk_below (g := gb105) (o := .cells #[.int .i64 a1_0, .int .i64 a1_1, .string a1_2] 38 (0, 0)) (by (with_reducible repeat (first | refine blk_drewN ?_ _ | refine blk_drew ?_ | refine blk_alloc ?_ _)); exact BK105.out) hb); have n2_ := Aside0.mk (below_step (by repeat (first | (with_reducible first | exact HB.out | apply below_alloc | apply pw_below_drewN | apply below_drew1 | refine below_set ?_ GE104.out | refine below_set ?_ GE105.out) | exact HB.out)) hb); clear BK104; clear BK105; clear HB; have BK104 := n0_; have BK105 := n1_; have HB := n2_; clear n0_ n1_ n2_; (try clear hb); (try clear hb2); (try clear hk); (try clear hi); have hcz20_0 : w19.cell? ⟨gb105, 0, none⟩ = some (.int .i64 a1_0) := (blk_cell BK105.out 0).trans rfl; have hcz20_1 : w19.cell? ⟨gb105, 1, none⟩ = some (.int .i64 a1_1) := (blk_cell BK105.out 1).trans rfl; have hcz20_2 : w19.cell? ⟨gb105, 2, none⟩ = some (.string a1_2) := (blk_cell BK105.out 2).trans rfl; have hfz20_0 := blk_frozen BK105.out 0; have hfz20_1 := blk_frozen BK105.out 1; have hfz20_2 := blk_frozen BK105.out 2) | (go_at_call 27; (with_reducible refine (value_May.calls a1_0 a1_1 a1_2 false _ A8.out).mono ?_); rintro e w21 ⟨rfl, hb⟩; have n0_ := Aside0.mk (blk_below (g := gb104) (o := .cells #[.int .i64 a0_0, .int .i64 a0_1, .string a0_2] 38 (0, 0)) (by (with_reducible repeat (first | refine blk_drewN ?_ _ | refine blk_drew ?_ | refine blk_alloc ?_ _)); exact BK104.out) hb); have n1_ := Aside0.mk (blk_below (g := gb105) (o := .cells #[.int .i64 a1_0, .int .i64 a1_1, .string a1_2] 38 (0, 0)) (by (with_reducible repeat (first | refine blk_drewN ?_ _ | refine blk_drew ?_ | refine blk_alloc ?_ _)); exact BK105.out) hb); have n2_ := Aside0.mk (below_step (by repeat (first | (with_reducible first | exact HB.out | apply below_alloc | apply pw_below_drewN | apply below_drew1 | refine below_set ?_ GE104.out | refine below_set ?_ GE105.out) | exact HB.out)) hb); clear BK104; clear BK105; clear HB; have BK104 := n0_; have BK105 := n1_; have HB := n2_; clear n0_ n1_ n2_; (try clear hb); (try clear hb2); (try clear hk); (try clear hi)))
        go_meet
        case rel => exact ⟨_, (true), (by first | rfl | (simp; done) | (simp [*]; done)), H', ⟨by first | omega | exact Nat.le_refl _⟩, ⟨by (with_reducible repeat (first | refine blk_drewN ?_ _ | refine blk_drew ?_ | refine blk_alloc ?_ _)); exact BK104.out⟩, ⟨by (with_reducible repeat (first | refine blk_drewN ?_ _ | refine blk_drew ?_ | refine blk_alloc ?_ _)); exact BK105.out⟩, ⟨by repeat (first | (with_reducible first | exact HB.out | apply below_alloc | apply pw_below_drewN | apply below_drew1 | refine below_set ?_ GE104.out | refine below_set ?_ GE105.out) | exact HB.out)⟩⟩
    · replace c7 := Bool.eq_false_iff.mpr c7
      subst c7
      have H1 : (value_Less.j0 k true a0_0 a0_1 a0_2 a1_0 a1_1 a1_2) = some (r1, r2) := by rw [if_neg (show ¬ (false = true) by decide)] at H; exact H
      clear H
      have H := H1
      clear H1
      have H' := Aside0.mk H
      clear H
      have hnb22 := NB104_105.out
      have hnc22 := NB105_104.out
      have hcz23_0 : w5.cell? ⟨gb104, 0, none⟩ = some (.int .i64 a0_0) := (blk_cell BK104.out 0).trans rfl
      have hcz23_1 : w5.cell? ⟨gb104, 1, none⟩ = some (.int .i64 a0_1) := (blk_cell BK104.out 1).trans rfl
      have hcz23_2 : w5.cell? ⟨gb104, 2, none⟩ = some (.string a0_2) := (blk_cell BK104.out 2).trans rfl
      have hfz23_0 := blk_frozen BK104.out 0
      have hfz23_1 := blk_frozen BK104.out 1
      have hfz23_2 := blk_frozen BK104.out 2
      go_wp2_with (first | ((with_reducible refine gate_callee (f := 27) rfl ?_); refine goesL_ (some 7) rfl rfl Try.func27 (by kernel_rfl) rfl #[.agg #[.int .i64 a0_0, .int .i64 a0_1, .string a0_2]] rfl (by (try simp only [List.map_toArray, List.map_cons, List.map_nil]); first | done | rfl | (simp only [List.length_drop, List.length_take]; rfl)) ?_; (with_reducible refine (value_May.calls a0_0 a0_1 a0_2 false _ A6.out).mono ?_); rintro e w24 ⟨rfl, hb⟩; refine ⟨_, rfl, ?_⟩; have n0_ := Aside0.mk (blk_below (g := gb104) (o := .cells #[.int .i64 a0_0, .int .i64 a0_1, .string a0_2] 38 (0, 0)) (by (with_reducible repeat (first | refine blk_drewN ?_ _ | refine blk_drew ?_ | refine blk_alloc ?_ _)); exact BK104.out) hb); have n1_ := Aside0.mk (blk_below (g := gb105) (o := .cells #[.int .i64 a1_0, .int .i64 a1_1, .string a1_2] 38 (0, 0)) (by (with_reducible repeat (first | refine blk_drewN ?_ _ | refine blk_drew ?_ | refine blk_alloc ?_ _)); exact BK105.out) hb); have n2_ := Aside0.mk (below_step (by repeat (first | (with_reducible first | exact HB.out | apply below_alloc | apply pw_below_drewN | apply below_drew1 | refine below_set ?_ GE104.out | refine below_set ?_ GE105.out) | exact HB.out)) hb); clear BK104; clear BK105; clear HB; have BK104 := n0_; have BK105 := n1_; have HB := n2_; clear n0_ n1_ n2_; (try clear hb); (try clear hb2); (try clear hk); (try clear hi)))
      go_meet
      case rel => exact ⟨_, (true), (by first | rfl | (simp; done) | (simp [*]; done)), H', ⟨by first | omega | exact Nat.le_refl _⟩, ⟨by (with_reducible repeat (first | refine blk_drewN ?_ _ | refine blk_drew ?_ | refine blk_alloc ?_ _)); exact BK104.out⟩, ⟨by (with_reducible repeat (first | refine blk_drewN ?_ _ | refine blk_drew ?_ | refine blk_alloc ?_ _)); exact BK105.out⟩, ⟨by repeat (first | (with_reducible first | exact HB.out | apply below_alloc | apply pw_below_drewN | apply below_drew1 | refine below_set ?_ GE104.out | refine below_set ?_ GE105.out) | exact HB.out)⟩⟩
  case rest =>
    clear HC3
    try clear c1
    try clear c2
    try clear p2
    try clear c7
    try clear c9
    try clear c10
    try clear c17
    try clear c22
    try clear hcz11_0
    try clear hcz11_1
    try clear hcz11_2
    try clear hcz13_0
    try clear hcz13_1
    try clear hcz13_2
    try clear hcz15_0
    try clear hcz15_1
    try clear hcz15_2
    try clear hcz16_0
    try clear hcz16_1
    try clear hcz16_2
    try clear hcz18_0
    try clear hcz18_1
    try clear hcz18_2
    try clear hcz20_0
    try clear hcz20_1
    try clear hcz20_2
    try clear hcz23_0
    try clear hcz23_1
    try clear hcz23_2
    try clear hfz11_0
    try clear hfz11_1
    try clear hfz11_2
    try clear hfz13_0
    try clear hfz13_1
    try clear hfz13_2
    try clear hfz15_0
    try clear hfz15_1
    try clear hfz15_2
    try clear hfz16_0
    try clear hfz16_1
    try clear hfz16_2
    try clear hfz18_0
    try clear hfz18_1
    try clear hfz18_2
    try clear hfz20_0
    try clear hfz20_1
    try clear hfz20_2
    try clear hfz23_0
    try clear hfz23_1
    try clear hfz23_2
    obtain ⟨kq, x20_2, rfl, HA, HJ2, BK104, BK105, HB⟩ := hcut
    cases kq with
    | zero => exact absurd HA.out (by simp [value_Less.j0])
    | succ kj2 =>
      have H := HA.out
      clear HA
      simp only [value_Less.j0] at H
      by_cases c25 : x20_2 = true
      · subst c25
        have H1 : (some (false, false)) = some (r1, r2) := by rw [if_pos rfl] at H; exact H
        clear H
        have H := H1
        clear H1
        simp only [Option.some.injEq, Prod.mk.injEq] at H
        obtain ⟨rfl, rfl⟩ := H
        go_wp2
        go_ret2
        exact ⟨by first | rfl | (simp [errW_none, errW_some] <;> rfl) | (simp [*, errW_none, errW_some] <;> rfl), by repeat (first | (with_reducible first | exact HB.out | apply below_alloc | apply pw_below_drewN | apply below_drew1 | refine below_set ?_ GE104.out | refine below_set ?_ GE105.out) | exact HB.out)⟩
      · replace c25 := Bool.eq_false_iff.mpr c25
        subst c25
        have H1 : ((cmp_Compare_int.f a0_1 a1_1).bind fun t108 => ((cmp_Compare_string.f a0_2 a1_2).bind fun t109 => ((cmp_Or_int.f kj2 (([t108, t109] : List Int))).bind fun t113 => (some (decide (t113 < 0), true))))) = some (r1, r2) := by rw [if_neg (show ¬ (false = true) by decide)] at H; exact H
        clear H
        have H := H1
        clear H1
        replace H := Option.bind_eq_some_iff.mp H
        obtain ⟨t108, A260, H⟩ := H
        replace H : ((cmp_Compare_string.f a0_2 a1_2).bind fun t109 => ((cmp_Or_int.f kj2 (([t108, t109] : List Int))).bind fun t113 => (some (decide (t113 < 0), true)))) = some (r1, r2) := H
        have A26 := Aside0.mk A260
        clear A260
        replace H := Option.bind_eq_some_iff.mp H
        obtain ⟨t109, A270, H⟩ := H
        replace H : ((cmp_Or_int.f kj2 (([t108, t109] : List Int))).bind fun t113 => (some (decide (t113 < 0), true))) = some (r1, r2) := H
        have A27 := Aside0.mk A270
        clear A270
        obtain ⟨y110, hy110⟩ : ∃ y_ : List Int, y_ = (([t108, t109] : List Int)) := ⟨_, rfl⟩
        replace H : ((cmp_Or_int.f kj2 y110).bind fun t113 => (some (decide (t113 < 0), true))) = some (r1, r2) := by first | (rw [hy110]; with_reducible exact H) | (have H2_ := (Option.bind_some _ _).symm.trans H; rw [hy110]; with_reducible exact H2_) | (have H2_ := (Option.bind_some _ _).symm.trans H; with_reducible exact H2_) | with_reducible exact H | (rw [hy110]; exact H) | exact H
        have Ny110 := Aside0.mk hy110
        clear hy110
        replace H := Option.bind_eq_some_iff.mp H
        obtain ⟨t113, A280, H⟩ := H
        replace H : (some (decide (t113 < 0), true)) = some (r1, r2) := H
        have A28 := Aside0.mk A280
        clear A280
        simp only [Option.some.injEq, Prod.mk.injEq] at H
        obtain ⟨rfl, rfl⟩ := H
        try go_wp2
        have n0_ := Aside0.mk (blk_drew BK104.out)
        have n1_ := Aside0.mk (blk_drew BK105.out)
        have n2_ := Aside0.mk (below_drew1 HB.out)
        clear BK104
        clear BK105
        clear HB
        have BK104 := n0_
        have BK105 := n1_
        have HB := n2_
        clear n0_ n1_ n2_
        refine start_ (n := 15) (S := fun w' => w'.cell? ⟨gb104, 0, none⟩ = some (.int .i64 a0_0) ∧ w'.cell? ⟨gb104, 1, none⟩ = some (.int .i64 a0_1) ∧ w'.cell? ⟨gb104, 2, none⟩ = some (.string a0_2) ∧ w'.cell? ⟨gb105, 0, none⟩ = some (.int .i64 a1_0) ∧ w'.cell? ⟨gb105, 1, none⟩ = some (.int .i64 a1_1) ∧ w'.cell? ⟨gb105, 2, none⟩ = some (.string a1_2)) (ds := []) #[false, false, false, false, false, false, false, false, false, false, false, false, false, false, false] (by kernel_rfl) rfl rfl ⟨(blk_cell BK104.out 0).trans rfl, (blk_cell BK104.out 1).trans rfl, (blk_cell BK104.out 2).trans rfl, (blk_cell BK105.out 0).trans rfl, (blk_cell BK105.out 1).trans rfl, (blk_cell BK105.out 2).trans rfl⟩ (fun hHeld => ?_); refine with_tabW value_Less.tab3 value_Less.bits3 (fun HT_ HW_ => ?_)
        generalize wc.drew = w29 at BK104 BK105 HB hHeld ⊢
        refine pure_ (i := 0) (N := some 21) (v := ?_) (a' := ?_) #[true, false, false, false, false, false, false, false, false, false, false, false, false, false, false] rfl rfl (any_of HT_.out (by kernel_rfl)) (fun _ _ _ h => h) (Or.inl ⟨by rfl, ?_⟩) ?_ ?_
        rotate_left
        · intro w'
          go_simp
          with_reducible rfl
        rotate_left
        · simp only [Act.put, List.setIfInBounds_toArray, List.set_cons_zero, List.set_cons_succ, i64_w, i32_w]
          rfl
        refine pure_ (i := 2) (N := some 23) (v := ?_) (a' := ?_) #[true, false, true, false, false, false, false, false, false, false, false, false, false, false, false] rfl rfl (any_of HT_.out (by kernel_rfl)) (fun _ _ _ h => h) (Or.inl ⟨by rfl, ?_⟩) ?_ ?_
        rotate_left
        · intro w'
          go_simp
          with_reducible rfl
        rotate_left
        · simp only [Act.put, List.setIfInBounds_toArray, List.set_cons_zero, List.set_cons_succ, i64_w, i32_w]
          rfl
        refine pure_ (i := 5) (N := some 26) (v := ?_) (a' := ?_) #[true, false, true, false, false, true, false, false, false, false, false, false, false, false, false] rfl rfl (any_of HT_.out (by kernel_rfl)) (fun _ _ _ h => h) (Or.inl ⟨by rfl, ?_⟩) ?_ ?_
        rotate_left
        · intro w'
          go_simp
          with_reducible rfl
        rotate_left
        · simp only [Act.put, List.setIfInBounds_toArray, List.set_cons_zero, List.set_cons_succ, i64_w, i32_w]
          rfl
        refine pure_ (i := 7) (N := some 28) (v := ?_) (a' := ?_) #[true, false, true, false, false, true, false, true, false, false, false, false, false, false, false] rfl rfl (any_of HT_.out (by kernel_rfl)) (fun _ _ _ h => h) (Or.inl ⟨by rfl, ?_⟩) ?_ ?_
        rotate_left
        · intro w'
          go_simp
          with_reducible rfl
        rotate_left
        · simp only [Act.put, List.setIfInBounds_toArray, List.set_cons_zero, List.set_cons_succ, i64_w, i32_w]
          rfl
        refine take_ (i := 1) (N := some 22) (v := ?_) (a' := ?_) #[true, true, true, false, false, true, false, true, false, false, false, false, false, false, false] rfl rfl (take_ofW HT_.out HW_.out (by kernel_rfl)) (fun _ _ _ h => h) (Or.inl ⟨by rfl, ?_⟩) hHeld ?_ ?_
        rotate_left
        · rintro w' ⟨s0, s1, s2, s3, s4, s5⟩
          go_simp
          with_reducible rfl
        rotate_left
        · simp only [Act.put, List.setIfInBounds_toArray, List.set_cons_zero, List.set_cons_succ, i64_w, i32_w]
          rfl
        refine take_ (i := 3) (N := some 24) (v := ?_) (a' := ?_) #[true, true, true, true, false, true, false, true, false, false, false, false, false, false, false] rfl rfl (take_ofW HT_.out HW_.out (by kernel_rfl)) (fun _ _ _ h => h) (Or.inl ⟨by rfl, ?_⟩) hHeld ?_ ?_
        rotate_left
        · rintro w' ⟨s0, s1, s2, s3, s4, s5⟩
          go_simp
          with_reducible rfl
        rotate_left
        · simp only [Act.put, List.setIfInBounds_toArray, List.set_cons_zero, List.set_cons_succ, i64_w, i32_w]
          rfl
        refine take_ (i := 6) (N := some 27) (v := ?_) (a' := ?_) #[true, true, true, true, false, true, true, true, false, false, false, false, false, false, false] rfl rfl (take_ofW HT_.out HW_.out (by kernel_rfl)) (fun _ _ _ h => h) (Or.inl ⟨by rfl, ?_⟩) hHeld ?_ ?_
        rotate_left
        · rintro w' ⟨s0, s1, s2, s3, s4, s5⟩
          go_simp
          with_reducible rfl
        rotate_left
        · simp only [Act.put, List.setIfInBounds_toArray, List.set_cons_zero, List.set_cons_succ, i64_w, i32_w]
          rfl
        refine take_ (i := 8) (N := some 29) (v := ?_) (a' := ?_) #[true, true, true, true, false, true, true, true, true, false, false, false, false, false, false] rfl rfl (take_ofW HT_.out HW_.out (by kernel_rfl)) (fun _ _ _ h => h) (Or.inl ⟨by rfl, ?_⟩) hHeld ?_ ?_
        rotate_left
        · rintro w' ⟨s0, s1, s2, s3, s4, s5⟩
          go_simp
          with_reducible rfl
        rotate_left
        · simp only [Act.put, List.setIfInBounds_toArray, List.set_cons_zero, List.set_cons_succ, i64_w, i32_w]
          rfl
        refine one_ (i := 4) (N := some 25) #[true, true, true, true, true, true, true, true, true, false, false, false, false, false, false] rfl rfl (one_of HT_.out (by kernel_rfl)) (by decide) (fun K hK => ?_)
        refine goes_ Try.func51 (by kernel_rfl) rfl #[.int .i64 a0_1, .int .i64 a1_1] (by rfl) rfl rfl (by (try simp only [List.map_toArray, List.map_cons, List.map_nil]); first | done | rfl | (simp only [List.length_drop, List.length_take]; rfl)) ?_
        with_reducible refine (cmp_Compare_int.calls a0_1 a1_1 t108 _ A26.out).mono ?_
        rintro e w' ⟨rfl, ⟨nd, rfl⟩⟩
        refine ⟨_, rfl, ?_⟩
        refine hK.out _ _ ⟨(blk_cell BK104.out 0).trans rfl, (blk_cell BK104.out 1).trans rfl, (blk_cell BK104.out 2).trans rfl, (blk_cell BK105.out 0).trans rfl, (blk_cell BK105.out 1).trans rfl, (blk_cell BK105.out 2).trans rfl⟩ (fun hHeld => ?_)
        clear hK K
        refine norm_ (a' := ?_) ?_ ?_
        rotate_left
        · show Act.put _ (some 25) _ = _
          simp only [Act.put, List.setIfInBounds_toArray, List.set_cons_zero, List.set_cons_succ, i64_w, i32_w]
          rfl
        refine one_ (i := 9) (N := some 30) #[true, true, true, true, true, true, true, true, true, true, false, false, false, false, false] rfl rfl (one_of HT_.out (by kernel_rfl)) (by decide) (fun K hK => ?_)
        refine goes_ Try.func52 (by kernel_rfl) rfl #[.string a0_2, .string a1_2] (by rfl) rfl rfl (by (try simp only [List.map_toArray, List.map_cons, List.map_nil]); first | done | rfl | (simp only [List.length_drop, List.length_take]; rfl)) ?_
        with_reducible refine (cmp_Compare_string.calls a0_2 a1_2 t109 _ A27.out).mono ?_
        rintro e w' ⟨rfl, ⟨nd, rfl⟩⟩
        refine ⟨_, rfl, ?_⟩
        refine hK.out _ _ ⟨(blk_cell BK104.out 0).trans rfl, (blk_cell BK104.out 1).trans rfl, (blk_cell BK104.out 2).trans rfl, (blk_cell BK105.out 0).trans rfl, (blk_cell BK105.out 1).trans rfl, (blk_cell BK105.out 2).trans rfl⟩ (fun hHeld => ?_)
        clear hK K
        refine norm_ (a' := ?_) ?_ ?_
        rotate_left
        · show Act.put _ (some 30) _ = _
          simp only [Act.put, List.setIfInBounds_toArray, List.set_cons_zero, List.set_cons_succ, i64_w, i32_w]
          rfl
        refine one_ (i := 10) (N := some 31) #[true, true, true, true, true, true, true, true, true, true, true, false, false, false, false] rfl rfl (one_of HT_.out (by kernel_rfl)) (by decide) (fun K hK => ?_)
        refine Kd.R_lit_step (Kd.int .i64) _ 3 ?hg (N := 31) ?hd (xs := ([t108, t109] : List Int)) (inner := [.int .i64 t108, .int .i64 t109]) (ok := fun _ => True) (okp := fun _ => True) ?hr ?hp (fun _ hk => hk) trivial (Below.refl _ _) (Nat.le_refl _) (by simp) ?_; (case hd => rfl); (case hg => rfl); (case hr => first | (go_simp; done) | (go_simp; rfl)); (case hp => exact (Reps.one (show Kd.M (Kd.int .i64) _ _ _ t108 [.int .i64 t108] from rfl) (Reps.one (show Kd.M (Kd.int .i64) _ _ _ t109 [.int .i64 t109] from rfl) (Reps.none _ _))))
        intro v111 w30 ho31 hb hg_ hnew_
        clear hg_ hnew_
        (first | rw [← Ny110.out] at ho31 | (simp only [Int.reduceToNat] at ho31; rw [← Ny110.out] at ho31))
        have n0_ := Aside0.mk (Kd.R_lower ho31 (below_size (by repeat (first | (with_reducible first | exact HB.out | apply below_alloc | apply pw_below_drewN | apply below_drew1 | refine below_set ?_ GE104.out | refine below_set ?_ GE105.out) | exact HB.out))))
        have n1_ := Aside0.mk (blk_below (g := gb104) (o := .cells #[.int .i64 a0_0, .int .i64 a0_1, .string a0_2] 38 (0, 0)) (by (with_reducible repeat (first | refine blk_drewN ?_ _ | refine blk_drew ?_ | refine blk_alloc ?_ _)); exact BK104.out) hb)
        have n2_ := Aside0.mk (blk_below (g := gb105) (o := .cells #[.int .i64 a1_0, .int .i64 a1_1, .string a1_2] 38 (0, 0)) (by (with_reducible repeat (first | refine blk_drewN ?_ _ | refine blk_drew ?_ | refine blk_alloc ?_ _)); exact BK105.out) hb)
        have n3_ := Aside0.mk (below_step (by repeat (first | (with_reducible first | exact HB.out | apply below_alloc | apply pw_below_drewN | apply below_drew1 | refine below_set ?_ GE104.out | refine below_set ?_ GE105.out) | exact HB.out)) hb)
        clear BK104
        clear BK105
        clear HB
        have HO112 := n0_
        have BK104 := n1_
        have BK105 := n2_
        have HB := n3_
        clear n0_ n1_ n2_ n3_
        clear hb ho31
        obtain ⟨Ao32, co32, eo32⟩ := Kd.R_slice HO112.out
        (first | subst eo32 | (injection eo32 with f1_ f2_ f3_; have f4_ := f1_.symm; have f5_ := f3_.symm; clear f1_ f2_ f3_; subst f4_; subst f5_))
        refine hK.out _ _ ⟨(blk_cell BK104.out 0).trans rfl, (blk_cell BK104.out 1).trans rfl, (blk_cell BK104.out 2).trans rfl, (blk_cell BK105.out 0).trans rfl, (blk_cell BK105.out 1).trans rfl, (blk_cell BK105.out 2).trans rfl⟩ (fun hHeld => ?_)
        clear hK K
        refine norm_ (a' := ?_) ?_ ?_
        rotate_left
        · show Act.put _ (some 31) _ = _
          simp only [Act.put, List.setIfInBounds_toArray, List.set_cons_zero, List.set_cons_succ, i64_w, i32_w]
          rfl
        refine one_ (i := 11) (N := some 32) #[true, true, true, true, true, true, true, true, true, true, true, true, false, false, false] rfl rfl (one_of HT_.out (by kernel_rfl)) (by decide) (fun K hK => ?_)
        refine goes_ Try.func50 (by kernel_rfl) rfl #[.slice Ao32 y110.length co32] (by rfl) rfl rfl (by (try simp only [List.map_toArray, List.map_cons, List.map_nil]); first | done | rfl | (simp only [List.length_drop, List.length_take]; rfl)) ?_
        with_reducible refine (cmp_Or_int.calls kj2 _ _ y110 t113 _ ?side1 ?side2 A28.out).mono ?_
        (case side1 => repeat (first | exact (Kd.R_reads' HO112.out).2.2 | (with_reducible refine Kd.C_alloc ?_ _) | (with_reducible refine Kd.C_drewN ?_ _) | (with_reducible refine Kd.C_drew ?_)))
        (case side2 => exact (Kd.R_reads' HO112.out).2.1)
        rintro e w' ⟨rfl, ⟨nd, rfl⟩⟩
        refine ⟨_, rfl, ?_⟩
        refine hK.out _ _ ⟨(blk_cell BK104.out 0).trans rfl, (blk_cell BK104.out 1).trans rfl, (blk_cell BK104.out 2).trans rfl, (blk_cell BK105.out 0).trans rfl, (blk_cell BK105.out 1).trans rfl, (blk_cell BK105.out 2).trans rfl⟩ (fun hHeld => ?_)
        clear hK K
        refine norm_ (a' := ?_) ?_ ?_
        rotate_left
        · show Act.put _ (some 32) _ = _
          simp only [Act.put, List.setIfInBounds_toArray, List.set_cons_zero, List.set_cons_succ, i64_w, i32_w]
          rfl
        refine pure_ (i := 12) (N := some 33) (v := ?_) (a' := ?_) #[true, true, true, true, true, true, true, true, true, true, true, true, true, false, false] rfl rfl (any_of HT_.out (by kernel_rfl)) (fun _ _ _ h => h) (Or.inl ⟨by rfl, ?_⟩) ?_ ?_
        rotate_left
        · intro w'
          go_simp
          with_reducible rfl
        rotate_left
        · simp only [Act.put, List.setIfInBounds_toArray, List.set_cons_zero, List.set_cons_succ, i64_w, i32_w]
          rfl
        refine pure_ (i := 13) (N := some 4) (v := ?_) (a' := ?_) #[true, true, true, true, true, true, true, true, true, true, true, true, true, true, false] rfl rfl (any_of HT_.out (by kernel_rfl)) (fun _ _ _ h => h) (Or.inl ⟨by rfl, ?_⟩) ?_ ?_
        rotate_left
        · intro w'
          go_simp
          with_reducible rfl
        rotate_left
        · simp only [Act.put, List.setIfInBounds_toArray, List.set_cons_zero, List.set_cons_succ, i64_w, i32_w]
          rfl
        refine pure_ (i := 14) (N := some 5) (v := ?_) (a' := ?_) #[true, true, true, true, true, true, true, true, true, true, true, true, true, true, true] rfl rfl (any_of HT_.out (by kernel_rfl)) (fun _ _ _ h => h) (Or.inl ⟨by rfl, ?_⟩) ?_ ?_
        rotate_left
        · intro w'
          go_simp
          with_reducible rfl
        rotate_left
        · simp only [Act.put, List.setIfInBounds_toArray, List.set_cons_zero, List.set_cons_succ, i64_w, i32_w]
          rfl
        refine done_ (done_of HT_.out (by kernel_rfl)) ?_
        try go_wp2
        go_ret2
        exact ⟨by first | rfl | (simp [errW_none, errW_some] <;> rfl) | (simp [*, errW_none, errW_some] <;> rfl), by repeat (first | (with_reducible first | exact HB.out | apply below_alloc | apply pw_below_drewN | apply below_drew1 | refine below_set ?_ GE104.out | refine below_set ?_ GE105.out) | exact HB.out)⟩
theorem or_two (a b : Int) : cmp_Or_int.f 5 [a, b] = some (if a = 0 then b else a) := by
  unfold cmp_Or_int.f
  simp only [cmp_Or_int.l0, List.length_cons, List.length_nil]
  have e0 : rd [a, b] 0 = a := rfl
  have e1 : rd [a, b] 1 = b := rfl
  have e2 : wrap64 (0 + 1) = 1 := by decide +kernel
  have e3 : wrap64 (1 + 1) = 2 := by decide +kernel
  rw [if_pos (by decide), if_pos (by decide), if_pos (by decide), e0]
  by_cases h : a = 0
  · rw [if_pos h, if_pos h, e2, if_pos (by decide), if_pos (by decide), if_pos (by decide), e1, e3]
    by_cases hb : b = 0
    · rw [if_pos hb, if_neg (by decide), hb]
    · rw [if_neg hb]
  · rw [if_neg h, if_neg h]
theorem cmp_int_is (a b : Int) : cmp_Compare_int.f a b = some (if a < b then -1 else if a > b then 1 else 0) := by
  unfold cmp_Compare_int.f cmp_isNaN_int.f
  rw [bne_self_eq_false, bne_self_eq_false, Option.bind_some, Option.bind_some, if_neg (by decide), if_neg (by decide)]
  split
  · rfl
  split <;> rfl
theorem less_is {x y : SValue} (hx : okV x) (hy : okV y) (he : x.f0 = y.f0) : value_Less.f 6 x.f0 x.f1 x.f2 y.f0 y.f1 y.f2 = some (lessV x y, true) := by
  unfold value_Less.f
  have mx : value_May.f x.f0 x.f1 x.f2 = some true := by unfold value_May.f; rw [if_pos (show -9223372036854775808 ≤ x.f1 ∧ x.f1 ≤ 9223372036854775807 from hx.2), show mayV ⟨x.f0, x.f1, x.f2⟩ = true from hx.1]
  have my : value_May.f y.f0 y.f1 y.f2 = some true := by unfold value_May.f; rw [if_pos (show -9223372036854775808 ≤ y.f1 ∧ y.f1 ≤ 9223372036854775807 from hy.2), show mayV ⟨y.f0, y.f1, y.f2⟩ = true from hy.1]
  have hne : (x.f0 != y.f0) = false := by rw [he]; exact bne_self_eq_false _
  rw [mx, my, Option.bind_some, Option.bind_some, if_pos rfl, if_pos rfl, hne]
  simp only [value_Less.j0]
  rw [if_neg (by decide), cmp_int_is, Option.bind_some, show cmp_Compare_string.f x.f2 y.f2 = some (cmpS x.f2 y.f2) from rfl, Option.bind_some, or_two, Option.bind_some]
  unfold lessV
  by_cases h2 : x.f0 = 2
  · have h3 : y.f0 = 2 := he ▸ h2
    rw [if_pos h2, (mayV_bytes hx.1 h2).1, (mayV_bytes hy.1 h3).1]
    rw [if_pos (by decide)]
    unfold cmpS
    cases Op.bytesLess x.f2.toList y.f2.toList
    · rw [if_neg (by decide)]
      split <;> rfl
    · rw [if_pos rfl]; rfl
  · have h3 : y.f0 ≠ 2 := fun h => h2 (he.trans h)
    have hc : cmpS x.f2 y.f2 = 0 := by unfold cmpS; rw [mayV_text hx.1 h2, mayV_text hy.1 h3]; rfl
    rw [if_neg h2, hc]
    congr 2
    rw [decide_eq_decide]
    split <;> (split at * <;> omega)
theorem less_told (x y : SValue) (w : World) (hx : okV x) (hy : okV y) (he : x.f0 = y.f0) {b : Bool} (hb : lessV x y = b) : Calls Try.prog 28 #[.agg #[.int .i64 x.f0, .int .i64 x.f1, .string x.f2], .agg #[.int .i64 y.f0, .int .i64 y.f1, .string y.f2]] w fun e w' => e = .returned (.tuple #[.bool b, .bool true]) ∧ Below w.heap.size w w' := by
  subst hb
  exact value_Less.calls 6 _ _ _ _ _ _ _ _ w (less_is hx hy he)
end Go.Proofs.Ytncllbokeofdjaa.P

namespace Go.Proofs.Ytncllbokeofdjaa.P
open Go.RowKit Go.Proofs.YtncllbokeofdjaaW.PrintWords Go.Proofs.YtncllbokeofdjaaW.PrintLast Go.Proofs.YtncllbokeofdjaaW.PrintMore
attribute [local go_sem] max2_int min2_int max_two min_two max_three min_three max_four min_four   -- for this text's walks alone
set_option linter.unusedVariables false
set_option linter.unusedSimpArgs false
def expr_sum.f (a0 : Int) (a1 : Int) (a2 : Int) : Option (Int × Bool) := if a0 = 2 then (some (wrap64 (a1 + a2), ((decide ((wrap64 (a1 + a2)) > a1)) == (decide (a2 > 0))))) else (if a0 = 3 then (some (wrap64 (a1 - a2), ((decide ((wrap64 (a1 - a2)) < a1)) == (decide (a2 > 0))))) else (if a1 = 0 then (some (0, true)) else (if a2 = 0 then (some (0, true)) else (if (wrap64 (Int.tdiv (wrap64 (a1 * a2)) a2)) = a1 then (if a2 = (-1) then (if (a1 = (wrap64 (a1 * a2))) then (some (wrap64 (a1 * a2), false)) else (if a1 = (-1) then (some (wrap64 (a1 * a2), !(a2 == (wrap64 (a1 * a2))))) else (some (wrap64 (a1 * a2), !false)))) else (if a1 = (-1) then (some (wrap64 (a1 * a2), !(a2 == (wrap64 (a1 * a2))))) else (some (wrap64 (a1 * a2), !false)))) else (some (wrap64 (a1 * a2), false))))))
set_option maxHeartbeats 8000000 in
set_option maxRecDepth 100000 in
theorem expr_sum.calls (a0 : Int) (a1 : Int) (a2 : Int) (r1 : Int) (r2 : Bool) (w : World) (h : expr_sum.f a0 a1 a2 = some (r1, r2)) :
    Calls Try.prog 87 #[.int .i64 a0, .int .i64 a1, .int .i64 a2] w fun e w' => e = .returned (.tuple #[.int .i64 r1, .bool r2]) ∧ Drawn0 w w' := by
  have H : (if a0 = 2 then (some (wrap64 (a1 + a2), ((decide ((wrap64 (a1 + a2)) > a1)) == (decide (a2 > 0))))) else (if a0 = 3 then (some (wrap64 (a1 - a2), ((decide ((wrap64 (a1 - a2)) < a1)) == (decide (a2 > 0))))) else (if a1 = 0 then (some (0, true)) else (if a2 = 0 then (some (0, true)) else (if (wrap64 (Int.tdiv (wrap64 (a1 * a2)) a2)) = a1 then (if a2 = (-1) then (if (a1 = (wrap64 (a1 * a2))) then (some (wrap64 (a1 * a2), false)) else (if a1 = (-1) then (some (wrap64 (a1 * a2), !(a2 == (wrap64 (a1 * a2))))) else (some (wrap64 (a1 * a2), !false)))) else (if a1 = (-1) then (some (wrap64 (a1 * a2), !(a2 == (wrap64 (a1 * a2))))) else (some (wrap64 (a1 * a2), !false)))) else (some (wrap64 (a1 * a2), false))))))) = some (r1, r2) := h
  clear h
  by_cases c4 : a0 = 2
  · rw [if_pos c4] at H
    have c4b0 : (a0 == 2) = true := beq_iff_eq.mpr c4
    have c4b1 : (a0 != 2) = false := bne_eq_false_iff_eq.mpr c4
    clear c4
    simp only [Option.some.injEq, Prod.mk.injEq] at H
    obtain ⟨rfl, rfl⟩ := H
    go_enter Try.func87, Try.ntmps87
    go_wp2
    go_ret2
    exact ⟨by first | rfl | (simp; done) | (simp [*]; done), by repeat (first | exact Drawn0.refl _ | apply Drawn0.step)⟩
  · rw [if_neg c4] at H
    have c4b0 : (a0 == 2) = false := beq_eq_false_iff_ne.mpr c4
    have c4b1 : (a0 != 2) = true := bne_iff_ne.mpr c4
    by_cases c5 : a0 = 3
    · rw [if_pos c5] at H
      have c5b0 : (a0 == 3) = true := beq_iff_eq.mpr c5
      have c5b1 : (a0 != 3) = false := bne_eq_false_iff_eq.mpr c5
      clear c5
      simp only [Option.some.injEq, Prod.mk.injEq] at H
      obtain ⟨rfl, rfl⟩ := H
      go_enter Try.func87, Try.ntmps87
      go_wp2
      go_ret2
      exact ⟨by first | rfl | (simp; done) | (simp [*]; done), by repeat (first | exact Drawn0.refl _ | apply Drawn0.step)⟩
    · rw [if_neg c5] at H
      have c5b0 : (a0 == 3) = false := beq_eq_false_iff_ne.mpr c5
      have c5b1 : (a0 != 3) = true := bne_iff_ne.mpr c5
      by_cases c6 : a1 = 0
      · rw [if_pos c6] at H
        have c6b0 : (a1 == 0) = true := beq_iff_eq.mpr c6
        have c6b1 : (a1 != 0) = false := bne_eq_false_iff_eq.mpr c6
        clear c6
        simp only [Option.some.injEq, Prod.mk.injEq] at H
        obtain ⟨rfl, rfl⟩ := H
        go_enter Try.func87, Try.ntmps87
        go_wp2
        go_ret2
        exact ⟨by first | rfl | (simp; done) | (simp [*]; done), by repeat (first | exact Drawn0.refl _ | apply Drawn0.step)⟩
      · rw [if_neg c6] at H
        have c6b0 : (a1 == 0) = false := beq_eq_false_iff_ne.mpr c6
        have c6b1 : (a1 != 0) = true := bne_iff_ne.mpr c6
        by_cases c7 : a2 = 0
        · rw [if_pos c7] at H
          have c7b0 : (a2 == 0) = true := beq_iff_eq.mpr c7
          have c7b1 : (a2 != 0) = false := bne_eq_false_iff_eq.mpr c7
          clear c7
          simp only [Option.some.injEq, Prod.mk.injEq] at H
          obtain ⟨rfl, rfl⟩ := H
          go_enter Try.func87, Try.ntmps87
          go_wp2
          go_ret2
          exact ⟨by first | rfl | (simp; done) | (simp [*]; done), by repeat (first | exact Drawn0.refl _ | apply Drawn0.step)⟩
        · rw [if_neg c7] at H
          have c7b0 : (a2 == 0) = false := beq_eq_false_iff_ne.mpr c7
          have c7b1 : (a2 != 0) = true := bne_iff_ne.mpr c7
          by_cases c8 : (wrap64 (Int.tdiv (wrap64 (a1 * a2)) a2)) = a1
          · rw [if_pos c8] at H
            have c8b0 : ((wrap64 (Int.tdiv (wrap64 (a1 * a2)) a2)) == a1) = true := beq_iff_eq.mpr c8
            have c8b1 : ((wrap64 (Int.tdiv (wrap64 (a1 * a2)) a2)) != a1) = false := bne_eq_false_iff_eq.mpr c8
            clear c8
            by_cases c9 : a2 = (-1)
            · rw [if_pos c9] at H
              have c9b0 : (a2 == (-1)) = true := beq_iff_eq.mpr c9
              have c9b1 : (a2 != (-1)) = false := bne_eq_false_iff_eq.mpr c9
              clear c9
              by_cases c10 : (a1 = (wrap64 (a1 * a2)))
              · rw [if_pos c10] at H
                have c10b0 : (a1 == (wrap64 (a1 * a2))) = true := beq_iff_eq.mpr c10
                have c10b1 : (a1 != (wrap64 (a1 * a2))) = false := bne_eq_false_iff_eq.mpr c10
                clear c10
                simp only [Option.some.injEq, Prod.mk.injEq] at H
                obtain ⟨rfl, rfl⟩ := H
                go_enter Try.func87, Try.ntmps87
                go_wp2
                go_ret2
                exact ⟨by first | rfl | (simp; done) | (simp [*]; done), by repeat (first | exact Drawn0.refl _ | apply Drawn0.step)⟩
              · rw [if_neg c10] at H
                have c10b0 : (a1 == (wrap64 (a1 * a2))) = false := beq_eq_false_iff_ne.mpr c10
                have c10b1 : (a1 != (wrap64 (a1 * a2))) = true := bne_iff_ne.mpr c10
                by_cases c11 : a1 = (-1)
                · rw [if_pos c11] at H
                  have c11b0 : (a1 == (-1)) = true := beq_iff_eq.mpr c11
                  have c11b1 : (a1 != (-1)) = false := bne_eq_false_iff_eq.mpr c11
                  clear c11
                  simp only [Option.some.injEq, Prod.mk.injEq] at H
                  obtain ⟨rfl, rfl⟩ := H
                  go_enter Try.func87, Try.ntmps87
                  go_wp2
                  go_ret2
                  exact ⟨by first | rfl | (simp; done) | (simp [*]; done), by repeat (first | exact Drawn0.refl _ | apply Drawn0.step)⟩
                · rw [if_neg c11] at H
                  have c11b0 : (a1 == (-1)) = false := beq_eq_false_iff_ne.mpr c11
                  have c11b1 : (a1 != (-1)) = true := bne_iff_ne.mpr c11
                  simp only [Option.some.injEq, Prod.mk.injEq] at H
                  obtain ⟨rfl, rfl⟩ := H
                  go_enter Try.func87, Try.ntmps87
                  go_wp2
                  go_ret2
                  exact ⟨by first | rfl | (simp; done) | (simp [*]; done), by repeat (first | exact Drawn0.refl _ | apply Drawn0.step)⟩
            · rw [if_neg c9] at H
              have c9b0 : (a2 == (-1)) = false := beq_eq_false_iff_ne.mpr c9
              have c9b1 : (a2 != (-1)) = true := bne_iff_ne.mpr c9
              by_cases c12 : a1 = (-1)
              · rw [if_pos c12] at H
                have c12b0 : (a1 == (-1)) = true := beq_iff_eq.mpr c12
                have c12b1 : (a1 != (-1)) = false := bne_eq_false_iff_eq.mpr c12
                clear c12
                simp only [Option.some.injEq, Prod.mk.injEq] at H
                obtain ⟨rfl, rfl⟩ := H
                go_enter Try.func87, Try.ntmps87
                go_wp2
                go_ret2
                exact ⟨by first | rfl | (simp; done) | (simp [*]; done), by repeat (first | exact Drawn0.refl _ | apply Drawn0.step)⟩
              · rw [if_neg c12] at H
                have c12b0 : (a1 == (-1)) = false := beq_eq_false_iff_ne.mpr c12
                have c12b1 : (a1 != (-1)) = true := bne_iff_ne.mpr c12
                simp only [Option.some.injEq, Prod.mk.injEq] at H
                obtain ⟨rfl, rfl⟩ := H
                go_enter Try.func87, Try.ntmps87
                go_wp2
                go_ret2
                exact ⟨by first | rfl | (simp; done) | (simp [*]; done), by repeat (first | exact Drawn0.refl _ | apply Drawn0.step)⟩
          · rw [if_neg c8] at H
            have c8b0 : ((wrap64 (Int.tdiv (wrap64 (a1 * a2)) a2)) == a1) = false := beq_eq_false_iff_ne.mpr c8
            have c8b1 : ((wrap64 (Int.tdiv (wrap64 (a1 * a2)) a2)) != a1) = true := bne_iff_ne.mpr c8
            simp only [Option.some.injEq, Prod.mk.injEq] at H
            obtain ⟨rfl, rfl⟩ := H
            go_enter Try.func87, Try.ntmps87
            go_wp2
            go_ret2
            exact ⟨by first | rfl | (simp; done) | (simp [*]; done), by repeat (first | exact Drawn0.refl _ | apply Drawn0.step)⟩
theorem sum_some {code a b n : Int} (ha : -9223372036854775808 ≤ a ∧ a ≤ 9223372036854775807) (hb : -9223372036854775808 ≤ b ∧ b ≤ 9223372036854775807) (h : sumV code a b = some n) (w : World) : Calls Try.prog 87 #[.int .i64 code, .int .i64 a, .int .i64 b] w fun e w' => e = .returned (.tuple #[.int .i64 n, .bool true]) ∧ Below w.heap.size w w' := by
  obtain ⟨rfl, hr⟩ := sumV_some h
  refine (expr_sum.calls code a b _ true w ?_).mono fun e w' ⟨h1, h2⟩ => ⟨h1, h2.below⟩
  unfold expr_sum.f
  by_cases h2 : code = 2
  · subst h2
    rw [arith2] at hr ⊢
    rw [if_pos rfl, sum_wrap ha hb, decide_eq_true hr, wrap64_in hr]
  rw [if_neg h2]
  by_cases h3 : code = 3
  · subst h3
    rw [arith3] at hr ⊢
    rw [if_pos rfl, diff_wrap ha hb, decide_eq_true hr, wrap64_in hr]
  rw [if_neg h3]
  rw [arithT h2 h3] at hr ⊢
  by_cases ha0 : a = 0
  · rw [if_pos ha0, ha0, Int.zero_mul]
  rw [if_neg ha0]
  by_cases hb0 : b = 0
  · rw [if_pos hb0, hb0, Int.mul_zero]
  rw [if_neg hb0, if_pos (prod_back ha hb0 hr), wrap64_in hr]
  by_cases hb1 : b = -1
  · subst hb1
    rw [if_pos rfl, if_neg (by omega)]
    by_cases ha1 : a = -1
    · subst ha1; rw [if_pos rfl]; rfl
    · rw [if_neg ha1]; rfl
  · rw [if_neg hb1]
    by_cases ha1 : a = -1
    · subst ha1
      rw [if_pos rfl]
      have : (b == -1 * b) = false := beq_eq_false_iff_ne.2 (by omega)
      rw [this]; rfl
    · rw [if_neg ha1]; rfl
theorem sum_none {code a b : Int} (ha : -9223372036854775808 ≤ a ∧ a ≤ 9223372036854775807) (hb : -9223372036854775808 ≤ b ∧ b ≤ 9223372036854775807) (h : sumV code a b = none) : ∃ n, ∀ w, Calls Try.prog 87 #[.int .i64 code, .int .i64 a, .int .i64 b] w fun e w' => e = .returned (.tuple #[.int .i64 n, .bool false]) ∧ Below w.heap.size w w' := by
  have hr := sumV_none h
  have hx : expr_sum.f code a b = some (wrap64 (arith code a b), false) := by
    unfold expr_sum.f
    by_cases h2 : code = 2
    · subst h2
      rw [arith2] at hr ⊢
      rw [if_pos rfl, sum_wrap ha hb, decide_eq_false hr]
    rw [if_neg h2]
    by_cases h3 : code = 3
    · subst h3
      rw [arith3] at hr ⊢
      rw [if_pos rfl, diff_wrap ha hb, decide_eq_false hr]
    rw [if_neg h3]
    rw [arithT h2 h3] at hr ⊢
    rw [if_neg (by rintro rfl; apply hr; rw [Int.zero_mul]; decide), if_neg (by rintro rfl; apply hr; rw [Int.mul_zero]; decide)]
    have hb0 : b ≠ 0 := by rintro rfl; apply hr; rw [Int.mul_zero]; decide
    by_cases hq : wrap64 (Int.tdiv (wrap64 (a * b)) b) = a
    · rw [if_pos hq]
      by_cases hs : b = -1 ∧ a = -9223372036854775808
      · obtain ⟨rfl, rfl⟩ := hs
        rw [if_pos rfl, if_pos (by decide +kernel)]
      · exact absurd (prod_test ha hb hb0 hs hq) hr
    · rw [if_neg hq]
  exact ⟨_, fun w => (expr_sum.calls code a b _ false w hx).mono fun e w' ⟨h1, h2⟩ => ⟨h1, h2.below⟩⟩
end Go.Proofs.Ytncllbokeofdjaa.P

namespace Go.Proofs.Ytncllbokeofdjaa.P
open Go.RowKit Go.Proofs.YtncllbokeofdjaaW.PrintWords Go.Proofs.YtncllbokeofdjaaW.PrintLast Go.Proofs.YtncllbokeofdjaaW.PrintMore
attribute [local go_sem] max2_int min2_int max_two min_two max_three min_three max_four min_four   -- for this text's walks alone
set_option linter.unusedVariables false
set_option linter.unusedSimpArgs false
attribute [local go_sem high] eqAValue
attribute [local go_sem high] eqAValue
theorem meth_num (n : Int) (w : World) : (method 241 115 (.int .i64 n) "towncrier/expr.value").run Try.prog w = .ok (103, .int .i64 n) w := by kernel_rfl
theorem meth_tru (n : Bool) (w : World) : (method 241 79 (.bool n) "towncrier/expr.value").run Try.prog w = .ok (47, .bool n) w := by kernel_rfl
theorem meth_oth (a b : Int) (s : ByteArray) (w : World) : (method 241 119 (.agg #[.int .i64 a, .int .i64 b, .string s]) "towncrier/expr.value").run Try.prog w = .ok (104, .agg #[.int .i64 a, .int .i64 b, .string s]) w := by kernel_rfl
theorem valNum_told (n : Int) (w : World) : Calls Try.prog 103 #[.int .i64 n] w (valPost (.agg #[.int .i64 0, .int .i64 n, .string ⟨#[]⟩]) w) := by
  go_enter Try.func103, Try.ntmps103
  go_wp2
  exact bodyPost_ret (v := .agg #[.int .i64 0, .int .i64 n, .string ⟨#[]⟩]) (by simp [results, Try.results103, go_sem]) rfl ⟨rfl, below_alloc (Below.refl _ _) _⟩
theorem valTru_told (b : Bool) (w : World) : Calls Try.prog 47 #[.bool b] w (valPost (.agg #[.int .i64 1, .int .i64 (if b then 1 else 0), .string ⟨#[]⟩]) w) := by
  cases b
  · go_enter Try.func47, Try.ntmps47
    go_wp2
    exact bodyPost_ret (v := .agg #[.int .i64 1, .int .i64 0, .string ⟨#[]⟩]) (by simp [results, Try.results47, go_sem]) rfl ⟨rfl, below_alloc (Below.refl _ _) _⟩
  · go_enter Try.func47, Try.ntmps47
    go_wp2
    exact bodyPost_ret (v := .agg #[.int .i64 1, .int .i64 1, .string ⟨#[]⟩]) (by simp [results, Try.results47, go_sem]) rfl ⟨rfl, below_alloc (Below.refl _ _) _⟩
theorem valOth_told (x : SValue) (w : World) : Calls Try.prog 104 #[.agg #[.int .i64 x.f0, .int .i64 x.f1, .string x.f2]] w (valPost (.agg #[.int .i64 x.f0, .int .i64 x.f1, .string x.f2]) w) := by
  go_enter Try.func104, Try.ntmps104
  go_wp2
  exact bodyPost_ret (v := .agg #[.int .i64 x.f0, .int .i64 x.f1, .string x.f2]) (by simp [results, Try.results104, go_sem]) rfl ⟨rfl, below_alloc (below_alloc (Below.refl _ _) _) _⟩
theorem as_num_tru (n : Int) (w : World) : (Instr.typeAssert (.iface 115 (.int .i64 n)) 95 79 true).run Try.prog w = .ok (.tuple #[(.bool false : Value), .bool false]) w := by kernel_rfl
theorem as_num_num (n : Int) (w : World) : (Instr.typeAssert (.iface 115 (.int .i64 n)) 95 115 true).run Try.prog w = .ok (.tuple #[(.int .i64 n : Value), .bool true]) w := by kernel_rfl
theorem is_num (n : Int) (w : World) : (Instr.typeAssert (.iface 115 (.int .i64 n)) 95 115 false).run Try.prog w = .ok (.int .i64 n : Value) w := by kernel_rfl
theorem as_tru_tru (n : Bool) (w : World) : (Instr.typeAssert (.iface 79 (.bool n)) 95 79 true).run Try.prog w = .ok (.tuple #[(.bool n : Value), .bool true]) w := by kernel_rfl
theorem is_tru (n : Bool) (w : World) : (Instr.typeAssert (.iface 79 (.bool n)) 95 79 false).run Try.prog w = .ok (.bool n : Value) w := by kernel_rfl
theorem as_tru_num (n : Bool) (w : World) : (Instr.typeAssert (.iface 79 (.bool n)) 95 115 true).run Try.prog w = .ok (.tuple #[(.int .i64 0 : Value), .bool false]) w := by kernel_rfl
theorem as_oth_tru (a b : Int) (s : ByteArray) (w : World) : (Instr.typeAssert (.iface 119 (.agg #[.int .i64 a, .int .i64 b, .string s])) 95 79 true).run Try.prog w = .ok (.tuple #[(.bool false : Value), .bool false]) w := by kernel_rfl
theorem as_oth_num (a b : Int) (s : ByteArray) (w : World) : (Instr.typeAssert (.iface 119 (.agg #[.int .i64 a, .int .i64 b, .string s])) 95 115 true).run Try.prog w = .ok (.tuple #[(.int .i64 0 : Value), .bool false]) w := by kernel_rfl
def ThingIs (x : SValue) (t : Nat) (v : Value) (f : Nat) : Prop :=
  thV x = .iface t v ∧ (∀ w, (method 241 t v "towncrier/expr.value").run Try.prog w = .ok (f, v) w) ∧ (∀ args w, (callFunc f args).run Try.prog w = .ok (.enter f args) w)
  ∧ (∀ w, Calls Try.prog f #[v] w (valPost (.agg #[.int .i64 x.f0, .int .i64 x.f1, .string x.f2]) w))
  ∧ (∃ p : Bool, ∀ w, (Instr.typeAssert (.iface t v) 95 79 true).run Try.prog w = .ok (.tuple #[.bool p, .bool (x.f0 == 1)]) w)
  ∧ (∃ n : Int, ∀ w, (Instr.typeAssert (.iface t v) 95 115 true).run Try.prog w = .ok (.tuple #[.int .i64 n, .bool (x.f0 == 0)]) w)
  ∧ (x.f0 = 1 → ∀ w, (Instr.typeAssert (.iface t v) 95 79 true).run Try.prog w = .ok (.tuple #[.bool (x.f1 == 1), .bool true]) w)
  ∧ (x.f0 = 0 → ∀ w, (Instr.typeAssert (.iface t v) 95 115 true).run Try.prog w = .ok (.tuple #[.int .i64 x.f1, .bool true]) w)
  ∧ (x.f0 = 1 → ∀ w, (Instr.typeAssert (.iface t v) 95 79 false).run Try.prog w = .ok (.bool (x.f1 == 1)) w)
  ∧ (x.f0 = 0 → ∀ w, (Instr.typeAssert (.iface t v) 95 115 false).run Try.prog w = .ok (.int .i64 x.f1) w)
theorem thing_is {x : SValue} (h : mayV x = true) : ∃ t v f, ThingIs x t v f := by
  obtain ⟨k, n, s⟩ := x
  unfold ThingIs
  have hm := mayV_iff.1 h
  by_cases h0 : k = 0
  · subst h0
    have hs : s = ⟨#[]⟩ := by
      rcases hm with ⟨_, h2⟩ | ⟨h1, _⟩ | ⟨h1, _⟩ | ⟨h1, _⟩
      · exact toList_nil h2
      all_goals exact absurd (show (0 : Int) = _ from h1) (by decide)
    subst hs
    refine ⟨_, _, 103, by unfold thV; rw [if_pos rfl], meth_num n, enters_of Try.func103 (by kernel_rfl) rfl, valNum_told n, ⟨_, as_num_tru n⟩, ⟨_, as_num_num n⟩, fun h => absurd (show (0 : Int) = 1 from h) (by decide), fun _ => as_num_num n, fun h => absurd (show (0 : Int) = 1 from h) (by decide), fun _ => is_num n⟩
  by_cases h1 : k = 1
  · subst h1
    have hs : s = ⟨#[]⟩ ∧ 0 ≤ n ∧ n < 2 := by
      rcases hm with ⟨h1, _⟩ | ⟨_, h2, h3, h4⟩ | ⟨h1, _⟩ | ⟨h1, _⟩
      · exact absurd (show (1 : Int) = _ from h1) (by decide)
      · exact ⟨toList_nil h2, h3, h4⟩
      all_goals exact absurd (show (1 : Int) = _ from h1) (by decide)
    obtain ⟨rfl, hn0, hn1⟩ := hs
    refine ⟨_, _, 47, by unfold thV; rw [if_neg h0, if_pos rfl], meth_tru _, enters_of Try.func47 (by kernel_rfl) rfl, ?_, ⟨_, as_tru_tru _⟩, ⟨_, as_tru_num _⟩, fun _ => as_tru_tru _, fun h => absurd (show (1 : Int) = 0 from h) (by decide), fun _ => is_tru _, fun h => absurd (show (1 : Int) = 0 from h) (by decide)⟩
    intro w
    have := valTru_told (n == 1) w
    have e : (if (n == 1) = true then (1 : Int) else 0) = n := by
      by_cases h : n = 1
      · subst h; rfl
      · rw [if_neg (by simpa using h)]; omega
    rw [e] at this
    exact this
  · have e0 : (k == 0) = false := beq_eq_false_iff_ne.2 h0
    have e1 : (k == 1) = false := beq_eq_false_iff_ne.2 h1
    refine ⟨_, _, 104, by unfold thV; rw [if_neg h0, if_neg h1], meth_oth k n s, enters_of Try.func104 (by kernel_rfl) rfl, valOth_told ⟨k, n, s⟩, ⟨_, fun w => by rw [show ((⟨k, n, s⟩ : SValue).f0 == 1) = false from e1]; exact as_oth_tru k n s w⟩, ⟨_, fun w => by rw [show ((⟨k, n, s⟩ : SValue).f0 == 0) = false from e0]; exact as_oth_num k n s w⟩, fun h => absurd h h1, fun h => absurd h h0, fun h => absurd h h1, fun h => absurd h h0⟩
def twoPost (r : Except Int SValue) (w : World) (e : Ending) (w' : World) : Prop := (match r with | .ok y => e = .returned (.tuple #[thV y, .int .i64 0]) | .error n => e = .returned (.tuple #[.nilIface, .int .i64 n])) ∧ Below w.heap.size w w'
theorem thV_tru (b : Bool) : thV (truV b) = .iface 79 (.bool b) := by cases b <;> rfl
theorem thV_num (n : Int) : thV ⟨0, n, ⟨#[]⟩⟩ = .iface 115 (.int .i64 n) := rfl
set_option maxHeartbeats 1000000 in
set_option maxRecDepth 100000 in
theorem two_differ (x y : SValue) (w : World) (hx : okV x) (hy : okV y) (code : Int) (he : x.f0 ≠ y.f0) : Calls Try.prog 79 #[.int .i64 code, thV x, thV y] w (twoPost (.error 5) w) := by
  obtain ⟨t, v, f, hx1, hx2, hx3, hx4, ⟨px, hx5⟩, ⟨nx, hx6⟩, hx7, hx8, hx9, hx10⟩ := thing_is hx.1
  obtain ⟨s, u, g, hy1, hy2, hy3, hy4, ⟨py, hy5⟩, ⟨ny, hy6⟩, hy7, hy8, hy9, hy10⟩ := thing_is hy.1
  rw [hx1, hy1]
  have HX4 := Aside0.mk hx4
  have HY4 := Aside0.mk hy4
  have HVX := Aside0.mk hx
  have HVY := Aside0.mk hy
  have HX1 := Aside0.mk hx1
  have HY1 := Aside0.mk hy1
  have he2 : (x.f0 == y.f0) = false := beq_eq_false_iff_ne.2 he
  have he3 : (x.f0 != y.f0) = true := bne_iff_ne.2 he
  clear he
  clear hx4 hy4 hx7 hx8 hx9 hx10 hy7 hy8 hy9 hy10 hx hy hx1 hy1
  go_enter Try.func79, Try.ntmps79
  go_wp2_with fail
  refine (HX4.out _).mono ?_
  rintro e w1 ⟨rfl, hb1⟩
  have HB1 := Aside0.mk hb1
  clear hb1
  go_wp2_with fail
  refine (HY4.out _).mono ?_
  rintro e w2 ⟨rfl, hb2⟩
  have HB2 := Aside0.mk (below_step HB1.out hb2)
  clear hb2
  go_wp2_with fail
  go_ret2
  exact ⟨rfl, below_alloc (below_alloc HB2.out _) _⟩
set_option maxHeartbeats 1000000 in
set_option maxRecDepth 100000 in
theorem two_six (x y : SValue) (w : World) (hx : okV x) (hy : okV y) (he : x.f0 = y.f0) : Calls Try.prog 79 #[.int .i64 6, thV x, thV y] w (twoPost (.ok (truV (eqV x y))) w) := by
  obtain ⟨t, v, f, hx1, hx2, hx3, hx4, ⟨px, hx5⟩, ⟨nx, hx6⟩, hx7, hx8, hx9, hx10⟩ := thing_is hx.1
  obtain ⟨s, u, g, hy1, hy2, hy3, hy4, ⟨py, hy5⟩, ⟨ny, hy6⟩, hy7, hy8, hy9, hy10⟩ := thing_is hy.1
  rw [hx1, hy1]
  have HX4 := Aside0.mk hx4
  have HY4 := Aside0.mk hy4
  have HVX := Aside0.mk hx
  have HVY := Aside0.mk hy
  have HX1 := Aside0.mk hx1
  have HY1 := Aside0.mk hy1
  have HE := Aside0.mk he
  have he2 : (x.f0 == y.f0) = true := beq_iff_eq.2 he
  have he3 : (x.f0 != y.f0) = false := by rw [bne, he2]; rfl
  clear he
  have heq : (x.f1 == y.f1 && x.f2.toList == y.f2.toList) = eqV x y := by unfold eqV; rw [he2, Bool.true_and]
  show Calls _ _ _ _ (fun e w' => e = .returned (.tuple #[thV (truV (eqV x y)), .int .i64 0]) ∧ Below w.heap.size w w')
  rw [thV_tru]
  generalize eqV x y = q at *
  clear hx4 hy4 hx7 hx8 hx9 hx10 hy7 hy8 hy9 hy10 hx hy hx1 hy1
  go_enter Try.func79, Try.ntmps79
  go_wp2_with fail
  refine (HX4.out _).mono ?_
  rintro e w1 ⟨rfl, hb1⟩
  have HB1 := Aside0.mk hb1
  clear hb1
  go_wp2_with fail
  refine (HY4.out _).mono ?_
  rintro e w2 ⟨rfl, hb2⟩
  have HB2 := Aside0.mk (below_step HB1.out hb2)
  clear hb2
  go_wp2_with fail
  go_ret2
  exact ⟨rfl, below_alloc (below_alloc HB2.out _) _⟩
set_option maxHeartbeats 1000000 in
set_option maxRecDepth 100000 in
theorem two_five_b (x y : SValue) (w : World) (hx : okV x) (hy : okV y) (he : x.f0 = y.f0) (h1 : x.f0 = 1) : Calls Try.prog 79 #[.int .i64 5, thV x, thV y] w (twoPost (.error 5) w) := by
  obtain ⟨t, v, f, hx1, hx2, hx3, hx4, ⟨px, hx5⟩, ⟨nx, hx6⟩, hx7, hx8, hx9, hx10⟩ := thing_is hx.1
  obtain ⟨s, u, g, hy1, hy2, hy3, hy4, ⟨py, hy5⟩, ⟨ny, hy6⟩, hy7, hy8, hy9, hy10⟩ := thing_is hy.1
  rw [hx1, hy1]
  have HX4 := Aside0.mk hx4
  have HY4 := Aside0.mk hy4
  have HVX := Aside0.mk hx
  have HVY := Aside0.mk hy
  have HX1 := Aside0.mk hx1
  have HY1 := Aside0.mk hy1
  have HE := Aside0.mk he
  have he2 : (x.f0 == y.f0) = true := beq_iff_eq.2 he
  have he3 : (x.f0 != y.f0) = false := by rw [bne, he2]; rfl
  clear he
  have h1b : (x.f0 == 1) = true := beq_iff_eq.2 h1
  clear h1
  clear hx4 hy4 hx7 hx8 hx9 hx10 hy7 hy8 hy9 hy10 hx hy hx1 hy1
  go_enter Try.func79, Try.ntmps79
  go_wp2_with fail
  refine (HX4.out _).mono ?_
  rintro e w1 ⟨rfl, hb1⟩
  have HB1 := Aside0.mk hb1
  clear hb1
  go_wp2_with fail
  refine (HY4.out _).mono ?_
  rintro e w2 ⟨rfl, hb2⟩
  have HB2 := Aside0.mk (below_step HB1.out hb2)
  clear hb2
  go_wp2_with fail
  go_at_call 28
  refine (less_told x y _ HVX.out HVY.out HE.out rfl).mono ?_
  rintro e w3 ⟨rfl, hb3⟩
  go_wp2_with fail
  go_ret2
  exact ⟨rfl, below_step (below_alloc (below_alloc HB2.out _) _) hb3⟩
set_option maxHeartbeats 1000000 in
set_option maxRecDepth 100000 in
theorem two_five (x y : SValue) (w : World) (hx : okV x) (hy : okV y) (he : x.f0 = y.f0) (h1 : ¬ x.f0 = 1) : Calls Try.prog 79 #[.int .i64 5, thV x, thV y] w (twoPost (.ok (truV (lessV x y))) w) := by
  obtain ⟨t, v, f, hx1, hx2, hx3, hx4, ⟨px, hx5⟩, ⟨nx, hx6⟩, hx7, hx8, hx9, hx10⟩ := thing_is hx.1
  obtain ⟨s, u, g, hy1, hy2, hy3, hy4, ⟨py, hy5⟩, ⟨ny, hy6⟩, hy7, hy8, hy9, hy10⟩ := thing_is hy.1
  rw [hx1, hy1]
  have HX4 := Aside0.mk hx4
  have HY4 := Aside0.mk hy4
  have HVX := Aside0.mk hx
  have HVY := Aside0.mk hy
  have HX1 := Aside0.mk hx1
  have HY1 := Aside0.mk hy1
  have HE := Aside0.mk he
  have he2 : (x.f0 == y.f0) = true := beq_iff_eq.2 he
  have he3 : (x.f0 != y.f0) = false := by rw [bne, he2]; rfl
  clear he
  have h1b : (x.f0 == 1) = false := beq_eq_false_iff_ne.2 h1
  clear h1
  show Calls _ _ _ _ (fun e w' => e = .returned (.tuple #[thV (truV (lessV x y)), .int .i64 0]) ∧ Below w.heap.size w w')
  rw [thV_tru]
  obtain ⟨q, hq⟩ : ∃ q, lessV x y = q := ⟨_, rfl⟩
  rw [hq]
  have HQ := Aside0.mk hq
  clear hq
  clear hx4 hy4 hx7 hx8 hx9 hx10 hy7 hy8 hy9 hy10 hx hy hx1 hy1
  go_enter Try.func79, Try.ntmps79
  go_wp2_with fail
  refine (HX4.out _).mono ?_
  rintro e w1 ⟨rfl, hb1⟩
  have HB1 := Aside0.mk hb1
  clear hb1
  go_wp2_with fail
  refine (HY4.out _).mono ?_
  rintro e w2 ⟨rfl, hb2⟩
  have HB2 := Aside0.mk (below_step HB1.out hb2)
  clear hb2
  go_wp2_with fail
  go_at_call 28
  refine (less_told x y _ HVX.out HVY.out HE.out HQ.out).mono ?_
  rintro e w3 ⟨rfl, hb3⟩
  go_wp2_with fail
  go_ret2
  exact ⟨rfl, below_step (below_alloc (below_alloc HB2.out _) _) hb3⟩
set_option maxHeartbeats 1000000 in
set_option maxRecDepth 100000 in
theorem two_seven (x y : SValue) (w : World) (hx : okV x) (hy : okV y) (he : x.f0 = y.f0) (h1 : x.f0 = 1) : Calls Try.prog 79 #[.int .i64 7, thV x, thV y] w (twoPost (.ok (truV (x.f1 == 1 && y.f1 == 1))) w) := by
  obtain ⟨t, v, f, hx1, hx2, hx3, hx4, ⟨px, hx5⟩, ⟨nx, hx6⟩, hx7, hx8, hx9, hx10⟩ := thing_is hx.1
  obtain ⟨s, u, g, hy1, hy2, hy3, hy4, ⟨py, hy5⟩, ⟨ny, hy6⟩, hy7, hy8, hy9, hy10⟩ := thing_is hy.1
  rw [hx1, hy1]
  have HX4 := Aside0.mk hx4
  have HY4 := Aside0.mk hy4
  have HVX := Aside0.mk hx
  have HVY := Aside0.mk hy
  have HX1 := Aside0.mk hx1
  have HY1 := Aside0.mk hy1
  have hy1' : y.f0 = 1 := by omega
  have a1 := hx9 h1
  have a2 := hy9 hy1'
  have a3 := hx7 h1
  have HE := Aside0.mk he
  have he2 : (x.f0 == y.f0) = true := beq_iff_eq.2 he
  have he3 : (x.f0 != y.f0) = false := by rw [bne, he2]; rfl
  clear he
  show Calls _ _ _ _ (fun e w' => e = .returned (.tuple #[thV (truV (x.f1 == 1 && y.f1 == 1)), .int .i64 0]) ∧ Below w.heap.size w w')
  rw [thV_tru]
  clear h1 hy1' hx5
  generalize (x.f1 == 1) = p at *
  generalize (y.f1 == 1) = q at *
  clear hx4 hy4 hx7 hx8 hx9 hx10 hy7 hy8 hy9 hy10 hx hy hx1 hy1
  cases p <;> cases q
  all_goals
    go_enter Try.func79, Try.ntmps79
    go_wp2_with fail
    refine (HX4.out _).mono ?_
    rintro e w1 ⟨rfl, hb1⟩
    have HB1 := Aside0.mk hb1
    clear hb1
    go_wp2_with fail
    refine (HY4.out _).mono ?_
    rintro e w2 ⟨rfl, hb2⟩
    have HB2 := Aside0.mk (below_step HB1.out hb2)
    clear hb2
    go_wp2_with fail
    go_quiet (fail)
    go_wp2_with fail
    go_ret2
    exact ⟨rfl, pw_below_drewN (below_alloc (below_alloc HB2.out _) _) _⟩
set_option maxHeartbeats 1000000 in
set_option maxRecDepth 100000 in
theorem two_seven_no (x y : SValue) (w : World) (hx : okV x) (hy : okV y) (he : x.f0 = y.f0) (h1 : ¬ x.f0 = 1) : Calls Try.prog 79 #[.int .i64 7, thV x, thV y] w (twoPost (.error 5) w) := by
  obtain ⟨t, v, f, hx1, hx2, hx3, hx4, ⟨px, hx5⟩, ⟨nx, hx6⟩, hx7, hx8, hx9, hx10⟩ := thing_is hx.1
  obtain ⟨s, u, g, hy1, hy2, hy3, hy4, ⟨py, hy5⟩, ⟨ny, hy6⟩, hy7, hy8, hy9, hy10⟩ := thing_is hy.1
  rw [hx1, hy1]
  have HX4 := Aside0.mk hx4
  have HY4 := Aside0.mk hy4
  have HVX := Aside0.mk hx
  have HVY := Aside0.mk hy
  have HX1 := Aside0.mk hx1
  have HY1 := Aside0.mk hy1
  have HE := Aside0.mk he
  have he2 : (x.f0 == y.f0) = true := beq_iff_eq.2 he
  have he3 : (x.f0 != y.f0) = false := by rw [bne, he2]; rfl
  clear he
  have h1b : (x.f0 == 1) = false := beq_eq_false_iff_ne.2 h1
  clear h1
  clear hx4 hy4 hx7 hx8 hx9 hx10 hy7 hy8 hy9 hy10 hx hy hx1 hy1
  go_enter Try.func79, Try.ntmps79
  go_wp2_with fail
  refine (HX4.out _).mono ?_
  rintro e w1 ⟨rfl, hb1⟩
  have HB1 := Aside0.mk hb1
  clear hb1
  go_wp2_with fail
  refine (HY4.out _).mono ?_
  rintro e w2 ⟨rfl, hb2⟩
  have HB2 := Aside0.mk (below_step HB1.out hb2)
  clear hb2
  go_wp2_with fail
  go_ret2
  exact ⟨rfl, below_alloc (below_alloc HB2.out _) _⟩
set_option maxHeartbeats 1000000 in
set_option maxRecDepth 100000 in
theorem two_eight (x y : SValue) (w : World) (hx : okV x) (hy : okV y) (he : x.f0 = y.f0) (h1 : x.f0 = 1) : Calls Try.prog 79 #[.int .i64 8, thV x, thV y] w (twoPost (.ok (truV (x.f1 == 1 || y.f1 == 1))) w) := by
  obtain ⟨t, v, f, hx1, hx2, hx3, hx4, ⟨px, hx5⟩, ⟨nx, hx6⟩, hx7, hx8, hx9, hx10⟩ := thing_is hx.1
  obtain ⟨s, u, g, hy1, hy2, hy3, hy4, ⟨py, hy5⟩, ⟨ny, hy6⟩, hy7, hy8, hy9, hy10⟩ := thing_is hy.1
  rw [hx1, hy1]
  have HX4 := Aside0.mk hx4
  have HY4 := Aside0.mk hy4
  have HVX := Aside0.mk hx
  have HVY := Aside0.mk hy
  have HX1 := Aside0.mk hx1
  have HY1 := Aside0.mk hy1
  have hy1' : y.f0 = 1 := by omega
  have a1 := hx9 h1
  have a2 := hy9 hy1'
  have a3 := hx7 h1
  have HE := Aside0.mk he
  have he2 : (x.f0 == y.f0) = true := beq_iff_eq.2 he
  have he3 : (x.f0 != y.f0) = false := by rw [bne, he2]; rfl
  clear he
  show Calls _ _ _ _ (fun e w' => e = .returned (.tuple #[thV (truV (x.f1 == 1 || y.f1 == 1)), .int .i64 0]) ∧ Below w.heap.size w w')
  rw [thV_tru]
  clear h1 hy1' hx5
  generalize (x.f1 == 1) = p at *
  generalize (y.f1 == 1) = q at *
  clear hx4 hy4 hx7 hx8 hx9 hx10 hy7 hy8 hy9 hy10 hx hy hx1 hy1
  cases p <;> cases q
  all_goals
    go_enter Try.func79, Try.ntmps79
    go_wp2_with fail
    refine (HX4.out _).mono ?_
    rintro e w1 ⟨rfl, hb1⟩
    have HB1 := Aside0.mk hb1
    clear hb1
    go_wp2_with fail
    refine (HY4.out _).mono ?_
    rintro e w2 ⟨rfl, hb2⟩
    have HB2 := Aside0.mk (below_step HB1.out hb2)
    clear hb2
    go_wp2_with fail
    go_quiet (fail)
    go_wp2_with fail
    go_ret2
    exact ⟨rfl, pw_below_drewN (below_alloc (below_alloc HB2.out _) _) _⟩
set_option maxHeartbeats 1000000 in
set_option maxRecDepth 100000 in
theorem two_eight_no (x y : SValue) (w : World) (hx : okV x) (hy : okV y) (he : x.f0 = y.f0) (h1 : ¬ x.f0 = 1) : Calls Try.prog 79 #[.int .i64 8, thV x, thV y] w (twoPost (.error 5) w) := by
  obtain ⟨t, v, f, hx1, hx2, hx3, hx4, ⟨px, hx5⟩, ⟨nx, hx6⟩, hx7, hx8, hx9, hx10⟩ := thing_is hx.1
  obtain ⟨s, u, g, hy1, hy2, hy3, hy4, ⟨py, hy5⟩, ⟨ny, hy6⟩, hy7, hy8, hy9, hy10⟩ := thing_is hy.1
  rw [hx1, hy1]
  have HX4 := Aside0.mk hx4
  have HY4 := Aside0.mk hy4
  have HVX := Aside0.mk hx
  have HVY := Aside0.mk hy
  have HX1 := Aside0.mk hx1
  have HY1 := Aside0.mk hy1
  have HE := Aside0.mk he
  have he2 : (x.f0 == y.f0) = true := beq_iff_eq.2 he
  have he3 : (x.f0 != y.f0) = false := by rw [bne, he2]; rfl
  clear he
  have h1b : (x.f0 == 1) = false := beq_eq_false_iff_ne.2 h1
  clear h1
  clear hx4 hy4 hx7 hx8 hx9 hx10 hy7 hy8 hy9 hy10 hx hy hx1 hy1
  go_enter Try.func79, Try.ntmps79
  go_wp2_with fail
  refine (HX4.out _).mono ?_
  rintro e w1 ⟨rfl, hb1⟩
  have HB1 := Aside0.mk hb1
  clear hb1
  go_wp2_with fail
  refine (HY4.out _).mono ?_
  rintro e w2 ⟨rfl, hb2⟩
  have HB2 := Aside0.mk (below_step HB1.out hb2)
  clear hb2
  go_wp2_with fail
  go_ret2
  exact ⟨rfl, below_alloc (below_alloc HB2.out _) _⟩
set_option maxHeartbeats 1000000 in
set_option maxRecDepth 100000 in
theorem two_over (x y : SValue) (w : World) (hx : okV x) (hy : okV y) (code : Int) (he : x.f0 = y.f0) (h6 : ¬ code = 6) (h5 : ¬ code = 5) (h78 : ¬ (code = 7 ∨ code = 8)) (h0 : x.f0 = 0) (hs : sumV code x.f1 y.f1 = none) : Calls Try.prog 79 #[.int .i64 code, thV x, thV y] w (twoPost (.error 6) w) := by
  obtain ⟨t, v, f, hx1, hx2, hx3, hx4, ⟨px, hx5⟩, ⟨nx, hx6⟩, hx7, hx8, hx9, hx10⟩ := thing_is hx.1
  obtain ⟨s, u, g, hy1, hy2, hy3, hy4, ⟨py, hy5⟩, ⟨ny, hy6⟩, hy7, hy8, hy9, hy10⟩ := thing_is hy.1
  rw [hx1, hy1]
  have HX4 := Aside0.mk hx4
  have HY4 := Aside0.mk hy4
  have HVX := Aside0.mk hx
  have HVY := Aside0.mk hy
  have HX1 := Aside0.mk hx1
  have HY1 := Aside0.mk hy1
  have h0b : (x.f0 == 0) = true := beq_iff_eq.2 h0
  have hy0 : y.f0 = 0 := by omega
  have a1 := hx8 h0
  have a2 := hy10 hy0
  have HE := Aside0.mk he
  have he2 : (x.f0 == y.f0) = true := beq_iff_eq.2 he
  have he3 : (x.f0 != y.f0) = false := by rw [bne, he2]; rfl
  clear he
  have h5b : (code == 5) = false := beq_eq_false_iff_ne.2 h5
  have h6b : (code == 6) = false := beq_eq_false_iff_ne.2 h6
  have h7b : (code == 7) = false := beq_eq_false_iff_ne.2 (fun h => h78 (.inl h))
  have h8b : (code == 8) = false := beq_eq_false_iff_ne.2 (fun h => h78 (.inr h))
  clear h5 h6 h78
  obtain ⟨n, hn⟩ := sum_none hx.2 hy.2 hs
  have HS := Aside0.mk hn
  clear hn hs hx6 hy0 h0
  clear hx4 hy4 hx7 hx8 hx9 hx10 hy7 hy8 hy9 hy10 hx hy hx1 hy1
  go_enter Try.func79, Try.ntmps79
  go_wp2_with fail
  refine (HX4.out _).mono ?_
  rintro e w1 ⟨rfl, hb1⟩
  have HB1 := Aside0.mk hb1
  clear hb1
  go_wp2_with fail
  refine (HY4.out _).mono ?_
  rintro e w2 ⟨rfl, hb2⟩
  have HB2 := Aside0.mk (below_step HB1.out hb2)
  clear hb2
  go_wp2_with fail
  go_at_call 87
  refine (HS.out _).mono ?_
  rintro e w3 ⟨rfl, hb3⟩
  go_wp2_with fail
  go_ret2
  exact ⟨rfl, below_step (below_alloc (below_alloc HB2.out _) _) hb3⟩
set_option maxHeartbeats 1000000 in
set_option maxRecDepth 100000 in
theorem two_sum (x y : SValue) (w : World) (hx : okV x) (hy : okV y) (code : Int) (he : x.f0 = y.f0) (h6 : ¬ code = 6) (h5 : ¬ code = 5) (h78 : ¬ (code = 7 ∨ code = 8)) (h0 : x.f0 = 0) {n : Int} (hs : sumV code x.f1 y.f1 = some n) : Calls Try.prog 79 #[.int .i64 code, thV x, thV y] w (twoPost (.ok ⟨0, n, ⟨#[]⟩⟩) w) := by
  obtain ⟨t, v, f, hx1, hx2, hx3, hx4, ⟨px, hx5⟩, ⟨nx, hx6⟩, hx7, hx8, hx9, hx10⟩ := thing_is hx.1
  obtain ⟨s, u, g, hy1, hy2, hy3, hy4, ⟨py, hy5⟩, ⟨ny, hy6⟩, hy7, hy8, hy9, hy10⟩ := thing_is hy.1
  rw [hx1, hy1]
  have HX4 := Aside0.mk hx4
  have HY4 := Aside0.mk hy4
  have HVX := Aside0.mk hx
  have HVY := Aside0.mk hy
  have HX1 := Aside0.mk hx1
  have HY1 := Aside0.mk hy1
  have h0b : (x.f0 == 0) = true := beq_iff_eq.2 h0
  have hy0 : y.f0 = 0 := by omega
  have a1 := hx8 h0
  have a2 := hy10 hy0
  have HE := Aside0.mk he
  have he2 : (x.f0 == y.f0) = true := beq_iff_eq.2 he
  have he3 : (x.f0 != y.f0) = false := by rw [bne, he2]; rfl
  clear he
  have h5b : (code == 5) = false := beq_eq_false_iff_ne.2 h5
  have h6b : (code == 6) = false := beq_eq_false_iff_ne.2 h6
  have h7b : (code == 7) = false := beq_eq_false_iff_ne.2 (fun h => h78 (.inl h))
  have h8b : (code == 8) = false := beq_eq_false_iff_ne.2 (fun h => h78 (.inr h))
  clear h5 h6 h78
  show Calls _ _ _ _ (fun e w' => e = .returned (.tuple #[thV ⟨0, n, ⟨#[]⟩⟩, .int .i64 0]) ∧ Below w.heap.size w w')
  rw [thV_num]
  have HS := Aside0.mk (sum_some hx.2 hy.2 hs)
  clear hs hx6 hy0 h0
  clear hx4 hy4 hx7 hx8 hx9 hx10 hy7 hy8 hy9 hy10 hx hy hx1 hy1
  go_enter Try.func79, Try.ntmps79
  go_wp2_with fail
  refine (HX4.out _).mono ?_
  rintro e w1 ⟨rfl, hb1⟩
  have HB1 := Aside0.mk hb1
  clear hb1
  go_wp2_with fail
  refine (HY4.out _).mono ?_
  rintro e w2 ⟨rfl, hb2⟩
  have HB2 := Aside0.mk (below_step HB1.out hb2)
  clear hb2
  go_wp2_with fail
  go_at_call 87
  refine (HS.out _).mono ?_
  rintro e w3 ⟨rfl, hb3⟩
  go_wp2_with fail
  go_ret2
  exact ⟨rfl, below_step (below_alloc (below_alloc HB2.out _) _) hb3⟩
set_option maxHeartbeats 1000000 in
set_option maxRecDepth 100000 in
theorem two_type (x y : SValue) (w : World) (hx : okV x) (hy : okV y) (code : Int) (he : x.f0 = y.f0) (h6 : ¬ code = 6) (h5 : ¬ code = 5) (h78 : ¬ (code = 7 ∨ code = 8)) (h0 : ¬ x.f0 = 0) : Calls Try.prog 79 #[.int .i64 code, thV x, thV y] w (twoPost (.error 5) w) := by
  obtain ⟨t, v, f, hx1, hx2, hx3, hx4, ⟨px, hx5⟩, ⟨nx, hx6⟩, hx7, hx8, hx9, hx10⟩ := thing_is hx.1
  obtain ⟨s, u, g, hy1, hy2, hy3, hy4, ⟨py, hy5⟩, ⟨ny, hy6⟩, hy7, hy8, hy9, hy10⟩ := thing_is hy.1
  rw [hx1, hy1]
  have HX4 := Aside0.mk hx4
  have HY4 := Aside0.mk hy4
  have HVX := Aside0.mk hx
  have HVY := Aside0.mk hy
  have HX1 := Aside0.mk hx1
  have HY1 := Aside0.mk hy1
  have HE := Aside0.mk he
  have he2 : (x.f0 == y.f0) = true := beq_iff_eq.2 he
  have he3 : (x.f0 != y.f0) = false := by rw [bne, he2]; rfl
  clear he
  have h5b : (code == 5) = false := beq_eq_false_iff_ne.2 h5
  have h6b : (code == 6) = false := beq_eq_false_iff_ne.2 h6
  have h7b : (code == 7) = false := beq_eq_false_iff_ne.2 (fun h => h78 (.inl h))
  have h8b : (code == 8) = false := beq_eq_false_iff_ne.2 (fun h => h78 (.inr h))
  clear h5 h6 h78
  have h0b : (x.f0 == 0) = false := beq_eq_false_iff_ne.2 h0
  clear h0
  clear hx4 hy4 hx7 hx8 hx9 hx10 hy7 hy8 hy9 hy10 hx hy hx1 hy1
  go_enter Try.func79, Try.ntmps79
  go_wp2_with fail
  refine (HX4.out _).mono ?_
  rintro e w1 ⟨rfl, hb1⟩
  have HB1 := Aside0.mk hb1
  clear hb1
  go_wp2_with fail
  refine (HY4.out _).mono ?_
  rintro e w2 ⟨rfl, hb2⟩
  have HB2 := Aside0.mk (below_step HB1.out hb2)
  clear hb2
  go_wp2_with fail
  go_ret2
  exact ⟨rfl, below_alloc (below_alloc HB2.out _) _⟩
theorem two_told (code : Int) (x y : SValue) (w : World) (hx : okV x) (hy : okV y) {r : Except Int SValue} (hr : twoV code x y = r) : Calls Try.prog 79 #[.int .i64 code, thV x, thV y] w (twoPost r w) := by
  unfold twoV at hr
  by_cases he : x.f0 ≠ y.f0
  · rw [if_pos he] at hr; subst hr; exact two_differ x y w hx hy code he
  rw [if_neg he] at hr
  replace he := Classical.byContradiction he
  by_cases h6 : code = 6
  · rw [if_pos h6] at hr; subst hr h6; exact two_six x y w hx hy he
  rw [if_neg h6] at hr
  by_cases h5 : code = 5
  · rw [if_pos h5] at hr; subst h5
    by_cases h1 : x.f0 = 1
    · rw [if_pos h1] at hr; subst hr; exact two_five_b x y w hx hy he h1
    · rw [if_neg h1] at hr; subst hr; exact two_five x y w hx hy he h1
  rw [if_neg h5] at hr
  by_cases h78 : code = 7 ∨ code = 8
  · rw [if_pos h78] at hr
    by_cases h1 : x.f0 = 1
    · rw [if_pos h1] at hr; subst hr
      rcases h78 with rfl | rfl
      · exact two_seven x y w hx hy he h1
      · exact two_eight x y w hx hy he h1
    · rw [if_neg h1] at hr; subst hr
      rcases h78 with rfl | rfl
      · exact two_seven_no x y w hx hy he h1
      · exact two_eight_no x y w hx hy he h1
  rw [if_neg h78] at hr
  by_cases h0 : x.f0 = 0
  · rw [if_pos h0] at hr
    cases hs : sumV code x.f1 y.f1 with
    | none => rw [hs] at hr; subst hr; exact two_over x y w hx hy code he h6 h5 h78 h0 hs
    | some n => rw [hs] at hr; subst hr; exact two_sum x y w hx hy code he h6 h5 h78 h0 hs
  · rw [if_neg h0] at hr; subst hr; exact two_type x y w hx hy code he h6 h5 h78 h0
end Go.Proofs.Ytncllbokeofdjaa.P

namespace Go.Proofs.Ytncllbokeofdjaa.P
open Go.RowKit Go.Proofs.YtncllbokeofdjaaW.PrintWords Go.Proofs.YtncllbokeofdjaaW.PrintLast Go.Proofs.YtncllbokeofdjaaW.PrintMore
attribute [local go_sem] max2_int min2_int max_two min_two max_three min_three max_four min_four   -- for this text's walks alone
set_option linter.unusedVariables false
set_option linter.unusedSimpArgs false
def partPost (w0 : World) (B : Nat) (V : Value) (k : Bool) (r : Except Int (List SValue)) (e : Ending) (w' : World) : Prop := match r with
  | .ok q => e = .returned (.int .i64 0) ∧ pileRel w0 B V k q w'
  | .error n => e = .returned (.int .i64 n) ∧ ∃ q, pileRel w0 B V k q w'
theorem at_thing {w : World} {ad : Addr} {n : Nat} {xs : List SValue} (h : Kd.C kThing w (some ad) n xs) (i : Nat) (hi : i < n) : w.cell? (ad.add i) = some (thV (xs.getD i zValue)) := by
  obtain ⟨ad', c, e, hl, hK, hcell⟩ := Kd.C_get h zValue (i : Int) (by omega) (by omega)
  cases e
  have hK2 : c = [thV (xs.getD ((i : Int).toNat) zValue)] := hK
  subst hK2
  have := hcell 0 _ rfl
  rw [show kThing.sz = 1 from rfl, Nat.mul_one, Nat.add_zero, Int.toNat_natCast] at this
  exact this
theorem addr_zero (a : Addr) : a.add 0 = a := by simp [Addr.add]
theorem at_last {w : World} {ad : Addr} {xs : List SValue} {m : Nat} (h : Kd.C kThing w (some ad) 1 (xs.drop m)) (hm : xs.length = m + 1) : w.cell? ad = some (thV (xs.getD m zValue)) := by
  have := at_thing h 0 (by decide)
  rw [addr_zero] at this
  rw [this]
  congr 2
  simp [List.getD]
theorem lay_tru (w0 : World) (B : Nat) (V : Value) (k : Bool) (xs : List SValue) (b : Bool) (w : World) (h : pileRel w0 B V k xs w) (hB : B < w0.heap.size) (hl : xs.length ≤ 1000) :
    Calls Try.prog 75 #[.pointer (some ⟨B, 0, none⟩), .iface 79 (.bool b)] w fun e w' => e = .returned (.tuple #[]) ∧ pileRel w0 B V k (xs ++ [truV b]) w' := by
  have := lay_told w0 B V k xs (truV b) w h hB hl
  rwa [thV_tru] at this
set_option maxHeartbeats 1000000 in
set_option maxRecDepth 100000 in
theorem not_told (w0 : World) (B : Nat) (V : Value) (k : Bool) (xs : List SValue) (w : World) (h : pileRel w0 B V k xs w) (hB : B < w0.heap.size) (hl : xs.length ≤ 1000) (hok : okVs xs) {r : Except Int (List SValue)}
    (hr : (if xs.length < 1 then .error 2 else if (xs.getD (xs.length - 1) zValue).f0 = 1 then .ok (xs.take (xs.length - 1) ++ [truV (!((xs.getD (xs.length - 1) zValue).f1 == 1))]) else .error 5 : Except Int (List SValue)) = r) :
    Calls Try.prog 77 #[.pointer (some ⟨B, 0, none⟩)] w (partPost w0 B V k r) := by
  have HH := Aside0.mk h
  by_cases hn : xs.length < 1
  · rw [if_pos hn] at hr
    subst hr
    clear h hok
    go_enter Try.func77, Try.ntmps77
    go_wp2_with fail
    go_at_call 78
    refine (take_no w0 B 1 V k xs _ HH.out hn (by decide)).mono ?_
    rintro e w1 ⟨rfl, rfl⟩
    go_wp2_with fail
    go_ret
    exact ⟨rfl, xs, HH.out⟩
  rw [if_neg hn] at hr
  obtain ⟨m, hm⟩ : ∃ m, xs.length = m + 1 := ⟨xs.length - 1, by omega⟩
  rw [show xs.length - 1 = m from by omega] at hr
  have hat := okVs_at hok (i := m) (by omega)
  obtain ⟨x, hx⟩ : ∃ x, xs.getD m zValue = x := ⟨_, rfl⟩
  rw [hx] at hr hat
  have HX := Aside0.mk hx
  obtain ⟨t, v, f, hx1, hx2, hx3, hx4, ⟨px, hx5⟩, _, hx7, _, _, _⟩ := thing_is hat.1
  have HX1 := Aside0.mk hx1
  clear hx1 hx2 hx3 hx4 hat hok h hx
  by_cases h1 : x.f0 = 1
  · rw [if_pos h1] at hr
    subst hr
    have a1 := hx7 h1
    clear hx5 hx7
    go_enter Try.func77, Try.ntmps77
    go_wp2_with fail
    go_at_call 78
    refine (take_told w0 B 1 V k xs _ HH.out hB (by decide) (by decide) hl (by omega)).mono ?_
    rintro e w1 ⟨A, c, ⟨rfl, hc, hC⟩, hp, hsp⟩
    rw [show xs.length - 1 = m from by omega] at hC hp
    have HC := Aside0.mk hC
    have HP := Aside0.mk hp
    have hcell := at_last hC hm
    rw [HX.out, HX1.out] at hcell
    have hcell2 : w1.cell? (A.add 0) = some (.iface t v) := by rw [addr_zero]; exact hcell
    clear hC hp hsp
    go_wp2_with fail
    go_at_call 75
    refine (lay_tru w0 B V k (xs.take m) (!(x.f1 == 1)) _ HP.out hB (by rw [List.length_take]; omega)).mono ?_
    rintro e w2 ⟨rfl, hp2⟩
    have HP2 := Aside0.mk hp2
    clear hp2
    go_wp2_with fail
    go_ret
    exact ⟨rfl, HP2.out⟩
  · rw [if_neg h1] at hr
    subst hr
    have h1b : (x.f0 == 1) = false := beq_eq_false_iff_ne.2 h1
    rw [h1b] at hx5
    clear hx7 h1 h1b
    go_enter Try.func77, Try.ntmps77
    go_wp2_with fail
    go_at_call 78
    refine (take_told w0 B 1 V k xs _ HH.out hB (by decide) (by decide) hl (by omega)).mono ?_
    rintro e w1 ⟨A, c, ⟨rfl, hc, hC⟩, hp, hsp⟩
    rw [show xs.length - 1 = m from by omega] at hC hp
    have HP := Aside0.mk hp
    have hcell := at_last hC hm
    rw [HX.out, HX1.out] at hcell
    have hcell2 : w1.cell? (A.add 0) = some (.iface t v) := by rw [addr_zero]; exact hcell
    clear hC hp hsp
    go_wp2_with fail
    go_ret
    exact ⟨rfl, _, HP.out⟩
end Go.Proofs.Ytncllbokeofdjaa.P

namespace Go.Proofs.Ytncllbokeofdjaa.P
open Go.RowKit Go.Proofs.YtncllbokeofdjaaW.PrintWords Go.Proofs.YtncllbokeofdjaaW.PrintLast Go.Proofs.YtncllbokeofdjaaW.PrintMore
attribute [local go_sem] max2_int min2_int max_two min_two max_three min_three max_four min_four   -- for this text's walks alone
set_option linter.unusedVariables false
set_option linter.unusedSimpArgs false
set_option maxHeartbeats 1000000 in
set_option maxRecDepth 100000 in
theorem of_told (x : SValue) (w : World) : Calls Try.prog 76 #[.agg #[.int .i64 x.f0, .int .i64 x.f1, .string x.f2]] w (valPost (thV x) w) := by
  unfold thV
  by_cases h0 : x.f0 = 0
  · rw [if_pos h0]
    have h0b : (x.f0 == 0) = true := beq_iff_eq.2 h0
    go_enter Try.func76, Try.ntmps76
    go_wp2
    go_ret
    exact ⟨rfl, below_alloc (Below.refl _ _) _⟩
  · rw [if_neg h0]
    have h0b : (x.f0 == 0) = false := beq_eq_false_iff_ne.2 h0
    by_cases h1 : x.f0 = 1
    · rw [if_pos h1]
      have h1b : (x.f0 == 1) = true := beq_iff_eq.2 h1
      go_enter Try.func76, Try.ntmps76
      go_wp2
      go_ret
      exact ⟨rfl, below_alloc (Below.refl _ _) _⟩
    · rw [if_neg h1]
      have h1b : (x.f0 == 1) = false := beq_eq_false_iff_ne.2 h1
      go_enter Try.func76, Try.ntmps76
      go_wp2
      go_ret
      exact ⟨rfl, below_alloc (Below.refl _ _) _⟩
end Go.Proofs.Ytncllbokeofdjaa.P

namespace Go.Proofs.Ytncllbokeofdjaa.P
open Go.RowKit Go.Proofs.YtncllbokeofdjaaW.PrintWords Go.Proofs.YtncllbokeofdjaaW.PrintLast Go.Proofs.YtncllbokeofdjaaW.PrintMore
attribute [local go_sem] max2_int min2_int max_two min_two max_three min_three max_four min_four   -- for this text's walks alone
set_option linter.unusedVariables false
set_option linter.unusedSimpArgs false
set_option maxHeartbeats 1000000 in
set_option maxRecDepth 100000 in
theorem part_push (w0 : World) (B : Nat) (Av : Option Addr) (cv : Nat) (vs : List SValue) (k : Bool) (xs : List SValue) (x : SOp) (w : World) (h : pileRel w0 B (.slice Av vs.length cv) k xs w) (hB : B < w0.heap.size) (hl : xs.length ≤ 1000) (hok : okVs xs) (hv : Kd.C kValue w Av vs.length vs) (hvk : okVs vs) (hx : okV x.f2) (hc : x.f0 = 0) : Calls Try.prog 59 #[.pointer (some ⟨B, 0, none⟩), .agg #[.int .i64 x.f0, .int .i64 x.f1, .int .i64 x.f2.f0, .int .i64 x.f2.f1, .string x.f2.f2]] w (partPost w0 B (.slice Av vs.length cv) k (.ok (xs ++ [x.f2]))) := by
  have HH := Aside0.mk h
  have hc0 : (x.f0 == 0) = true := beq_iff_eq.2 hc
  clear h hok hv hvk hx hc
  go_enter Try.func59, Try.ntmps59
  go_wp2_with fail
  go_at_call 76
  refine (of_told x.f2 _).mono ?_
  rintro e w1 ⟨rfl, hb1⟩
  have HP1 := Aside0.mk (HH.out.below (below_step (below_alloc (Below.refl _ _) _) hb1))
  clear hb1
  go_wp2_with fail
  go_at_call 75
  refine (lay_told w0 B _ k xs x.f2 _ HP1.out hB hl).mono ?_
  rintro e w2 ⟨rfl, hp2⟩
  have HP2 := Aside0.mk hp2
  clear hp2
  go_wp2_with fail
  go_ret
  exact ⟨rfl, HP2.out⟩
set_option maxHeartbeats 1000000 in
set_option maxRecDepth 100000 in
theorem part_none (w0 : World) (B : Nat) (Av : Option Addr) (cv : Nat) (vs : List SValue) (k : Bool) (xs : List SValue) (x : SOp) (w : World) (h : pileRel w0 B (.slice Av vs.length cv) k xs w) (hB : B < w0.heap.size) (hl : xs.length ≤ 1000) (hok : okVs xs) (hv : Kd.C kValue w Av vs.length vs) (hvk : okVs vs) (hx : okV x.f2) (hc : x.f0 = 1) (h0 : 0 ≤ x.f1) (hi : ¬ x.f1.toNat < vs.length) : Calls Try.prog 59 #[.pointer (some ⟨B, 0, none⟩), .agg #[.int .i64 x.f0, .int .i64 x.f1, .int .i64 x.f2.f0, .int .i64 x.f2.f1, .string x.f2.f2]] w (partPost w0 B (.slice Av vs.length cv) k (.error 3)) := by
  have HH := Aside0.mk h
  have hc0 : (x.f0 == 0) = false := beq_eq_false_iff_ne.2 (by omega)
  have hc1 : (x.f0 == 1) = true := beq_iff_eq.2 hc
  have hge : (vs.length : Int) ≤ x.f1 := by omega
  have hged : decide ((vs.length : Int) ≤ x.f1) = true := decide_eq_true hge
  obtain ⟨v, hb, ho, hs⟩ := h
  obtain ⟨A, c, rfl⟩ := Kd.R_slice ho
  unfold pileBlk at hb
  obtain ⟨k1, k2, k3, k4⟩ := know hb
  obtain ⟨q1, q2, q3, q4⟩ := know (blk_new w (.cells #[.int .i64 x.f0, .int .i64 x.f1, .int .i64 x.f2.f0, .int .i64 x.f2.f1, .string x.f2.f2] 50))
  have HK := Aside0.mk (blk_alloc hb (.cells #[.int .i64 x.f0, .int .i64 x.f1, .int .i64 x.f2.f0, .int .i64 x.f2.f1, .string x.f2.f2] 50))
  have hcp : ∀ m, ((w.alloc (.cells #[.int .i64 x.f0, .int .i64 x.f1, .int .i64 x.f2.f0, .int .i64 x.f2.f1, .string x.f2.f2] 50)).drewN m).cell? ⟨B, 1, none⟩ = some (.slice Av vs.length cv) := fun m => blk_cell (blk_drewN HK.out m) 1
  have hcq : ∀ m, ((w.alloc (.cells #[.int .i64 x.f0, .int .i64 x.f1, .int .i64 x.f2.f0, .int .i64 x.f2.f1, .string x.f2.f2] 50)).drewN m).cell? ⟨w.heap.size, 1, none⟩ = some (.int .i64 x.f1) := fun m => blk_cell (blk_drewN (blk_new w (.cells #[.int .i64 x.f0, .int .i64 x.f1, .int .i64 x.f2.f0, .int .i64 x.f2.f1, .string x.f2.f2] 50)) m) 1
  clear hok hv hvk hx hc ho hs hb
  go_enter Try.func59, Try.ntmps59
  go_wp2_with fail
  go_quiet (fail)
  go_wp2_with fail
  go_ret
  exact ⟨rfl, _, HH.out.below (pw_below_drewN (below_alloc (Below.refl _ _) _) _)⟩
set_option maxHeartbeats 1000000 in
set_option maxRecDepth 100000 in
theorem part_load (w0 : World) (B : Nat) (Av : Option Addr) (cv : Nat) (vs : List SValue) (k : Bool) (xs : List SValue) (x : SOp) (w : World) (h : pileRel w0 B (.slice Av vs.length cv) k xs w) (hB : B < w0.heap.size) (hl : xs.length ≤ 1000) (hok : okVs xs) (hv : Kd.C kValue w Av vs.length vs) (hvk : okVs vs) (hx : okV x.f2) (hc : x.f0 = 1) (h0 : 0 ≤ x.f1) (hi : x.f1.toNat < vs.length) : Calls Try.prog 59 #[.pointer (some ⟨B, 0, none⟩), .agg #[.int .i64 x.f0, .int .i64 x.f1, .int .i64 x.f2.f0, .int .i64 x.f2.f1, .string x.f2.f2]] w (partPost w0 B (.slice Av vs.length cv) k (.ok (xs ++ [vs.getD x.f1.toNat zValue]))) := by
  have HH := Aside0.mk h
  have hc0 : (x.f0 == 0) = false := beq_eq_false_iff_ne.2 (by omega)
  have hc1 : (x.f0 == 1) = true := beq_iff_eq.2 hc
  have hge : ¬ (vs.length : Int) ≤ x.f1 := by omega
  have hged : decide ((vs.length : Int) ≤ x.f1) = false := decide_eq_false hge
  have hlt : x.f1 < (vs.length : Int) := by omega
  obtain ⟨v, hb, ho, hs⟩ := h
  obtain ⟨A, c, rfl⟩ := Kd.R_slice ho
  unfold pileBlk at hb
  obtain ⟨k1, k2, k3, k4⟩ := know hb
  obtain ⟨q1, q2, q3, q4⟩ := know (blk_new w (.cells #[.int .i64 x.f0, .int .i64 x.f1, .int .i64 x.f2.f0, .int .i64 x.f2.f1, .string x.f2.f2] 50))
  have HK := Aside0.mk (blk_alloc hb (.cells #[.int .i64 x.f0, .int .i64 x.f1, .int .i64 x.f2.f0, .int .i64 x.f2.f1, .string x.f2.f2] 50))
  have hcp : ∀ m, ((w.alloc (.cells #[.int .i64 x.f0, .int .i64 x.f1, .int .i64 x.f2.f0, .int .i64 x.f2.f1, .string x.f2.f2] 50)).drewN m).cell? ⟨B, 1, none⟩ = some (.slice Av vs.length cv) := fun m => blk_cell (blk_drewN HK.out m) 1
  have hcq : ∀ m, ((w.alloc (.cells #[.int .i64 x.f0, .int .i64 x.f1, .int .i64 x.f2.f0, .int .i64 x.f2.f1, .string x.f2.f2] 50)).drewN m).cell? ⟨w.heap.size, 1, none⟩ = some (.int .i64 x.f1) := fun m => blk_cell (blk_drewN (blk_new w (.cells #[.int .i64 x.f0, .int .i64 x.f1, .int .i64 x.f2.f0, .int .i64 x.f2.f1, .string x.f2.f2] 50)) m) 1
  obtain ⟨ad, e, z0, z1, z2⟩ := at_TValue hv x.f1 h0 hlt
  subst e
  rw [show rd_TValue vs x.f1 = vs.getD x.f1.toNat zValue from rfl] at z0 z1 z2
  obtain ⟨y, hy⟩ : ∃ y, vs.getD x.f1.toNat zValue = y := ⟨_, rfl⟩
  rw [hy] at z0 z1 z2 ⊢
  clear hok hv hvk hx hc ho hs hb hy
  go_enter Try.func59, Try.ntmps59
  go_wp2_with fail
  go_quiet (fail)
  go_wp2_with fail
  have HPQ := Aside0.mk (HH.out.below (pw_below_drewN (below_alloc (Below.refl _ _) (.cells #[.int .i64 x.f0, .int .i64 x.f1, .int .i64 x.f2.f0, .int .i64 x.f2.f1, .string x.f2.f2] 50)) nq))
  have f1 := hcp nq
  have f2 := hcq nq
  have f3 : ((w.alloc (.cells #[.int .i64 x.f0, .int .i64 x.f1, .int .i64 x.f2.f0, .int .i64 x.f2.f1, .string x.f2.f2] 50)).drewN nq).cell? (ad.add (x.f1.toNat * 3)) = some (Value.int IntKind.i64 y.f0) := pw_cell_below (pw_below_drewN (below_alloc (Below.refl _ _) (.cells #[.int .i64 x.f0, .int .i64 x.f1, .int .i64 x.f2.f0, .int .i64 x.f2.f1, .string x.f2.f2] 50)) nq) z0
  have f4 := pw_cell_below (pw_below_drewN (below_alloc (Below.refl _ _) (.cells #[.int .i64 x.f0, .int .i64 x.f1, .int .i64 x.f2.f0, .int .i64 x.f2.f1, .string x.f2.f2] 50)) nq) z1
  have f5 := pw_cell_below (pw_below_drewN (below_alloc (Below.refl _ _) (.cells #[.int .i64 x.f0, .int .i64 x.f1, .int .i64 x.f2.f0, .int .i64 x.f2.f1, .string x.f2.f2] 50)) nq) z2
  have HSZ := Aside0.mk (show w.heap.size < ((w.alloc (.cells #[.int .i64 x.f0, .int .i64 x.f1, .int .i64 x.f2.f0, .int .i64 x.f2.f1, .string x.f2.f2] 50)).drewN nq).heap.size by simp)
  obtain ⟨W1, hW1⟩ : ∃ W1, (w.alloc (.cells #[.int .i64 x.f0, .int .i64 x.f1, .int .i64 x.f2.f0, .int .i64 x.f2.f1, .string x.f2.f2] 50)).drewN nq = W1 := ⟨_, rfl⟩
  rw [hW1] at f1 f2 f3 f4 f5 HPQ ⊢
  clear q1 q2 q3 q4 k1 k2 k3 k4 HK hcp hcq z0 z1 z2 hW1 HSZ HH
  go_region_law (first
    | (go_simp; go_at_call 76; refine (of_told y _).mono ?_; rintro e w1 ⟨rfl, hb1⟩)
    | (go_simp; go_at_call 75; refine (lay_told w0 B _ k xs y _ (HPQ.out.below (below_step (below_drew (Below.refl _ _)) hb1)) hB hl).mono ?_; rintro e w2 ⟨rfl, hp2⟩))
  all_goals
    go_wp2_with fail
    go_ret
    exact ⟨rfl, hp2⟩
set_option maxHeartbeats 1000000 in
set_option maxRecDepth 100000 in
theorem part_not (w0 : World) (B : Nat) (Av : Option Addr) (cv : Nat) (vs : List SValue) (k : Bool) (xs : List SValue) (x : SOp) (w : World) (h : pileRel w0 B (.slice Av vs.length cv) k xs w) (hB : B < w0.heap.size) (hl : xs.length ≤ 1000) (hok : okVs xs) (hv : Kd.C kValue w Av vs.length vs) (hvk : okVs vs) (hx : okV x.f2) (hc : x.f0 = 9) {r : Except Int (List SValue)} (hr : stepV vs k x xs = r) : Calls Try.prog 59 #[.pointer (some ⟨B, 0, none⟩), .agg #[.int .i64 x.f0, .int .i64 x.f1, .int .i64 x.f2.f0, .int .i64 x.f2.f1, .string x.f2.f2]] w (partPost w0 B (.slice Av vs.length cv) k r) := by
  have HH := Aside0.mk h
  have hc0 : (x.f0 == 0) = false := beq_eq_false_iff_ne.2 (by omega)
  have hc1 : (x.f0 == 1) = false := beq_eq_false_iff_ne.2 (by omega)
  have hc9 : (x.f0 == 9) = true := beq_iff_eq.2 hc
  unfold stepV at hr
  rw [if_neg (by omega), if_neg (by omega), if_pos hc] at hr
  have HR := Aside0.mk hr
  clear h hv hvk hx hc hr
  go_enter Try.func59, Try.ntmps59
  go_wp2_with fail
  go_at_call 77
  refine (not_told w0 B _ k xs _ (HH.out.below (below_alloc (Below.refl _ _) _)) hB hl hok HR.out).mono ?_
  intro e w1 hp
  unfold partPost at hp ⊢
  cases r with
  | ok q =>
    obtain ⟨rfl, hp1⟩ := hp
    go_wp2_with fail
    go_ret
    exact ⟨rfl, hp1⟩
  | error n =>
    obtain ⟨rfl, hp1⟩ := hp
    go_wp2_with fail
    go_ret
    exact ⟨rfl, hp1⟩
set_option maxHeartbeats 1000000 in
set_option maxRecDepth 100000 in
theorem part_few (w0 : World) (B : Nat) (Av : Option Addr) (cv : Nat) (vs : List SValue) (k : Bool) (xs : List SValue) (x : SOp) (w : World) (h : pileRel w0 B (.slice Av vs.length cv) k xs w) (hB : B < w0.heap.size) (hl : xs.length ≤ 1000) (hok : okVs xs) (hv : Kd.C kValue w Av vs.length vs) (hvk : okVs vs) (hx : okV x.f2) (hc0 : ¬ x.f0 = 0) (hc1 : ¬ x.f0 = 1) (hc9 : ¬ x.f0 = 9) (hn : xs.length < 2) : Calls Try.prog 59 #[.pointer (some ⟨B, 0, none⟩), .agg #[.int .i64 x.f0, .int .i64 x.f1, .int .i64 x.f2.f0, .int .i64 x.f2.f1, .string x.f2.f2]] w (partPost w0 B (.slice Av vs.length cv) k (.error 2)) := by
  have HH := Aside0.mk h
  have hd0 : (x.f0 == 0) = false := beq_eq_false_iff_ne.2 hc0
  have hd1 : (x.f0 == 1) = false := beq_eq_false_iff_ne.2 hc1
  have hd9 : (x.f0 == 9) = false := beq_eq_false_iff_ne.2 hc9
  clear h hv hvk hx hc0 hc1 hc9
  go_enter Try.func59, Try.ntmps59
  go_wp2_with fail
  go_at_call 78
  refine (take_no w0 B 2 _ k xs _ (HH.out.below (below_alloc (Below.refl _ _) _)) hn (by decide)).mono ?_
  rintro e w1 ⟨rfl, rfl⟩
  go_wp2_with fail
  go_ret
  exact ⟨rfl, _, HH.out.below (below_alloc (Below.refl _ _) _)⟩
theorem at_two {w : World} {ad : Addr} {xs : List SValue} {m : Nat} (h : Kd.C kThing w (some ad) 2 (xs.drop m)) (hm : xs.length = m + 2) : w.cell? ad = some (thV (xs.getD m zValue)) ∧ w.cell? ⟨ad.block, ad.off + 1, none⟩ = some (thV (xs.getD (m + 1) zValue)) := by
  have h0 := at_thing h 0 (by decide)
  have h1 := at_thing h 1 (by decide)
  rw [addr_zero] at h0
  rw [add_field _ _ 1 (by omega)] at h1
  have e0 : (xs.drop m).getD 0 zValue = xs.getD m zValue := by simp [List.getD]
  have e1 : (xs.drop m).getD 1 zValue = xs.getD (m + 1) zValue := by simp [List.getD]
  rw [e0] at h0
  rw [e1] at h1
  exact ⟨h0, h1⟩
set_option maxHeartbeats 20000000 in
set_option maxRecDepth 100000 in
theorem part_two (w0 : World) (B : Nat) (Av : Option Addr) (cv : Nat) (vs : List SValue) (k : Bool) (xs : List SValue) (x : SOp) (w : World) (h : pileRel w0 B (.slice Av vs.length cv) k xs w) (hB : B < w0.heap.size) (hl : xs.length ≤ 1000) (hok : okVs xs) (hv : Kd.C kValue w Av vs.length vs) (hvk : okVs vs) (hx : okV x.f2) (hc0 : ¬ x.f0 = 0) (hc1 : ¬ x.f0 = 1) (hc9 : ¬ x.f0 = 9) (hn : 2 ≤ xs.length) {y : SValue} (hr : twoV x.f0 (xs.getD (xs.length - 2) zValue) (xs.getD (xs.length - 1) zValue) = .ok y) : Calls Try.prog 59 #[.pointer (some ⟨B, 0, none⟩), .agg #[.int .i64 x.f0, .int .i64 x.f1, .int .i64 x.f2.f0, .int .i64 x.f2.f1, .string x.f2.f2]] w (partPost w0 B (.slice Av vs.length cv) k (.ok (xs.take (xs.length - 2) ++ [y]))) := by
  have HH := Aside0.mk h
  have hd0 : (x.f0 == 0) = false := beq_eq_false_iff_ne.2 hc0
  have hd1 : (x.f0 == 1) = false := beq_eq_false_iff_ne.2 hc1
  have hd9 : (x.f0 == 9) = false := beq_eq_false_iff_ne.2 hc9
  obtain ⟨m, hm⟩ : ∃ m, xs.length = m + 2 := ⟨xs.length - 2, by omega⟩
  rw [show xs.length - 2 = m from by omega, show xs.length - 1 = m + 1 from by omega] at hr
  have ha := okVs_at hok (i := m) (by omega)
  have hb := okVs_at hok (i := m + 1) (by omega)
  obtain ⟨a, hea⟩ : ∃ a, xs.getD m zValue = a := ⟨_, rfl⟩
  obtain ⟨b, heb⟩ : ∃ b, xs.getD (m + 1) zValue = b := ⟨_, rfl⟩
  rw [hea] at hr ha
  rw [heb] at hr hb
  have HA := Aside0.mk ha
  have HB := Aside0.mk hb
  have HEA := Aside0.mk hea
  have HEB := Aside0.mk heb
  have HRR := Aside0.mk hr
  have HX := Aside0.mk (blk_new w (.cells #[.int .i64 x.f0, .int .i64 x.f1, .int .i64 x.f2.f0, .int .i64 x.f2.f1, .string x.f2.f2] 50))
  clear h hv hvk hx hc0 hc1 hc9 ha hb hea heb hok hr
  go_enter Try.func59, Try.ntmps59
  go_wp2_with fail
  go_at_call 78
  refine (take_told w0 B 2 _ k xs _ (HH.out.below (below_alloc (Below.refl _ _) (.cells #[.int .i64 x.f0, .int .i64 x.f1, .int .i64 x.f2.f0, .int .i64 x.f2.f1, .string x.f2.f2] 50))) hB (by decide) (by decide) hl (by omega)).mono ?_
  rintro e w1 ⟨A, c, ⟨rfl, hc, hC⟩, hp, hsp⟩
  rw [show xs.length - 2 = m from by omega] at hC
  have hne : ¬ w.heap.size = B := by have := HH.out.size; omega
  have HX1 := Aside0.mk (hsp.blk HX.out hne)
  obtain ⟨q1, q2, q3, q4⟩ := know HX1.out
  obtain ⟨d0, d1⟩ := at_two hC hm
  rw [HEA.out] at d0
  rw [HEB.out] at d1
  have d0' : w1.cell? (A.add 0) = some (thV a) := by rw [addr_zero]; exact d0
  have HP := Aside0.mk hp
  obtain ⟨ta, va, hta⟩ := thV_iface a
  obtain ⟨tb, vb, htb⟩ := thV_iface b
  rw [hta] at d0 d0'
  rw [htb] at d1
  have HTW := Aside0.mk (fun W => two_told x.f0 a b W HA.out HB.out HRR.out)
  rw [hta, htb] at HTW
  clear hC hsp hp hne hta htb hc
  go_wp2_with fail
  have hq0 : w1.drew.cell? ⟨w.heap.size, 0, none⟩ = some (.int .i64 x.f0) := blk_cell (blk_drew HX1.out) 0
  have hdd0 : w1.drew.cell? A = some (.iface ta va) := d0
  have hdd1 : w1.drew.cell? ⟨A.block, A.off + 1, none⟩ = some (.iface tb vb) := d1
  have hdd2 : w1.drew.cell? (A.add 0) = some (.iface ta va) := d0'
  go_region_held3 (fun w' => w'.cell? ⟨w.heap.size, 0, none⟩ = some (.int .i64 x.f0) ∧ w'.cell? A = some (.iface ta va) ∧ w'.cell? ⟨A.block, A.off + 1, none⟩ = some (.iface tb vb) ∧ w'.cell? (A.add 0) = some (.iface ta va))
    (first | go_keep | (go_split_ands; refine ⟨?_, ?_, ?_, ?_⟩ <;> (first | assumption | (apply pw_cell_below; (first | exact hb2); assumption))))
    (first
      | (go_at_call 79; refine (HTW.out _).mono ?_; rintro e w2 ⟨rfl, hb2⟩))
  all_goals
    have HP2 := Aside0.mk (HP.out.below (below_step (below_drew (Below.refl _ _)) hb2))
    rw [show xs.length - 2 = m from by omega] at HP2
    obtain ⟨v2, hk2, ho2, hs2⟩ := HP2.out
    obtain ⟨A2, c2, rfl⟩ := Kd.R_slice ho2
    unfold pileBlk at hk2
    obtain ⟨j1, j2, j3, j4⟩ := know hk2
    clear hk2 ho2 hs2 hb2 q1 q2 q3 q4 d0 d1 d0'
    have HLY := Aside0.mk (fun W h => lay_told w0 B (.slice Av vs.length cv) k (xs.take m) y W h hB (by rw [List.length_take]; omega))
    cases k
    all_goals
      go_wp2_with fail
      go_at_call 75
      refine (HLY.out _ HP2.out).mono ?_
      rintro e w3 ⟨rfl, hp3⟩
      go_wp2_with fail
      go_ret
      exact ⟨rfl, by rw [show xs.length - 2 = m from by omega]; exact hp3⟩
set_option maxHeartbeats 1000000 in
set_option maxRecDepth 100000 in
theorem part_err (w0 : World) (B : Nat) (Av : Option Addr) (cv : Nat) (vs : List SValue) (k : Bool) (xs : List SValue) (x : SOp) (w : World) (h : pileRel w0 B (.slice Av vs.length cv) k xs w) (hB : B < w0.heap.size) (hl : xs.length ≤ 1000) (hok : okVs xs) (hv : Kd.C kValue w Av vs.length vs) (hvk : okVs vs) (hx : okV x.f2) (hc0 : ¬ x.f0 = 0) (hc1 : ¬ x.f0 = 1) (hc9 : ¬ x.f0 = 9) (hn : 2 ≤ xs.length) {n : Int} (hr : twoV x.f0 (xs.getD (xs.length - 2) zValue) (xs.getD (xs.length - 1) zValue) = .error n) (hk : ¬ (k = true ∧ n = 6)) (hn0 : n ≠ 0) : Calls Try.prog 59 #[.pointer (some ⟨B, 0, none⟩), .agg #[.int .i64 x.f0, .int .i64 x.f1, .int .i64 x.f2.f0, .int .i64 x.f2.f1, .string x.f2.f2]] w (partPost w0 B (.slice Av vs.length cv) k (.error n)) := by
  have HH := Aside0.mk h
  have hd0 : (x.f0 == 0) = false := beq_eq_false_iff_ne.2 hc0
  have hd1 : (x.f0 == 1) = false := beq_eq_false_iff_ne.2 hc1
  have hd9 : (x.f0 == 9) = false := beq_eq_false_iff_ne.2 hc9
  obtain ⟨m, hm⟩ : ∃ m, xs.length = m + 2 := ⟨xs.length - 2, by omega⟩
  rw [show xs.length - 2 = m from by omega, show xs.length - 1 = m + 1 from by omega] at hr
  have ha := okVs_at hok (i := m) (by omega)
  have hb := okVs_at hok (i := m + 1) (by omega)
  obtain ⟨a, hea⟩ : ∃ a, xs.getD m zValue = a := ⟨_, rfl⟩
  obtain ⟨b, heb⟩ : ∃ b, xs.getD (m + 1) zValue = b := ⟨_, rfl⟩
  rw [hea] at hr ha
  rw [heb] at hr hb
  have HA := Aside0.mk ha
  have HB := Aside0.mk hb
  have HEA := Aside0.mk hea
  have HEB := Aside0.mk heb
  have HRR := Aside0.mk hr
  have HX := Aside0.mk (blk_new w (.cells #[.int .i64 x.f0, .int .i64 x.f1, .int .i64 x.f2.f0, .int .i64 x.f2.f1, .string x.f2.f2] 50))
  clear h hv hvk hx hc0 hc1 hc9 ha hb hea heb hok hr
  go_enter Try.func59, Try.ntmps59
  go_wp2_with fail
  go_at_call 78
  refine (take_told w0 B 2 _ k xs _ (HH.out.below (below_alloc (Below.refl _ _) (.cells #[.int .i64 x.f0, .int .i64 x.f1, .int .i64 x.f2.f0, .int .i64 x.f2.f1, .string x.f2.f2] 50))) hB (by decide) (by decide) hl (by omega)).mono ?_
  rintro e w1 ⟨A, c, ⟨rfl, hc, hC⟩, hp, hsp⟩
  rw [show xs.length - 2 = m from by omega] at hC
  have hne : ¬ w.heap.size = B := by have := HH.out.size; omega
  have HX1 := Aside0.mk (hsp.blk HX.out hne)
  obtain ⟨q1, q2, q3, q4⟩ := know HX1.out
  obtain ⟨d0, d1⟩ := at_two hC hm
  rw [HEA.out] at d0
  rw [HEB.out] at d1
  have d0' : w1.cell? (A.add 0) = some (thV a) := by rw [addr_zero]; exact d0
  have HP := Aside0.mk hp
  obtain ⟨ta, va, hta⟩ := thV_iface a
  obtain ⟨tb, vb, htb⟩ := thV_iface b
  rw [hta] at d0 d0'
  rw [htb] at d1
  have HTW := Aside0.mk (fun W => two_told x.f0 a b W HA.out HB.out HRR.out)
  rw [hta, htb] at HTW
  clear hC hsp hp hne hta htb hc
  go_wp2_with fail
  have hq0 : w1.drew.cell? ⟨w.heap.size, 0, none⟩ = some (.int .i64 x.f0) := blk_cell (blk_drew HX1.out) 0
  have hdd0 : w1.drew.cell? A = some (.iface ta va) := d0
  have hdd1 : w1.drew.cell? ⟨A.block, A.off + 1, none⟩ = some (.iface tb vb) := d1
  have hdd2 : w1.drew.cell? (A.add 0) = some (.iface ta va) := d0'
  go_region_held3 (fun w' => w'.cell? ⟨w.heap.size, 0, none⟩ = some (.int .i64 x.f0) ∧ w'.cell? A = some (.iface ta va) ∧ w'.cell? ⟨A.block, A.off + 1, none⟩ = some (.iface tb vb) ∧ w'.cell? (A.add 0) = some (.iface ta va))
    (first | go_keep | (go_split_ands; refine ⟨?_, ?_, ?_, ?_⟩ <;> (first | assumption | (apply pw_cell_below; (first | exact hb2); assumption))))
    (first
      | (go_at_call 79; refine (HTW.out _).mono ?_; rintro e w2 ⟨rfl, hb2⟩))
  all_goals
    have HP2 := Aside0.mk (HP.out.below (below_step (below_drew (Below.refl _ _)) hb2))
    rw [show xs.length - 2 = m from by omega] at HP2
    obtain ⟨v2, hk2, ho2, hs2⟩ := HP2.out
    obtain ⟨A2, c2, rfl⟩ := Kd.R_slice ho2
    unfold pileBlk at hk2
    obtain ⟨j1, j2, j3, j4⟩ := know hk2
    clear hk2 ho2 hs2 hb2 q1 q2 q3 q4 d0 d1 d0'
    have hn0b : (n == 0) = false := beq_eq_false_iff_ne.2 hn0
    cases k
    · go_wp2_with fail
      go_ret
      exact ⟨rfl, _, HP2.out⟩
    · have hn6 : (n == 6) = false := beq_eq_false_iff_ne.2 (fun h => hk ⟨rfl, h⟩)
      go_wp2_with fail
      go_ret
      exact ⟨rfl, _, HP2.out⟩
set_option maxHeartbeats 1000000 in
set_option maxRecDepth 100000 in
theorem part_over (w0 : World) (B : Nat) (Av : Option Addr) (cv : Nat) (vs : List SValue) (k : Bool) (xs : List SValue) (x : SOp) (w : World) (h : pileRel w0 B (.slice Av vs.length cv) k xs w) (hB : B < w0.heap.size) (hl : xs.length ≤ 1000) (hok : okVs xs) (hv : Kd.C kValue w Av vs.length vs) (hvk : okVs vs) (hx : okV x.f2) (hc0 : ¬ x.f0 = 0) (hc1 : ¬ x.f0 = 1) (hc9 : ¬ x.f0 = 9) (hn : 2 ≤ xs.length) (hr : twoV x.f0 (xs.getD (xs.length - 2) zValue) (xs.getD (xs.length - 1) zValue) = .error 6) (hk : k = true) : Calls Try.prog 59 #[.pointer (some ⟨B, 0, none⟩), .agg #[.int .i64 x.f0, .int .i64 x.f1, .int .i64 x.f2.f0, .int .i64 x.f2.f1, .string x.f2.f2]] w (partPost w0 B (.slice Av vs.length cv) k (.ok (xs.take (xs.length - 2) ++ [zeroV]))) := by
  subst hk
  have HH := Aside0.mk h
  have hd0 : (x.f0 == 0) = false := beq_eq_false_iff_ne.2 hc0
  have hd1 : (x.f0 == 1) = false := beq_eq_false_iff_ne.2 hc1
  have hd9 : (x.f0 == 9) = false := beq_eq_false_iff_ne.2 hc9
  obtain ⟨m, hm⟩ : ∃ m, xs.length = m + 2 := ⟨xs.length - 2, by omega⟩
  rw [show xs.length - 2 = m from by omega, show xs.length - 1 = m + 1 from by omega] at hr
  have ha := okVs_at hok (i := m) (by omega)
  have hb := okVs_at hok (i := m + 1) (by omega)
  obtain ⟨a, hea⟩ : ∃ a, xs.getD m zValue = a := ⟨_, rfl⟩
  obtain ⟨b, heb⟩ : ∃ b, xs.getD (m + 1) zValue = b := ⟨_, rfl⟩
  rw [hea] at hr ha
  rw [heb] at hr hb
  have HA := Aside0.mk ha
  have HB := Aside0.mk hb
  have HEA := Aside0.mk hea
  have HEB := Aside0.mk heb
  have HRR := Aside0.mk hr
  have HX := Aside0.mk (blk_new w (.cells #[.int .i64 x.f0, .int .i64 x.f1, .int .i64 x.f2.f0, .int .i64 x.f2.f1, .string x.f2.f2] 50))
  clear h hv hvk hx hc0 hc1 hc9 ha hb hea heb hok hr
  go_enter Try.func59, Try.ntmps59
  go_wp2_with fail
  go_at_call 78
  refine (take_told w0 B 2 _ true xs _ (HH.out.below (below_alloc (Below.refl _ _) (.cells #[.int .i64 x.f0, .int .i64 x.f1, .int .i64 x.f2.f0, .int .i64 x.f2.f1, .string x.f2.f2] 50))) hB (by decide) (by decide) hl (by omega)).mono ?_
  rintro e w1 ⟨A, c, ⟨rfl, hc, hC⟩, hp, hsp⟩
  rw [show xs.length - 2 = m from by omega] at hC
  have hne : ¬ w.heap.size = B := by have := HH.out.size; omega
  have HX1 := Aside0.mk (hsp.blk HX.out hne)
  obtain ⟨q1, q2, q3, q4⟩ := know HX1.out
  obtain ⟨d0, d1⟩ := at_two hC hm
  rw [HEA.out] at d0
  rw [HEB.out] at d1
  have d0' : w1.cell? (A.add 0) = some (thV a) := by rw [addr_zero]; exact d0
  have HP := Aside0.mk hp
  obtain ⟨ta, va, hta⟩ := thV_iface a
  obtain ⟨tb, vb, htb⟩ := thV_iface b
  rw [hta] at d0 d0'
  rw [htb] at d1
  have HTW := Aside0.mk (fun W => two_told x.f0 a b W HA.out HB.out HRR.out)
  rw [hta, htb] at HTW
  clear hC hsp hp hne hta htb hc
  go_wp2_with fail
  have hq0 : w1.drew.cell? ⟨w.heap.size, 0, none⟩ = some (.int .i64 x.f0) := blk_cell (blk_drew HX1.out) 0
  have hdd0 : w1.drew.cell? A = some (.iface ta va) := d0
  have hdd1 : w1.drew.cell? ⟨A.block, A.off + 1, none⟩ = some (.iface tb vb) := d1
  have hdd2 : w1.drew.cell? (A.add 0) = some (.iface ta va) := d0'
  go_region_held3 (fun w' => w'.cell? ⟨w.heap.size, 0, none⟩ = some (.int .i64 x.f0) ∧ w'.cell? A = some (.iface ta va) ∧ w'.cell? ⟨A.block, A.off + 1, none⟩ = some (.iface tb vb) ∧ w'.cell? (A.add 0) = some (.iface ta va))
    (first | go_keep | (go_split_ands; refine ⟨?_, ?_, ?_, ?_⟩ <;> (first | assumption | (apply pw_cell_below; (first | exact hb2); assumption))))
    (first
      | (go_at_call 79; refine (HTW.out _).mono ?_; rintro e w2 ⟨rfl, hb2⟩))
  all_goals
    have HP2 := Aside0.mk (HP.out.below (below_step (below_drew (Below.refl _ _)) hb2))
    rw [show xs.length - 2 = m from by omega] at HP2
    obtain ⟨v2, hk2, ho2, hs2⟩ := HP2.out
    obtain ⟨A2, c2, rfl⟩ := Kd.R_slice ho2
    unfold pileBlk at hk2
    obtain ⟨j1, j2, j3, j4⟩ := know hk2
    clear hk2 ho2 hs2 hb2 q1 q2 q3 q4 d0 d1 d0'
    have HLY := Aside0.mk (fun W h => lay_told w0 B (.slice Av vs.length cv) true (xs.take m) zeroV W h hB (by rw [List.length_take]; omega))
    rw [show thV zeroV = .iface 115 (.int .i64 0) from rfl] at HLY
    go_wp2_with fail
    go_at_call 75
    refine (HLY.out _ HP2.out).mono ?_
    rintro e w3 ⟨rfl, hp3⟩
    go_wp2_with fail
    go_ret
    exact ⟨rfl, by rw [show xs.length - 2 = m from by omega]; exact hp3⟩
theorem twoV_err {code : Int} {a b : SValue} {n : Int} (h : twoV code a b = .error n) : n ≠ 0 := by
  unfold twoV at h
  repeat' split at h
  all_goals first
    | (obtain rfl := Except.error.inj h; decide)
    | cases h
theorem stepV_err {v : List SValue} {k : Bool} {x : SOp} {p : List SValue} {n : Int} (h : stepV v k x p = .error n) : n ≠ 0 := by
  unfold stepV at h
  repeat' split at h
  all_goals first
    | (obtain rfl := Except.error.inj h; first | decide | (rename_i ht _; exact twoV_err ht) | (rename_i ht; exact twoV_err ht))
    | cases h
theorem part_told (w0 : World) (B : Nat) (Av : Option Addr) (cv : Nat) (vs : List SValue) (k : Bool) (xs : List SValue) (x : SOp) (w : World) (h : pileRel w0 B (.slice Av vs.length cv) k xs w) (hB : B < w0.heap.size) (hl : xs.length ≤ 1000) (hok : okVs xs) (hv : Kd.C kValue w Av vs.length vs) (hvk : okVs vs) (hx : okV x.f2) (h0 : 0 ≤ x.f1) {r : Except Int (List SValue)} (hr : stepV vs k x xs = r) : Calls Try.prog 59 #[.pointer (some ⟨B, 0, none⟩), .agg #[.int .i64 x.f0, .int .i64 x.f1, .int .i64 x.f2.f0, .int .i64 x.f2.f1, .string x.f2.f2]] w (partPost w0 B (.slice Av vs.length cv) k r) := by
  have hr0 := hr
  unfold stepV at hr
  by_cases c0 : x.f0 = 0
  · rw [if_pos c0] at hr; subst hr; exact part_push w0 B Av cv vs k xs x w h hB hl hok hv hvk hx c0
  rw [if_neg c0] at hr
  by_cases c1 : x.f0 = 1
  · rw [if_pos c1] at hr
    by_cases hi : x.f1.toNat < vs.length
    · rw [if_pos hi] at hr; subst hr; exact part_load w0 B Av cv vs k xs x w h hB hl hok hv hvk hx c1 h0 hi
    · rw [if_neg hi] at hr; subst hr; exact part_none w0 B Av cv vs k xs x w h hB hl hok hv hvk hx c1 h0 hi
  rw [if_neg c1] at hr
  by_cases c9 : x.f0 = 9
  · exact part_not w0 B Av cv vs k xs x w h hB hl hok hv hvk hx c9 hr0
  rw [if_neg c9] at hr
  by_cases hn : xs.length < 2
  · rw [if_pos hn] at hr; subst hr; exact part_few w0 B Av cv vs k xs x w h hB hl hok hv hvk hx c0 c1 c9 hn
  rw [if_neg hn] at hr
  cases ht : twoV x.f0 (xs.getD (xs.length - 2) zValue) (xs.getD (xs.length - 1) zValue) with
  | ok y => rw [ht] at hr; subst hr; exact part_two w0 B Av cv vs k xs x w h hB hl hok hv hvk hx c0 c1 c9 (by omega) ht
  | error n =>
    rw [ht] at hr
    by_cases hk : k = true ∧ n = 6
    · replace hr : (if k = true ∧ n = 6 then .ok (xs.take (xs.length - 2) ++ [zeroV]) else .error n : Except Int (List SValue)) = r := hr
      rw [if_pos hk] at hr
      subst hr
      obtain ⟨hk1, rfl⟩ := hk
      exact part_over w0 B Av cv vs k xs x w h hB hl hok hv hvk hx c0 c1 c9 (by omega) ht hk1
    · replace hr : (if k = true ∧ n = 6 then .ok (xs.take (xs.length - 2) ++ [zeroV]) else .error n : Except Int (List SValue)) = r := hr
      rw [if_neg hk] at hr
      subst hr
      exact part_err w0 B Av cv vs k xs x w h hB hl hok hv hvk hx c0 c1 c9 (by omega) ht hk (twoV_err ht)
end Go.Proofs.Ytncllbokeofdjaa.P

namespace Go.Proofs.Ytncllbokeofdjaa.P
open Go.RowKit Go.Proofs.YtncllbokeofdjaaW.PrintWords Go.Proofs.YtncllbokeofdjaaW.PrintLast Go.Proofs.YtncllbokeofdjaaW.PrintMore
attribute [local go_sem] max2_int min2_int max_two min_two max_three min_three max_four min_four   -- for this text's walks alone
set_option linter.unusedVariables false
set_option linter.unusedSimpArgs false
def throughRel (vs : List SValue) (k : Bool) (l : List SOp) (V : Value) (w0 : World) (B i : Nat) (w' : World) : Prop := ∃ p, i ≤ l.length ∧ okVs p ∧ p.length ≤ i ∧ runV vs k l [] = runV vs k (l.drop i) p ∧ pileRel w0 B V k p w'
def throughPost (y : SValue) (n : Int) (B : Nat) (w : World) (e : Ending) (w' : World) : Prop := e = .returned (.tuple #[.agg #[.int .i64 y.f0, .int .i64 y.f1, .string y.f2], .int .i64 n]) ∧ Spares (fun i => i = B) w w'
theorem Spares.old {S : Nat → Prop} {w w1 : World} {o : Obj} (h : Spares S (w.alloc o) w1) : Spares S w w1 := (Spares.of_below (below_alloc (Below.refl _ _) o)).trans h
set_option maxHeartbeats 8000000 in
set_option maxRecDepth 100000 in
theorem through_told (w : World) (B : Nat) (Av : Option Addr) (cv : Nat) (vs : List SValue) (k : Bool) (Al : Option Addr) (cl : Nat) (l : List SOp) (hb : w.heap[B]? = some (pileBlk (.slice none 0 0) (.slice Av vs.length cv) k)) (hvs : ∀ w', Spares (fun i => i = B) w w' → Kd.C kValue w' Av vs.length vs) (hls : ∀ w', Spares (fun i => i = B) w w' → Kd.C kOp w' Al l.length l) (hc : l.length ≤ cl) (hvk : okVs vs) (hm : mayO l = true) (hi64 : ∀ x ∈ l, i64V x.f2) {y : SValue} {n : Int} (hr : endV (runV vs k l []) = (y, n)) :
    Calls Try.prog 33 #[.pointer (some ⟨B, 0, none⟩), .slice Al l.length cl] w (throughPost y n B w) := by
  have hlen := (mayO_iff.1 hm).1
  have HMP := Aside0.mk (mayO_iff.1 hm).2
  have HI := Aside0.mk hi64
  have HVS := Aside0.mk hvs
  have HLS := Aside0.mk hls
  have HVK := Aside0.mk hvk
  have HR := Aside0.mk hr
  have hBw : B < w.heap.size := blk_lt hb
  obtain ⟨o, ho⟩ : ∃ o : Obj, (.cells #[.int .i64 0, .int .i64 0, .string ⟨#[]⟩] 38) = o := ⟨_, rfl⟩
  have HO := Aside0.mk ho
  have HP0 : Aside0 (pileRel (w.alloc o) B (.slice Av vs.length cv) k [] (w.alloc o)) := ⟨⟨_, blk_alloc hb o, Kd.R_nil _ _ _ _ _, Spares.refl _ _⟩⟩
  have HNEW := Aside0.mk (blk_new w o)
  have HB2 : Aside0 (B < (w.alloc o).heap.size) := ⟨by rw [World.size_alloc]; omega⟩
  have HWB : Aside0 (w.heap.size < (w.alloc o).heap.size ∧ ¬ w.heap.size = B) := ⟨by rw [World.size_alloc]; omega, by omega⟩
  subst ho
  clear hb hvs hls hvk hm hi64 hr
  go_enter Try.func33, Try.ntmps33
  go_wp2
  go_loopw [7, 8, 11] (fun _ _ v11 w' => ∃ i : Nat, v11 = .int .i64 i ∧ throughRel vs k l (.slice Av vs.length cv) (w.alloc (.cells #[.int .i64 0, .int .i64 0, .string ⟨#[]⟩] 38)) B i w') (fun _ _ i _ => l.length - (intOf i).toNat)
  case atStart => exact ⟨0, rfl, [], Nat.zero_le _, okVs_nil, Nat.le_refl _, rfl, HP0.out⟩
  case round =>
    obtain ⟨i, rfl, p, hi, hok, hpl, hrun, hp⟩ := hrel
    have HP := Aside0.mk hp
    have HRUN := Aside0.mk hrun
    have HOK := Aside0.mk hok
    have HLR := Aside0.mk (HLS.out wr (by obtain ⟨_, _, _, hs⟩ := hp; exact hs.old))
    have HVR := Aside0.mk (HVS.out wr (by obtain ⟨_, _, _, hs⟩ := hp; exact hs.old))
    clear hp hrun hok HP0
    by_cases hlt : i < l.length
    · obtain ⟨ad, e, z0, z1, z2, z3, z4⟩ := at_TOp HLR.out (i : Int) (by omega) (by omega)
      subst e
      simp only [Int.toNat_natCast] at z0 z1 z2 z3 z4
      rw [show rd_TOp l (i : Int) = l.getD i zOp from rfl] at z0 z1 z2 z3 z4
      have hin := getD_in zOp hlt
      have HDR := Aside0.mk (drop_cons zOp l hlt)
      have hmp := HMP.out _ hin
      have hix := HI.out _ hin
      obtain ⟨x, hx⟩ : ∃ x, l.getD i zOp = x := ⟨_, rfl⟩
      rw [hx] at z0 z1 z2 z3 z4 hmp hix
      rw [hx] at HDR
      have hmq := mayP_iff.1 hmp
      have HKX : Aside0 (okV x.f2) := ⟨⟨hmq.2.2.2.2.2.2, hix⟩⟩
      have h0 := hmq.2.2.1
      cases hst : stepV vs k x p with
      | error m =>
        have hfin : endV (runV vs k l []) = (zeroV, m) := by rw [HRUN.out, HDR.out, runV_stop hst]; rfl
        rw [HR.out] at hfin
        simp only [Prod.mk.injEq] at hfin
        obtain ⟨rfl, rfl⟩ := hfin
        have HST := Aside0.mk hst
        have hn0 : (n != 0) = true := by rw [bne_iff_ne]; exact stepV_err hst
        have hn1 : (n == 0) = false := by rw [beq_eq_false_iff_ne]; exact stepV_err hst
        clear hst hmp hmq hix hin hx
        go_wp2_with fail
        go_at_call 59
        refine (part_told (w.alloc (.cells #[.int .i64 0, .int .i64 0, .string ⟨#[]⟩] 38)) B Av cv vs k p x _ (HP.out.below (below_alloc (Below.refl _ _) _)) HB2.out (by omega) HOK.out (Kd.C_below HVR.out (below_alloc (Below.refl _ _) _)) HVK.out HKX.out h0 HST.out).mono ?_
        rintro e w1 ⟨rfl, q, hq⟩
        have HQ := Aside0.mk hq
        obtain ⟨_, _, _, hs⟩ := hq
        have HZ := Aside0.mk (hs.blk HNEW.out HWB.out.2)
        obtain ⟨j1, j2, j3, j4⟩ := know HZ.out
        have HSP := Aside0.mk hs.old
        clear hs
        have hfz := blk_put3 HZ.out (.int .i64 0) (.int .i64 0) (.string ⟨#[]⟩)
        have hz0 := blk_cell hfz 0
        have hz1 := blk_cell hfz 1
        have hz2 := blk_cell hfz 2
        go_wp2_with fail
        exact bodyPost_ret (v := .tuple #[.agg #[.int .i64 0, .int .i64 0, .string ⟨#[]⟩], .int .i64 n]) (by simp [results, Try.results33, go_sem, hz0, hz1, hz2]) rfl ⟨rfl, Spares.set (Spares.set (HSP.out.set 0 (.inr (Nat.le_refl _)) _) 1 (.inr (Nat.le_refl _)) _) 2 (.inr (Nat.le_refl _)) _⟩
      | ok q =>
        have hq2 := stepV_ok HVK.out HKX.out HOK.out hst
        have hql := stepV_len hst
        have HNX : Aside0 (runV vs k l [] = runV vs k (l.drop (i + 1)) q) := ⟨by rw [HRUN.out, HDR.out, runV_cons hst]⟩
        have HQK := Aside0.mk hq2
        have HST := Aside0.mk hst
        clear hst hmp hmq hix hin hx hq2
        go_wp2_with fail
        go_at_call 59
        refine (part_told (w.alloc (.cells #[.int .i64 0, .int .i64 0, .string ⟨#[]⟩] 38)) B Av cv vs k p x _ (HP.out.below (below_alloc (Below.refl _ _) _)) HB2.out (by omega) HOK.out (Kd.C_below HVR.out (below_alloc (Below.refl _ _) _)) HVK.out HKX.out h0 HST.out).mono ?_
        rintro e w1 ⟨rfl, hq⟩
        have HQ := Aside0.mk hq
        clear hq
        go_wp2_with fail
        go_roundw
        case rel => exact ⟨i + 1, by go_num, q, by omega, HQK.out, by omega, HNX.out, HQ.out⟩
        case measure => simp [intOf]; omega
    · obtain rfl : i = l.length := by omega
      have hrun := HRUN.out
      rw [List.drop_length] at hrun
      have hfin : endV (.ok p) = (y, n) := by rw [← HR.out, hrun]; rfl
      obtain ⟨v, hbk, hro, hsp⟩ := HP.out
      obtain ⟨A, c, rfl, hAc, hrd⟩ := Kd.R_reads hro
      unfold pileBlk at hbk
      have HZ := Aside0.mk (hsp.blk HNEW.out HWB.out.2)
      obtain ⟨j1, j2, j3, j4⟩ := know HZ.out
      obtain ⟨k1, k2, k3, k4⟩ := know hbk
      have HSP := Aside0.mk hsp.old
      have HOKP := Aside0.mk HOK.out
      clear hbk hro hsp hrun
      match p, hfin, hrd with
      | [], hfin, hrd =>
        simp only [endV, Prod.mk.injEq] at hfin
        obtain ⟨rfl, rfl⟩ := hfin
        have hfz := blk_put3 HZ.out (.int .i64 0) (.int .i64 0) (.string ⟨#[]⟩)
        have hz0 := blk_cell hfz 0
        have hz1 := blk_cell hfz 1
        have hz2 := blk_cell hfz 2
        go_wp2_with fail
        exact bodyPost_ret (v := .tuple #[.agg #[.int .i64 0, .int .i64 0, .string ⟨#[]⟩], .int .i64 2]) (by simp [results, Try.results33, go_sem, hz0, hz1, hz2]) rfl ⟨rfl, Spares.set (Spares.set (HSP.out.set 0 (.inr (Nat.le_refl _)) _) 1 (.inr (Nat.le_refl _)) _) 2 (.inr (Nat.le_refl _)) _⟩
      | [x], hfin, hrd =>
        simp only [endV, Prod.mk.injEq] at hfin
        obtain ⟨rfl, rfl⟩ := hfin
        obtain ⟨ad, e, _⟩ := hrd.2.2 (show 0 < 1 by decide)
        subst e
        have hat := at_thing hrd 0 (show 0 < 1 by decide)
        have hat2 : wr.cell? (ad.add 0) = some (thV x) := hat
        have hat3 : wr.cell? ad = some (thV x) := by rw [addr_zero] at hat2; exact hat2
        obtain ⟨t, v, f, hx1, hx2, hx3, hx4, _⟩ := thing_is (HOKP.out x (List.mem_singleton.2 rfl)).1
        have HX4 := Aside0.mk hx4
        rw [hx1] at hat2 hat3
        clear hat hrd hx4 hx1
        go_wp2_with fail
        refine (HX4.out _).mono ?_
        rintro e w1 ⟨rfl, hb1⟩
        have HZ1 := Aside0.mk (blk_below HZ.out hb1)
        have HSP1 := Aside0.mk (HSP.out.step hb1)
        obtain ⟨i1, i2, i3, i4⟩ := know HZ1.out
        have hfz := blk_put3 HZ1.out (.int .i64 x.f0) (.int .i64 x.f1) (.string x.f2)
        have hz0 := blk_cell hfz 0
        have hz1 := blk_cell hfz 1
        have hz2 := blk_cell hfz 2
        clear hb1
        go_wp2_with fail
        exact bodyPost_ret (v := .tuple #[.agg #[.int .i64 x.f0, .int .i64 x.f1, .string x.f2], .int .i64 0]) (by simp [results, Try.results33, go_sem, hz0, hz1, hz2]) rfl ⟨rfl, Spares.set (Spares.set (HSP1.out.set 0 (.inr (Nat.le_refl _)) _) 1 (.inr (Nat.le_refl _)) _) 2 (.inr (Nat.le_refl _)) _⟩
      | x :: z :: q, hfin, hrd =>
        simp only [endV, Prod.mk.injEq] at hfin
        obtain ⟨rfl, rfl⟩ := hfin
        have hl2 : ((x :: z :: q).length : Int) = (q.length : Int) + 2 := by simp only [List.length_cons]; omega
        have hne : ((x :: z :: q).length : Int) ≠ 1 := by omega
        have hne2 : (((x :: z :: q).length : Int) != 1) = true := bne_iff_ne.2 hne
        have hne3 : (((x :: z :: q).length : Int) == 1) = false := beq_eq_false_iff_ne.2 hne
        clear hrd hl2 hne
        generalize (x :: z :: q).length = len at *
        have hfz := blk_put3 HZ.out (.int .i64 0) (.int .i64 0) (.string ⟨#[]⟩)
        have hz0 := blk_cell hfz 0
        have hz1 := blk_cell hfz 1
        have hz2 := blk_cell hfz 2
        go_wp2_with fail
        exact bodyPost_ret (v := .tuple #[.agg #[.int .i64 0, .int .i64 0, .string ⟨#[]⟩], .int .i64 2]) (by simp [results, Try.results33, go_sem, hz0, hz1, hz2]) rfl ⟨rfl, Spares.set (Spares.set (HSP.out.set 0 (.inr (Nat.le_refl _)) _) 1 (.inr (Nat.le_refl _)) _) 2 (.inr (Nat.le_refl _)) _⟩
end Go.Proofs.Ytncllbokeofdjaa.P

namespace Go.Proofs.Ytncllbokeofdjaa.P
open Go.RowKit Go.Proofs.YtncllbokeofdjaaW.PrintWords Go.Proofs.YtncllbokeofdjaaW.PrintLast Go.Proofs.YtncllbokeofdjaaW.PrintMore
attribute [local go_sem] max2_int min2_int max_two min_two max_three min_three max_four min_four   -- for this text's walks alone
set_option linter.unusedVariables false
set_option linter.unusedSimpArgs false
def valErrPost (y : SValue) (n : Int) (w : World) (e : Ending) (w' : World) : Prop := e = .returned (.tuple #[.agg #[.int .i64 y.f0, .int .i64 y.f1, .string y.f2], .int .i64 n]) ∧ Below w.heap.size w w'
theorem below_spares {B : Nat} {w0 w w' : World} (h0 : Below w0.heap.size w0 w) (h : Spares (fun i => i = B) w w') (hB : w0.heap.size ≤ B) : Below w0.heap.size w0 w' := Spares.below h0 h (fun i hi => by omega)
theorem mayE_oks {e : SEvent} (h : mayE e = true) (hwf : ∀ v ∈ e.f2, i64V v) : okVs e.f2 := fun v hv => ⟨(mayE_iff.1 h).2.2.2.2 v hv, hwf v hv⟩
set_option maxHeartbeats 1000000 in
set_option maxRecDepth 100000 in
theorem eval_no1 (x : SEvent) (A : Option Addr) (c : Nat) (l : List SOp) (Al : Option Addr) (cl : Nat) (w : World) (hr : Kd.C kValue w A x.f2.length x.f2) (hc : x.f2.length ≤ c) (hwf : ∀ v ∈ x.f2, i64V v) (hl : Kd.C kOp w Al l.length l) (hlc : l.length ≤ cl) (hwl : ∀ x ∈ l, i64V x.f2) (h1 : mayO l = false) : Calls Try.prog 17 #[.agg #[.string x.f0, .int .i64 x.f1, .slice A x.f2.length c], .slice Al l.length cl] w (valErrPost zeroV 1 w) := by
  have HR := Aside0.mk hr
  have HC := Aside0.mk hc
  have HW := Aside0.mk hwf
  have HL := Aside0.mk hl
  have HLC := Aside0.mk hlc
  have HWL := Aside0.mk hwl
  have HM1 := Aside0.mk h1
  clear hr hc hwf hl hlc hwl h1
  go_enter Try.func17, Try.ntmps17
  go_wp2_with fail
  go_at_call 32
  refine (mayO_told l Al cl _ (Kd.C_below HL.out (below_alloc (below_alloc (Below.refl _ _) _) _)) HLC.out HWL.out HM1.out).mono ?_
  rintro e w1_ ⟨rfl, hb1_⟩
  have HB1_ := Aside0.mk (below_step (below_alloc (below_alloc (Below.refl _ _) _) _) hb1_)
  have HKe1_ := Aside0.mk (blk_below (blk_alloc (blk_new _ _) _) hb1_)
  obtain ⟨ke1a_, ke1b_, ke1c_, ke1d_⟩ := know HKe1_.out
  have HKr1_ := Aside0.mk (blk_below (blk_new2 _ _ _) hb1_)
  obtain ⟨kr1a_, kr1b_, kr1c_, kr1d_⟩ := know HKr1_.out
  clear hb1_
  have hfz := blk_put3 HKr1_.out (.int .i64 0) (.int .i64 0) (.string ⟨#[]⟩)
  have hz0 := blk_cell hfz 0
  have hz1 := blk_cell hfz 1
  have hz2 := blk_cell hfz 2
  go_wp2_with fail
  exact bodyPost_ret (v := .tuple #[.agg #[.int .i64 0, .int .i64 0, .string ⟨#[]⟩], .int .i64 1]) (by simp [results, Try.results17, go_sem, hz0, hz1, hz2]) rfl ⟨rfl, below_put3 (HB1_.out) (by omega) _ _ _⟩
set_option maxHeartbeats 1000000 in
set_option maxRecDepth 100000 in
theorem eval_no2 (x : SEvent) (A : Option Addr) (c : Nat) (l : List SOp) (Al : Option Addr) (cl : Nat) (w : World) (hr : Kd.C kValue w A x.f2.length x.f2) (hc : x.f2.length ≤ c) (hwf : ∀ v ∈ x.f2, i64V v) (hl : Kd.C kOp w Al l.length l) (hlc : l.length ≤ cl) (hwl : ∀ x ∈ l, i64V x.f2) (h1 : mayO l = true) (h2 : mayE x = false) : Calls Try.prog 17 #[.agg #[.string x.f0, .int .i64 x.f1, .slice A x.f2.length c], .slice Al l.length cl] w (valErrPost zeroV 1 w) := by
  have HR := Aside0.mk hr
  have HC := Aside0.mk hc
  have HW := Aside0.mk hwf
  have HL := Aside0.mk hl
  have HLC := Aside0.mk hlc
  have HWL := Aside0.mk hwl
  have HM1 := Aside0.mk h1
  have HM2 := Aside0.mk h2
  clear hr hc hwf hl hlc hwl h1 h2
  go_enter Try.func17, Try.ntmps17
  go_wp2_with fail
  go_at_call 32
  refine (mayO_told l Al cl _ (Kd.C_below HL.out (below_alloc (below_alloc (Below.refl _ _) _) _)) HLC.out HWL.out HM1.out).mono ?_
  rintro e w1_ ⟨rfl, hb1_⟩
  have HB1_ := Aside0.mk (below_step (below_alloc (below_alloc (Below.refl _ _) _) _) hb1_)
  have HKe1_ := Aside0.mk (blk_below (blk_alloc (blk_new _ _) _) hb1_)
  obtain ⟨ke1a_, ke1b_, ke1c_, ke1d_⟩ := know HKe1_.out
  have HKr1_ := Aside0.mk (blk_below (blk_new2 _ _ _) hb1_)
  obtain ⟨kr1a_, kr1b_, kr1c_, kr1d_⟩ := know HKr1_.out
  clear hb1_
  go_wp2_with fail
  go_at_call 37
  refine (event_May.told x A c _ (Kd.C_below HR.out (HB1_.out)) HC.out HW.out HM2.out).mono ?_
  rintro e w2_ ⟨rfl, hb2_⟩
  have HB2_ := Aside0.mk (below_step (HB1_.out) hb2_)
  have HKe2_ := Aside0.mk (blk_below (HKe1_.out) hb2_)
  obtain ⟨ke2a_, ke2b_, ke2c_, ke2d_⟩ := know HKe2_.out
  have HKr2_ := Aside0.mk (blk_below (HKr1_.out) hb2_)
  obtain ⟨kr2a_, kr2b_, kr2c_, kr2d_⟩ := know HKr2_.out
  clear ke1a_ ke1b_ ke1c_ ke1d_ kr1a_ kr1b_ kr1c_ kr1d_
  clear hb2_
  have hfz := blk_put3 HKr2_.out (.int .i64 0) (.int .i64 0) (.string ⟨#[]⟩)
  have hz0 := blk_cell hfz 0
  have hz1 := blk_cell hfz 1
  have hz2 := blk_cell hfz 2
  go_wp2_with fail
  exact bodyPost_ret (v := .tuple #[.agg #[.int .i64 0, .int .i64 0, .string ⟨#[]⟩], .int .i64 1]) (by simp [results, Try.results17, go_sem, hz0, hz1, hz2]) rfl ⟨rfl, below_put3 (HB2_.out) (by omega) _ _ _⟩
set_option maxHeartbeats 1000000 in
set_option maxRecDepth 100000 in
theorem eval_go (x : SEvent) (A : Option Addr) (c : Nat) (l : List SOp) (Al : Option Addr) (cl : Nat) (w : World) (hr : Kd.C kValue w A x.f2.length x.f2) (hc : x.f2.length ≤ c) (hwf : ∀ v ∈ x.f2, i64V v) (hl : Kd.C kOp w Al l.length l) (hlc : l.length ≤ cl) (hwl : ∀ x ∈ l, i64V x.f2) (h1 : mayO l = true) (h2 : mayE x = true) {y : SValue} {n : Int} (hq : endV (runV x.f2 false l []) = (y, n)) : Calls Try.prog 17 #[.agg #[.string x.f0, .int .i64 x.f1, .slice A x.f2.length c], .slice Al l.length cl] w (valErrPost y n w) := by
  have HR := Aside0.mk hr
  have HC := Aside0.mk hc
  have HW := Aside0.mk hwf
  have HL := Aside0.mk hl
  have HLC := Aside0.mk hlc
  have HWL := Aside0.mk hwl
  have HM1 := Aside0.mk h1
  have HM2 := Aside0.mk h2
  have HOK := Aside0.mk (mayE_oks h2 hwf)
  have HEV := Aside0.mk hq
  clear hr hc hwf hl hlc hwl h1 h2 hq
  go_enter Try.func17, Try.ntmps17
  go_wp2_with fail
  go_at_call 32
  refine (mayO_told l Al cl _ (Kd.C_below HL.out (below_alloc (below_alloc (Below.refl _ _) _) _)) HLC.out HWL.out HM1.out).mono ?_
  rintro e w1_ ⟨rfl, hb1_⟩
  have HB1_ := Aside0.mk (below_step (below_alloc (below_alloc (Below.refl _ _) _) _) hb1_)
  have HKe1_ := Aside0.mk (blk_below (blk_alloc (blk_new _ _) _) hb1_)
  obtain ⟨ke1a_, ke1b_, ke1c_, ke1d_⟩ := know HKe1_.out
  have HKr1_ := Aside0.mk (blk_below (blk_new2 _ _ _) hb1_)
  obtain ⟨kr1a_, kr1b_, kr1c_, kr1d_⟩ := know HKr1_.out
  clear hb1_
  go_wp2_with fail
  go_at_call 37
  refine (event_May.told x A c _ (Kd.C_below HR.out (HB1_.out)) HC.out HW.out HM2.out).mono ?_
  rintro e w2_ ⟨rfl, hb2_⟩
  have HB2_ := Aside0.mk (below_step (HB1_.out) hb2_)
  have HKe2_ := Aside0.mk (blk_below (HKe1_.out) hb2_)
  obtain ⟨ke2a_, ke2b_, ke2c_, ke2d_⟩ := know HKe2_.out
  have HKr2_ := Aside0.mk (blk_below (HKr1_.out) hb2_)
  obtain ⟨kr2a_, kr2b_, kr2c_, kr2d_⟩ := know HKr2_.out
  clear ke1a_ ke1b_ ke1c_ ke1d_ kr1a_ kr1b_ kr1c_ kr1d_
  clear hb2_
  go_wp2_with fail
  have HPB := Aside0.mk (blk_new w2_ (pileBlk (.slice none 0 0) (.slice A x.f2.length c) false))
  have HBL := Aside0.mk (below_alloc (HB2_.out) (pileBlk (.slice none 0 0) (.slice A x.f2.length c) false))
  have HLE := Aside0.mk (below_size (HB2_.out))
  have HRB := Aside0.mk (blk_alloc (HKr2_.out) (pileBlk (.slice none 0 0) (.slice A x.f2.length c) false))
  go_at_call 33
  refine (through_told (w2_.alloc (pileBlk (.slice none 0 0) (.slice A x.f2.length c) false)) w2_.heap.size A c x.f2 false Al cl l HPB.out (fun w' h => Kd.C_below HR.out (below_spares HBL.out h HLE.out)) (fun w' h => Kd.C_below HL.out (below_spares HBL.out h HLE.out)) HLC.out HOK.out HM1.out HWL.out HEV.out).mono ?_
  rintro e w9_ ⟨rfl, hs9_⟩
  have HB9 := Aside0.mk (below_spares HBL.out hs9_ HLE.out)
  have hrne : ¬ w.heap.size + 1 = w2_.heap.size := by have := blk_lt HKr2_.out; omega
  have HR9 := Aside0.mk (hs9_.blk HRB.out hrne)
  obtain ⟨r1_, r2_, r3_, r4_⟩ := know HR9.out
  clear hs9_ hrne ke2a_ ke2b_ ke2c_ ke2d_ kr2a_ kr2b_ kr2c_ kr2d_
  have hfz := blk_put3 HR9.out (.int .i64 y.f0) (.int .i64 y.f1) (.string y.f2)
  have hz0 := blk_cell hfz 0
  have hz1 := blk_cell hfz 1
  have hz2 := blk_cell hfz 2
  go_wp2_with fail
  exact bodyPost_ret (v := .tuple #[.agg #[.int .i64 y.f0, .int .i64 y.f1, .string y.f2], .int .i64 n]) (by simp [results, Try.results17, go_sem, hz0, hz1, hz2]) rfl ⟨rfl, below_put3 (HB9.out) (by omega) _ _ _⟩
theorem eval_told (x : SEvent) (A : Option Addr) (c : Nat) (l : List SOp) (Al : Option Addr) (cl : Nat) (w : World) (hr : Kd.C kValue w A x.f2.length x.f2) (hc : x.f2.length ≤ c) (hwf : ∀ v ∈ x.f2, i64V v) (hl : Kd.C kOp w Al l.length l) (hlc : l.length ≤ cl) (hwl : ∀ x ∈ l, i64V x.f2) {y : SValue} {n : Int} (hq : evalV x l = (y, n)) : Calls Try.prog 17 #[.agg #[.string x.f0, .int .i64 x.f1, .slice A x.f2.length c], .slice Al l.length cl] w (valErrPost y n w) := by
  unfold evalV at hq
  cases h1 : mayO l with
  | false =>
    rw [h1, if_neg (by simp), Prod.mk.injEq] at hq
    obtain ⟨rfl, rfl⟩ := hq
    exact eval_no1 x A c l Al cl w hr hc hwf hl hlc hwl h1
  | true =>
    cases h2 : mayE x with
    | false =>
      rw [h1, h2, if_neg (by simp), Prod.mk.injEq] at hq
      obtain ⟨rfl, rfl⟩ := hq
      exact eval_no2 x A c l Al cl w hr hc hwf hl hlc hwl h1 h2
    | true =>
      rw [h1, h2, if_pos ⟨rfl, rfl⟩] at hq
      exact eval_go x A c l Al cl w hr hc hwf hl hlc hwl h1 h2 hq
end Go.Proofs.Ytncllbokeofdjaa.P
