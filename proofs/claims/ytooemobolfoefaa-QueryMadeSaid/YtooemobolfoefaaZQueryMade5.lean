/- What QueryMade's row stands on: words, contracts of the functions that it reaches, plain facts, its walk (part 5): no condition but those that each theorem names. -/
import Derived.Test.YtooemobolfoefaaZQueryMade4
set_option linter.unusedVariables false
set_option linter.unusedSimpArgs false
namespace Go.Proofs.Ytooemobolfoefaa.P
open Go.RowKit Go.Proofs.YtooemobolfoefaaW.PrintWords Go.Proofs.YtooemobolfoefaaW.PrintLast Go.Proofs.YtooemobolfoefaaW.PrintMore
attribute [local go_sem] max2_int min2_int max_two min_two max_three min_three max_four min_four   -- for this text's walks alone
set_option linter.unusedVariables false
set_option linter.unusedSimpArgs false
def le_Get.l0 : Nat → List Int → Int → Int → Int → Option (Int × Int × Bool)
  | 0, _, _, _, _ => none
  | k + 1, x0, x5, x10, x11 => if x11 < x10 then (if 0 ≤ x11 then (if x11 < (x0.length : Int) then (if 0 ≤ (wrap64 (7 * x11)) then (if (IntKind.u64.wrap (rd x0 x11)) ≥ 128 then (le_Get.l0 k x0 (Go.bits .or .u64 x5 (shl .u64 (Go.bits .andNot .u64 (IntKind.u64.wrap (rd x0 x11)) 128) (wrap64 (7 * x11)))) x10 (wrap64 (x11 + 1))) else (if x11 > 0 then (if (IntKind.u64.wrap (rd x0 x11)) = 0 then (some (0, 0, false)) else (if x11 = 9 then (if (IntKind.u64.wrap (rd x0 x11)) > 1 then (some (0, 0, false)) else (some (Go.bits .or .u64 x5 (shl .u64 (Go.bits .andNot .u64 (IntKind.u64.wrap (rd x0 x11)) 128) (wrap64 (7 * x11))), wrap64 (x11 + 1), true))) else (some (Go.bits .or .u64 x5 (shl .u64 (Go.bits .andNot .u64 (IntKind.u64.wrap (rd x0 x11)) 128) (wrap64 (7 * x11))), wrap64 (x11 + 1), true)))) else (if x11 = 9 then (if (IntKind.u64.wrap (rd x0 x11)) > 1 then (some (0, 0, false)) else (some (Go.bits .or .u64 x5 (shl .u64 (Go.bits .andNot .u64 (IntKind.u64.wrap (rd x0 x11)) 128) (wrap64 (7 * x11))), wrap64 (x11 + 1), true))) else (some (Go.bits .or .u64 x5 (shl .u64 (Go.bits .andNot .u64 (IntKind.u64.wrap (rd x0 x11)) 128) (wrap64 (7 * x11))), wrap64 (x11 + 1), true))))) else (none)) else (none)) else (none)) else (some (0, 0, false))
def le_Get.f (k : Nat) (l0 : List Int) : Option (Int × Int × Bool) := le_Get.l0 k l0 0 (mn (l0.length : Int) 10) 0
set_option maxHeartbeats 8000000 in
set_option maxRecDepth 100000 in
theorem le_Get.calls (k : Nat) (A0 : Option Addr) (c0 : Nat) (l0 : List Int) (r1 : Int) (r2 : Int) (r3 : Bool) (w : World) (hr0 : Kd.C (Kd.int .u8) w A0 l0.length l0) (hc0 : l0.length ≤ c0) (h : le_Get.f k l0 = some (r1, r2, r3)) :
    Calls Try.prog 42 #[.slice A0 l0.length c0] w fun e w' => e = .returned (.tuple #[.int .u64 r1, .int .i64 r2, .bool r3]) ∧ Below w.heap.size w w' := by
  have HR0 := Aside0.mk hr0
  have HC0 := Aside0.mk hc0
  clear hr0 hc0
  have HB := Aside0.mk (Below.refl w.heap.size w)
  have H : (le_Get.l0 k l0 0 (mn (l0.length : Int) 10) 0) = some (r1, r2, r3) := h
  clear h
  obtain ⟨ji2, hji2⟩ : ∃ j_ : Int, (mn (l0.length : Int) 10) = j_ := ⟨_, rfl⟩
  replace H : (le_Get.l0 k l0 0 ji2 0) = some (r1, r2, r3) := by first | (rw [hji2] at H; exact H) | (simp only [hji2] at H ⊢; exact H)
  (try (have hji2h : ji2 ≤ 10 := by (rw [← hji2]; unfold mn; (repeat' split) <;> omega)))
  (try (have hji2g : ji2 ≤ 64 := by omega))
  (try (have hji2l : 0 ≤ ji2 := by (rw [← hji2]; unfold mn; (repeat' split) <;> omega)))
  (try (have hji2m : 0 ≤ ji2 := by omega))
  have hji2_ : (if 10 < (l0.length : Int) then 10 else (l0.length : Int)) = ji2 := hji2
  have H' := Aside0.mk H
  clear H
  go_enter Try.func42, Try.ntmps42
  go_wp2
  go_loopg [5, 11] k (fun kq v5 v11 w' => ∃ (x5_1 : Int) (x11_1 : Int), v5 = .int .u64 x5_1 ∧ v11 = .int .i64 x11_1 ∧ Aside0 (le_Get.l0 kq l0 x5_1 ji2 x11_1 = some (r1, r2, r3)) ∧ Aside0 (kq ≤ k) ∧ Aside0 (Below w.heap.size w w'))
  case atStart => exact ⟨(0), (0), (by first | rfl | (simp; done) | (simp [*]; done)), (by first | rfl | (simp; done) | (simp [*]; done)), H', ⟨Nat.le_refl _⟩, ⟨by repeat (first | (with_reducible first | exact HB.out | apply below_alloc | apply pw_below_drewN | apply below_drew1) | exact HB.out)⟩⟩
  case round =>
    clear H'
    try clear p2
    obtain ⟨x5_1, x11_1, rfl, rfl, HA, HK1, HB⟩ := hrel
    cases gk with
    | zero => exact absurd HA.out (by simp [le_Get.l0])
    | succ k1 =>
      have H := HA.out
      clear HA
      simp only [le_Get.l0] at H
      by_cases c3 : x11_1 < ji2
      · rw [if_pos c3] at H
        have c3b0 : decide (x11_1 < ji2) = true := decide_eq_true c3
        clear c3
        by_cases c4 : 0 ≤ x11_1
        · rw [if_pos c4] at H
          have c4b0 : decide (0 ≤ x11_1) = true := decide_eq_true c4
          clear c4
          by_cases c5 : x11_1 < (l0.length : Int)
          · rw [if_pos c5] at H
            have c5b0 : decide (x11_1 < (l0.length : Int)) = true := decide_eq_true c5
            clear c5
            obtain ⟨ji6, hji6⟩ : ∃ j_ : Int, (wrap64 (7 * x11_1)) = j_ := ⟨_, rfl⟩
            replace H : (if 0 ≤ (ji6) then (if (IntKind.u64.wrap (rd l0 x11_1)) ≥ 128 then (le_Get.l0 k1 l0 (Go.bits .or .u64 x5_1 (shl .u64 (Go.bits .andNot .u64 (IntKind.u64.wrap (rd l0 x11_1)) 128) (ji6))) ji2 (wrap64 (x11_1 + 1))) else (if x11_1 > 0 then (if (IntKind.u64.wrap (rd l0 x11_1)) = 0 then (some (0, 0, false)) else (if x11_1 = 9 then (if (IntKind.u64.wrap (rd l0 x11_1)) > 1 then (some (0, 0, false)) else (some (Go.bits .or .u64 x5_1 (shl .u64 (Go.bits .andNot .u64 (IntKind.u64.wrap (rd l0 x11_1)) 128) (ji6)), wrap64 (x11_1 + 1), true))) else (some (Go.bits .or .u64 x5_1 (shl .u64 (Go.bits .andNot .u64 (IntKind.u64.wrap (rd l0 x11_1)) 128) (ji6)), wrap64 (x11_1 + 1), true)))) else (if x11_1 = 9 then (if (IntKind.u64.wrap (rd l0 x11_1)) > 1 then (some (0, 0, false)) else (some (Go.bits .or .u64 x5_1 (shl .u64 (Go.bits .andNot .u64 (IntKind.u64.wrap (rd l0 x11_1)) 128) (ji6)), wrap64 (x11_1 + 1), true))) else (some (Go.bits .or .u64 x5_1 (shl .u64 (Go.bits .andNot .u64 (IntKind.u64.wrap (rd l0 x11_1)) 128) (ji6)), wrap64 (x11_1 + 1), true))))) else (none)) = some (r1, r2, r3) := by first | (rw [hji6] at H; exact H) | (simp only [hji6] at H ⊢; exact H)
            have hji6w : (IntKind.i64.wrap (7 * x11_1)) = ji6 := (i64_w _).trans hji6
            by_cases c7 : 0 ≤ (ji6)
            · rw [if_pos c7] at H
              have c7b0 := eq_true c7
              have c7b1 : decide (0 ≤ (ji6)) = true := decide_eq_true c7
              clear c7
              obtain ⟨ji8, hji8⟩ : ∃ j_ : Int, (shl .u64 (Go.bits .andNot .u64 (IntKind.u64.wrap (rd l0 x11_1)) 128) (ji6)) = j_ := ⟨_, rfl⟩
              replace H : (if (IntKind.u64.wrap (rd l0 x11_1)) ≥ 128 then (le_Get.l0 k1 l0 (Go.bits .or .u64 x5_1 (ji8)) ji2 (wrap64 (x11_1 + 1))) else (if x11_1 > 0 then (if (IntKind.u64.wrap (rd l0 x11_1)) = 0 then (some (0, 0, false)) else (if x11_1 = 9 then (if (IntKind.u64.wrap (rd l0 x11_1)) > 1 then (some (0, 0, false)) else (some (Go.bits .or .u64 x5_1 (ji8), wrap64 (x11_1 + 1), true))) else (some (Go.bits .or .u64 x5_1 (ji8), wrap64 (x11_1 + 1), true)))) else (if x11_1 = 9 then (if (IntKind.u64.wrap (rd l0 x11_1)) > 1 then (some (0, 0, false)) else (some (Go.bits .or .u64 x5_1 (ji8), wrap64 (x11_1 + 1), true))) else (some (Go.bits .or .u64 x5_1 (ji8), wrap64 (x11_1 + 1), true))))) = some (r1, r2, r3) := by first | (rw [hji8] at H; exact H) | (simp only [hji8] at H ⊢; exact H)
              have hji8_ : (IntKind.u64.wrap ((Go.bits .andNot .u64 (IntKind.u64.wrap (rd l0 x11_1)) 128) * 2 ^ min (ji6).toNat 64)) = ji8 := hji8
              have hji8z : (ji6) ≤ 64 → (IntKind.u64.wrap ((Go.bits .andNot .u64 (IntKind.u64.wrap (rd l0 x11_1)) 128) * 2 ^ (ji6).toNat)) = ji8 := shl_small hji8
              by_cases c9 : (IntKind.u64.wrap (rd l0 x11_1)) ≥ 128
              · rw [if_pos c9] at H
                have c9b0 : decide (128 ≤ (IntKind.u64.wrap (rd l0 x11_1))) = true := decide_eq_true c9
                clear c9
                have H' := Aside0.mk H
                clear H
                have p123 : 0 ≤ (x11_1 : Int) := of_decide_eq_true (by first | (with_reducible assumption) | assumption)
                have q123 : x11_1 < (l0.length : Int) := of_decide_eq_true (by first | (with_reducible assumption) | assumption)
                obtain ⟨ad123, e123, hx123_0⟩ := Kd.at_int HR0.out x11_1 p123 q123
                cases e123
                replace hx123_0 := (HB.out.cell (World.block_lt_of_cell? w _ hx123_0)).trans hx123_0
                replace p123 := eq_true p123
                replace q123 := eq_true q123
                go_wp2
                go_roundg k1
                case measure => have := HK1.out; omega
                case rel => exact ⟨(Go.bits .or .u64 x5_1 (ji8)), (wrap64 (x11_1 + 1)), (by first | rfl | (simp; done) | (simp only [← hji8] <;> (first | rfl | simp)) | (simp [*]; done)), (by first | rfl | (simp; done) | (simp [*]; done)), H', ⟨by have := HK1.out; omega⟩, ⟨by repeat (first | (with_reducible first | exact HB.out | apply below_alloc | apply pw_below_drewN | apply below_drew1) | exact HB.out)⟩⟩
              · rw [if_neg c9] at H
                have c9b0 : decide (128 ≤ (IntKind.u64.wrap (rd l0 x11_1))) = false := decide_eq_false c9
                clear c9
                by_cases c10 : x11_1 > 0
                · rw [if_pos c10] at H
                  have c10b0 : decide (0 < x11_1) = true := decide_eq_true c10
                  clear c10
                  by_cases c11 : (IntKind.u64.wrap (rd l0 x11_1)) = 0
                  · rw [if_pos c11] at H
                    have c11b0 : ((IntKind.u64.wrap (rd l0 x11_1)) == 0) = true := beq_iff_eq.mpr c11
                    have c11b1 : ((IntKind.u64.wrap (rd l0 x11_1)) != 0) = false := bne_eq_false_iff_eq.mpr c11
                    clear c11
                    simp only [Option.some.injEq, Prod.mk.injEq] at H
                    obtain ⟨rfl, rfl, rfl⟩ := H
                    have p123 : 0 ≤ (x11_1 : Int) := of_decide_eq_true (by first | (with_reducible assumption) | assumption)
                    have q123 : x11_1 < (l0.length : Int) := of_decide_eq_true (by first | (with_reducible assumption) | assumption)
                    obtain ⟨ad123, e123, hx123_0⟩ := Kd.at_int HR0.out x11_1 p123 q123
                    cases e123
                    replace hx123_0 := (HB.out.cell (World.block_lt_of_cell? w _ hx123_0)).trans hx123_0
                    replace p123 := eq_true p123
                    replace q123 := eq_true q123
                    go_wp2
                    go_ret3
                    exact ⟨by first | rfl | (simp [errW_none, errW_some] <;> rfl) | (simp only [← hji2, ← hji6, ← hji8]; first | rfl | (simp [errW_none, errW_some] <;> rfl)) | (simp [*, errW_none, errW_some] <;> rfl), by repeat (first | (with_reducible first | exact HB.out | apply below_alloc | apply pw_below_drewN | apply below_drew1) | exact HB.out)⟩
                  · rw [if_neg c11] at H
                    have c11b0 : ((IntKind.u64.wrap (rd l0 x11_1)) == 0) = false := beq_eq_false_iff_ne.mpr c11
                    have c11b1 : ((IntKind.u64.wrap (rd l0 x11_1)) != 0) = true := bne_iff_ne.mpr c11
                    by_cases c12 : x11_1 = 9
                    · rw [if_pos c12] at H
                      have c12b0 : (x11_1 == 9) = true := beq_iff_eq.mpr c12
                      have c12b1 : (x11_1 != 9) = false := bne_eq_false_iff_eq.mpr c12
                      clear c12
                      by_cases c13 : (IntKind.u64.wrap (rd l0 x11_1)) > 1
                      · rw [if_pos c13] at H
                        have c13b0 : decide (1 < (IntKind.u64.wrap (rd l0 x11_1))) = true := decide_eq_true c13
                        clear c13
                        simp only [Option.some.injEq, Prod.mk.injEq] at H
                        obtain ⟨rfl, rfl, rfl⟩ := H
                        have p123 : 0 ≤ (x11_1 : Int) := of_decide_eq_true (by first | (with_reducible assumption) | assumption)
                        have q123 : x11_1 < (l0.length : Int) := of_decide_eq_true (by first | (with_reducible assumption) | assumption)
                        obtain ⟨ad123, e123, hx123_0⟩ := Kd.at_int HR0.out x11_1 p123 q123
                        cases e123
                        replace hx123_0 := (HB.out.cell (World.block_lt_of_cell? w _ hx123_0)).trans hx123_0
                        replace p123 := eq_true p123
                        replace q123 := eq_true q123
                        go_wp2
                        go_ret3
                        exact ⟨by first | rfl | (simp [errW_none, errW_some] <;> rfl) | (simp only [← hji2, ← hji6, ← hji8]; first | rfl | (simp [errW_none, errW_some] <;> rfl)) | (simp [*, errW_none, errW_some] <;> rfl), by repeat (first | (with_reducible first | exact HB.out | apply below_alloc | apply pw_below_drewN | apply below_drew1) | exact HB.out)⟩
                      · rw [if_neg c13] at H
                        have c13b0 : decide (1 < (IntKind.u64.wrap (rd l0 x11_1))) = false := decide_eq_false c13
                        clear c13
                        simp only [Option.some.injEq, Prod.mk.injEq] at H
                        obtain ⟨rfl, rfl, rfl⟩ := H
                        have p123 : 0 ≤ (x11_1 : Int) := of_decide_eq_true (by first | (with_reducible assumption) | assumption)
                        have q123 : x11_1 < (l0.length : Int) := of_decide_eq_true (by first | (with_reducible assumption) | assumption)
                        obtain ⟨ad123, e123, hx123_0⟩ := Kd.at_int HR0.out x11_1 p123 q123
                        cases e123
                        replace hx123_0 := (HB.out.cell (World.block_lt_of_cell? w _ hx123_0)).trans hx123_0
                        replace p123 := eq_true p123
                        replace q123 := eq_true q123
                        go_wp2
                        go_ret3
                        exact ⟨by first | rfl | (simp [errW_none, errW_some] <;> rfl) | (simp only [← hji2, ← hji6, ← hji8]; first | rfl | (simp [errW_none, errW_some] <;> rfl)) | (simp [*, errW_none, errW_some] <;> rfl), by repeat (first | (with_reducible first | exact HB.out | apply below_alloc | apply pw_below_drewN | apply below_drew1) | exact HB.out)⟩
                    · rw [if_neg c12] at H
                      have c12b0 : (x11_1 == 9) = false := beq_eq_false_iff_ne.mpr c12
                      have c12b1 : (x11_1 != 9) = true := bne_iff_ne.mpr c12
                      simp only [Option.some.injEq, Prod.mk.injEq] at H
                      obtain ⟨rfl, rfl, rfl⟩ := H
                      have p123 : 0 ≤ (x11_1 : Int) := of_decide_eq_true (by first | (with_reducible assumption) | assumption)
                      have q123 : x11_1 < (l0.length : Int) := of_decide_eq_true (by first | (with_reducible assumption) | assumption)
                      obtain ⟨ad123, e123, hx123_0⟩ := Kd.at_int HR0.out x11_1 p123 q123
                      cases e123
                      replace hx123_0 := (HB.out.cell (World.block_lt_of_cell? w _ hx123_0)).trans hx123_0
                      replace p123 := eq_true p123
                      replace q123 := eq_true q123
                      go_wp2
                      go_ret3
                      exact ⟨by first | rfl | (simp [errW_none, errW_some] <;> rfl) | (simp only [← hji2, ← hji6, ← hji8]; first | rfl | (simp [errW_none, errW_some] <;> rfl)) | (simp [*, errW_none, errW_some] <;> rfl), by repeat (first | (with_reducible first | exact HB.out | apply below_alloc | apply pw_below_drewN | apply below_drew1) | exact HB.out)⟩
                · rw [if_neg c10] at H
                  have c10b0 : decide (0 < x11_1) = false := decide_eq_false c10
                  clear c10
                  by_cases c14 : x11_1 = 9
                  · rw [if_pos c14] at H
                    have c14b0 : (x11_1 == 9) = true := beq_iff_eq.mpr c14
                    have c14b1 : (x11_1 != 9) = false := bne_eq_false_iff_eq.mpr c14
                    clear c14
                    by_cases c15 : (IntKind.u64.wrap (rd l0 x11_1)) > 1
                    · rw [if_pos c15] at H
                      have c15b0 : decide (1 < (IntKind.u64.wrap (rd l0 x11_1))) = true := decide_eq_true c15
                      clear c15
                      simp only [Option.some.injEq, Prod.mk.injEq] at H
                      obtain ⟨rfl, rfl, rfl⟩ := H
                      have p123 : 0 ≤ (x11_1 : Int) := of_decide_eq_true (by first | (with_reducible assumption) | assumption)
                      have q123 : x11_1 < (l0.length : Int) := of_decide_eq_true (by first | (with_reducible assumption) | assumption)
                      obtain ⟨ad123, e123, hx123_0⟩ := Kd.at_int HR0.out x11_1 p123 q123
                      cases e123
                      replace hx123_0 := (HB.out.cell (World.block_lt_of_cell? w _ hx123_0)).trans hx123_0
                      replace p123 := eq_true p123
                      replace q123 := eq_true q123
                      go_wp2
                      go_ret3
                      exact ⟨by first | rfl | (simp [errW_none, errW_some] <;> rfl) | (simp only [← hji2, ← hji6, ← hji8]; first | rfl | (simp [errW_none, errW_some] <;> rfl)) | (simp [*, errW_none, errW_some] <;> rfl), by repeat (first | (with_reducible first | exact HB.out | apply below_alloc | apply pw_below_drewN | apply below_drew1) | exact HB.out)⟩
                    · rw [if_neg c15] at H
                      have c15b0 : decide (1 < (IntKind.u64.wrap (rd l0 x11_1))) = false := decide_eq_false c15
                      clear c15
                      simp only [Option.some.injEq, Prod.mk.injEq] at H
                      obtain ⟨rfl, rfl, rfl⟩ := H
                      have p123 : 0 ≤ (x11_1 : Int) := of_decide_eq_true (by first | (with_reducible assumption) | assumption)
                      have q123 : x11_1 < (l0.length : Int) := of_decide_eq_true (by first | (with_reducible assumption) | assumption)
                      obtain ⟨ad123, e123, hx123_0⟩ := Kd.at_int HR0.out x11_1 p123 q123
                      cases e123
                      replace hx123_0 := (HB.out.cell (World.block_lt_of_cell? w _ hx123_0)).trans hx123_0
                      replace p123 := eq_true p123
                      replace q123 := eq_true q123
                      go_wp2
                      go_ret3
                      exact ⟨by first | rfl | (simp [errW_none, errW_some] <;> rfl) | (simp only [← hji2, ← hji6, ← hji8]; first | rfl | (simp [errW_none, errW_some] <;> rfl)) | (simp [*, errW_none, errW_some] <;> rfl), by repeat (first | (with_reducible first | exact HB.out | apply below_alloc | apply pw_below_drewN | apply below_drew1) | exact HB.out)⟩
                  · rw [if_neg c14] at H
                    have c14b0 : (x11_1 == 9) = false := beq_eq_false_iff_ne.mpr c14
                    have c14b1 : (x11_1 != 9) = true := bne_iff_ne.mpr c14
                    simp only [Option.some.injEq, Prod.mk.injEq] at H
                    obtain ⟨rfl, rfl, rfl⟩ := H
                    have p123 : 0 ≤ (x11_1 : Int) := of_decide_eq_true (by first | (with_reducible assumption) | assumption)
                    have q123 : x11_1 < (l0.length : Int) := of_decide_eq_true (by first | (with_reducible assumption) | assumption)
                    obtain ⟨ad123, e123, hx123_0⟩ := Kd.at_int HR0.out x11_1 p123 q123
                    cases e123
                    replace hx123_0 := (HB.out.cell (World.block_lt_of_cell? w _ hx123_0)).trans hx123_0
                    replace p123 := eq_true p123
                    replace q123 := eq_true q123
                    go_wp2
                    go_ret3
                    exact ⟨by first | rfl | (simp [errW_none, errW_some] <;> rfl) | (simp only [← hji2, ← hji6, ← hji8]; first | rfl | (simp [errW_none, errW_some] <;> rfl)) | (simp [*, errW_none, errW_some] <;> rfl), by repeat (first | (with_reducible first | exact HB.out | apply below_alloc | apply pw_below_drewN | apply below_drew1) | exact HB.out)⟩
            · rw [if_neg c7] at H
              exact absurd H (by simp)
          · rw [if_neg c5] at H
            exact absurd H (by simp)
        · rw [if_neg c4] at H
          exact absurd H (by simp)
      · rw [if_neg c3] at H
        have c3b0 : decide (x11_1 < ji2) = false := decide_eq_false c3
        clear c3
        simp only [Option.some.injEq, Prod.mk.injEq] at H
        obtain ⟨rfl, rfl, rfl⟩ := H
        go_wp2
        go_ret3
        exact ⟨by first | rfl | (simp [errW_none, errW_some] <;> rfl) | (simp only [← hji2]; first | rfl | (simp [errW_none, errW_some] <;> rfl)) | (simp [*, errW_none, errW_some] <;> rfl), by repeat (first | (with_reducible first | exact HB.out | apply below_alloc | apply pw_below_drewN | apply below_drew1) | exact HB.out)⟩
theorem u64_small {n : Nat} (h : n < 18446744073709551616) : IntKind.wrap .u64 (n : Int) = (n : Int) := by simp [IntKind.wrap, IntKind.bits, IntKind.signed]; omega
theorem or_nat {a b : Nat} (ha : a < 18446744073709551616) (hb : b < 18446744073709551616) : Go.bits .or .u64 (a : Int) (b : Int) = ((a ||| b : Nat) : Int) := by
  have e1 : (BitVec.ofInt 64 (a : Int)).toNat = a := by rw [BitVec.ofInt_natCast, BitVec.toNat_ofNat, Nat.mod_eq_of_lt ha]
  have e2 : (BitVec.ofInt 64 (b : Int)).toNat = b := by rw [BitVec.ofInt_natCast, BitVec.toNat_ofNat, Nat.mod_eq_of_lt hb]
  show IntKind.wrap .u64 (((BitVec.ofInt 64 (a : Int) ||| BitVec.ofInt 64 (b : Int)).toNat : Nat) : Int) = _
  rw [BitVec.toNat_or, e1, e2]
  exact u64_small (Nat.or_lt_two_pow (n := 64) ha hb)
theorem or_sum {a x s : Nat} (ha : a < 2 ^ s) (hx : x * 2 ^ s < 18446744073709551616) (hs : s < 64) : Go.bits .or .u64 (a : Int) ((x * 2 ^ s : Nat) : Int) = ((a + x * 2 ^ s : Nat) : Int) := by
  have h64 : 2 ^ s < 2 ^ 64 := Nat.pow_lt_pow_right (by decide) hs
  rw [or_nat (by have : (2:Nat) ^ 64 = 18446744073709551616 := by decide
                 omega) hx]
  congr 1
  rw [Nat.or_comm, ← Nat.shiftLeft_eq, ← Nat.shiftLeft_add_eq_or_of_lt ha, Nat.add_comm]
theorem low_seven {c : Nat} (h : c < 256) : Go.bits .andNot .u64 (IntKind.wrap .u64 (c : Int)) 128 = ((c % 128 : Nat) : Int) := by
  have h0 : ∀ b : Fin 256, Go.bits .andNot .u64 (IntKind.wrap .u64 ((b.val : Nat) : Int)) 128 = ((b.val % 128 : Nat) : Int) := by decide +kernel
  exact h0 ⟨c, h⟩
theorem shl_nat {x s : Nat} (hs : s < 64) (h : x * 2 ^ s < 18446744073709551616) : shl .u64 (x : Int) (s : Int) = ((x * 2 ^ s : Nat) : Int) := by
  unfold shl
  rw [Int.toNat_natCast, Nat.min_eq_left (show s ≤ IntKind.bits .u64 from by show s ≤ 64; omega)]
  rw [show (x : Int) * 2 ^ s = ((x * 2 ^ s : Nat) : Int) from by push_cast; rfl]
  exact u64_small h
theorem le_Get_loop (l : List Int) (hl : ∀ c ∈ l, 0 ≤ c ∧ c < 256) (hlen : l.length < 4611686018427387904) : ∀ (d i k : Nat) (acc : Int) (a : Nat), i + d = 10 → d < k → i ≤ l.length → (i ≤ 9 → acc = (a : Int) ∧ a < 128 ^ i) →
    le_Get.l0 k l acc (mn (l.length : Int) 10) (i : Int) = some (tellN (getNAux i a (l.drop i))) := by
  have hmn : mn (l.length : Int) 10 = ((min l.length 10 : Nat) : Int) := by unfold mn; split <;> omega
  rw [hmn]
  intro d
  induction d with
  | zero =>
    intro i k acc a hi hk hil _
    obtain ⟨k, rfl⟩ := rounds_of hk
    simp only [le_Get.l0]
    rw [if_neg (by omega), getNAux_late _ _ (by omega)]
    rfl
  | succ d ih =>
    intro i k acc a hi hk hil hA
    obtain ⟨k, rfl⟩ := rounds_of hk
    obtain ⟨rfl, ha⟩ := hA (by omega)
    simp only [le_Get.l0]
    by_cases h : i < l.length
    · have hc := hl (l.getD i 0) (by simp [List.getD, h])
      have hd : l.drop i = l.getD i 0 :: l.drop (i + 1) := by rw [List.drop_eq_getElem_cons h]; simp [List.getD, h]
      rw [if_pos (by omega), if_pos (by omega), if_pos (by omega), show rd l (i : Int) = l.getD i 0 from by simp [rd], hd]
      have ew : wrap64 (7 * (i : Int)) = ((7 * i : Nat) : Int) := by unfold wrap64; omega
      rw [ew, if_pos (by omega), wrap_succ (by omega)]
      obtain ⟨c, hce⟩ := Int.eq_ofNat_of_zero_le hc.1
      rw [hce] at hc ⊢
      have hc2 : c < 256 := by omega
      rw [low_seven hc2, u64_small (show c < 18446744073709551616 from by omega)]
      have hp : (2 : Nat) ^ (7 * i) = 128 ^ i := by rw [Nat.pow_mul]
      have hG : getNAux i a (((c : Nat) : Int) :: l.drop (i + 1)) = if 128 ≤ ((c : Nat) : Int) then getNAux (i + 1) (a + ((c : Nat) : Int).toNat % 128 * 128 ^ i) (l.drop (i + 1)) else if (0 < i ∧ ((c : Nat) : Int) = 0) ∨ (i = 9 ∧ 1 < ((c : Nat) : Int)) then none else some (a + ((c : Nat) : Int).toNat * 128 ^ i, i + 1) := by
        rw [getNAux, if_neg (by omega)]
      rw [hG]
      have hpl : 128 ^ i ≤ 128 ^ 9 := Nat.pow_le_pow_right (by decide) (by omega)
      have h9 : (128 : Nat) ^ 9 = 9223372036854775808 := by decide
      have hsum : ∀ x : Nat, x * 128 ^ i < 18446744073709551616 → Go.bits .or .u64 (a : Int) (shl .u64 (x : Int) ((7 * i : Nat) : Int)) = ((a + x * 128 ^ i : Nat) : Int) := by
        intro x hx
        rw [shl_nat (by omega) (by rw [hp]; exact hx), or_sum (by rw [hp]; exact ha) (by rw [hp]; exact hx) (by omega), hp]
      by_cases h128 : (c : Int) ≥ 128
      · rw [if_pos h128, if_pos (show (128 : Int) ≤ ((c : Nat) : Int) from h128)]
        refine ih (i + 1) k _ (a + ((c : Nat) : Int).toNat % 128 * 128 ^ i) (by omega) (by omega) (by omega) (fun h8 => ?_)
        have hpl8 : 128 ^ i ≤ 128 ^ 8 := Nat.pow_le_pow_right (by decide) (by omega)
        have h88 : (128 : Nat) ^ 8 = 72057594037927936 := by decide
        have hx : c % 128 * 128 ^ i ≤ 127 * 128 ^ i := Nat.mul_le_mul_right _ (by omega)
        rw [hsum _ (by omega)]
        refine ⟨rfl, ?_⟩
        show a + c % 128 * 128 ^ i < 128 ^ (i + 1)
        rw [Nat.pow_succ]
        omega
      · have hcm : c % 128 = c := Nat.mod_eq_of_lt (by omega)
        rw [if_neg h128, if_neg (show ¬ (128 : Int) ≤ ((c : Nat) : Int) from h128), hcm]
        have hlow : ∀ (hx : c * 128 ^ i < 18446744073709551616), some (Go.bits .or .u64 (a : Int) (shl .u64 (c : Int) ((7 * i : Nat) : Int)), ((i + 1 : Nat) : Int), true) = some (tellN (some (a + ((c : Nat) : Int).toNat * 128 ^ i, i + 1))) := by
          intro hx
          rw [hsum _ hx]
          rfl
        have hsmall : i ≠ 9 → c * 128 ^ i < 18446744073709551616 := by
          intro h8
          have hpl8 : 128 ^ i ≤ 128 ^ 8 := Nat.pow_le_pow_right (by decide) (by omega)
          have h88 : (128 : Nat) ^ 8 = 72057594037927936 := by decide
          have hx : c * 128 ^ i ≤ 127 * 128 ^ i := Nat.mul_le_mul_right _ (by omega)
          omega
        have hone : c ≤ 1 → c * 128 ^ i < 18446744073709551616 := by
          intro h1
          have hx : c * 128 ^ i ≤ 1 * 128 ^ i := Nat.mul_le_mul_right _ h1
          omega
        by_cases h0 : (i : Int) > 0
        · rw [if_pos h0]
          by_cases hc0 : (c : Int) = 0
          · rw [if_pos hc0, if_pos (.inl ⟨by omega, hc0⟩)]
            rfl
          · rw [if_neg hc0]
            by_cases hi9 : (i : Int) = 9
            · rw [if_pos hi9]
              by_cases hc1 : (c : Int) > 1
              · rw [if_pos hc1, if_pos (.inr ⟨by omega, hc1⟩)]
                rfl
              · rw [if_neg hc1, if_neg (by omega)]
                exact hlow (hone (by omega))
            · rw [if_neg hi9, if_neg (by omega)]
              exact hlow (hsmall (by omega))
        · rw [if_neg h0, if_neg (by omega), if_neg (by omega)]
          exact hlow (hsmall (by omega))
    · rw [if_neg (by omega), List.drop_of_length_le (by omega)]
      rfl
theorem le_Get_is (l : List Int) (hl : ∀ c ∈ l, 0 ≤ c ∧ c < 256) (hlen : l.length < 4611686018427387904) {k : Nat} (hk : 10 < k) : le_Get.f k l = some (tellN (getN l)) :=
  le_Get_loop l hl hlen 10 0 k 0 0 (by omega) (by omega) (by omega) (fun _ => ⟨rfl, by decide⟩)
theorem le_Get.told (A0 : Option Addr) (c0 : Nat) (l0 : List Int) (w : World) (hb : byteL l0) (hlen : l0.length < 4611686018427387904) (hr0 : Kd.C (Kd.int .u8) w A0 l0.length l0) (hc0 : l0.length ≤ c0) :
    Calls Try.prog 42 #[.slice A0 l0.length c0] w (getPost l0 w) := by
  have h := le_Get_is l0 hb hlen (k := 11) (by decide)
  cases hg : tellN (getN l0) with
  | mk n p =>
    obtain ⟨u, b⟩ := p
    rw [hg] at h
    refine (le_Get.calls 11 A0 c0 l0 n u b w hr0 hc0 h).mono ?_
    rintro e w' ⟨rfl, h3⟩
    unfold getPost
    rw [hg]
    exact ⟨rfl, h3⟩
theorem le_Get.yes (A0 : Option Addr) (c0 : Nat) (l0 : List Int) (w : World) {n u : Nat} (hg : getN l0 = some (n, u)) (hb : byteL l0) (hlen : l0.length < 4611686018427387904) (hr0 : Kd.C (Kd.int .u8) w A0 l0.length l0) (hc0 : l0.length ≤ c0) : Calls Try.prog 42 #[.slice A0 l0.length c0] w (numYes n u w) :=
  (le_Get.told A0 c0 l0 w hb hlen hr0 hc0).mono fun e w' h => by unfold getPost at h; rw [hg] at h; exact h
theorem le_Get.no (A0 : Option Addr) (c0 : Nat) (l0 : List Int) (w : World) (hg : getN l0 = none) (hb : byteL l0) (hlen : l0.length < 4611686018427387904) (hr0 : Kd.C (Kd.int .u8) w A0 l0.length l0) (hc0 : l0.length ≤ c0) : Calls Try.prog 42 #[.slice A0 l0.length c0] w (numNo w) :=
  (le_Get.told A0 c0 l0 w hb hlen hr0 hc0).mono fun e w' h => by unfold getPost at h; rw [hg] at h; exact h
end Go.Proofs.Ytooemobolfoefaa.P

namespace Go.Proofs.Ytooemobolfoefaa.P
open Go.RowKit Go.Proofs.YtooemobolfoefaaW.PrintWords Go.Proofs.YtooemobolfoefaaW.PrintLast Go.Proofs.YtooemobolfoefaaW.PrintMore
attribute [local go_sem] max2_int min2_int max_two min_two max_three min_three max_four min_four   -- for this text's walks alone
set_option linter.unusedVariables false
set_option linter.unusedSimpArgs false
set_option maxHeartbeats 1000000 in
set_option maxRecDepth 100000 in
theorem number_told (w0 : World) (B : Nat) (s : Option (List Int)) (m : Nat) (w : World) (h : RdAt w0 B s w) (hm : m ≤ 1125899906842624) :
    Calls Try.prog 25 #[.pointer (some ⟨B, 0, none⟩), .int .i64 (m : Int)] w (rdPost w0 B (restO s (rN m)) (.int .i64 (wasO 0 s (rN m) : Nat)) w) := by
  have HH := Aside0.mk h
  obtain ⟨⟨A, c, l, bad, h1, h2, h3, h4, h5, hs⟩, h6, h7⟩ := h
  have HR := Aside0.mk h3
  have HC := Aside0.mk h2
  have hwm : IntKind.u64.wrap (m : Int) = (m : Int) := u64_small' (by omega)
  obtain ⟨k1, k2, k3, k4⟩ := know h1
  have HB := Aside0.mk h6
  cases hg : getN l with
  | none =>
    have HN := Aside0.mk (le_Get.no A c l w hg h4 h5 (Kd.C_below h3 h6) h2)
    have e1 : restO s (rN m) = s.bind (skipR 0 false) := by
      rw [hs]
      cases bad
      · show ((some l).bind (rN m)).map (·.2) = (some l).bind (skipR 0 false)
        rw [Option.bind_some, Option.bind_some, rN_none hg]
        rfl
      · rfl
    have e2 : wasO 0 s (rN m) = 0 := by
      rw [hs]
      cases bad
      · show (((some l).bind (rN m)).map (·.1)).getD 0 = 0
        rw [Option.bind_some, rN_none hg]
        rfl
      · rfl
    have e3 : s.bind (skipR 0 false) = none := by
      rw [hs]
      cases bad
      · rfl
      · rfl
    rw [e1, e2]
    have HE3 := Aside0.mk e3
    clear h1 h2 h3 h4 h6 hs hg e1 e2 e3
    go_enter Try.func25, Try.ntmps25
    go_wp2_with fail
    go_at_call 42
    refine HN.out.mono ?_
    rintro e w1 ⟨rfl, hb1⟩
    have HH1 := Aside0.mk (HH.out.grow hb1)
    have HO1 := Aside0.mk (Only.of_below hb1 (Nat.le_of_lt HH.out.lt))
    clear hb1 k1 k2 k3 k4
    go_wp2_with fail
    go_at_call 43
    refine (skip_told w0 B s 0 false _ HH1.out (by decide)).mono ?_
    rintro e w2 ⟨rfl, hrd, ho⟩
    have HRD := Aside0.mk hrd
    have HO2 := Aside0.mk (HO1.out.trans ho)
    obtain ⟨⟨A2, c2, l2, bad2, g1, _, _, _, _, g2⟩, _, _⟩ := hrd
    rw [HE3.out] at g2
    have hbad : bad2 = true := by
      cases bad2
      · cases g2
      · rfl
    subst hbad
    obtain ⟨j1, j2, j3, j4⟩ := know g1
    clear g1 g2 ho
    go_wp2_with fail
    go_ret
    exact ⟨rfl, HRD.out, HO2.out⟩
  | some p =>
    obtain ⟨a, u⟩ := p
    have hlt := (getN_some h4 hg).1
    have hu := getN_used hg
    have HN := Aside0.mk (le_Get.yes A c l w hg h4 h5 (Kd.C_below h3 h6) h2)
    have e1 : restO s (rN m) = s.bind (skipR u (decide (a ≤ m))) := by
      rw [hs]
      cases bad
      · show ((some l).bind (rN m)).map (·.2) = (some l).bind (skipR u (decide (a ≤ m)))
        rw [Option.bind_some, Option.bind_some, rN_some hg]
        unfold skipR
        by_cases hle : a ≤ m
        · rw [if_pos hle, if_pos ⟨decide_eq_true hle, hu.2.1⟩]; rfl
        · rw [if_neg hle, if_neg (fun h => hle (of_decide_eq_true h.1))]; rfl
      · rfl
    have e2 : wasO 0 s (rN m) = if (s.bind (skipR u (decide (a ≤ m)))).isSome then a else 0 := by
      rw [hs]
      cases bad
      · show (((some l).bind (rN m)).map (·.1)).getD 0 = if ((some l).bind (skipR u (decide (a ≤ m)))).isSome then a else 0
        rw [Option.bind_some, Option.bind_some, rN_some hg]
        unfold skipR
        by_cases hle : a ≤ m
        · have h9 : (if decide (a ≤ m) = true ∧ u ≤ l.length then some (l.drop u) else none) = some (l.drop u) := if_pos ⟨decide_eq_true hle, hu.2.1⟩
          rw [if_pos hle, h9]; rfl
        · have h9 : (if decide (a ≤ m) = true ∧ u ≤ l.length then some (l.drop u) else none) = none := if_neg (fun h => hle (of_decide_eq_true h.1))
          rw [if_neg hle, h9]; rfl
      · rfl
    have hle2 : (s.bind (skipR u (decide (a ≤ m)))).isSome = true → a ≤ m := by
      intro hh
      by_cases hle : a ≤ m
      · exact hle
      · exfalso
        rw [decide_eq_false hle] at hh
        cases s with
        | none => cases hh
        | some x => simp [skipR] at hh
    rw [e1, e2]
    have hle1 : decide ((a : Int) ≤ (m : Int)) = decide (a ≤ m) := by rw [decide_eq_decide]; omega
    obtain ⟨q, hq⟩ : ∃ q, decide (a ≤ m) = q := ⟨_, rfl⟩
    rw [hq] at hle1 hle2 ⊢
    obtain ⟨s1, hs1⟩ : ∃ s1, s.bind (skipR u q) = s1 := ⟨_, rfl⟩
    have HS1 := Aside0.mk hs1
    rw [hs1] at hle2 ⊢
    have HLE := Aside0.mk hle2
    obtain ⟨z, hz⟩ : ∃ z : Nat, (if s1.isSome then a else 0) = z := ⟨_, rfl⟩
    rw [hz]
    have HZ := Aside0.mk hz
    clear hz
    have hu63 : u < 4611686018427387904 := by omega
    clear h1 h2 h3 h4 h6 hs hg e1 e2 hs1 hle2 hu hlt h5
    go_enter Try.func25, Try.ntmps25
    go_wp2_with fail
    go_at_call 42
    refine HN.out.mono ?_
    rintro e w1 ⟨rfl, hb1⟩
    have HH1 := Aside0.mk (HH.out.grow hb1)
    have HO1 := Aside0.mk (Only.of_below hb1 (Nat.le_of_lt HH.out.lt))
    clear hb1 k1 k2 k3 k4
    go_wp2_with fail
    go_at_call 43
    refine (skip_told w0 B s u q _ HH1.out hu63).mono ?_
    rintro e w2 ⟨rfl, hrd, ho⟩
    rw [HS1.out] at hrd
    have HRD := Aside0.mk hrd
    have HO2 := Aside0.mk (HO1.out.trans ho)
    obtain ⟨⟨A2, c2, l2, bad2, g1, _, _, _, _, g2⟩, _, _⟩ := hrd
    obtain ⟨j1, j2, j3, j4⟩ := know g1
    clear g1 ho
    cases bad2 with
    | true =>
      rw [if_pos rfl] at g2
      subst g2
      obtain rfl : 0 = z := HZ.out
      go_wp2_with fail
      go_ret
      exact ⟨rfl, HRD.out, HO2.out⟩
    | false =>
      rw [if_neg (by decide)] at g2
      subst g2
      have ham := HLE.out rfl
      obtain rfl : a = z := HZ.out
      have hwa : IntKind.i64.wrap (a : Int) = (a : Int) := IntWalk.i64_in _ (by omega)
      clear ham
      go_wp2_with fail
      go_ret
      exact ⟨rfl, HRD.out, HO2.out⟩
end Go.Proofs.Ytooemobolfoefaa.P

namespace Go.Proofs.Ytooemobolfoefaa.P
open Go.RowKit Go.Proofs.YtooemobolfoefaaW.PrintWords Go.Proofs.YtooemobolfoefaaW.PrintLast Go.Proofs.YtooemobolfoefaaW.PrintMore
attribute [local go_sem] max2_int min2_int max_two min_two max_three min_three max_four min_four   -- for this text's walks alone
set_option linter.unusedVariables false
set_option linter.unusedSimpArgs false
set_option maxHeartbeats 1000000 in
set_option maxRecDepth 100000 in
theorem text_told (w0 : World) (B : Nat) (s : Option (List Int)) (w : World) (h : RdAt w0 B s w) :
    Calls Try.prog 44 #[.pointer (some ⟨B, 0, none⟩)] w (rdPost w0 B (restO s rT) (.string (wasO ⟨#[]⟩ s rT)) w) := by
  have HH := Aside0.mk h
  obtain ⟨s1, hs1⟩ : ∃ s1, restO s (rN 12) = s1 := ⟨_, rfl⟩
  obtain ⟨m, hm⟩ : ∃ m, wasO 0 s (rN 12) = m := ⟨_, rfl⟩
  have hm12 : m ≤ 12 := hm ▸ wasO_rN_le s 12
  have hm63 : m < 4611686018427387904 := by omega
  have HS1 := Aside0.mk hs1
  have HM := Aside0.mk hm
  obtain ⟨s2, hs2⟩ : ∃ s2, s1.bind (skipR m true) = s2 := ⟨_, rfl⟩
  have HS2 := Aside0.mk hs2
  have HE := Aside0.mk (show restO s rT = s2 from by rw [restO_rT, hs1, hm, hs2])
  obtain ⟨t, ht⟩ : ∃ t, wasO (⟨#[]⟩ : ByteArray) s rT = t := ⟨_, rfl⟩
  have HT := Aside0.mk ht
  rw [HE.out, ht]
  clear h hs1 hm hs2 ht hm12
  go_enter Try.func44, Try.ntmps44
  go_wp2_with fail
  go_at_call 25
  refine (number_told w0 B s 12 _ HH.out (by decide)).mono ?_
  rintro e w1 ⟨rfl, hrd, ho⟩
  rw [HS1.out] at hrd
  rw [HM.out]
  have HR1 := Aside0.mk hrd
  have HO1 := Aside0.mk ho
  obtain ⟨⟨A, c, l, bad, g1, g2, g3, g4, g5, g6⟩, g7, g8⟩ := hrd
  obtain ⟨k1, k2, k3, k4⟩ := know g1
  have HC := Aside0.mk g2
  have HL := Aside0.mk g3
  have HBY := Aside0.mk g4
  have HG6 := Aside0.mk g6
  clear g1 g2 g3 g4 g6 g7 ho
  go_wp2_with fail
  go_at_call 43
  refine (skip_told w0 B s1 m true _ HR1.out hm63).mono ?_
  rintro e w2 ⟨rfl, hrd, ho⟩
  rw [HS2.out] at hrd
  have HR2 := Aside0.mk hrd
  have HO2 := Aside0.mk (HO1.out.trans ho)
  obtain ⟨⟨A2, c2, l2, bad2, q1, q2, q3, q4, q5, q6⟩, q7, q8⟩ := hrd
  obtain ⟨j1, j2, j3, j4⟩ := know q1
  have HQ7 := Aside0.mk q7
  clear q1 q2 q3 q4 q7 ho k1 k2 k3 k4
  cases bad2 with
  | true =>
    rw [if_pos rfl] at q6
    subst q6
    have he : t = ⟨#[]⟩ := by
      rw [← HT.out]
      cases hz : s1 with
      | none => exact wasO_rT_none (HS1.out.trans hz)
      | some r =>
        rw [wasO_rT_some (HS1.out.trans hz), HM.out]
        have hz2 := HS2.out
        rw [hz, Option.bind_some] at hz2
        unfold skipR at hz2
        by_cases hle : m ≤ r.length
        · rw [if_pos ⟨rfl, hle⟩] at hz2; cases hz2
        · rw [if_neg hle]
    subst he
    go_wp2_with fail
    go_ret
    exact ⟨rfl, HR2.out, HO2.out⟩
  | false =>
    rw [if_neg (by decide)] at q6
    have hs : s1 = some l ∧ m ≤ l.length ∧ t = strOfNums (l.take m) := by
      cases hz : s1 with
      | none =>
        have hz2 := HS2.out
        rw [hz, q6] at hz2
        cases hz2
      | some r =>
        have hz2 := HS2.out
        rw [hz, q6, Option.bind_some] at hz2
        unfold skipR at hz2
        have h6 := HG6.out
        rw [hz] at h6
        cases bad with
        | true => rw [if_pos rfl] at h6; cases h6
        | false =>
          rw [if_neg (by decide)] at h6
          obtain rfl := Option.some.inj h6
          by_cases hle : m ≤ r.length
          · refine ⟨rfl, hle, ?_⟩
            rw [← HT.out, wasO_rT_some (HS1.out.trans hz), HM.out, if_pos hle]
          · rw [if_neg (fun hh => hle hh.2)] at hz2; cases hz2
    obtain ⟨hs1, hml, rfl⟩ := hs
    obtain ⟨i0, hi0, _, hsz0, _⟩ := info_parts info5
    obtain ⟨hcut, hcC⟩ := take_row (P := Try.prog) (d := Kd.int .u8) Try.underlying25 hi0 A c l m (m : Int) rfl hml HC.out
    have hrow := hcC _ (Kd.C_below HL.out HQ7.out)
    have hlt : (l.take m).length = m := by rw [List.length_take]; omega
    have hconv := Kd.C_string (P := Try.prog) (c := c) Try.underlying25 Try.underlying5 Try.underlying9 hrow
    rw [← hlt] at hconv
    try simp only [hlt] at hconv
    clear hcC hrow hlt hi0 hsz0 hs1 q6 HG6
    go_wp2_with fail
    go_ret
    exact ⟨rfl, HR2.out, HO2.out⟩
end Go.Proofs.Ytooemobolfoefaa.P

namespace Go.Proofs.Ytooemobolfoefaa.P
open Go.RowKit Go.Proofs.YtooemobolfoefaaW.PrintWords Go.Proofs.YtooemobolfoefaaW.PrintLast Go.Proofs.YtooemobolfoefaaW.PrintMore
attribute [local go_sem] max2_int min2_int max_two min_two max_three min_three max_four min_four   -- for this text's walks alone
set_option linter.unusedVariables false
set_option linter.unusedSimpArgs false
def le_Zag.f (a0 : Int) : Option (Int) := some (Go.bits .xor .i64 (wrap64 (a0 / 2)) (wrap64 (-(wrap64 (Go.bits .and .u64 a0 1)))))
set_option maxHeartbeats 8000000 in
set_option maxRecDepth 100000 in
theorem le_Zag.calls (a0 : Int) (r : Int) (w : World) (h : le_Zag.f a0 = some r) :
    Calls Try.prog 79 #[.int .u64 a0] w fun e w' => e = .returned (.int .i64 r) ∧ Drawn0 w w' := by
  have H : (some (Go.bits .xor .i64 (wrap64 (a0 / 2)) (wrap64 (-(wrap64 (Go.bits .and .u64 a0 1)))))) = some r := h
  clear h
  obtain rfl := Option.some.inj H
  go_enter Try.func79, Try.ntmps79
  go_wp2
  go_ret
  exact ⟨by first | rfl | (simp; done) | (simp [*]; done), by repeat (first | exact Drawn0.refl _ | apply Drawn0.step)⟩
theorem zag_is {m : Nat} (h : m < 18446744073709551616) : le_Zag.f (m : Int) = some (zagN m) := by
  unfold le_Zag.f zagN
  have hand : Go.bits .and .u64 (m : Int) 1 = ((m % 2 : Nat) : Int) := by
    show IntKind.wrap .u64 (((BitVec.ofInt 64 (m : Int) &&& BitVec.ofInt 64 1).toNat : Nat) : Int) = _
    rw [BitVec.toNat_and, ofInt_u64 (by omega) (by omega), show (BitVec.ofInt 64 1).toNat = 1 from by decide, Int.toNat_natCast, Nat.and_one_is_mod, wrap_u64]
    omega
  rw [hand]
  have e1 : wrap64 ((m : Int) / 2) = ((m / 2 : Nat) : Int) := by unfold wrap64; omega
  rw [e1]
  by_cases h2 : m % 2 = 0
  · rw [if_pos h2, h2, show wrap64 (-wrap64 ((0 : Nat) : Int)) = 0 from by unfold wrap64; decide]
    rw [xor_zeroI _ (by rw [ofInt_u64 (by omega) (by omega), wrap_i64]; unfold wrap64; omega)]
  · rw [if_neg h2, show m % 2 = 1 from by omega, show wrap64 (-wrap64 ((1 : Nat) : Int)) = -1 from by unfold wrap64; decide]
    show some (IntKind.wrap .i64 (((BitVec.ofInt 64 ((m / 2 : Nat) : Int) ^^^ BitVec.ofInt 64 (-1)).toNat : Nat) : Int)) = _
    rw [show BitVec.ofInt 64 (-1) = BitVec.allOnes 64 from by decide, not64, ofInt_u64 (by omega) (by omega), wrap_i64]
    congr 1
    unfold wrap64
    omega
end Go.Proofs.Ytooemobolfoefaa.P

namespace Go.Proofs.Ytooemobolfoefaa.P
open Go.RowKit Go.Proofs.YtooemobolfoefaaW.PrintWords Go.Proofs.YtooemobolfoefaaW.PrintLast Go.Proofs.YtooemobolfoefaaW.PrintMore
attribute [local go_sem] max2_int min2_int max_two min_two max_three min_three max_four min_four   -- for this text's walks alone
set_option linter.unusedVariables false
set_option linter.unusedSimpArgs false
set_option maxHeartbeats 4000000 in
set_option maxRecDepth 100000 in
theorem value_Get.told (w : World) (A : Option Addr) (c : Nat) (l : List Int) (hr0 : Kd.C (Kd.int .u8) w A l.length l) (hc0 : l.length ≤ c) (hb : byteL l) (hl : l.length < 4611686018427387904) {x : SValue} {m : Nat} {b : Bool} (hq : gotV (getV l) = (x, m, b)) :
    Calls Try.prog 73 #[.slice A l.length c] w (valPost3 x m b w) := by
  have HR := Aside0.mk hr0
  have HC := Aside0.mk hc0
  clear hr0
  cases l with
  | nil =>
    obtain ⟨rfl, rfl, rfl⟩ : x = ⟨0, 0, ⟨#[]⟩⟩ ∧ m = 0 ∧ b = false := by
      have h : ((⟨0, 0, ⟨#[]⟩⟩ : SValue), 0, false) = (x, m, b) := hq
      simp only [Prod.mk.injEq] at h
      exact ⟨h.1.symm, h.2.1.symm, h.2.2.symm⟩
    clear hq hl
    show Calls _ _ #[.slice A 0 c] w _
    have HKr := Aside0.mk (blk_alloc (blk_new w (.cells #[.int .i64 0, .int .i64 0, .string ⟨#[]⟩] 73)) (.cells #[.int .i64 0, .int .i64 0, .string ⟨#[]⟩] 73))
    have HB := Aside0.mk (show Below w.heap.size w ((w.alloc (.cells #[.int .i64 0, .int .i64 0, .string ⟨#[]⟩] 73)).alloc (.cells #[.int .i64 0, .int .i64 0, .string ⟨#[]⟩] 73)) from below_alloc (below_alloc (Below.refl _ _) _) _)
    go_enter Try.func73, Try.ntmps73
    go_wp2
    exact bodyPost_ret (v := .tuple #[.agg #[.int .i64 0, .int .i64 0, .string ⟨#[]⟩], .int .i64 0, .bool false]) (by simp [results, Try.results73, go_sem]) rfl ⟨rfl, HB.out⟩
  | cons k r =>
    have hk := hb k (by simp)
    obtain ⟨hk0, hk1⟩ := hk
    have HBR := Aside0.mk (show byteL r from fun c hc => hb c (by simp [hc]))
    clear hb
    obtain ⟨i0, hi0, _, hsz0, _⟩ := info_parts info5
    obtain ⟨A1, hcut1, hD1, hlc1⟩ := drop_row (P := Try.prog) (d := Kd.int .u8) Try.underlying25 hi0 hsz0 A c (k :: r) 1 1 rfl (by simp) HC.out
    rw [List.drop_succ_cons, List.drop_zero] at hD1 hlc1
    simp only [List.drop_succ_cons, List.drop_zero] at hcut1
    have HD1 := Aside0.mk (hD1 w HR.out)
    have HL1 := Aside0.mk hlc1
    obtain ⟨ad, had, hx⟩ := Kd.at_int HR.out 0 (by omega) (by simp)
    subst had
    replace hx : w.cell? ad = some (.int .u8 k) := hx
    have HX := Aside0.mk hx
    have hlr : r.length + 1 < 4611686018427387904 := by simpa using hl
    have hln : (k :: r).length = r.length + 1 := rfl
    rw [hln] at hcut1 hc0 ⊢
    have HLN := Aside0.mk hln
    clear hD1 hlc1 hx hl hln
    have hw0 : IntKind.wrap .i64 k = k := IntWalk.i64_in _ (by omega)
    cases hg : getN r with
    | none =>
      obtain ⟨rfl, rfl, rfl⟩ : x = ⟨0, 0, ⟨#[]⟩⟩ ∧ m = 0 ∧ b = false := by
        have h : gotV (getV (k :: r)) = ((⟨0, 0, ⟨#[]⟩⟩ : SValue), 0, false) := by unfold getV; simp only [hg]; rfl
        rw [h] at hq
        simp only [Prod.mk.injEq] at hq
        exact ⟨hq.1.symm, hq.2.1.symm, hq.2.2.symm⟩
      have HG := Aside0.mk hg
      clear hg hq hw0
      go_enter Try.func73, Try.ntmps73
      go_wp2_with (go_at_call 42; refine (le_Get.no A1 _ r _ HG.out HBR.out (by omega) (Kd.C_below HD1.out (below_alloc (below_alloc (Below.refl _ _) _) _)) HL1.out).mono ?_; rintro e w1 ⟨rfl, hb1⟩; have HB1 := Aside0.mk (below_step (below_alloc (below_alloc (Below.refl _ _) _) _) hb1); have HKr1 := Aside0.mk (blk_below (blk_alloc (blk_new w (.cells #[.int .i64 0, .int .i64 0, .string ⟨#[]⟩] 73)) (.cells #[.int .i64 0, .int .i64 0, .string ⟨#[]⟩] 73)) hb1); obtain ⟨kr1, kr2, kr3, kr4⟩ := know HKr1.out; have HKn1 := Aside0.mk (blk_below (blk_new2 w (.cells #[.int .i64 0, .int .i64 0, .string ⟨#[]⟩] 73) (.cells #[.int .i64 0, .int .i64 0, .string ⟨#[]⟩] 73)) hb1); obtain ⟨kn1, kn2, kn3, kn4⟩ := know HKn1.out; clear hb1)
      have hz := blk_put3 HKr1.out (.int .i64 0) (.int .i64 0) (.string ⟨#[]⟩)
      have hbz := below_put3 HB1.out (Nat.le_refl _) (.int .i64 0) (.int .i64 0) (.string ⟨#[]⟩)
      generalize World.setCell (World.setCell (World.setCell _ _ _) _ _) _ _ = W3 at hz hbz ⊢
      have hz0 : W3.cell? ⟨w.heap.size, 0, none⟩ = some (.int .i64 0) := blk_cell hz 0
      have hz1 : W3.cell? ⟨w.heap.size, 1, none⟩ = some (.int .i64 0) := blk_cell hz 1
      have hz2 : W3.cell? ⟨w.heap.size, 2, none⟩ = some (.string ⟨#[]⟩) := blk_cell hz 2
      exact bodyPost_ret (v := .tuple #[.agg #[.int .i64 0, .int .i64 0, .string ⟨#[]⟩], .int .i64 0, .bool false]) (by simp [results, Try.results73, go_sem, hz0, hz1, hz2]) rfl ⟨rfl, hbz⟩
    | some p =>
      obtain ⟨n, u⟩ := p
      have hu := (getN_used hg).2
      have hnb : n < 18446744073709551616 := (getN_some HBR.out hg).1
      have HG := Aside0.mk hg
      by_cases hk3 : k = 0
      · subst hk3
        obtain ⟨rfl, rfl, rfl⟩ : x = ⟨0, zagN n, ⟨#[]⟩⟩ ∧ m = u + 1 ∧ b = true := by
          have h : gotV (getV (0 :: r)) = ((⟨0, zagN n, ⟨#[]⟩⟩ : SValue), u + 1, true) := by unfold getV; simp only [hg]; rfl
          rw [h] at hq
          simp only [Prod.mk.injEq] at hq
          exact ⟨hq.1.symm, hq.2.1.symm, hq.2.2.symm⟩
        have HZ := Aside0.mk (zag_is hnb)
        have HZB := Aside0.mk (zag_in hnb)
        have HM := Aside0.mk (show mayV ⟨0, zagN n, ⟨#[]⟩⟩ = true from mayV_iff.2 (.inl ⟨rfl, (by decide +kernel : (⟨#[]⟩ : ByteArray).toList = [])⟩))
        generalize zagN n = z at *
        clear hg hq hw0
        go_enter Try.func73, Try.ntmps73
        go_wp2_with (first
          | (go_at_call 42; refine (le_Get.yes A1 _ r _ HG.out HBR.out (by omega) (Kd.C_below HD1.out (below_alloc (below_alloc (Below.refl _ _) _) _)) HL1.out).mono ?_; rintro e w1 ⟨rfl, hb1⟩; have HB1 := Aside0.mk (below_step (below_alloc (below_alloc (Below.refl _ _) _) _) hb1); have HKr1 := Aside0.mk (blk_below (blk_alloc (blk_new w (.cells #[.int .i64 0, .int .i64 0, .string ⟨#[]⟩] 73)) (.cells #[.int .i64 0, .int .i64 0, .string ⟨#[]⟩] 73)) hb1); obtain ⟨kr1, kr2, kr3, kr4⟩ := know HKr1.out; have HKn1 := Aside0.mk (blk_below (blk_new2 w (.cells #[.int .i64 0, .int .i64 0, .string ⟨#[]⟩] 73) (.cells #[.int .i64 0, .int .i64 0, .string ⟨#[]⟩] 73)) hb1); obtain ⟨kn1, kn2, kn3, kn4⟩ := know HKn1.out; have hx1 := pw_cell_below HB1.out HX.out; clear hb1)
          | (go_at_call 79; refine (le_Zag.calls (n : Int) _ _ HZ.out).mono ?_; rintro e w2 ⟨rfl, hd2⟩; have hb2 := hd2.below; have HB2 := Aside0.mk (below_step (below_alloc HB1.out _) hb2); have HKr2 := Aside0.mk (blk_below (blk_alloc HKr1.out _) hb2); have HKv2 := Aside0.mk (blk_below (blk_new w1 (.cells #[.int .i64 0, .int .i64 0, .string ⟨#[]⟩] 73)) hb2); have hcv2 := cells_of HKv2.out; have hfv2 := frozen_of HKv2.out; clear hb2 hd2)
          | (go_at_call 66; refine (mayV_told ⟨0, z, ⟨#[]⟩⟩ _ HZB.out HM.out).mono ?_; rintro e w3 ⟨rfl, hb3⟩; have HB3 := Aside0.mk (below_step (below_set (j := 1) (v := Value.int .i64 z) (g := w1.heap.size) HB2.out (below_size HB1.out)) hb3); have HKr3 := Aside0.mk (blk_below (blk_far HKr2.out (p := ⟨w1.heap.size, 1, none⟩) (Nat.ne_of_lt (blk_lt HKr1.out)) (Value.int .i64 z)) hb3); have HKv3 := Aside0.mk (blk_below (blk_set HKv2.out 1 (Value.int .i64 z)) hb3); have hcr3 := cells_of HKr3.out; have hfr3 := frozen_of HKr3.out; have hcv3 := cells_of HKv3.out; clear hb3))
        have hz := blk_put3 HKr3.out (.int .i64 0) (.int .i64 z) (.string ⟨#[]⟩)
        have hbz := below_put3 HB3.out (Nat.le_refl _) (.int .i64 0) (.int .i64 z) (.string ⟨#[]⟩)
        generalize World.setCell (World.setCell (World.setCell _ _ _) _ _) _ _ = W3 at hz hbz ⊢
        have hz0 : W3.cell? ⟨w.heap.size, 0, none⟩ = some (.int .i64 0) := blk_cell hz 0
        have hz1 : W3.cell? ⟨w.heap.size, 1, none⟩ = some (.int .i64 z) := blk_cell hz 1
        have hz2 : W3.cell? ⟨w.heap.size, 2, none⟩ = some (.string ⟨#[]⟩) := blk_cell hz 2
        exact bodyPost_ret (v := .tuple #[.agg #[.int .i64 0, .int .i64 z, .string ⟨#[]⟩], .int .i64 ((u + 1 : Nat) : Int), .bool true]) (by simp [results, Try.results73, go_sem, hz0, hz1, hz2]) rfl ⟨rfl, hbz⟩
      · by_cases hk4 : k = 2
        · subst hk4
          have hq2 : gotV (getV (2 :: r)) = if n ≤ 40 ∧ n ≤ r.length - u then (⟨2, 0, strOfNums ((r.drop u).take n)⟩, u + 1 + n, true) else (⟨0, 0, ⟨#[]⟩⟩, 0, false) := by
            have h : getV (2 :: r) = if n ≤ 40 ∧ n ≤ r.length - u then some (⟨2, 0, strOfNums ((r.drop u).take n)⟩, u + 1 + n) else none := by
              unfold getV
              simp only [hg]
              rfl
            rw [h]
            split <;> rfl
          rw [hq2] at hq
          clear hq2 hk3
          have hwe : IntKind.wrap .u64 ((r.length : Int) + 1 - ((u : Int) + 1)) = (r.length : Int) + 1 - ((u : Int) + 1) := by rw [wrap_u64]; omega
          by_cases hfit : n ≤ r.length - u
          · have hwn : IntKind.wrap .i64 (n : Int) = (n : Int) := IntWalk.i64_in _ (by omega)
            obtain ⟨A2, hcut2, hD2, hln2⟩ := mid_row (P := Try.prog) (d := Kd.int .u8) Try.underlying25 hi0 hsz0 (some ad) c (2 :: r) (u + 1) n ((u : Int) + 1) (((u : Int) + 1) + (n : Int)) (by omega) (by omega) (by rw [HLN.out]; omega) HC.out
            rw [List.drop_succ_cons] at hD2 hln2
            rw [HLN.out] at hcut2
            have HD2 := Aside0.mk (hD2 w (by rw [HLN.out]; exact HR.out))
            have hstr := fun (W : World) (h : Below w.heap.size w W) => Kd.C_string (P := Try.prog) (c := c - (u + 1)) Try.underlying25 Try.underlying5 Try.underlying9 (Kd.C_below HD2.out h)
            have hsz : (strOfNums ((r.drop u).take n)).size = n := by rw [strOfNums_size]; exact hln2
            have HSTR := Aside0.mk hstr
            have HSZ := Aside0.mk hsz
            have hf1 : (n : Int) ≤ (r.length : Int) + 1 - ((u : Int) + 1) := by omega
            clear hD2 hln2 hstr hsz
            by_cases h40 : n ≤ 40
            · skip
              obtain ⟨rfl, rfl, rfl⟩ : x = ⟨2, 0, strOfNums ((r.drop u).take n)⟩ ∧ m = u + 1 + n ∧ b = true := by
                rw [if_pos ⟨h40, hfit⟩] at hq
                simp only [Prod.mk.injEq] at hq
                exact ⟨hq.1.symm, hq.2.1.symm, hq.2.2.symm⟩
              have HM := Aside0.mk (show mayV ⟨2, 0, strOfNums ((r.drop u).take n)⟩ = true from by exact mayV_iff.2 (.inr (.inr (.inl ⟨rfl, rfl, by rw [HSZ.out]; omega⟩))))
              generalize strOfNums ((r.drop u).take n) = t at *
              clear hg hq hi0 hsz0
              go_enter Try.func73, Try.ntmps73
              go_wp2_with (first
                | (go_at_call 42; refine (le_Get.yes A1 _ r _ HG.out HBR.out (by omega) (Kd.C_below HD1.out (below_alloc (below_alloc (Below.refl _ _) _) _)) HL1.out).mono ?_; rintro e w1 ⟨rfl, hb1⟩; have HB1 := Aside0.mk (below_step (below_alloc (below_alloc (Below.refl _ _) _) _) hb1); have HKr1 := Aside0.mk (blk_below (blk_alloc (blk_new w (.cells #[.int .i64 0, .int .i64 0, .string ⟨#[]⟩] 73)) (.cells #[.int .i64 0, .int .i64 0, .string ⟨#[]⟩] 73)) hb1); obtain ⟨kr1, kr2, kr3, kr4⟩ := know HKr1.out; have HKn1 := Aside0.mk (blk_below (blk_new2 w (.cells #[.int .i64 0, .int .i64 0, .string ⟨#[]⟩] 73) (.cells #[.int .i64 0, .int .i64 0, .string ⟨#[]⟩] 73)) hb1); obtain ⟨kn1, kn2, kn3, kn4⟩ := know HKn1.out; have hx1 := pw_cell_below HB1.out HX.out; have hstr1 := HSTR.out _ (below_alloc HB1.out (.cells #[.int .i64 2, .int .i64 0, .string ⟨#[]⟩] 73)); clear hb1)
                | (go_at_call 66; refine (mayV_told ⟨2, 0, t⟩ _ zero_i64 HM.out).mono ?_; rintro e w3 ⟨rfl, hb3⟩; have HB3 := Aside0.mk (below_step (below_alloc HB1.out _) hb3); have HKr3 := Aside0.mk (blk_below (blk_alloc HKr1.out _) hb3); have HKv3 := Aside0.mk (blk_below (blk_new w1 (.cells #[.int .i64 2, .int .i64 0, .string t] 73)) hb3); have hcr3 := cells_of HKr3.out; have hfr3 := frozen_of HKr3.out; have hcv3 := cells_of HKv3.out; have HKn3 := Aside0.mk (blk_below (blk_alloc HKn1.out _) hb3); have hcn3 := cells_of HKn3.out; clear hb3))
              have hz := blk_put3 HKr3.out (.int .i64 2) (.int .i64 0) (.string t)
              have hbz := below_put3 HB3.out (Nat.le_refl _) (.int .i64 2) (.int .i64 0) (.string t)
              generalize World.setCell (World.setCell (World.setCell _ _ _) _ _) _ _ = W3 at hz hbz ⊢
              have hz0 : W3.cell? ⟨w.heap.size, 0, none⟩ = some (.int .i64 2) := blk_cell hz 0
              have hz1 : W3.cell? ⟨w.heap.size, 1, none⟩ = some (.int .i64 0) := blk_cell hz 1
              have hz2 : W3.cell? ⟨w.heap.size, 2, none⟩ = some (.string t) := blk_cell hz 2
              exact bodyPost_ret (v := .tuple #[.agg #[.int .i64 2, .int .i64 0, .string t], .int .i64 ((u + 1 + n : Nat) : Int), .bool true]) (by simp [results, Try.results73, go_sem, hz0, hz1, hz2]) rfl ⟨rfl, hbz⟩
            skip
            · skip
              obtain ⟨rfl, rfl, rfl⟩ : x = ⟨0, 0, ⟨#[]⟩⟩ ∧ m = 0 ∧ b = false := by
                rw [if_neg (by omega)] at hq
                simp only [Prod.mk.injEq] at hq
                exact ⟨hq.1.symm, hq.2.1.symm, hq.2.2.symm⟩
              have HM := Aside0.mk (show mayV ⟨2, 0, strOfNums ((r.drop u).take n)⟩ = false from by rw [← Bool.not_eq_true, mayV_iff]; simp only [HSZ.out]; omega)
              generalize strOfNums ((r.drop u).take n) = t at *
              clear hg hq hi0 hsz0
              go_enter Try.func73, Try.ntmps73
              go_wp2_with (first
                | (go_at_call 42; refine (le_Get.yes A1 _ r _ HG.out HBR.out (by omega) (Kd.C_below HD1.out (below_alloc (below_alloc (Below.refl _ _) _) _)) HL1.out).mono ?_; rintro e w1 ⟨rfl, hb1⟩; have HB1 := Aside0.mk (below_step (below_alloc (below_alloc (Below.refl _ _) _) _) hb1); have HKr1 := Aside0.mk (blk_below (blk_alloc (blk_new w (.cells #[.int .i64 0, .int .i64 0, .string ⟨#[]⟩] 73)) (.cells #[.int .i64 0, .int .i64 0, .string ⟨#[]⟩] 73)) hb1); obtain ⟨kr1, kr2, kr3, kr4⟩ := know HKr1.out; have HKn1 := Aside0.mk (blk_below (blk_new2 w (.cells #[.int .i64 0, .int .i64 0, .string ⟨#[]⟩] 73) (.cells #[.int .i64 0, .int .i64 0, .string ⟨#[]⟩] 73)) hb1); obtain ⟨kn1, kn2, kn3, kn4⟩ := know HKn1.out; have hx1 := pw_cell_below HB1.out HX.out; have hstr1 := HSTR.out _ (below_alloc HB1.out (.cells #[.int .i64 2, .int .i64 0, .string ⟨#[]⟩] 73)); clear hb1)
                | (go_at_call 66; refine (mayV_told ⟨2, 0, t⟩ _ zero_i64 HM.out).mono ?_; rintro e w3 ⟨rfl, hb3⟩; have HB3 := Aside0.mk (below_step (below_alloc HB1.out _) hb3); have HKr3 := Aside0.mk (blk_below (blk_alloc HKr1.out _) hb3); have HKv3 := Aside0.mk (blk_below (blk_new w1 (.cells #[.int .i64 2, .int .i64 0, .string t] 73)) hb3); have hcr3 := cells_of HKr3.out; have hfr3 := frozen_of HKr3.out; have hcv3 := cells_of HKv3.out; have HKn3 := Aside0.mk (blk_below (blk_alloc HKn1.out _) hb3); have hcn3 := cells_of HKn3.out; clear hb3))
              have hz := blk_put3 HKr3.out (.int .i64 0) (.int .i64 0) (.string ⟨#[]⟩)
              have hbz := below_put3 HB3.out (Nat.le_refl _) (.int .i64 0) (.int .i64 0) (.string ⟨#[]⟩)
              generalize World.setCell (World.setCell (World.setCell _ _ _) _ _) _ _ = W3 at hz hbz ⊢
              have hz0 : W3.cell? ⟨w.heap.size, 0, none⟩ = some (.int .i64 0) := blk_cell hz 0
              have hz1 : W3.cell? ⟨w.heap.size, 1, none⟩ = some (.int .i64 0) := blk_cell hz 1
              have hz2 : W3.cell? ⟨w.heap.size, 2, none⟩ = some (.string ⟨#[]⟩) := blk_cell hz 2
              exact bodyPost_ret (v := .tuple #[.agg #[.int .i64 0, .int .i64 0, .string ⟨#[]⟩], .int .i64 0, .bool false]) (by simp [results, Try.results73, go_sem, hz0, hz1, hz2]) rfl ⟨rfl, hbz⟩
          · obtain ⟨rfl, rfl, rfl⟩ : x = ⟨0, 0, ⟨#[]⟩⟩ ∧ m = 0 ∧ b = false := by
              rw [if_neg (by omega)] at hq
              simp only [Prod.mk.injEq] at hq
              exact ⟨hq.1.symm, hq.2.1.symm, hq.2.2.symm⟩
            have hf1 : (r.length : Int) + 1 - ((u : Int) + 1) < (n : Int) := by omega
            clear hg hq hi0 hsz0
            go_enter Try.func73, Try.ntmps73
            go_wp2_with (go_at_call 42; refine (le_Get.yes A1 _ r _ HG.out HBR.out (by omega) (Kd.C_below HD1.out (below_alloc (below_alloc (Below.refl _ _) _) _)) HL1.out).mono ?_; rintro e w1 ⟨rfl, hb1⟩; have HB1 := Aside0.mk (below_step (below_alloc (below_alloc (Below.refl _ _) _) _) hb1); have HKr1 := Aside0.mk (blk_below (blk_alloc (blk_new w (.cells #[.int .i64 0, .int .i64 0, .string ⟨#[]⟩] 73)) (.cells #[.int .i64 0, .int .i64 0, .string ⟨#[]⟩] 73)) hb1); obtain ⟨kr1, kr2, kr3, kr4⟩ := know HKr1.out; have HKn1 := Aside0.mk (blk_below (blk_new2 w (.cells #[.int .i64 0, .int .i64 0, .string ⟨#[]⟩] 73) (.cells #[.int .i64 0, .int .i64 0, .string ⟨#[]⟩] 73)) hb1); obtain ⟨kn1, kn2, kn3, kn4⟩ := know HKn1.out; have hx1 := pw_cell_below HB1.out HX.out; clear hb1)
            have hz := blk_put3 (blk_alloc HKr1.out (.cells #[.int .i64 2, .int .i64 0, .string ⟨#[]⟩] 73)) (.int .i64 0) (.int .i64 0) (.string ⟨#[]⟩)
            have hbz := below_put3 (below_alloc HB1.out (.cells #[.int .i64 2, .int .i64 0, .string ⟨#[]⟩] 73)) (Nat.le_refl _) (.int .i64 0) (.int .i64 0) (.string ⟨#[]⟩)
            generalize World.setCell (World.setCell (World.setCell _ _ _) _ _) _ _ = W3 at hz hbz ⊢
            have hz0 : W3.cell? ⟨w.heap.size, 0, none⟩ = some (.int .i64 0) := blk_cell hz 0
            have hz1 : W3.cell? ⟨w.heap.size, 1, none⟩ = some (.int .i64 0) := blk_cell hz 1
            have hz2 : W3.cell? ⟨w.heap.size, 2, none⟩ = some (.string ⟨#[]⟩) := blk_cell hz 2
            exact bodyPost_ret (v := .tuple #[.agg #[.int .i64 0, .int .i64 0, .string ⟨#[]⟩], .int .i64 0, .bool false]) (by simp [results, Try.results73, go_sem, hz0, hz1, hz2]) rfl ⟨rfl, hbz⟩
        · have hq2 := getV_rest hg hk3 hk4 hnb
          rw [hq] at hq2
          clear hq
          have hqb : -9223372036854775808 ≤ IntKind.wrap .i64 (n : Int) ∧ IntKind.wrap .i64 (n : Int) ≤ 9223372036854775807 := by rw [wrap_i64]; unfold wrap64; omega
          obtain ⟨q, hwn⟩ : ∃ q, IntKind.wrap .i64 (n : Int) = q := ⟨_, rfl⟩
          rw [hwn] at hq2 hqb
          have HQB := Aside0.mk hqb
          have e0 : (k == 0) = false := by simpa using hk3
          have e2 : (k == 2) = false := by simpa using hk4
          clear hqb hg hi0 hsz0 hk3 hk4
          cases hm : mayV ⟨k, q, ⟨#[]⟩⟩ with
          | false =>
            rw [hm] at hq2
            obtain ⟨rfl, rfl, rfl⟩ : x = ⟨0, 0, ⟨#[]⟩⟩ ∧ m = 0 ∧ b = false := by
              have h : (x, m, b) = ((⟨0, 0, ⟨#[]⟩⟩ : SValue), 0, false) := hq2
              simp only [Prod.mk.injEq] at h
              exact h
            have HM := Aside0.mk hm
            clear hm hq2
            go_enter Try.func73, Try.ntmps73
            go_wp2_with (first
              | (go_at_call 42; refine (le_Get.yes A1 _ r _ HG.out HBR.out (by omega) (Kd.C_below HD1.out (below_alloc (below_alloc (Below.refl _ _) _) _)) HL1.out).mono ?_; rintro e w1 ⟨rfl, hb1⟩; have HB1 := Aside0.mk (below_step (below_alloc (below_alloc (Below.refl _ _) _) _) hb1); have HKr1 := Aside0.mk (blk_below (blk_alloc (blk_new w (.cells #[.int .i64 0, .int .i64 0, .string ⟨#[]⟩] 73)) (.cells #[.int .i64 0, .int .i64 0, .string ⟨#[]⟩] 73)) hb1); obtain ⟨kr1, kr2, kr3, kr4⟩ := know HKr1.out; have HKn1 := Aside0.mk (blk_below (blk_new2 w (.cells #[.int .i64 0, .int .i64 0, .string ⟨#[]⟩] 73) (.cells #[.int .i64 0, .int .i64 0, .string ⟨#[]⟩] 73)) hb1); obtain ⟨kn1, kn2, kn3, kn4⟩ := know HKn1.out; have hx1 := pw_cell_below HB1.out HX.out; clear hb1)
              | (go_at_call 66; refine (mayV_told ⟨k, q, ⟨#[]⟩⟩ _ HQB.out HM.out).mono ?_; rintro e w3 ⟨rfl, hb3⟩; have HB3 := Aside0.mk (below_step (below_alloc HB1.out _) hb3); have HKr3 := Aside0.mk (blk_below (blk_alloc HKr1.out _) hb3); have HKv3 := Aside0.mk (blk_below (blk_new w1 (.cells #[.int .i64 k, .int .i64 q, .string ⟨#[]⟩] 73)) hb3); have hcr3 := cells_of HKr3.out; have hfr3 := frozen_of HKr3.out; have hcv3 := cells_of HKv3.out; have HKn3 := Aside0.mk (blk_below (blk_alloc HKn1.out _) hb3); have hcn3 := cells_of HKn3.out; clear hb3))
            have hz := blk_put3 HKr3.out (.int .i64 0) (.int .i64 0) (.string ⟨#[]⟩)
            have hbz := below_put3 HB3.out (Nat.le_refl _) (.int .i64 0) (.int .i64 0) (.string ⟨#[]⟩)
            generalize World.setCell (World.setCell (World.setCell _ _ _) _ _) _ _ = W3 at hz hbz ⊢
            have hz0 : W3.cell? ⟨w.heap.size, 0, none⟩ = some (.int .i64 0) := blk_cell hz 0
            have hz1 : W3.cell? ⟨w.heap.size, 1, none⟩ = some (.int .i64 0) := blk_cell hz 1
            have hz2 : W3.cell? ⟨w.heap.size, 2, none⟩ = some (.string ⟨#[]⟩) := blk_cell hz 2
            exact bodyPost_ret (v := .tuple #[.agg #[.int .i64 0, .int .i64 0, .string ⟨#[]⟩], .int .i64 0, .bool false]) (by simp [results, Try.results73, go_sem, hz0, hz1, hz2]) rfl ⟨rfl, hbz⟩
          | true =>
            rw [hm] at hq2
            obtain ⟨rfl, rfl, rfl⟩ : x = ⟨k, q, ⟨#[]⟩⟩ ∧ m = u + 1 ∧ b = true := by
              have h : (x, m, b) = ((⟨k, q, ⟨#[]⟩⟩ : SValue), u + 1, true) := hq2
              simp only [Prod.mk.injEq] at h
              exact h
            have HM := Aside0.mk hm
            clear hm hq2
            go_enter Try.func73, Try.ntmps73
            go_wp2_with (first
              | (go_at_call 42; refine (le_Get.yes A1 _ r _ HG.out HBR.out (by omega) (Kd.C_below HD1.out (below_alloc (below_alloc (Below.refl _ _) _) _)) HL1.out).mono ?_; rintro e w1 ⟨rfl, hb1⟩; have HB1 := Aside0.mk (below_step (below_alloc (below_alloc (Below.refl _ _) _) _) hb1); have HKr1 := Aside0.mk (blk_below (blk_alloc (blk_new w (.cells #[.int .i64 0, .int .i64 0, .string ⟨#[]⟩] 73)) (.cells #[.int .i64 0, .int .i64 0, .string ⟨#[]⟩] 73)) hb1); obtain ⟨kr1, kr2, kr3, kr4⟩ := know HKr1.out; have HKn1 := Aside0.mk (blk_below (blk_new2 w (.cells #[.int .i64 0, .int .i64 0, .string ⟨#[]⟩] 73) (.cells #[.int .i64 0, .int .i64 0, .string ⟨#[]⟩] 73)) hb1); obtain ⟨kn1, kn2, kn3, kn4⟩ := know HKn1.out; have hx1 := pw_cell_below HB1.out HX.out; clear hb1)
              | (go_at_call 66; refine (mayV_told ⟨k, q, ⟨#[]⟩⟩ _ HQB.out HM.out).mono ?_; rintro e w3 ⟨rfl, hb3⟩; have HB3 := Aside0.mk (below_step (below_alloc HB1.out _) hb3); have HKr3 := Aside0.mk (blk_below (blk_alloc HKr1.out _) hb3); have HKv3 := Aside0.mk (blk_below (blk_new w1 (.cells #[.int .i64 k, .int .i64 q, .string ⟨#[]⟩] 73)) hb3); have hcr3 := cells_of HKr3.out; have hfr3 := frozen_of HKr3.out; have hcv3 := cells_of HKv3.out; have HKn3 := Aside0.mk (blk_below (blk_alloc HKn1.out _) hb3); have hcn3 := cells_of HKn3.out; clear hb3))
            have hz := blk_put3 HKr3.out (.int .i64 k) (.int .i64 q) (.string ⟨#[]⟩)
            have hbz := below_put3 HB3.out (Nat.le_refl _) (.int .i64 k) (.int .i64 q) (.string ⟨#[]⟩)
            generalize World.setCell (World.setCell (World.setCell _ _ _) _ _) _ _ = W3 at hz hbz ⊢
            have hz0 : W3.cell? ⟨w.heap.size, 0, none⟩ = some (.int .i64 k) := blk_cell hz 0
            have hz1 : W3.cell? ⟨w.heap.size, 1, none⟩ = some (.int .i64 q) := blk_cell hz 1
            have hz2 : W3.cell? ⟨w.heap.size, 2, none⟩ = some (.string ⟨#[]⟩) := blk_cell hz 2
            exact bodyPost_ret (v := .tuple #[.agg #[.int .i64 k, .int .i64 q, .string ⟨#[]⟩], .int .i64 ((u + 1 : Nat) : Int), .bool true]) (by simp [results, Try.results73, go_sem, hz0, hz1, hz2]) rfl ⟨rfl, hbz⟩
end Go.Proofs.Ytooemobolfoefaa.P

namespace Go.Proofs.Ytooemobolfoefaa.P
open Go.RowKit Go.Proofs.YtooemobolfoefaaW.PrintWords Go.Proofs.YtooemobolfoefaaW.PrintLast Go.Proofs.YtooemobolfoefaaW.PrintMore
attribute [local go_sem] max2_int min2_int max_two min_two max_three min_three max_four min_four   -- for this text's walks alone
set_option linter.unusedVariables false
set_option linter.unusedSimpArgs false
theorem infoThing : (Try.prog.info? 119).map (fun i => (i.zero, i.size, i.bytes)) = some (some .nilIface, 1, 16) := by kernel_rfl
theorem Spares.low {S : Nat → Prop} {w0 W w1 : World} (h : Spares S w0 W) (k : Below w0.heap.size W w1) : Spares S w0 w1 := ⟨h.1.trans (k.mono (Nat.zero_le _)), fun i hi hs => (k.block i hi).trans (h.2 i hi hs)⟩
def pileBlk (v V : Value) (k : Bool) : Obj := .cells #[v, V, .bool k] 105 (0, 0)
def pileRel (w0 : World) (B : Nat) (V : Value) (k : Bool) (xs : List SValue) (w : World) : Prop := ∃ v, w.heap[B]? = some (pileBlk v V k) ∧ Kd.R kThing 119 w w0.heap.size (fun _ => True) v xs ∧ Spares (fun i => i = B) w0 w
theorem pileRel.size {w0 : World} {B : Nat} {V : Value} {k : Bool} {xs : List SValue} {w : World} (h : pileRel w0 B V k xs w) : w0.heap.size ≤ w.heap.size := by obtain ⟨_, _, _, hs⟩ := h; exact hs.size
theorem pileRel.below {w0 : World} {B : Nat} {V : Value} {k : Bool} {xs : List SValue} {w w1 : World} (h : pileRel w0 B V k xs w) (hb : Below w.heap.size w w1) : pileRel w0 B V k xs w1 := by
  obtain ⟨v, h1, h2, h3⟩ := h
  exact ⟨v, blk_below h1 hb, Kd.R_below h2 hb, h3.step hb⟩
theorem thing_types : ∀ q, q ∈ 119 :: kThing.E → q ≠ 105 := by
  intro q hq
  rw [show kThing.E = [] from rfl, List.mem_singleton] at hq
  subst hq
  decide
theorem pile_put {w0 w : World} {B : Nat} {v V v1 : Value} {k : Bool} {xs : List SValue} (h1 : w.heap[B]? = some (pileBlk v V k)) (h2 : Kd.R kThing 119 w w0.heap.size (fun _ => True) v1 xs) (h3 : Spares (fun i => i = B) w0 w) : pileRel w0 B V k xs (w.setCell ⟨B, 0, none⟩ v1) :=
  ⟨v1, blk_put h1 0 v1 rfl, Kd.R_set h2 h1 thing_types 0 v1, h3.set 0 (.inl rfl) v1⟩
set_option maxHeartbeats 1000000 in
set_option maxRecDepth 100000 in
theorem lay_told (w0 : World) (B : Nat) (V : Value) (k : Bool) (xs : List SValue) (x : SValue) (w : World) (h : pileRel w0 B V k xs w) (hB : B < w0.heap.size) (hl : xs.length ≤ 1000) :
    Calls Try.prog 74 #[.pointer (some ⟨B, 0, none⟩), thV x] w fun e w' => e = .returned (.tuple #[]) ∧ pileRel w0 B V k (xs ++ [x]) w' := by
  obtain ⟨v, hb, ho, hs⟩ := h
  obtain ⟨A, c, rfl⟩ := Kd.R_slice ho
  have HO := Aside0.mk ho
  have HS := Aside0.mk hs
  have HK := Aside0.mk hb
  have hne := Kd.R_ne ho hb (by decide : (119 : Nat) ≠ 105)
  have HNE := Aside0.mk hne
  have hone := thV_one x
  unfold pileBlk at hb
  obtain ⟨k1, k2, k3, k4⟩ := know hb
  obtain ⟨t, u, hy⟩ := thV_iface x
  rw [hy] at hone ⊢
  have HY := Aside0.mk hy
  have hsz := hs.size
  clear ho hs hb hne hy hone
  go_enter Try.func74, Try.ntmps74
  go_wp2_with ((with_reducible refine gate_builtin (b := .append) (xs := #[.tmp 8, .tmp 10]) rfl ?_); at_builtin; refine Kd.R_append kThing (w0 := w) w0.heap.size rfl (.tmp 8) (.tmp 10) 102 119 .nilIface 16 rfl Try.underlying102 infoThing rfl (by decide) (by decide) (.slice A xs.length c) xs x [.iface t u] (fun _ => True) (fun _ => False) ?hs ?hx ?aP (fun _ h => h.elim) (fun _ _ => trivial) HO.out (Below.refl _ _) hsz (by omega) ?_; (case hs => rfl); (case hx => rfl); (case aP => rw [← HY.out]; rfl); intro v1 w1 ho1 hb1 hg1 hat1; have HO1 := Aside0.mk ho1; have HB1 := Aside0.mk hb1; have HK1 := Aside0.mk (blk_grown HK.out hg1 HNE.out); obtain ⟨A1, c1, hv1⟩ := Kd.R_slice ho1; rw [List.length_append, List.length_singleton] at hv1; subst hv1; obtain ⟨j1, j2, j3, j4⟩ := know HK1.out; clear ho1 hb1 hg1 hat1 k1 k2 k3 k4)
  go_end0
  exact ⟨rfl, pile_put HK1.out HO1.out (HS.out.low HB1.out)⟩
end Go.Proofs.Ytooemobolfoefaa.P

namespace Go.Proofs.Ytooemobolfoefaa.P
open Go.RowKit Go.Proofs.YtooemobolfoefaaW.PrintWords Go.Proofs.YtooemobolfoefaaW.PrintLast Go.Proofs.YtooemobolfoefaaW.PrintMore
attribute [local go_sem] max2_int min2_int max_two min_two max_three min_three max_four min_four   -- for this text's walks alone
set_option linter.unusedVariables false
set_option linter.unusedSimpArgs false
set_option maxHeartbeats 1000000 in
set_option maxRecDepth 100000 in
theorem cloneTh_told (ad : Addr) (m c : Nat) (l : List SValue) (w : World) (hr0 : Kd.C kThing w (some ad) m l) (hm : m ≤ 1000) :
    Calls Try.prog 80 #[.slice (some ad) m c] w (rowPost kThing 119 l w) := by
  obtain rfl : l.length = m := hr0.1
  have HR := Aside0.mk hr0
  clear hr0
  have hu := Try.underlying102
  have hq := fun (W : World) (m c : Nat) => Go.Lib.run_eql_slice_nil (P := Try.prog) W 102 119 (some ad) m c 0 0 hu
  go_enter Try.func80, Try.ntmps80
  go_wp2_with ((with_reducible refine gate_builtin (b := .append) (xs := #[.tmp 5, .tmp 6]) rfl ?_); at_builtin; refine Kd.R_append_rows kThing (Rr := Kd.K kThing (w.alloc (.cells #[] 119))) (w0 := w) w.heap.size rfl (.tmp 5) (.tmp 6) 102 119 .nilIface 16 rfl Try.underlying102 infoThing rfl (by decide) (by omega) (.slice (some ⟨w.heap.size, 0, none⟩) 0 0) [] l (some ad) l.length c (fun _ => True) (fun _ => False) rfl rfl ?aO ?aR ?aK (fun _ h => h.elim) (fun _ _ => trivial) ?aB ?aS ?aL ?_; (case aO => exact Kd.R_empty _ _ _ _ (Nat.le_refl _)); (case aR => exact Kd.C_below HR.out ((Below.refl _ _).alloc (Nat.le_refl _) _)); (case aB => exact (Below.refl _ _).alloc (Nat.le_refl _) _); (case aK => exact (fun x cs h => h)); (case aS => simp); (case aL => simp; omega); intro v1 w2 ho hb hg hat; have HO := Aside0.mk ho; clear ho hg hat)
  go_ret
  exact ⟨_, rfl, HO.out, hb⟩
end Go.Proofs.Ytooemobolfoefaa.P

namespace Go.Proofs.Ytooemobolfoefaa.P
open Go.RowKit Go.Proofs.YtooemobolfoefaaW.PrintWords Go.Proofs.YtooemobolfoefaaW.PrintLast Go.Proofs.YtooemobolfoefaaW.PrintMore
attribute [local go_sem] max2_int min2_int max_two min_two max_three min_three max_four min_four   -- for this text's walks alone
set_option linter.unusedVariables false
set_option linter.unusedSimpArgs false
def takePost (w0 : World) (B n : Nat) (V : Value) (k : Bool) (xs : List SValue) (w : World) (e : Ending) (w' : World) : Prop := ∃ A c, (e = .returned (.tuple #[.slice (some A) n c, .bool true]) ∧ n ≤ c ∧ Kd.C kThing w' (some A) n (xs.drop (xs.length - n))) ∧ pileRel w0 B V k (xs.take (xs.length - n)) w' ∧ Spares (fun i => i = B) w w'
set_option maxHeartbeats 1000000 in
set_option maxRecDepth 100000 in
theorem take_no (w0 : World) (B n : Nat) (V : Value) (k : Bool) (xs : List SValue) (w : World) (h : pileRel w0 B V k xs w) (hn : xs.length < n) (hn2 : n ≤ 2) :
    Calls Try.prog 77 #[.pointer (some ⟨B, 0, none⟩), .int .i64 (n : Int)] w fun e w' => e = .returned (.tuple #[.slice none 0 0, .bool false]) ∧ w' = w := by
  have HH := Aside0.mk h
  obtain ⟨v, hb, ho, hs⟩ := h
  obtain ⟨A, c, rfl⟩ := Kd.R_slice ho
  unfold pileBlk at hb
  obtain ⟨k1, k2, k3, k4⟩ := know hb
  have hw : IntKind.i64.wrap ((xs.length : Int) - (n : Int)) = (xs.length : Int) - (n : Int) := IntWalk.i64_in _ (by omega)
  have hd : decide ((xs.length : Int) - (n : Int) < 0) = true := decide_eq_true (by omega)
  have hd2 : (xs.length : Int) - (n : Int) < 0 := by omega
  clear ho hs hb hn hn2
  go_enter Try.func77, Try.ntmps77
  go_wp2
  go_ret2
  exact ⟨rfl, rfl⟩
set_option maxHeartbeats 1000000 in
set_option maxRecDepth 100000 in
theorem take_told (w0 : World) (B n : Nat) (V : Value) (k : Bool) (xs : List SValue) (w : World) (h : pileRel w0 B V k xs w) (hB : B < w0.heap.size) (hn0 : 1 ≤ n) (hn2 : n ≤ 2) (hl : xs.length ≤ 1000) (hle : n ≤ xs.length) :
    Calls Try.prog 77 #[.pointer (some ⟨B, 0, none⟩), .int .i64 (n : Int)] w (takePost w0 B n V k xs w) := by
  obtain ⟨v, hb, ho, hs⟩ := h
  obtain ⟨A, c, rfl, hc, hr⟩ := Kd.R_reads ho
  obtain ⟨i0, hi0, _, hsz0, _⟩ := info_parts infoThing
  obtain ⟨m, hm⟩ : ∃ m, xs.length = m + n := ⟨xs.length - n, by omega⟩
  obtain ⟨A', hcut, hC', hlc⟩ := drop_row (P := Try.prog) (d := kThing) Try.underlying102 hi0 hsz0 A c xs m (m : Int) rfl (by omega) hc
  obtain ⟨hcut2, hC2⟩ := take_row (P := Try.prog) (d := kThing) Try.underlying102 hi0 A c xs m (m : Int) rfl (by omega) hc
  have hln : (xs.drop m).length = n := by rw [List.length_drop]; omega
  rw [hln] at hcut hC' hlc
  have hrow := hC' w hr
  obtain ⟨a, rfl⟩ : ∃ a, A' = some a := by
    obtain ⟨ad, e, _⟩ := hrow.2.2 (by omega)
    exact ⟨ad, e⟩
  have HROW := Aside0.mk hrow
  have HO := Aside0.mk ho
  have HS := Aside0.mk hs
  have HK := Aside0.mk hb
  unfold takePost
  rw [show xs.length - n = m from by omega]
  have HT := Aside0.mk (Kd.R_take (m := m) ho (by omega))
  unfold pileBlk at hb
  obtain ⟨k1, k2, k3, k4⟩ := know hb
  have hw : IntKind.i64.wrap ((xs.length : Int) - (n : Int)) = (m : Int) := by rw [IntWalk.i64_in _ (by omega)]; omega
  have hm0 : ¬ (m : Int) < 0 := by omega
  have hn1000 : n ≤ 1000 := by omega
  clear ho hs hb hC' hC2 hlc hi0 hsz0 hr hrow hm
  go_enter Try.func77, Try.ntmps77
  go_wp2_with (go_at_call 80; refine (cloneTh_told a n _ (xs.drop m) _ HROW.out hn1000).mono ?_; rintro e w1 ⟨v1, rfl, ho1, hb1⟩; obtain ⟨A1, c1, hv1, hc1, hr1⟩ := Kd.R_reads ho1; rw [hln] at hv1 hc1 hr1; subst hv1; have HC1 := Aside0.mk hc1; have HR1 := Aside0.mk hr1; have HOR := Aside0.mk ho1; have HB1 := Aside0.mk hb1; have HK1 := Aside0.mk (blk_below HK.out hb1); obtain ⟨j1, j2, j3, j4⟩ := know HK1.out; clear ho1 hb1 hc1 hr1 k1 k2 k3 k4)
  go_ret2
  have hb : A1 ≠ none := by
    rintro rfl
    obtain ⟨ad, e, _⟩ := HR1.out.2.2 (by omega)
    cases e
  obtain ⟨a1, rfl⟩ := Option.ne_none_iff_exists'.1 hb
  refine ⟨a1, c1, ⟨rfl, HC1.out, ?_⟩, pile_put HK1.out (Kd.R_below HT.out HB1.out) (HS.out.step HB1.out), Spares.set (S := fun i => i = B) (Spares.of_below HB1.out) (g := B) 0 (.inl rfl) _⟩
  have hfin := (Kd.R_reads' (Kd.R_set HOR.out HK1.out thing_types 0 (.slice A m c))).2.2
  rwa [hln] at hfin
end Go.Proofs.Ytooemobolfoefaa.P

namespace Go.Proofs.Ytooemobolfoefaa.P
open Go.RowKit Go.Proofs.YtooemobolfoefaaW.PrintWords Go.Proofs.YtooemobolfoefaaW.PrintLast Go.Proofs.YtooemobolfoefaaW.PrintMore
attribute [local go_sem] max2_int min2_int max_two min_two max_three min_three max_four min_four   -- for this text's walks alone
set_option linter.unusedVariables false
set_option linter.unusedSimpArgs false
def cmp_isNaN_int.f (a0 : Int) : Option (Bool) := some (a0 != a0)
set_option maxHeartbeats 8000000 in
set_option maxRecDepth 100000 in
theorem cmp_isNaN_int.calls (a0 : Int) (r : Bool) (w : World) (h : cmp_isNaN_int.f a0 = some r) :
    Calls Try.prog 86 #[.int .i64 a0] w fun e w' => e = .returned (.bool r) ∧ Drawn0 w w' := by
  have H : (some (a0 != a0)) = some r := h
  clear h
  obtain rfl := Option.some.inj H
  go_enter Try.func86, Try.ntmps86
  go_wp2
  go_ret
  exact ⟨by first | rfl | (simp; done) | (simp [*]; done), by repeat (first | exact Drawn0.refl _ | apply Drawn0.step)⟩
end Go.Proofs.Ytooemobolfoefaa.P

namespace Go.Proofs.Ytooemobolfoefaa.P
open Go.RowKit Go.Proofs.YtooemobolfoefaaW.PrintWords Go.Proofs.YtooemobolfoefaaW.PrintLast Go.Proofs.YtooemobolfoefaaW.PrintMore
attribute [local go_sem] max2_int min2_int max_two min_two max_three min_three max_four min_four   -- for this text's walks alone
set_option linter.unusedVariables false
set_option linter.unusedSimpArgs false
def cmp_Or_int.l0 : Nat → Int → List Int → Int → Int → Option (Int)
  | 0, _, _, _, _ => none
  | k + 1, x3, x6, x7, x8 => if x8 < x7 then (if 0 ≤ x8 then (if x8 < (x6.length : Int) then (if (rd x6 x8) = x3 then (cmp_Or_int.l0 k x3 x6 x7 (wrap64 (x8 + 1))) else (some (rd x6 x8))) else (none)) else (none)) else (some x3)
def cmp_Or_int.f (k : Nat) (l0 : List Int) : Option (Int) := cmp_Or_int.l0 k 0 l0 (l0.length : Int) 0
set_option maxHeartbeats 8000000 in
set_option maxRecDepth 100000 in
theorem cmp_Or_int.calls (k : Nat) (A0 : Option Addr) (c0 : Nat) (l0 : List Int) (r : Int) (w : World) (hr0 : Kd.C (Kd.int .i64) w A0 l0.length l0) (hc0 : l0.length ≤ c0) (h : cmp_Or_int.f k l0 = some r) :
    Calls Try.prog 83 #[.slice A0 l0.length c0] w fun e w' => e = .returned (.int .i64 r) ∧ Drawn0 w w' := by
  have HR0 := Aside0.mk hr0
  have HC0 := Aside0.mk hc0
  clear hr0 hc0
  have H : (cmp_Or_int.l0 k 0 l0 (l0.length : Int) 0) = some r := h
  clear h
  have H' := Aside0.mk H
  clear H
  go_enter Try.func83, Try.ntmps83
  go_wp2
  go_loopg [8] k (fun kq v8 w' => ∃ (x8_1 : Int), v8 = .int .i64 x8_1 ∧ Aside0 (cmp_Or_int.l0 kq 0 l0 (l0.length : Int) x8_1 = some r) ∧ Aside0 (kq ≤ k) ∧ Drawn0 w w')
  case atStart => exact ⟨(0), (by first | rfl | (simp; done) | (simp [*]; done)), H', ⟨Nat.le_refl _⟩, by repeat (first | exact Drawn0.refl _ | apply Drawn0.step)⟩
  case round =>
    clear H'
    obtain ⟨x8_1, rfl, HA, HK1, ⟨m1, rfl⟩⟩ := hrel
    cases gk with
    | zero => exact absurd HA.out (by simp [cmp_Or_int.l0])
    | succ k1 =>
      have H := HA.out
      clear HA
      simp only [cmp_Or_int.l0] at H
      by_cases c2 : x8_1 < (l0.length : Int)
      · rw [if_pos c2] at H
        have c2b0 : decide (x8_1 < (l0.length : Int)) = true := decide_eq_true c2
        clear c2
        by_cases c3 : 0 ≤ x8_1
        · rw [if_pos c3] at H
          have c3b0 : decide (0 ≤ x8_1) = true := decide_eq_true c3
          clear c3
          by_cases c4 : x8_1 < (l0.length : Int)
          · rw [if_pos c4] at H
            have c4b0 : decide (x8_1 < (l0.length : Int)) = true := decide_eq_true c4
            clear c4
            by_cases c5 : (rd l0 x8_1) = 0
            · rw [if_pos c5] at H
              have c5b0 : ((rd l0 x8_1) == 0) = true := beq_iff_eq.mpr c5
              have c5b1 : ((rd l0 x8_1) != 0) = false := bne_eq_false_iff_eq.mpr c5
              clear c5
              have H' := Aside0.mk H
              clear H
              have p148 : 0 ≤ (x8_1 : Int) := of_decide_eq_true (by first | (with_reducible assumption) | assumption)
              have q148 : x8_1 < (l0.length : Int) := of_decide_eq_true (by first | (with_reducible assumption) | assumption)
              obtain ⟨ad148, e148, hx148_0⟩ := Kd.at_int HR0.out x8_1 p148 q148
              cases e148
              replace p148 := eq_true p148
              replace q148 := eq_true q148
              go_wp2
              go_roundg k1
              case measure => have := HK1.out; omega
              case rel => exact ⟨(wrap64 (x8_1 + 1)), (by first | rfl | (simp; done) | (simp [*]; done)), H', ⟨by have := HK1.out; omega⟩, by repeat (first | exact Drawn0.refl _ | apply Drawn0.step)⟩
            · rw [if_neg c5] at H
              have c5b0 : ((rd l0 x8_1) == 0) = false := beq_eq_false_iff_ne.mpr c5
              have c5b1 : ((rd l0 x8_1) != 0) = true := bne_iff_ne.mpr c5
              obtain rfl := Option.some.inj H
              have p148 : 0 ≤ (x8_1 : Int) := of_decide_eq_true (by first | (with_reducible assumption) | assumption)
              have q148 : x8_1 < (l0.length : Int) := of_decide_eq_true (by first | (with_reducible assumption) | assumption)
              obtain ⟨ad148, e148, hx148_0⟩ := Kd.at_int HR0.out x8_1 p148 q148
              cases e148
              replace p148 := eq_true p148
              replace q148 := eq_true q148
              go_wp2
              go_ret
              exact ⟨by first | rfl | (simp; done) | (simp [*]; done), by repeat (first | exact Drawn0.refl _ | apply Drawn0.step)⟩
          · rw [if_neg c4] at H
            exact absurd H (by simp)
        · rw [if_neg c3] at H
          exact absurd H (by simp)
      · rw [if_neg c2] at H
        have c2b0 : decide (x8_1 < (l0.length : Int)) = false := decide_eq_false c2
        clear c2
        obtain rfl := Option.some.inj H
        go_wp2
        go_ret
        exact ⟨by first | rfl | (simp; done) | (simp [*]; done), by repeat (first | exact Drawn0.refl _ | apply Drawn0.step)⟩
end Go.Proofs.Ytooemobolfoefaa.P

namespace Go.Proofs.Ytooemobolfoefaa.P
open Go.RowKit Go.Proofs.YtooemobolfoefaaW.PrintWords Go.Proofs.YtooemobolfoefaaW.PrintLast Go.Proofs.YtooemobolfoefaaW.PrintMore
attribute [local go_sem] max2_int min2_int max_two min_two max_three min_three max_four min_four   -- for this text's walks alone
set_option linter.unusedVariables false
set_option linter.unusedSimpArgs false
def cmp_Compare_int.f (a0 : Int) (a1 : Int) : Option (Int) := (cmp_isNaN_int.f a0).bind fun t149 => ((cmp_isNaN_int.f a1).bind fun t150 => (if t149 = true then (if t150 = true then (some 0) else (some (-1))) else (if t150 = true then (some 1) else (if a0 < a1 then (some (-1)) else (if a0 > a1 then (some 1) else (some 0))))))
set_option maxHeartbeats 8000000 in
set_option maxRecDepth 100000 in
theorem cmp_Compare_int.calls (a0 : Int) (a1 : Int) (r : Int) (w : World) (h : cmp_Compare_int.f a0 a1 = some r) :
    Calls Try.prog 84 #[.int .i64 a0, .int .i64 a1] w fun e w' => e = .returned (.int .i64 r) ∧ Drawn0 w w' := by
  have H : ((cmp_isNaN_int.f a0).bind fun t149 => ((cmp_isNaN_int.f a1).bind fun t150 => (if t149 = true then (if t150 = true then (some 0) else (some (-1))) else (if t150 = true then (some 1) else (if a0 < a1 then (some (-1)) else (if a0 > a1 then (some 1) else (some 0))))))) = some r := h
  clear h
  replace H := Option.bind_eq_some_iff.mp H
  obtain ⟨t149, A30, H⟩ := H
  replace H : ((cmp_isNaN_int.f a1).bind fun t150 => (if t149 = true then (if t150 = true then (some 0) else (some (-1))) else (if t150 = true then (some 1) else (if a0 < a1 then (some (-1)) else (if a0 > a1 then (some 1) else (some 0)))))) = some r := H
  have A3 := Aside0.mk A30
  clear A30
  replace H := Option.bind_eq_some_iff.mp H
  obtain ⟨t150, A40, H⟩ := H
  replace H : (if t149 = true then (if t150 = true then (some 0) else (some (-1))) else (if t150 = true then (some 1) else (if a0 < a1 then (some (-1)) else (if a0 > a1 then (some 1) else (some 0))))) = some r := H
  have A4 := Aside0.mk A40
  clear A40
  by_cases c5 : t149 = true
  · subst c5
    have H1 : (if t150 = true then (some 0) else (some (-1))) = some r := by rw [if_pos rfl] at H; exact H
    clear H
    have H := H1
    clear H1
    by_cases c6 : t150 = true
    · subst c6
      have H1 : (some 0) = some r := by rw [if_pos rfl] at H; exact H
      clear H
      have H := H1
      clear H1
      obtain rfl := Option.some.inj H
      go_enter Try.func84, Try.ntmps84
      go_wp2_with (first | ((with_reducible refine gate_callee (f := 86) rfl ?_); refine goesL_ (some 8) rfl rfl Try.func86 (by kernel_rfl) rfl #[.int .i64 a0] rfl (by (try simp only [List.map_toArray, List.map_cons, List.map_nil]); first | done | rfl | (simp only [List.length_drop, List.length_take]; rfl)) ?_; (with_reducible refine (cmp_isNaN_int.calls a0 true _ A3.out).mono ?_); rintro e w' ⟨rfl, ⟨nd, rfl⟩⟩; refine ⟨_, rfl, ?_⟩) | ((with_reducible refine gate_callee (f := 86) rfl ?_); refine goesL_ (some 10) rfl rfl Try.func86 (by kernel_rfl) rfl #[.int .i64 a1] rfl (by (try simp only [List.map_toArray, List.map_cons, List.map_nil]); first | done | rfl | (simp only [List.length_drop, List.length_take]; rfl)) ?_; (with_reducible refine (cmp_isNaN_int.calls a1 true _ A4.out).mono ?_); rintro e w' ⟨rfl, ⟨nd, rfl⟩⟩; refine ⟨_, rfl, ?_⟩))
      go_ret
      exact ⟨by first | rfl | (simp; done) | (simp [*]; done), by repeat (first | exact Drawn0.refl _ | apply Drawn0.step)⟩
    · replace c6 := Bool.eq_false_iff.mpr c6
      subst c6
      have H1 : (some (-1)) = some r := by rw [if_neg (show ¬ (false = true) by decide)] at H; exact H
      clear H
      have H := H1
      clear H1
      obtain rfl := Option.some.inj H
      go_enter Try.func84, Try.ntmps84
      go_wp2_with (first | ((with_reducible refine gate_callee (f := 86) rfl ?_); refine goesL_ (some 8) rfl rfl Try.func86 (by kernel_rfl) rfl #[.int .i64 a0] rfl (by (try simp only [List.map_toArray, List.map_cons, List.map_nil]); first | done | rfl | (simp only [List.length_drop, List.length_take]; rfl)) ?_; (with_reducible refine (cmp_isNaN_int.calls a0 true _ A3.out).mono ?_); rintro e w' ⟨rfl, ⟨nd, rfl⟩⟩; refine ⟨_, rfl, ?_⟩) | ((with_reducible refine gate_callee (f := 86) rfl ?_); refine goesL_ (some 10) rfl rfl Try.func86 (by kernel_rfl) rfl #[.int .i64 a1] rfl (by (try simp only [List.map_toArray, List.map_cons, List.map_nil]); first | done | rfl | (simp only [List.length_drop, List.length_take]; rfl)) ?_; (with_reducible refine (cmp_isNaN_int.calls a1 false _ A4.out).mono ?_); rintro e w' ⟨rfl, ⟨nd, rfl⟩⟩; refine ⟨_, rfl, ?_⟩))
      go_ret
      exact ⟨by first | rfl | (simp; done) | (simp [*]; done), by repeat (first | exact Drawn0.refl _ | apply Drawn0.step)⟩
  · replace c5 := Bool.eq_false_iff.mpr c5
    subst c5
    have H1 : (if t150 = true then (some 1) else (if a0 < a1 then (some (-1)) else (if a0 > a1 then (some 1) else (some 0)))) = some r := by rw [if_neg (show ¬ (false = true) by decide)] at H; exact H
    clear H
    have H := H1
    clear H1
    by_cases c7 : t150 = true
    · subst c7
      have H1 : (some 1) = some r := by rw [if_pos rfl] at H; exact H
      clear H
      have H := H1
      clear H1
      obtain rfl := Option.some.inj H
      go_enter Try.func84, Try.ntmps84
      go_wp2_with (first | ((with_reducible refine gate_callee (f := 86) rfl ?_); refine goesL_ (some 8) rfl rfl Try.func86 (by kernel_rfl) rfl #[.int .i64 a0] rfl (by (try simp only [List.map_toArray, List.map_cons, List.map_nil]); first | done | rfl | (simp only [List.length_drop, List.length_take]; rfl)) ?_; (with_reducible refine (cmp_isNaN_int.calls a0 false _ A3.out).mono ?_); rintro e w' ⟨rfl, ⟨nd, rfl⟩⟩; refine ⟨_, rfl, ?_⟩) | ((with_reducible refine gate_callee (f := 86) rfl ?_); refine goesL_ (some 10) rfl rfl Try.func86 (by kernel_rfl) rfl #[.int .i64 a1] rfl (by (try simp only [List.map_toArray, List.map_cons, List.map_nil]); first | done | rfl | (simp only [List.length_drop, List.length_take]; rfl)) ?_; (with_reducible refine (cmp_isNaN_int.calls a1 true _ A4.out).mono ?_); rintro e w' ⟨rfl, ⟨nd, rfl⟩⟩; refine ⟨_, rfl, ?_⟩))
      go_ret
      exact ⟨by first | rfl | (simp; done) | (simp [*]; done), by repeat (first | exact Drawn0.refl _ | apply Drawn0.step)⟩
    · replace c7 := Bool.eq_false_iff.mpr c7
      subst c7
      have H1 : (if a0 < a1 then (some (-1)) else (if a0 > a1 then (some 1) else (some 0))) = some r := by rw [if_neg (show ¬ (false = true) by decide)] at H; exact H
      clear H
      have H := H1
      clear H1
      by_cases c8 : a0 < a1
      · rw [if_pos c8] at H
        have c8b0 : decide (a0 < a1) = true := decide_eq_true c8
        clear c8
        obtain rfl := Option.some.inj H
        go_enter Try.func84, Try.ntmps84
        go_wp2_with (first | ((with_reducible refine gate_callee (f := 86) rfl ?_); refine goesL_ (some 8) rfl rfl Try.func86 (by kernel_rfl) rfl #[.int .i64 a0] rfl (by (try simp only [List.map_toArray, List.map_cons, List.map_nil]); first | done | rfl | (simp only [List.length_drop, List.length_take]; rfl)) ?_; (with_reducible refine (cmp_isNaN_int.calls a0 false _ A3.out).mono ?_); rintro e w' ⟨rfl, ⟨nd, rfl⟩⟩; refine ⟨_, rfl, ?_⟩) | ((with_reducible refine gate_callee (f := 86) rfl ?_); refine goesL_ (some 10) rfl rfl Try.func86 (by kernel_rfl) rfl #[.int .i64 a1] rfl (by (try simp only [List.map_toArray, List.map_cons, List.map_nil]); first | done | rfl | (simp only [List.length_drop, List.length_take]; rfl)) ?_; (with_reducible refine (cmp_isNaN_int.calls a1 false _ A4.out).mono ?_); rintro e w' ⟨rfl, ⟨nd, rfl⟩⟩; refine ⟨_, rfl, ?_⟩))
        go_ret
        exact ⟨by first | rfl | (simp; done) | (simp [*]; done), by repeat (first | exact Drawn0.refl _ | apply Drawn0.step)⟩
      · rw [if_neg c8] at H
        have c8b0 : decide (a0 < a1) = false := decide_eq_false c8
        clear c8
        by_cases c9 : a0 > a1
        · rw [if_pos c9] at H
          have c9b0 : decide (a1 < a0) = true := decide_eq_true c9
          clear c9
          obtain rfl := Option.some.inj H
          go_enter Try.func84, Try.ntmps84
          go_wp2_with (first | ((with_reducible refine gate_callee (f := 86) rfl ?_); refine goesL_ (some 8) rfl rfl Try.func86 (by kernel_rfl) rfl #[.int .i64 a0] rfl (by (try simp only [List.map_toArray, List.map_cons, List.map_nil]); first | done | rfl | (simp only [List.length_drop, List.length_take]; rfl)) ?_; (with_reducible refine (cmp_isNaN_int.calls a0 false _ A3.out).mono ?_); rintro e w' ⟨rfl, ⟨nd, rfl⟩⟩; refine ⟨_, rfl, ?_⟩) | ((with_reducible refine gate_callee (f := 86) rfl ?_); refine goesL_ (some 10) rfl rfl Try.func86 (by kernel_rfl) rfl #[.int .i64 a1] rfl (by (try simp only [List.map_toArray, List.map_cons, List.map_nil]); first | done | rfl | (simp only [List.length_drop, List.length_take]; rfl)) ?_; (with_reducible refine (cmp_isNaN_int.calls a1 false _ A4.out).mono ?_); rintro e w' ⟨rfl, ⟨nd, rfl⟩⟩; refine ⟨_, rfl, ?_⟩))
          go_ret
          exact ⟨by first | rfl | (simp; done) | (simp [*]; done), by repeat (first | exact Drawn0.refl _ | apply Drawn0.step)⟩
        · rw [if_neg c9] at H
          have c9b0 : decide (a1 < a0) = false := decide_eq_false c9
          clear c9
          obtain rfl := Option.some.inj H
          go_enter Try.func84, Try.ntmps84
          go_wp2_with (first | ((with_reducible refine gate_callee (f := 86) rfl ?_); refine goesL_ (some 8) rfl rfl Try.func86 (by kernel_rfl) rfl #[.int .i64 a0] rfl (by (try simp only [List.map_toArray, List.map_cons, List.map_nil]); first | done | rfl | (simp only [List.length_drop, List.length_take]; rfl)) ?_; (with_reducible refine (cmp_isNaN_int.calls a0 false _ A3.out).mono ?_); rintro e w' ⟨rfl, ⟨nd, rfl⟩⟩; refine ⟨_, rfl, ?_⟩) | ((with_reducible refine gate_callee (f := 86) rfl ?_); refine goesL_ (some 10) rfl rfl Try.func86 (by kernel_rfl) rfl #[.int .i64 a1] rfl (by (try simp only [List.map_toArray, List.map_cons, List.map_nil]); first | done | rfl | (simp only [List.length_drop, List.length_take]; rfl)) ?_; (with_reducible refine (cmp_isNaN_int.calls a1 false _ A4.out).mono ?_); rintro e w' ⟨rfl, ⟨nd, rfl⟩⟩; refine ⟨_, rfl, ?_⟩))
          go_ret
          exact ⟨by first | rfl | (simp; done) | (simp [*]; done), by repeat (first | exact Drawn0.refl _ | apply Drawn0.step)⟩
end Go.Proofs.Ytooemobolfoefaa.P

namespace Go.Proofs.Ytooemobolfoefaa.P
open Go.RowKit Go.Proofs.YtooemobolfoefaaW.PrintWords Go.Proofs.YtooemobolfoefaaW.PrintLast Go.Proofs.YtooemobolfoefaaW.PrintMore
attribute [local go_sem] max2_int min2_int max_two min_two max_three min_three max_four min_four   -- for this text's walks alone
set_option linter.unusedVariables false
set_option linter.unusedSimpArgs false
def cmp_isNaN_string.f (a0 : ByteArray) : Option (Bool) := some (a0.toList != a0.toList)
set_option maxHeartbeats 8000000 in
set_option maxRecDepth 100000 in
theorem cmp_isNaN_string.calls (a0 : ByteArray) (r : Bool) (w : World) (h : cmp_isNaN_string.f a0 = some r) :
    Calls Try.prog 87 #[.string a0] w fun e w' => e = .returned (.bool r) ∧ Drawn0 w w' := by
  have H : (some (a0.toList != a0.toList)) = some r := h
  clear h
  obtain rfl := Option.some.inj H
  go_enter Try.func87, Try.ntmps87
  go_wp2
  go_ret
  exact ⟨by first | rfl | (simp; done) | (simp [*]; done), by repeat (first | exact Drawn0.refl _ | apply Drawn0.step)⟩
end Go.Proofs.Ytooemobolfoefaa.P

namespace Go.Proofs.Ytooemobolfoefaa.P
open Go.RowKit Go.Proofs.YtooemobolfoefaaW.PrintWords Go.Proofs.YtooemobolfoefaaW.PrintLast Go.Proofs.YtooemobolfoefaaW.PrintMore
attribute [local go_sem] max2_int min2_int max_two min_two max_three min_three max_four min_four   -- for this text's walks alone
set_option linter.unusedVariables false
set_option linter.unusedSimpArgs false
def cmpS (a b : ByteArray) : Int := if Op.bytesLess a.toList b.toList = true then -1 else if (a.toList == b.toList) = true then 0 else 1
def cmp_Compare_string.f (a0 : ByteArray) (a1 : ByteArray) : Option Int := some (cmpS a0 a1)
set_option maxHeartbeats 4000000 in
set_option maxRecDepth 100000 in
theorem cmp_Compare_string.calls (a0 : ByteArray) (a1 : ByteArray) (r : Int) (w : World) (h : cmp_Compare_string.f a0 a1 = some r) :
    Calls Try.prog 85 #[.string a0, .string a1] w fun e w' => e = .returned (.int .i64 r) ∧ Drawn0 w w' := by
  obtain rfl := Option.some.inj h
  clear h
  have hN : ∀ s : ByteArray, cmp_isNaN_string.f s = some false := fun s => by
    unfold cmp_isNaN_string.f
    rw [bne_self_eq_false]
  have HN := Aside0.mk hN
  unfold cmpS
  obtain ⟨p, hp⟩ : ∃ p, Op.bytesLess a0.toList a1.toList = p := ⟨_, rfl⟩
  obtain ⟨q, hq⟩ : ∃ q, (a0.toList == a1.toList) = q := ⟨_, rfl⟩
  clear hN
  cases p <;> cases q
  all_goals
    go_enter Try.func85, Try.ntmps85
    go_wp2_with (first
      | (go_at_call 87; refine (cmp_isNaN_string.calls _ false _ (HN.out _)).mono ?_; rintro e w' ⟨rfl, ⟨nd, rfl⟩⟩))
    all_goals
      go_ret
      exact ⟨by simp [*], by repeat (first | exact Drawn0.refl _ | apply Drawn0.step)⟩
end Go.Proofs.Ytooemobolfoefaa.P

namespace Go.Proofs.Ytooemobolfoefaa.P
open Go.RowKit Go.Proofs.YtooemobolfoefaaW.PrintWords Go.Proofs.YtooemobolfoefaaW.PrintLast Go.Proofs.YtooemobolfoefaaW.PrintMore
attribute [local go_sem] max2_int min2_int max_two min_two max_three min_three max_four min_four   -- for this text's walks alone
set_option linter.unusedVariables false
set_option linter.unusedSimpArgs false
def value_Less.j0 : Nat → Bool → Int → Int → ByteArray → Int → Int → ByteArray → Option (Bool × Bool)
  | 0, _, _, _, _, _, _, _ => none
  | k + 1, x20, x152000, x152001, x152002, x153000, x153001, x153002 => if x20 = true then (some (false, false)) else ((cmp_Compare_int.f x152001 x153001).bind fun t155 => ((cmp_Compare_string.f x152002 x153002).bind fun t156 => ((cmp_Or_int.f k (([t155, t156] : List Int))).bind fun t160 => (some (decide (t160 < 0), true)))))
def value_Less.f (k : Nat) (a0_0 : Int) (a0_1 : Int) (a0_2 : ByteArray) (a1_0 : Int) (a1_1 : Int) (a1_2 : ByteArray) : Option (Bool × Bool) := (value_May.f a0_0 a0_1 a0_2).bind fun t153 => (if t153 = true then ((value_May.f a1_0 a1_1 a1_2).bind fun t154 => (if t154 = true then (value_Less.j0 k (a0_0 != a1_0) a0_0 a0_1 a0_2 a1_0 a1_1 a1_2) else (value_Less.j0 k true a0_0 a0_1 a0_2 a1_0 a1_1 a1_2))) else (value_Less.j0 k true a0_0 a0_1 a0_2 a1_0 a1_1 a1_2))
def value_Less.T3 : Bool × List (List Nat × List Nat) := (true, [([], []), ([0], [0]), ([], []), ([2], [2]), ([1, 3], [1, 3]), ([], []), ([5], [5]), ([], []), ([7], [7]), ([6, 8, 4], [6, 8]), ([4, 9], [4, 9]), ([10, 9], [10]), ([11], [11]), ([12, 11, 0, 1, 2, 3, 4, 5, 6, 7, 8, 9, 10, 11, 12], [12]), ([13, 0, 1, 2, 3, 4, 5, 6, 7, 8, 9, 10, 11, 12, 13], [])])
def value_Less.B3 : List Nat := [0, 1, 0, 4, 15, 0, 32, 0, 128, 511, 1023, 2047, 4095, 8191, 16383]
theorem value_Less.tab3 : rtab .any (opsOf Try.f81 3) = value_Less.T3 := by kernel_rfl
theorem value_Less.bits3 : waitsOk value_Less.T3.2 value_Less.B3 = true := by kernel_rfl
set_option maxHeartbeats 8000000 in
set_option maxRecDepth 100000 in
theorem value_Less.calls (k : Nat) (a0_0 : Int) (a0_1 : Int) (a0_2 : ByteArray) (a1_0 : Int) (a1_1 : Int) (a1_2 : ByteArray) (r1 : Bool) (r2 : Bool) (w : World) (h : value_Less.f k a0_0 a0_1 a0_2 a1_0 a1_1 a1_2 = some (r1, r2)) :
    Calls Try.prog 81 #[.agg #[.int .i64 a0_0, .int .i64 a0_1, .string a0_2], .agg #[.int .i64 a1_0, .int .i64 a1_1, .string a1_2]] w fun e w' => e = .returned (.tuple #[.bool r1, .bool r2]) ∧ Below w.heap.size w w' := by
  have hu73 := Try.underlying73
  have HB := Aside0.mk (Below.refl w.heap.size w)
  have H : ((value_May.f a0_0 a0_1 a0_2).bind fun t153 => (if t153 = true then ((value_May.f a1_0 a1_1 a1_2).bind fun t154 => (if t154 = true then (value_Less.j0 k (a0_0 != a1_0) a0_0 a0_1 a0_2 a1_0 a1_1 a1_2) else (value_Less.j0 k true a0_0 a0_1 a0_2 a1_0 a1_1 a1_2))) else (value_Less.j0 k true a0_0 a0_1 a0_2 a1_0 a1_1 a1_2))) = some (r1, r2) := h
  clear h
  have HC3 := Aside0.mk H
  clear H
  go_enter Try.func81, Try.ntmps81
  go_upto_region 1 with (first | ((with_reducible refine gate_dst (N := 2) rfl ?_); refine box_event ?hg (N := 2) ?hd (cs := #[.int .i64 a0_0, .int .i64 a0_1, .string a0_2]) (t := 73) ?hr ?_; (case hd => rfl); (case hg => rfl); (case hr => first | (go_simp; done) | (go_simp; rfl)); intro gb151 hg w4 hbox hb; have n0_ := Aside0.mk (below_step (by repeat (first | (with_reducible first | exact HB.out | apply below_alloc | apply pw_below_drewN | apply below_drew1) | exact HB.out)) hb); have n1_ := Aside0.mk (hbox); have n2_ := Aside0.mk ((by rw [hg]; exact (below_size (by repeat (first | (with_reducible first | exact HB.out | apply below_alloc | apply pw_below_drewN | apply below_drew1) | exact HB.out))) : w.heap.size ≤ gb151)); have n3_ := Aside0.mk ((by rw [hg]; exact (below_size (by repeat (first | (with_reducible first | exact HB.out | apply below_alloc | apply pw_below_drewN | apply below_drew1) | exact HB.out))) : w.heap.size ≤ gb151)); clear HB; have HB := n0_; have BK151 := n1_; have GW151 := n2_; have GE151 := n3_; clear n0_ n1_ n2_ n3_; clear hb hbox hg) | ((with_reducible refine gate_dst (N := 3) rfl ?_); refine box_event ?hg (N := 3) ?hd (cs := #[.int .i64 a1_0, .int .i64 a1_1, .string a1_2]) (t := 73) ?hr ?_; (case hd => rfl); (case hg => rfl); (case hr => first | (go_simp; done) | (go_simp; rfl)); intro gb152 hg w5 hbox hb; have n0_ := Aside0.mk (blk_below (g := gb151) (o := .cells #[.int .i64 a0_0, .int .i64 a0_1, .string a0_2] 73 (0, 0)) (by (with_reducible repeat (first | refine blk_drewN ?_ _ | refine blk_drew ?_ | refine blk_alloc ?_ _)); exact BK151.out) hb); have n1_ := Aside0.mk (below_step (by repeat (first | (with_reducible first | exact HB.out | apply below_alloc | apply pw_below_drewN | apply below_drew1 | refine below_set ?_ GE151.out) | exact HB.out)) hb); have n2_ := Aside0.mk (hbox); have n3_ := Aside0.mk ((by rw [hg]; exact (below_size (by repeat (first | (with_reducible first | exact HB.out | apply below_alloc | apply pw_below_drewN | apply below_drew1 | refine below_set ?_ GE151.out) | exact HB.out))) : w.heap.size ≤ gb152)); have n4_ := Aside0.mk ((by rw [hg]; exact (below_size (by repeat (first | (with_reducible first | exact HB.out | apply below_alloc | apply pw_below_drewN | apply below_drew1 | refine below_set ?_ GE151.out) | exact HB.out))) : w.heap.size ≤ gb152)); have n5_ := Aside0.mk ((by rw [hg]; exact Nat.ne_of_lt (blk_lt (g := gb151) (o := .cells #[.int .i64 a0_0, .int .i64 a0_1, .string a0_2] 73 (0, 0)) (by (with_reducible repeat (first | refine blk_drewN ?_ _ | refine blk_drew ?_ | refine blk_alloc ?_ _)); exact BK151.out)) : gb151 ≠ gb152)); have n6_ := Aside0.mk ((by rw [hg]; exact Nat.ne_of_gt (blk_lt (g := gb151) (o := .cells #[.int .i64 a0_0, .int .i64 a0_1, .string a0_2] 73 (0, 0)) (by (with_reducible repeat (first | refine blk_drewN ?_ _ | refine blk_drew ?_ | refine blk_alloc ?_ _)); exact BK151.out)) : gb152 ≠ gb151)); clear BK151; clear HB; have BK151 := n0_; have HB := n1_; have BK152 := n2_; have GW152 := n3_; have GE152 := n4_; have NB151_152 := n5_; have NB152_151 := n6_; clear n0_ n1_ n2_ n3_ n4_ n5_ n6_; clear hb hbox hg))
  (try simp only [Act.put, List.setIfInBounds_toArray, List.set_cons_zero, List.set_cons_succ])
  go_cut [20] (fun v20 wc => ∃ (kq : Nat) (x20_2 : Bool), v20 = .bool x20_2 ∧ Aside0 (value_Less.j0 kq x20_2 a0_0 a0_1 a0_2 a1_0 a1_1 a1_2 = some (r1, r2)) ∧ Aside0 (kq ≤ k) ∧ Aside0 (wc.heap[gb151]? = some (.cells #[.int .i64 a0_0, .int .i64 a0_1, .string a0_2] 73 (0, 0))) ∧ Aside0 (wc.heap[gb152]? = some (.cells #[.int .i64 a1_0, .int .i64 a1_1, .string a1_2] 73 (0, 0))) ∧ Aside0 (Below w.heap.size w wc))
  case first =>
    have H := HC3.out
    clear HC3
    replace H := Option.bind_eq_some_iff.mp H
    obtain ⟨t153, A60, H⟩ := H
    replace H : (if t153 = true then ((value_May.f a1_0 a1_1 a1_2).bind fun t154 => (if t154 = true then (value_Less.j0 k (a0_0 != a1_0) a0_0 a0_1 a0_2 a1_0 a1_1 a1_2) else (value_Less.j0 k true a0_0 a0_1 a0_2 a1_0 a1_1 a1_2))) else (value_Less.j0 k true a0_0 a0_1 a0_2 a1_0 a1_1 a1_2)) = some (r1, r2) := H
    have A6 := Aside0.mk A60
    clear A60
    by_cases c7 : t153 = true
    · subst c7
      have H1 : ((value_May.f a1_0 a1_1 a1_2).bind fun t154 => (if t154 = true then (value_Less.j0 k (a0_0 != a1_0) a0_0 a0_1 a0_2 a1_0 a1_1 a1_2) else (value_Less.j0 k true a0_0 a0_1 a0_2 a1_0 a1_1 a1_2))) = some (r1, r2) := by rw [if_pos rfl] at H; exact H
      clear H
      have H := H1
      clear H1
      replace H := Option.bind_eq_some_iff.mp H
      obtain ⟨t154, A80, H⟩ := H
      replace H : (if t154 = true then (value_Less.j0 k (a0_0 != a1_0) a0_0 a0_1 a0_2 a1_0 a1_1 a1_2) else (value_Less.j0 k true a0_0 a0_1 a0_2 a1_0 a1_1 a1_2)) = some (r1, r2) := H
      have A8 := Aside0.mk A80
      clear A80
      by_cases c9 : t154 = true
      · subst c9
        have H1 : (value_Less.j0 k (a0_0 != a1_0) a0_0 a0_1 a0_2 a1_0 a1_1 a1_2) = some (r1, r2) := by rw [if_pos rfl] at H; exact H
        clear H
        have H := H1
        clear H1
        have H' := Aside0.mk H
        clear H
        have hnb10 := NB151_152.out
        have hnc10 := NB152_151.out
        have hcz11_0 : w5.cell? ⟨gb151, 0, none⟩ = some (.int .i64 a0_0) := (blk_cell BK151.out 0).trans rfl
        have hcz11_1 : w5.cell? ⟨gb151, 1, none⟩ = some (.int .i64 a0_1) := (blk_cell BK151.out 1).trans rfl
        have hcz11_2 : w5.cell? ⟨gb151, 2, none⟩ = some (.string a0_2) := (blk_cell BK151.out 2).trans rfl
        have hfz11_0 := blk_frozen BK151.out 0
        have hfz11_1 := blk_frozen BK151.out 1
        have hfz11_2 := blk_frozen BK151.out 2
        go_wp2_with (first | ((with_reducible refine gate_callee (f := 66) rfl ?_); refine goesL_ (some 7) rfl rfl Try.func66 (by kernel_rfl) rfl #[.agg #[.int .i64 a0_0, .int .i64 a0_1, .string a0_2]] rfl (by (try simp only [List.map_toArray, List.map_cons, List.map_nil]); first | done | rfl | (simp only [List.length_drop, List.length_take]; rfl)) ?_; (with_reducible refine (value_May.calls a0_0 a0_1 a0_2 true _ A6.out).mono ?_); rintro e w12 ⟨rfl, hb⟩; refine ⟨_, rfl, ?_⟩; have n0_ := Aside0.mk (blk_below (g := gb151) (o := .cells #[.int .i64 a0_0, .int .i64 a0_1, .string a0_2] 73 (0, 0)) (by (with_reducible repeat (first | refine blk_drewN ?_ _ | refine blk_drew ?_ | refine blk_alloc ?_ _)); exact BK151.out) hb); have n1_ := Aside0.mk (blk_below (g := gb152) (o := .cells #[.int .i64 a1_0, .int .i64 a1_1, .string a1_2] 73 (0, 0)) (by (with_reducible repeat (first | refine blk_drewN ?_ _ | refine blk_drew ?_ | refine blk_alloc ?_ _)); exact BK152.out) hb); have n2_ := Aside0.mk (below_step (by repeat (first | (with_reducible first | exact HB.out | apply below_alloc | apply pw_below_drewN | apply below_drew1 | refine below_set ?_ GE151.out | refine below_set ?_ GE152.out) | exact HB.out)) hb); clear BK151; clear BK152; clear HB; have BK151 := n0_; have BK152 := n1_; have HB := n2_; clear n0_ n1_ n2_; (try clear hb); (try clear hb2); (try clear hk); (try clear hi); have hcz13_0 : w12.cell? ⟨gb152, 0, none⟩ = some (.int .i64 a1_0) := (blk_cell BK152.out 0).trans rfl; have hcz13_1 : w12.cell? ⟨gb152, 1, none⟩ = some (.int .i64 a1_1) := (blk_cell BK152.out 1).trans rfl; have hcz13_2 : w12.cell? ⟨gb152, 2, none⟩ = some (.string a1_2) := (blk_cell BK152.out 2).trans rfl; have hfz13_0 := blk_frozen BK152.out 0; have hfz13_1 := blk_frozen BK152.out 1; have hfz13_2 := blk_frozen BK152.out 2) | (go_at_call 66; (with_reducible refine (value_May.calls a1_0 a1_1 a1_2 true _ A8.out).mono ?_); rintro e w14 ⟨rfl, hb⟩; have n0_ := Aside0.mk (blk_below (g := gb151) (o := .cells #[.int .i64 a0_0, .int .i64 a0_1, .string a0_2] 73 (0, 0)) (by (with_reducible repeat (first | refine blk_drewN ?_ _ | refine blk_drew ?_ | refine blk_alloc ?_ _)); exact BK151.out) hb); have n1_ := Aside0.mk (blk_below (g := gb152) (o := .cells #[.int .i64 a1_0, .int .i64 a1_1, .string a1_2] 73 (0, 0)) (by (with_reducible repeat (first | refine blk_drewN ?_ _ | refine blk_drew ?_ | refine blk_alloc ?_ _)); exact BK152.out) hb); have n2_ := Aside0.mk (below_step (by repeat (first | (with_reducible first | exact HB.out | apply below_alloc | apply pw_below_drewN | apply below_drew1 | refine below_set ?_ GE151.out | refine below_set ?_ GE152.out) | exact HB.out)) hb); clear BK151; clear BK152; clear HB; have BK151 := n0_; have BK152 := n1_; have HB := n2_; clear n0_ n1_ n2_; (try clear hb); (try clear hb2); (try clear hk); (try clear hi); have hcz15_0 : w14.cell? ⟨gb151, 0, none⟩ = some (.int .i64 a0_0) := (blk_cell BK151.out 0).trans rfl; have hcz15_1 : w14.cell? ⟨gb151, 1, none⟩ = some (.int .i64 a0_1) := (blk_cell BK151.out 1).trans rfl; have hcz15_2 : w14.cell? ⟨gb151, 2, none⟩ = some (.string a0_2) := (blk_cell BK151.out 2).trans rfl; have hfz15_0 := blk_frozen BK151.out 0; have hfz15_1 := blk_frozen BK151.out 1; have hfz15_2 := blk_frozen BK151.out 2; have hcz16_0 : w14.cell? ⟨gb152, 0, none⟩ = some (.int .i64 a1_0) := (blk_cell BK152.out 0).trans rfl; have hcz16_1 : w14.cell? ⟨gb152, 1, none⟩ = some (.int .i64 a1_1) := (blk_cell BK152.out 1).trans rfl; have hcz16_2 : w14.cell? ⟨gb152, 2, none⟩ = some (.string a1_2) := (blk_cell BK152.out 2).trans rfl; have hfz16_0 := blk_frozen BK152.out 0; have hfz16_1 := blk_frozen BK152.out 1; have hfz16_2 := blk_frozen BK152.out 2))
        go_meet
        case rel => exact ⟨_, ((a0_0 != a1_0)), (by first | rfl | (simp; done) | (simp [*]; done)), H', ⟨by first | omega | exact Nat.le_refl _⟩, ⟨by (with_reducible repeat (first | refine blk_drewN ?_ _ | refine blk_drew ?_ | refine blk_alloc ?_ _)); exact BK151.out⟩, ⟨by (with_reducible repeat (first | refine blk_drewN ?_ _ | refine blk_drew ?_ | refine blk_alloc ?_ _)); exact BK152.out⟩, ⟨by repeat (first | (with_reducible first | exact HB.out | apply below_alloc | apply pw_below_drewN | apply below_drew1 | refine below_set ?_ GE151.out | refine below_set ?_ GE152.out) | exact HB.out)⟩⟩
      · replace c9 := Bool.eq_false_iff.mpr c9
        subst c9
        have H1 : (value_Less.j0 k true a0_0 a0_1 a0_2 a1_0 a1_1 a1_2) = some (r1, r2) := by rw [if_neg (show ¬ (false = true) by decide)] at H; exact H
        clear H
        have H := H1
        clear H1
        have H' := Aside0.mk H
        clear H
        have hnb17 := NB151_152.out
        have hnc17 := NB152_151.out
        have hcz18_0 : w5.cell? ⟨gb151, 0, none⟩ = some (.int .i64 a0_0) := (blk_cell BK151.out 0).trans rfl
        have hcz18_1 : w5.cell? ⟨gb151, 1, none⟩ = some (.int .i64 a0_1) := (blk_cell BK151.out 1).trans rfl
        have hcz18_2 : w5.cell? ⟨gb151, 2, none⟩ = some (.string a0_2) := (blk_cell BK151.out 2).trans rfl
        have hfz18_0 := blk_frozen BK151.out 0
        have hfz18_1 := blk_frozen BK151.out 1
        have hfz18_2 := blk_frozen BK151.out 2
        go_wp2_with (first | ((with_reducible refine gate_callee (f := 66) rfl ?_); refine goesL_ (some 7) rfl rfl Try.func66 (by kernel_rfl) rfl #[.agg #[.int .i64 a0_0, .int .i64 a0_1, .string a0_2]] rfl (by (try simp only [List.map_toArray, List.map_cons, List.map_nil]); first | done | rfl | (simp only [List.length_drop, List.length_take]; rfl)) ?_; (with_reducible refine (value_May.calls a0_0 a0_1 a0_2 true _ A6.out).mono ?_); rintro e w19 ⟨rfl, hb⟩; refine ⟨_, rfl, ?_⟩; have n0_ := Aside0.mk (blk_below (g := gb151) (o := .cells #[.int .i64 a0_0, .int .i64 a0_1, .string a0_2] 73 (0, 0)) (by (with_reducible repeat (first | refine blk_drewN ?_ _ | refine blk_drew ?_ | refine blk_alloc ?_ _)); exact BK151.out) hb); have n1_ := Aside0.mk (blk_below (g := gb152) (o := .cells #[.int .i64 a1_0, .int .i64 a1_1, .string a1_2] 73 (0, 0)) (by (with_reducible repeat (first | refine blk_drewN ?_ _ | refine blk_drew ?_ | refine blk_alloc ?_ _)); exact BK152.out) hb); have n2_ := Aside0.mk (below_step (by repeat (first | (with_reducible first | exact HB.out | apply below_alloc | apply pw_below_drewN | apply below_drew1 | refine below_set ?_ GE151.out | refine below_set ?_ GE152.out) | exact HB.out)) hb); clear BK151; clear BK152; clear HB; have BK151 := n0_; have BK152 := n1_; have HB := n2_; clear n0_ n1_ n2_; (try clear hb); (try clear hb2); (try clear hk); (try clear hi); have hcz20_0 : w19.cell? ⟨gb152, 0, none⟩ = some (.int .i64 a1_0) := (blk_cell BK152.out 0).trans rfl; have hcz20_1 : w19.cell? ⟨gb152, 1, none⟩ = some (.int .i64 a1_1) := (blk_cell BK152.out 1).trans rfl; have hcz20_2 : w19.cell? ⟨gb152, 2, none⟩ = some (.string a1_2) := (blk_cell BK152.out 2).trans rfl; have hfz20_0 := blk_frozen BK152.out 0; have hfz20_1 := blk_frozen BK152.out 1; have hfz20_2 := blk_frozen BK152.out 2) | (go_at_call 66; (with_reducible refine (value_May.calls a1_0 a1_1 a1_2 false _ A8.out).mono ?_); rintro e w21 ⟨rfl, hb⟩; have n0_ := Aside0.mk (blk_below (g := gb151) (o := .cells #[.int .i64 a0_0, .int .i64 a0_1, .string a0_2] 73 (0, 0)) (by (with_reducible repeat (first | refine blk_drewN ?_ _ | refine blk_drew ?_ | refine blk_alloc ?_ _)); exact BK151.out) hb); have n1_ := Aside0.mk (blk_below (g := gb152) (o := .cells #[.int .i64 a1_0, .int .i64 a1_1, .string a1_2] 73 (0, 0)) (by (with_reducible repeat (first | refine blk_drewN ?_ _ | refine blk_drew ?_ | refine blk_alloc ?_ _)); exact BK152.out) hb); have n2_ := Aside0.mk (below_step (by repeat (first | (with_reducible first | exact HB.out | apply below_alloc | apply pw_below_drewN | apply below_drew1 | refine below_set ?_ GE151.out | refine below_set ?_ GE152.out) | exact HB.out)) hb); clear BK151; clear BK152; clear HB; have BK151 := n0_; have BK152 := n1_; have HB := n2_; clear n0_ n1_ n2_; (try clear hb); (try clear hb2); (try clear hk); (try clear hi)))
        go_meet
        case rel => exact ⟨_, (true), (by first | rfl | (simp; done) | (simp [*]; done)), H', ⟨by first | omega | exact Nat.le_refl _⟩, ⟨by (with_reducible repeat (first | refine blk_drewN ?_ _ | refine blk_drew ?_ | refine blk_alloc ?_ _)); exact BK151.out⟩, ⟨by (with_reducible repeat (first | refine blk_drewN ?_ _ | refine blk_drew ?_ | refine blk_alloc ?_ _)); exact BK152.out⟩, ⟨by repeat (first | (with_reducible first | exact HB.out | apply below_alloc | apply pw_below_drewN | apply below_drew1 | refine below_set ?_ GE151.out | refine below_set ?_ GE152.out) | exact HB.out)⟩⟩
    · replace c7 := Bool.eq_false_iff.mpr c7
      subst c7
      have H1 : (value_Less.j0 k true a0_0 a0_1 a0_2 a1_0 a1_1 a1_2) = some (r1, r2) := by rw [if_neg (show ¬ (false = true) by decide)] at H; exact H
      clear H
      have H := H1
      clear H1
      have H' := Aside0.mk H
      clear H
      have hnb22 := NB151_152.out
      have hnc22 := NB152_151.out
      have hcz23_0 : w5.cell? ⟨gb151, 0, none⟩ = some (.int .i64 a0_0) := (blk_cell BK151.out 0).trans rfl
      have hcz23_1 : w5.cell? ⟨gb151, 1, none⟩ = some (.int .i64 a0_1) := (blk_cell BK151.out 1).trans rfl
      have hcz23_2 : w5.cell? ⟨gb151, 2, none⟩ = some (.string a0_2) := (blk_cell BK151.out 2).trans rfl
      have hfz23_0 := blk_frozen BK151.out 0
      have hfz23_1 := blk_frozen BK151.out 1
      have hfz23_2 := blk_frozen BK151.out 2
      go_wp2_with (first | ((with_reducible refine gate_callee (f := 66) rfl ?_); refine goesL_ (some 7) rfl rfl Try.func66 (by kernel_rfl) rfl #[.agg #[.int .i64 a0_0, .int .i64 a0_1, .string a0_2]] rfl (by (try simp only [List.map_toArray, List.map_cons, List.map_nil]); first | done | rfl | (simp only [List.length_drop, List.length_take]; rfl)) ?_; (with_reducible refine (value_May.calls a0_0 a0_1 a0_2 false _ A6.out).mono ?_); rintro e w24 ⟨rfl, hb⟩; refine ⟨_, rfl, ?_⟩; have n0_ := Aside0.mk (blk_below (g := gb151) (o := .cells #[.int .i64 a0_0, .int .i64 a0_1, .string a0_2] 73 (0, 0)) (by (with_reducible repeat (first | refine blk_drewN ?_ _ | refine blk_drew ?_ | refine blk_alloc ?_ _)); exact BK151.out) hb); have n1_ := Aside0.mk (blk_below (g := gb152) (o := .cells #[.int .i64 a1_0, .int .i64 a1_1, .string a1_2] 73 (0, 0)) (by (with_reducible repeat (first | refine blk_drewN ?_ _ | refine blk_drew ?_ | refine blk_alloc ?_ _)); exact BK152.out) hb); have n2_ := Aside0.mk (below_step (by repeat (first | (with_reducible first | exact HB.out | apply below_alloc | apply pw_below_drewN | apply below_drew1 | refine below_set ?_ GE151.out | refine below_set ?_ GE152.out) | exact HB.out)) hb); clear BK151; clear BK152; clear HB; have BK151 := n0_; have BK152 := n1_; have HB := n2_; clear n0_ n1_ n2_; (try clear hb); (try clear hb2); (try clear hk); (try clear hi)))
      go_meet
      case rel => exact ⟨_, (true), (by first | rfl | (simp; done) | (simp [*]; done)), H', ⟨by first | omega | exact Nat.le_refl _⟩, ⟨by (with_reducible repeat (first | refine blk_drewN ?_ _ | refine blk_drew ?_ | refine blk_alloc ?_ _)); exact BK151.out⟩, ⟨by (with_reducible repeat (first | refine blk_drewN ?_ _ | refine blk_drew ?_ | refine blk_alloc ?_ _)); exact BK152.out⟩, ⟨by repeat (first | (with_reducible first | exact HB.out | apply below_alloc | apply pw_below_drewN | apply below_drew1 | refine below_set ?_ GE151.out | refine below_set ?_ GE152.out) | exact HB.out)⟩⟩
  case rest =>
    clear HC3
    try clear c1
    try clear c2
    try clear p2
    try clear c6
    try clear c7
    try clear c8
    try clear c9
    try clear c10
    try clear c17
    try clear c22
    try clear hcz11_0
    try clear hcz11_1
    try clear hcz11_2
    try clear hcz13_0
    try clear hcz13_1
    try clear hcz13_2
    try clear hcz15_0
    try clear hcz15_1
    try clear hcz15_2
    try clear hcz16_0
    try clear hcz16_1
    try clear hcz16_2
    try clear hcz18_0
    try clear hcz18_1
    try clear hcz18_2
    try clear hcz20_0
    try clear hcz20_1
    try clear hcz20_2
    try clear hcz23_0
    try clear hcz23_1
    try clear hcz23_2
    try clear hfz11_0
    try clear hfz11_1
    try clear hfz11_2
    try clear hfz13_0
    try clear hfz13_1
    try clear hfz13_2
    try clear hfz15_0
    try clear hfz15_1
    try clear hfz15_2
    try clear hfz16_0
    try clear hfz16_1
    try clear hfz16_2
    try clear hfz18_0
    try clear hfz18_1
    try clear hfz18_2
    try clear hfz20_0
    try clear hfz20_1
    try clear hfz20_2
    try clear hfz23_0
    try clear hfz23_1
    try clear hfz23_2
    obtain ⟨kq, x20_2, rfl, HA, HJ2, BK151, BK152, HB⟩ := hcut
    cases kq with
    | zero => exact absurd HA.out (by simp [value_Less.j0])
    | succ kj2 =>
      have H := HA.out
      clear HA
      simp only [value_Less.j0] at H
      by_cases c25 : x20_2 = true
      · subst c25
        have H1 : (some (false, false)) = some (r1, r2) := by rw [if_pos rfl] at H; exact H
        clear H
        have H := H1
        clear H1
        simp only [Option.some.injEq, Prod.mk.injEq] at H
        obtain ⟨rfl, rfl⟩ := H
        go_wp2
        go_ret2
        exact ⟨by first | rfl | (simp [errW_none, errW_some] <;> rfl) | (simp [*, errW_none, errW_some] <;> rfl), by repeat (first | (with_reducible first | exact HB.out | apply below_alloc | apply pw_below_drewN | apply below_drew1 | refine below_set ?_ GE151.out | refine below_set ?_ GE152.out) | exact HB.out)⟩
      · replace c25 := Bool.eq_false_iff.mpr c25
        subst c25
        have H1 : ((cmp_Compare_int.f a0_1 a1_1).bind fun t155 => ((cmp_Compare_string.f a0_2 a1_2).bind fun t156 => ((cmp_Or_int.f kj2 (([t155, t156] : List Int))).bind fun t160 => (some (decide (t160 < 0), true))))) = some (r1, r2) := by rw [if_neg (show ¬ (false = true) by decide)] at H; exact H
        clear H
        have H := H1
        clear H1
        replace H := Option.bind_eq_some_iff.mp H
        obtain ⟨t155, A260, H⟩ := H
        replace H : ((cmp_Compare_string.f a0_2 a1_2).bind fun t156 => ((cmp_Or_int.f kj2 (([t155, t156] : List Int))).bind fun t160 => (some (decide (t160 < 0), true)))) = some (r1, r2) := H
        have A26 := Aside0.mk A260
        clear A260
        replace H := Option.bind_eq_some_iff.mp H
        obtain ⟨t156, A270, H⟩ := H
        replace H : ((cmp_Or_int.f kj2 (([t155, t156] : List Int))).bind fun t160 => (some (decide (t160 < 0), true))) = some (r1, r2) := H
        have A27 := Aside0.mk A270
        clear A270
        obtain ⟨y157, hy157⟩ : ∃ y_ : List Int, y_ = (([t155, t156] : List Int)) := ⟨_, rfl⟩
        replace H : ((cmp_Or_int.f kj2 y157).bind fun t160 => (some (decide (t160 < 0), true))) = some (r1, r2) := by first | (rw [hy157]; with_reducible exact H) | (have H2_ := (Option.bind_some _ _).symm.trans H; rw [hy157]; with_reducible exact H2_) | (have H2_ := (Option.bind_some _ _).symm.trans H; with_reducible exact H2_) | with_reducible exact H | (rw [hy157]; exact H) | exact H
        have Ny157 := Aside0.mk hy157
        clear hy157
        replace H := Option.bind_eq_some_iff.mp H
        obtain ⟨t160, A280, H⟩ := H
        replace H : (some (decide (t160 < 0), true)) = some (r1, r2) := H
        have A28 := Aside0.mk A280
        clear A280
        simp only [Option.some.injEq, Prod.mk.injEq] at H
        obtain ⟨rfl, rfl⟩ := H
        try go_wp2
        have n0_ := Aside0.mk (blk_drew BK151.out)
        have n1_ := Aside0.mk (blk_drew BK152.out)
        have n2_ := Aside0.mk (below_drew1 HB.out)
        clear BK151
        clear BK152
        clear HB
        have BK151 := n0_
        have BK152 := n1_
        have HB := n2_
        clear n0_ n1_ n2_
        refine start_ (n := 15) (S := fun w' => w'.cell? ⟨gb151, 0, none⟩ = some (.int .i64 a0_0) ∧ w'.cell? ⟨gb151, 1, none⟩ = some (.int .i64 a0_1) ∧ w'.cell? ⟨gb151, 2, none⟩ = some (.string a0_2) ∧ w'.cell? ⟨gb152, 0, none⟩ = some (.int .i64 a1_0) ∧ w'.cell? ⟨gb152, 1, none⟩ = some (.int .i64 a1_1) ∧ w'.cell? ⟨gb152, 2, none⟩ = some (.string a1_2)) (ds := []) #[false, false, false, false, false, false, false, false, false, false, false, false, false, false, false] (by kernel_rfl) rfl rfl ⟨(blk_cell BK151.out 0).trans rfl, (blk_cell BK151.out 1).trans rfl, (blk_cell BK151.out 2).trans rfl, (blk_cell BK152.out 0).trans rfl, (blk_cell BK152.out 1).trans rfl, (blk_cell BK152.out 2).trans rfl⟩ (fun hHeld => ?_); refine with_tabW value_Less.tab3 value_Less.bits3 (fun HT_ HW_ => ?_)
        generalize wc.drew = w29 at BK151 BK152 HB hHeld ⊢
        refine pure_ (i := 0) (N := some 21) (v := ?_) (a' := ?_) #[true, false, false, false, false, false, false, false, false, false, false, false, false, false, false] rfl rfl (any_of HT_.out (by kernel_rfl)) (fun _ _ _ h => h) (Or.inl ⟨by rfl, ?_⟩) ?_ ?_
        rotate_left
        · intro w'
          go_simp
          with_reducible rfl
        rotate_left
        · simp only [Act.put, List.setIfInBounds_toArray, List.set_cons_zero, List.set_cons_succ, i64_w, i32_w]
          rfl
        refine pure_ (i := 2) (N := some 23) (v := ?_) (a' := ?_) #[true, false, true, false, false, false, false, false, false, false, false, false, false, false, false] rfl rfl (any_of HT_.out (by kernel_rfl)) (fun _ _ _ h => h) (Or.inl ⟨by rfl, ?_⟩) ?_ ?_
        rotate_left
        · intro w'
          go_simp
          with_reducible rfl
        rotate_left
        · simp only [Act.put, List.setIfInBounds_toArray, List.set_cons_zero, List.set_cons_succ, i64_w, i32_w]
          rfl
        refine pure_ (i := 5) (N := some 26) (v := ?_) (a' := ?_) #[true, false, true, false, false, true, false, false, false, false, false, false, false, false, false] rfl rfl (any_of HT_.out (by kernel_rfl)) (fun _ _ _ h => h) (Or.inl ⟨by rfl, ?_⟩) ?_ ?_
        rotate_left
        · intro w'
          go_simp
          with_reducible rfl
        rotate_left
        · simp only [Act.put, List.setIfInBounds_toArray, List.set_cons_zero, List.set_cons_succ, i64_w, i32_w]
          rfl
        refine pure_ (i := 7) (N := some 28) (v := ?_) (a' := ?_) #[true, false, true, false, false, true, false, true, false, false, false, false, false, false, false] rfl rfl (any_of HT_.out (by kernel_rfl)) (fun _ _ _ h => h) (Or.inl ⟨by rfl, ?_⟩) ?_ ?_
        rotate_left
        · intro w'
          go_simp
          with_reducible rfl
        rotate_left
        · simp only [Act.put, List.setIfInBounds_toArray, List.set_cons_zero, List.set_cons_succ, i64_w, i32_w]
          rfl
        refine take_ (i := 1) (N := some 22) (v := ?_) (a' := ?_) #[true, true, true, false, false, true, false, true, false, false, false, false, false, false, false] rfl rfl (take_ofW HT_.out HW_.out (by kernel_rfl)) (fun _ _ _ h => h) (Or.inl ⟨by rfl, ?_⟩) hHeld ?_ ?_
        rotate_left
        · rintro w' ⟨s0, s1, s2, s3, s4, s5⟩
          go_simp
          with_reducible rfl
        rotate_left
        · simp only [Act.put, List.setIfInBounds_toArray, List.set_cons_zero, List.set_cons_succ, i64_w, i32_w]
          rfl
        refine take_ (i := 3) (N := some 24) (v := ?_) (a' := ?_) #[true, true, true, true, false, true, false, true, false, false, false, false, false, false, false] rfl rfl (take_ofW HT_.out HW_.out (by kernel_rfl)) (fun _ _ _ h => h) (Or.inl ⟨by rfl, ?_⟩) hHeld ?_ ?_
        rotate_left
        · rintro w' ⟨s0, s1, s2, s3, s4, s5⟩
          go_simp
          with_reducible rfl
        rotate_left
        · simp only [Act.put, List.setIfInBounds_toArray, List.set_cons_zero, List.set_cons_succ, i64_w, i32_w]
          rfl
        refine take_ (i := 6) (N := some 27) (v := ?_) (a' := ?_) #[true, true, true, true, false, true, true, true, false, false, false, false, false, false, false] rfl rfl (take_ofW HT_.out HW_.out (by kernel_rfl)) (fun _ _ _ h => h) (Or.inl ⟨by rfl, ?_⟩) hHeld ?_ ?_
        rotate_left
        · rintro w' ⟨s0, s1, s2, s3, s4, s5⟩
          go_simp
          with_reducible rfl
        rotate_left
        · simp only [Act.put, List.setIfInBounds_toArray, List.set_cons_zero, List.set_cons_succ, i64_w, i32_w]
          rfl
        refine take_ (i := 8) (N := some 29) (v := ?_) (a' := ?_) #[true, true, true, true, false, true, true, true, true, false, false, false, false, false, false] rfl rfl (take_ofW HT_.out HW_.out (by kernel_rfl)) (fun _ _ _ h => h) (Or.inl ⟨by rfl, ?_⟩) hHeld ?_ ?_
        rotate_left
        · rintro w' ⟨s0, s1, s2, s3, s4, s5⟩
          go_simp
          with_reducible rfl
        rotate_left
        · simp only [Act.put, List.setIfInBounds_toArray, List.set_cons_zero, List.set_cons_succ, i64_w, i32_w]
          rfl
        refine one_ (i := 4) (N := some 25) #[true, true, true, true, true, true, true, true, true, false, false, false, false, false, false] rfl rfl (one_of HT_.out (by kernel_rfl)) (by decide) (fun K hK => ?_)
        refine goes_ Try.func84 (by kernel_rfl) rfl #[.int .i64 a0_1, .int .i64 a1_1] (by rfl) rfl rfl (by (try simp only [List.map_toArray, List.map_cons, List.map_nil]); first | done | rfl | (simp only [List.length_drop, List.length_take]; rfl)) ?_
        with_reducible refine (cmp_Compare_int.calls a0_1 a1_1 t155 _ A26.out).mono ?_
        rintro e w' ⟨rfl, ⟨nd, rfl⟩⟩
        refine ⟨_, rfl, ?_⟩
        refine hK.out _ _ ⟨(blk_cell BK151.out 0).trans rfl, (blk_cell BK151.out 1).trans rfl, (blk_cell BK151.out 2).trans rfl, (blk_cell BK152.out 0).trans rfl, (blk_cell BK152.out 1).trans rfl, (blk_cell BK152.out 2).trans rfl⟩ (fun hHeld => ?_)
        clear hK K
        refine norm_ (a' := ?_) ?_ ?_
        rotate_left
        · show Act.put _ (some 25) _ = _
          simp only [Act.put, List.setIfInBounds_toArray, List.set_cons_zero, List.set_cons_succ, i64_w, i32_w]
          rfl
        refine one_ (i := 9) (N := some 30) #[true, true, true, true, true, true, true, true, true, true, false, false, false, false, false] rfl rfl (one_of HT_.out (by kernel_rfl)) (by decide) (fun K hK => ?_)
        refine goes_ Try.func85 (by kernel_rfl) rfl #[.string a0_2, .string a1_2] (by rfl) rfl rfl (by (try simp only [List.map_toArray, List.map_cons, List.map_nil]); first | done | rfl | (simp only [List.length_drop, List.length_take]; rfl)) ?_
        with_reducible refine (cmp_Compare_string.calls a0_2 a1_2 t156 _ A27.out).mono ?_
        rintro e w' ⟨rfl, ⟨nd, rfl⟩⟩
        refine ⟨_, rfl, ?_⟩
        refine hK.out _ _ ⟨(blk_cell BK151.out 0).trans rfl, (blk_cell BK151.out 1).trans rfl, (blk_cell BK151.out 2).trans rfl, (blk_cell BK152.out 0).trans rfl, (blk_cell BK152.out 1).trans rfl, (blk_cell BK152.out 2).trans rfl⟩ (fun hHeld => ?_)
        clear hK K
        refine norm_ (a' := ?_) ?_ ?_
        rotate_left
        · show Act.put _ (some 30) _ = _
          simp only [Act.put, List.setIfInBounds_toArray, List.set_cons_zero, List.set_cons_succ, i64_w, i32_w]
          rfl
        refine one_ (i := 10) (N := some 31) #[true, true, true, true, true, true, true, true, true, true, true, false, false, false, false] rfl rfl (one_of HT_.out (by kernel_rfl)) (by decide) (fun K hK => ?_)
        refine Kd.R_lit_step (Kd.int .i64) _ 3 ?hg (N := 31) ?hd (xs := ([t155, t156] : List Int)) (inner := [.int .i64 t155, .int .i64 t156]) (ok := fun _ => True) (okp := fun _ => True) ?hr ?hp (fun _ hk => hk) trivial (Below.refl _ _) (Nat.le_refl _) (by simp) ?_; (case hd => rfl); (case hg => rfl); (case hr => first | (go_simp; done) | (go_simp; rfl)); (case hp => exact (Reps.one (show Kd.M (Kd.int .i64) _ _ _ t155 [.int .i64 t155] from rfl) (Reps.one (show Kd.M (Kd.int .i64) _ _ _ t156 [.int .i64 t156] from rfl) (Reps.none _ _))))
        intro v158 w30 ho31 hb hg_ hnew_
        clear hg_ hnew_
        (first | rw [← Ny157.out] at ho31 | (simp only [Int.reduceToNat] at ho31; rw [← Ny157.out] at ho31))
        have n0_ := Aside0.mk (Kd.R_lower ho31 (below_size (by repeat (first | (with_reducible first | exact HB.out | apply below_alloc | apply pw_below_drewN | apply below_drew1 | refine below_set ?_ GE151.out | refine below_set ?_ GE152.out) | exact HB.out))))
        have n1_ := Aside0.mk (blk_below (g := gb151) (o := .cells #[.int .i64 a0_0, .int .i64 a0_1, .string a0_2] 73 (0, 0)) (by (with_reducible repeat (first | refine blk_drewN ?_ _ | refine blk_drew ?_ | refine blk_alloc ?_ _)); exact BK151.out) hb)
        have n2_ := Aside0.mk (blk_below (g := gb152) (o := .cells #[.int .i64 a1_0, .int .i64 a1_1, .string a1_2] 73 (0, 0)) (by (with_reducible repeat (first | refine blk_drewN ?_ _ | refine blk_drew ?_ | refine blk_alloc ?_ _)); exact BK152.out) hb)
        have n3_ := Aside0.mk (below_step (by repeat (first | (with_reducible first | exact HB.out | apply below_alloc | apply pw_below_drewN | apply below_drew1 | refine below_set ?_ GE151.out | refine below_set ?_ GE152.out) | exact HB.out)) hb)
        clear BK151
        clear BK152
        clear HB
        have HO159 := n0_
        have BK151 := n1_
        have BK152 := n2_
        have HB := n3_
        clear n0_ n1_ n2_ n3_
        clear hb ho31
        obtain ⟨Ao32, co32, eo32⟩ := Kd.R_slice HO159.out
        (first | subst eo32 | (injection eo32 with f1_ f2_ f3_; have f4_ := f1_.symm; have f5_ := f3_.symm; clear f1_ f2_ f3_; subst f4_; subst f5_))
        refine hK.out _ _ ⟨(blk_cell BK151.out 0).trans rfl, (blk_cell BK151.out 1).trans rfl, (blk_cell BK151.out 2).trans rfl, (blk_cell BK152.out 0).trans rfl, (blk_cell BK152.out 1).trans rfl, (blk_cell BK152.out 2).trans rfl⟩ (fun hHeld => ?_)
        clear hK K
        refine norm_ (a' := ?_) ?_ ?_
        rotate_left
        · show Act.put _ (some 31) _ = _
          simp only [Act.put, List.setIfInBounds_toArray, List.set_cons_zero, List.set_cons_succ, i64_w, i32_w]
          rfl
        refine one_ (i := 11) (N := some 32) #[true, true, true, true, true, true, true, true, true, true, true, true, false, false, false] rfl rfl (one_of HT_.out (by kernel_rfl)) (by decide) (fun K hK => ?_)
        refine goes_ Try.func83 (by kernel_rfl) rfl #[.slice Ao32 y157.length co32] (by rfl) rfl rfl (by (try simp only [List.map_toArray, List.map_cons, List.map_nil]); first | done | rfl | (simp only [List.length_drop, List.length_take]; rfl)) ?_
        with_reducible refine (cmp_Or_int.calls kj2 _ _ y157 t160 _ ?side1 ?side2 A28.out).mono ?_
        (case side1 => repeat (first | exact (Kd.R_reads' HO159.out).2.2 | (with_reducible refine Kd.C_alloc ?_ _) | (with_reducible refine Kd.C_drewN ?_ _) | (with_reducible refine Kd.C_drew ?_)))
        (case side2 => exact (Kd.R_reads' HO159.out).2.1)
        rintro e w' ⟨rfl, ⟨nd, rfl⟩⟩
        refine ⟨_, rfl, ?_⟩
        refine hK.out _ _ ⟨(blk_cell BK151.out 0).trans rfl, (blk_cell BK151.out 1).trans rfl, (blk_cell BK151.out 2).trans rfl, (blk_cell BK152.out 0).trans rfl, (blk_cell BK152.out 1).trans rfl, (blk_cell BK152.out 2).trans rfl⟩ (fun hHeld => ?_)
        clear hK K
        refine norm_ (a' := ?_) ?_ ?_
        rotate_left
        · show Act.put _ (some 32) _ = _
          simp only [Act.put, List.setIfInBounds_toArray, List.set_cons_zero, List.set_cons_succ, i64_w, i32_w]
          rfl
        refine pure_ (i := 12) (N := some 33) (v := ?_) (a' := ?_) #[true, true, true, true, true, true, true, true, true, true, true, true, true, false, false] rfl rfl (any_of HT_.out (by kernel_rfl)) (fun _ _ _ h => h) (Or.inl ⟨by rfl, ?_⟩) ?_ ?_
        rotate_left
        · intro w'
          go_simp
          with_reducible rfl
        rotate_left
        · simp only [Act.put, List.setIfInBounds_toArray, List.set_cons_zero, List.set_cons_succ, i64_w, i32_w]
          rfl
        refine pure_ (i := 13) (N := some 4) (v := ?_) (a' := ?_) #[true, true, true, true, true, true, true, true, true, true, true, true, true, true, false] rfl rfl (any_of HT_.out (by kernel_rfl)) (fun _ _ _ h => h) (Or.inl ⟨by rfl, ?_⟩) ?_ ?_
        rotate_left
        · intro w'
          go_simp
          with_reducible rfl
        rotate_left
        · simp only [Act.put, List.setIfInBounds_toArray, List.set_cons_zero, List.set_cons_succ, i64_w, i32_w]
          rfl
        refine pure_ (i := 14) (N := some 5) (v := ?_) (a' := ?_) #[true, true, true, true, true, true, true, true, true, true, true, true, true, true, true] rfl rfl (any_of HT_.out (by kernel_rfl)) (fun _ _ _ h => h) (Or.inl ⟨by rfl, ?_⟩) ?_ ?_
        rotate_left
        · intro w'
          go_simp
          with_reducible rfl
        rotate_left
        · simp only [Act.put, List.setIfInBounds_toArray, List.set_cons_zero, List.set_cons_succ, i64_w, i32_w]
          rfl
        refine done_ (done_of HT_.out (by kernel_rfl)) ?_
        try go_wp2
        go_ret2
        exact ⟨by first | rfl | (simp [errW_none, errW_some] <;> rfl) | (simp [*, errW_none, errW_some] <;> rfl), by repeat (first | (with_reducible first | exact HB.out | apply below_alloc | apply pw_below_drewN | apply below_drew1 | refine below_set ?_ GE151.out | refine below_set ?_ GE152.out) | exact HB.out)⟩
theorem or_two (a b : Int) : cmp_Or_int.f 5 [a, b] = some (if a = 0 then b else a) := by
  unfold cmp_Or_int.f
  simp only [cmp_Or_int.l0, List.length_cons, List.length_nil]
  have e0 : rd [a, b] 0 = a := rfl
  have e1 : rd [a, b] 1 = b := rfl
  have e2 : wrap64 (0 + 1) = 1 := by decide +kernel
  have e3 : wrap64 (1 + 1) = 2 := by decide +kernel
  rw [if_pos (by decide), if_pos (by decide), if_pos (by decide), e0]
  by_cases h : a = 0
  · rw [if_pos h, if_pos h, e2, if_pos (by decide), if_pos (by decide), if_pos (by decide), e1, e3]
    by_cases hb : b = 0
    · rw [if_pos hb, if_neg (by decide), hb]
    · rw [if_neg hb]
  · rw [if_neg h, if_neg h]
theorem cmp_int_is (a b : Int) : cmp_Compare_int.f a b = some (if a < b then -1 else if a > b then 1 else 0) := by
  unfold cmp_Compare_int.f cmp_isNaN_int.f
  rw [bne_self_eq_false, bne_self_eq_false, Option.bind_some, Option.bind_some, if_neg (by decide), if_neg (by decide)]
  split
  · rfl
  split <;> rfl
theorem less_is {x y : SValue} (hx : okV x) (hy : okV y) (he : x.f0 = y.f0) : value_Less.f 6 x.f0 x.f1 x.f2 y.f0 y.f1 y.f2 = some (lessV x y, true) := by
  unfold value_Less.f
  have mx : value_May.f x.f0 x.f1 x.f2 = some true := by unfold value_May.f; rw [if_pos (show -9223372036854775808 ≤ x.f1 ∧ x.f1 ≤ 9223372036854775807 from hx.2), show mayV ⟨x.f0, x.f1, x.f2⟩ = true from hx.1]
  have my : value_May.f y.f0 y.f1 y.f2 = some true := by unfold value_May.f; rw [if_pos (show -9223372036854775808 ≤ y.f1 ∧ y.f1 ≤ 9223372036854775807 from hy.2), show mayV ⟨y.f0, y.f1, y.f2⟩ = true from hy.1]
  have hne : (x.f0 != y.f0) = false := by rw [he]; exact bne_self_eq_false _
  rw [mx, my, Option.bind_some, Option.bind_some, if_pos rfl, if_pos rfl, hne]
  simp only [value_Less.j0]
  rw [if_neg (by decide), cmp_int_is, Option.bind_some, show cmp_Compare_string.f x.f2 y.f2 = some (cmpS x.f2 y.f2) from rfl, Option.bind_some, or_two, Option.bind_some]
  unfold lessV
  by_cases h2 : x.f0 = 2
  · have h3 : y.f0 = 2 := he ▸ h2
    rw [if_pos h2, (mayV_bytes hx.1 h2).1, (mayV_bytes hy.1 h3).1]
    rw [if_pos (by decide)]
    unfold cmpS
    cases Op.bytesLess x.f2.toList y.f2.toList
    · rw [if_neg (by decide)]
      split <;> rfl
    · rw [if_pos rfl]; rfl
  · have h3 : y.f0 ≠ 2 := fun h => h2 (he.trans h)
    have hc : cmpS x.f2 y.f2 = 0 := by unfold cmpS; rw [mayV_text hx.1 h2, mayV_text hy.1 h3]; rfl
    rw [if_neg h2, hc]
    congr 2
    rw [decide_eq_decide]
    split <;> (split at * <;> omega)
theorem less_told (x y : SValue) (w : World) (hx : okV x) (hy : okV y) (he : x.f0 = y.f0) {b : Bool} (hb : lessV x y = b) : Calls Try.prog 81 #[.agg #[.int .i64 x.f0, .int .i64 x.f1, .string x.f2], .agg #[.int .i64 y.f0, .int .i64 y.f1, .string y.f2]] w fun e w' => e = .returned (.tuple #[.bool b, .bool true]) ∧ Below w.heap.size w w' := by
  subst hb
  exact value_Less.calls 6 _ _ _ _ _ _ _ _ w (less_is hx hy he)
end Go.Proofs.Ytooemobolfoefaa.P

namespace Go.Proofs.Ytooemobolfoefaa.P
open Go.RowKit Go.Proofs.YtooemobolfoefaaW.PrintWords Go.Proofs.YtooemobolfoefaaW.PrintLast Go.Proofs.YtooemobolfoefaaW.PrintMore
attribute [local go_sem] max2_int min2_int max_two min_two max_three min_three max_four min_four   -- for this text's walks alone
set_option linter.unusedVariables false
set_option linter.unusedSimpArgs false
def expr_sum.f (a0 : Int) (a1 : Int) (a2 : Int) : Option (Int × Bool) := if a0 = 2 then (some (wrap64 (a1 + a2), ((decide ((wrap64 (a1 + a2)) > a1)) == (decide (a2 > 0))))) else (if a0 = 3 then (some (wrap64 (a1 - a2), ((decide ((wrap64 (a1 - a2)) < a1)) == (decide (a2 > 0))))) else (if a1 = 0 then (some (0, true)) else (if a2 = 0 then (some (0, true)) else (if (wrap64 (Int.tdiv (wrap64 (a1 * a2)) a2)) = a1 then (if a2 = (-1) then (if (a1 = (wrap64 (a1 * a2))) then (some (wrap64 (a1 * a2), false)) else (if a1 = (-1) then (some (wrap64 (a1 * a2), !(a2 == (wrap64 (a1 * a2))))) else (some (wrap64 (a1 * a2), !false)))) else (if a1 = (-1) then (some (wrap64 (a1 * a2), !(a2 == (wrap64 (a1 * a2))))) else (some (wrap64 (a1 * a2), !false)))) else (some (wrap64 (a1 * a2), false))))))
set_option maxHeartbeats 8000000 in
set_option maxRecDepth 100000 in
theorem expr_sum.calls (a0 : Int) (a1 : Int) (a2 : Int) (r1 : Int) (r2 : Bool) (w : World) (h : expr_sum.f a0 a1 a2 = some (r1, r2)) :
    Calls Try.prog 82 #[.int .i64 a0, .int .i64 a1, .int .i64 a2] w fun e w' => e = .returned (.tuple #[.int .i64 r1, .bool r2]) ∧ Drawn0 w w' := by
  have H : (if a0 = 2 then (some (wrap64 (a1 + a2), ((decide ((wrap64 (a1 + a2)) > a1)) == (decide (a2 > 0))))) else (if a0 = 3 then (some (wrap64 (a1 - a2), ((decide ((wrap64 (a1 - a2)) < a1)) == (decide (a2 > 0))))) else (if a1 = 0 then (some (0, true)) else (if a2 = 0 then (some (0, true)) else (if (wrap64 (Int.tdiv (wrap64 (a1 * a2)) a2)) = a1 then (if a2 = (-1) then (if (a1 = (wrap64 (a1 * a2))) then (some (wrap64 (a1 * a2), false)) else (if a1 = (-1) then (some (wrap64 (a1 * a2), !(a2 == (wrap64 (a1 * a2))))) else (some (wrap64 (a1 * a2), !false)))) else (if a1 = (-1) then (some (wrap64 (a1 * a2), !(a2 == (wrap64 (a1 * a2))))) else (some (wrap64 (a1 * a2), !false)))) else (some (wrap64 (a1 * a2), false))))))) = some (r1, r2) := h
  clear h
  by_cases c4 : a0 = 2
  · rw [if_pos c4] at H
    have c4b0 : (a0 == 2) = true := beq_iff_eq.mpr c4
    have c4b1 : (a0 != 2) = false := bne_eq_false_iff_eq.mpr c4
    clear c4
    simp only [Option.some.injEq, Prod.mk.injEq] at H
    obtain ⟨rfl, rfl⟩ := H
    go_enter Try.func82, Try.ntmps82
    go_wp2
    go_ret2
    exact ⟨by first | rfl | (simp; done) | (simp [*]; done), by repeat (first | exact Drawn0.refl _ | apply Drawn0.step)⟩
  · rw [if_neg c4] at H
    have c4b0 : (a0 == 2) = false := beq_eq_false_iff_ne.mpr c4
    have c4b1 : (a0 != 2) = true := bne_iff_ne.mpr c4
    by_cases c5 : a0 = 3
    · rw [if_pos c5] at H
      have c5b0 : (a0 == 3) = true := beq_iff_eq.mpr c5
      have c5b1 : (a0 != 3) = false := bne_eq_false_iff_eq.mpr c5
      clear c5
      simp only [Option.some.injEq, Prod.mk.injEq] at H
      obtain ⟨rfl, rfl⟩ := H
      go_enter Try.func82, Try.ntmps82
      go_wp2
      go_ret2
      exact ⟨by first | rfl | (simp; done) | (simp [*]; done), by repeat (first | exact Drawn0.refl _ | apply Drawn0.step)⟩
    · rw [if_neg c5] at H
      have c5b0 : (a0 == 3) = false := beq_eq_false_iff_ne.mpr c5
      have c5b1 : (a0 != 3) = true := bne_iff_ne.mpr c5
      by_cases c6 : a1 = 0
      · rw [if_pos c6] at H
        have c6b0 : (a1 == 0) = true := beq_iff_eq.mpr c6
        have c6b1 : (a1 != 0) = false := bne_eq_false_iff_eq.mpr c6
        clear c6
        simp only [Option.some.injEq, Prod.mk.injEq] at H
        obtain ⟨rfl, rfl⟩ := H
        go_enter Try.func82, Try.ntmps82
        go_wp2
        go_ret2
        exact ⟨by first | rfl | (simp; done) | (simp [*]; done), by repeat (first | exact Drawn0.refl _ | apply Drawn0.step)⟩
      · rw [if_neg c6] at H
        have c6b0 : (a1 == 0) = false := beq_eq_false_iff_ne.mpr c6
        have c6b1 : (a1 != 0) = true := bne_iff_ne.mpr c6
        by_cases c7 : a2 = 0
        · rw [if_pos c7] at H
          have c7b0 : (a2 == 0) = true := beq_iff_eq.mpr c7
          have c7b1 : (a2 != 0) = false := bne_eq_false_iff_eq.mpr c7
          clear c7
          simp only [Option.some.injEq, Prod.mk.injEq] at H
          obtain ⟨rfl, rfl⟩ := H
          go_enter Try.func82, Try.ntmps82
          go_wp2
          go_ret2
          exact ⟨by first | rfl | (simp; done) | (simp [*]; done), by repeat (first | exact Drawn0.refl _ | apply Drawn0.step)⟩
        · rw [if_neg c7] at H
          have c7b0 : (a2 == 0) = false := beq_eq_false_iff_ne.mpr c7
          have c7b1 : (a2 != 0) = true := bne_iff_ne.mpr c7
          by_cases c8 : (wrap64 (Int.tdiv (wrap64 (a1 * a2)) a2)) = a1
          · rw [if_pos c8] at H
            have c8b0 : ((wrap64 (Int.tdiv (wrap64 (a1 * a2)) a2)) == a1) = true := beq_iff_eq.mpr c8
            have c8b1 : ((wrap64 (Int.tdiv (wrap64 (a1 * a2)) a2)) != a1) = false := bne_eq_false_iff_eq.mpr c8
            clear c8
            by_cases c9 : a2 = (-1)
            · rw [if_pos c9] at H
              have c9b0 : (a2 == (-1)) = true := beq_iff_eq.mpr c9
              have c9b1 : (a2 != (-1)) = false := bne_eq_false_iff_eq.mpr c9
              clear c9
              by_cases c10 : (a1 = (wrap64 (a1 * a2)))
              · rw [if_pos c10] at H
                have c10b0 : (a1 == (wrap64 (a1 * a2))) = true := beq_iff_eq.mpr c10
                have c10b1 : (a1 != (wrap64 (a1 * a2))) = false := bne_eq_false_iff_eq.mpr c10
                clear c10
                simp only [Option.some.injEq, Prod.mk.injEq] at H
                obtain ⟨rfl, rfl⟩ := H
                go_enter Try.func82, Try.ntmps82
                go_wp2
                go_ret2
                exact ⟨by first | rfl | (simp; done) | (simp [*]; done), by repeat (first | exact Drawn0.refl _ | apply Drawn0.step)⟩
              · rw [if_neg c10] at H
                have c10b0 : (a1 == (wrap64 (a1 * a2))) = false := beq_eq_false_iff_ne.mpr c10
                have c10b1 : (a1 != (wrap64 (a1 * a2))) = true := bne_iff_ne.mpr c10
                by_cases c11 : a1 = (-1)
                · rw [if_pos c11] at H
                  have c11b0 : (a1 == (-1)) = true := beq_iff_eq.mpr c11
                  have c11b1 : (a1 != (-1)) = false := bne_eq_false_iff_eq.mpr c11
                  clear c11
                  simp only [Option.some.injEq, Prod.mk.injEq] at H
                  obtain ⟨rfl, rfl⟩ := H
                  go_enter Try.func82, Try.ntmps82
                  go_wp2
                  go_ret2
                  exact ⟨by first | rfl | (simp; done) | (simp [*]; done), by repeat (first | exact Drawn0.refl _ | apply Drawn0.step)⟩
                · rw [if_neg c11] at H
                  have c11b0 : (a1 == (-1)) = false := beq_eq_false_iff_ne.mpr c11
                  have c11b1 : (a1 != (-1)) = true := bne_iff_ne.mpr c11
                  simp only [Option.some.injEq, Prod.mk.injEq] at H
                  obtain ⟨rfl, rfl⟩ := H
                  go_enter Try.func82, Try.ntmps82
                  go_wp2
                  go_ret2
                  exact ⟨by first | rfl | (simp; done) | (simp [*]; done), by repeat (first | exact Drawn0.refl _ | apply Drawn0.step)⟩
            · rw [if_neg c9] at H
              have c9b0 : (a2 == (-1)) = false := beq_eq_false_iff_ne.mpr c9
              have c9b1 : (a2 != (-1)) = true := bne_iff_ne.mpr c9
              by_cases c12 : a1 = (-1)
              · rw [if_pos c12] at H
                have c12b0 : (a1 == (-1)) = true := beq_iff_eq.mpr c12
                have c12b1 : (a1 != (-1)) = false := bne_eq_false_iff_eq.mpr c12
                clear c12
                simp only [Option.some.injEq, Prod.mk.injEq] at H
                obtain ⟨rfl, rfl⟩ := H
                go_enter Try.func82, Try.ntmps82
                go_wp2
                go_ret2
                exact ⟨by first | rfl | (simp; done) | (simp [*]; done), by repeat (first | exact Drawn0.refl _ | apply Drawn0.step)⟩
              · rw [if_neg c12] at H
                have c12b0 : (a1 == (-1)) = false := beq_eq_false_iff_ne.mpr c12
                have c12b1 : (a1 != (-1)) = true := bne_iff_ne.mpr c12
                simp only [Option.some.injEq, Prod.mk.injEq] at H
                obtain ⟨rfl, rfl⟩ := H
                go_enter Try.func82, Try.ntmps82
                go_wp2
                go_ret2
                exact ⟨by first | rfl | (simp; done) | (simp [*]; done), by repeat (first | exact Drawn0.refl _ | apply Drawn0.step)⟩
          · rw [if_neg c8] at H
            have c8b0 : ((wrap64 (Int.tdiv (wrap64 (a1 * a2)) a2)) == a1) = false := beq_eq_false_iff_ne.mpr c8
            have c8b1 : ((wrap64 (Int.tdiv (wrap64 (a1 * a2)) a2)) != a1) = true := bne_iff_ne.mpr c8
            simp only [Option.some.injEq, Prod.mk.injEq] at H
            obtain ⟨rfl, rfl⟩ := H
            go_enter Try.func82, Try.ntmps82
            go_wp2
            go_ret2
            exact ⟨by first | rfl | (simp; done) | (simp [*]; done), by repeat (first | exact Drawn0.refl _ | apply Drawn0.step)⟩
theorem sum_some {code a b n : Int} (ha : -9223372036854775808 ≤ a ∧ a ≤ 9223372036854775807) (hb : -9223372036854775808 ≤ b ∧ b ≤ 9223372036854775807) (h : sumV code a b = some n) (w : World) : Calls Try.prog 82 #[.int .i64 code, .int .i64 a, .int .i64 b] w fun e w' => e = .returned (.tuple #[.int .i64 n, .bool true]) ∧ Below w.heap.size w w' := by
  obtain ⟨rfl, hr⟩ := sumV_some h
  refine (expr_sum.calls code a b _ true w ?_).mono fun e w' ⟨h1, h2⟩ => ⟨h1, h2.below⟩
  unfold expr_sum.f
  by_cases h2 : code = 2
  · subst h2
    rw [arith2] at hr ⊢
    rw [if_pos rfl, sum_wrap ha hb, decide_eq_true hr, wrap64_in hr]
  rw [if_neg h2]
  by_cases h3 : code = 3
  · subst h3
    rw [arith3] at hr ⊢
    rw [if_pos rfl, diff_wrap ha hb, decide_eq_true hr, wrap64_in hr]
  rw [if_neg h3]
  rw [arithT h2 h3] at hr ⊢
  by_cases ha0 : a = 0
  · rw [if_pos ha0, ha0, Int.zero_mul]
  rw [if_neg ha0]
  by_cases hb0 : b = 0
  · rw [if_pos hb0, hb0, Int.mul_zero]
  rw [if_neg hb0, if_pos (prod_back ha hb0 hr), wrap64_in hr]
  by_cases hb1 : b = -1
  · subst hb1
    rw [if_pos rfl, if_neg (by omega)]
    by_cases ha1 : a = -1
    · subst ha1; rw [if_pos rfl]; rfl
    · rw [if_neg ha1]; rfl
  · rw [if_neg hb1]
    by_cases ha1 : a = -1
    · subst ha1
      rw [if_pos rfl]
      have : (b == -1 * b) = false := beq_eq_false_iff_ne.2 (by omega)
      rw [this]; rfl
    · rw [if_neg ha1]; rfl
theorem sum_none {code a b : Int} (ha : -9223372036854775808 ≤ a ∧ a ≤ 9223372036854775807) (hb : -9223372036854775808 ≤ b ∧ b ≤ 9223372036854775807) (h : sumV code a b = none) : ∃ n, ∀ w, Calls Try.prog 82 #[.int .i64 code, .int .i64 a, .int .i64 b] w fun e w' => e = .returned (.tuple #[.int .i64 n, .bool false]) ∧ Below w.heap.size w w' := by
  have hr := sumV_none h
  have hx : expr_sum.f code a b = some (wrap64 (arith code a b), false) := by
    unfold expr_sum.f
    by_cases h2 : code = 2
    · subst h2
      rw [arith2] at hr ⊢
      rw [if_pos rfl, sum_wrap ha hb, decide_eq_false hr]
    rw [if_neg h2]
    by_cases h3 : code = 3
    · subst h3
      rw [arith3] at hr ⊢
      rw [if_pos rfl, diff_wrap ha hb, decide_eq_false hr]
    rw [if_neg h3]
    rw [arithT h2 h3] at hr ⊢
    rw [if_neg (by rintro rfl; apply hr; rw [Int.zero_mul]; decide), if_neg (by rintro rfl; apply hr; rw [Int.mul_zero]; decide)]
    have hb0 : b ≠ 0 := by rintro rfl; apply hr; rw [Int.mul_zero]; decide
    by_cases hq : wrap64 (Int.tdiv (wrap64 (a * b)) b) = a
    · rw [if_pos hq]
      by_cases hs : b = -1 ∧ a = -9223372036854775808
      · obtain ⟨rfl, rfl⟩ := hs
        rw [if_pos rfl, if_pos (by decide +kernel)]
      · exact absurd (prod_test ha hb hb0 hs hq) hr
    · rw [if_neg hq]
  exact ⟨_, fun w => (expr_sum.calls code a b _ false w hx).mono fun e w' ⟨h1, h2⟩ => ⟨h1, h2.below⟩⟩
end Go.Proofs.Ytooemobolfoefaa.P

namespace Go.Proofs.Ytooemobolfoefaa.P
open Go.RowKit Go.Proofs.YtooemobolfoefaaW.PrintWords Go.Proofs.YtooemobolfoefaaW.PrintLast Go.Proofs.YtooemobolfoefaaW.PrintMore
attribute [local go_sem] max2_int min2_int max_two min_two max_three min_three max_four min_four   -- for this text's walks alone
set_option linter.unusedVariables false
set_option linter.unusedSimpArgs false
attribute [local go_sem high] eqAValue
attribute [local go_sem high] eqAValue
theorem meth_num (n : Int) (w : World) : (method 262 131 (.int .i64 n) "towncrier/expr.value").run Try.prog w = .ok (103, .int .i64 n) w := by kernel_rfl
theorem meth_tru (n : Bool) (w : World) : (method 262 133 (.bool n) "towncrier/expr.value").run Try.prog w = .ok (104, .bool n) w := by kernel_rfl
theorem meth_oth (a b : Int) (s : ByteArray) (w : World) : (method 262 134 (.agg #[.int .i64 a, .int .i64 b, .string s]) "towncrier/expr.value").run Try.prog w = .ok (105, .agg #[.int .i64 a, .int .i64 b, .string s]) w := by kernel_rfl
theorem valNum_told (n : Int) (w : World) : Calls Try.prog 103 #[.int .i64 n] w (valPost (.agg #[.int .i64 0, .int .i64 n, .string ⟨#[]⟩]) w) := by
  go_enter Try.func103, Try.ntmps103
  go_wp2
  exact bodyPost_ret (v := .agg #[.int .i64 0, .int .i64 n, .string ⟨#[]⟩]) (by simp [results, Try.results103, go_sem]) rfl ⟨rfl, below_alloc (Below.refl _ _) _⟩
theorem valTru_told (b : Bool) (w : World) : Calls Try.prog 104 #[.bool b] w (valPost (.agg #[.int .i64 1, .int .i64 (if b then 1 else 0), .string ⟨#[]⟩]) w) := by
  cases b
  · go_enter Try.func104, Try.ntmps104
    go_wp2
    exact bodyPost_ret (v := .agg #[.int .i64 1, .int .i64 0, .string ⟨#[]⟩]) (by simp [results, Try.results104, go_sem]) rfl ⟨rfl, below_alloc (Below.refl _ _) _⟩
  · go_enter Try.func104, Try.ntmps104
    go_wp2
    exact bodyPost_ret (v := .agg #[.int .i64 1, .int .i64 1, .string ⟨#[]⟩]) (by simp [results, Try.results104, go_sem]) rfl ⟨rfl, below_alloc (Below.refl _ _) _⟩
theorem valOth_told (x : SValue) (w : World) : Calls Try.prog 105 #[.agg #[.int .i64 x.f0, .int .i64 x.f1, .string x.f2]] w (valPost (.agg #[.int .i64 x.f0, .int .i64 x.f1, .string x.f2]) w) := by
  go_enter Try.func105, Try.ntmps105
  go_wp2
  exact bodyPost_ret (v := .agg #[.int .i64 x.f0, .int .i64 x.f1, .string x.f2]) (by simp [results, Try.results105, go_sem]) rfl ⟨rfl, below_alloc (below_alloc (Below.refl _ _) _) _⟩
theorem as_num_tru (n : Int) (w : World) : (Instr.typeAssert (.iface 131 (.int .i64 n)) 119 133 true).run Try.prog w = .ok (.tuple #[(.bool false : Value), .bool false]) w := by kernel_rfl
theorem as_num_num (n : Int) (w : World) : (Instr.typeAssert (.iface 131 (.int .i64 n)) 119 131 true).run Try.prog w = .ok (.tuple #[(.int .i64 n : Value), .bool true]) w := by kernel_rfl
theorem is_num (n : Int) (w : World) : (Instr.typeAssert (.iface 131 (.int .i64 n)) 119 131 false).run Try.prog w = .ok (.int .i64 n : Value) w := by kernel_rfl
theorem as_tru_tru (n : Bool) (w : World) : (Instr.typeAssert (.iface 133 (.bool n)) 119 133 true).run Try.prog w = .ok (.tuple #[(.bool n : Value), .bool true]) w := by kernel_rfl
theorem is_tru (n : Bool) (w : World) : (Instr.typeAssert (.iface 133 (.bool n)) 119 133 false).run Try.prog w = .ok (.bool n : Value) w := by kernel_rfl
theorem as_tru_num (n : Bool) (w : World) : (Instr.typeAssert (.iface 133 (.bool n)) 119 131 true).run Try.prog w = .ok (.tuple #[(.int .i64 0 : Value), .bool false]) w := by kernel_rfl
theorem as_oth_tru (a b : Int) (s : ByteArray) (w : World) : (Instr.typeAssert (.iface 134 (.agg #[.int .i64 a, .int .i64 b, .string s])) 119 133 true).run Try.prog w = .ok (.tuple #[(.bool false : Value), .bool false]) w := by kernel_rfl
theorem as_oth_num (a b : Int) (s : ByteArray) (w : World) : (Instr.typeAssert (.iface 134 (.agg #[.int .i64 a, .int .i64 b, .string s])) 119 131 true).run Try.prog w = .ok (.tuple #[(.int .i64 0 : Value), .bool false]) w := by kernel_rfl
def ThingIs (x : SValue) (t : Nat) (v : Value) (f : Nat) : Prop :=
  thV x = .iface t v ∧ (∀ w, (method 262 t v "towncrier/expr.value").run Try.prog w = .ok (f, v) w) ∧ (∀ args w, (callFunc f args).run Try.prog w = .ok (.enter f args) w)
  ∧ (∀ w, Calls Try.prog f #[v] w (valPost (.agg #[.int .i64 x.f0, .int .i64 x.f1, .string x.f2]) w))
  ∧ (∃ p : Bool, ∀ w, (Instr.typeAssert (.iface t v) 119 133 true).run Try.prog w = .ok (.tuple #[.bool p, .bool (x.f0 == 1)]) w)
  ∧ (∃ n : Int, ∀ w, (Instr.typeAssert (.iface t v) 119 131 true).run Try.prog w = .ok (.tuple #[.int .i64 n, .bool (x.f0 == 0)]) w)
  ∧ (x.f0 = 1 → ∀ w, (Instr.typeAssert (.iface t v) 119 133 true).run Try.prog w = .ok (.tuple #[.bool (x.f1 == 1), .bool true]) w)
  ∧ (x.f0 = 0 → ∀ w, (Instr.typeAssert (.iface t v) 119 131 true).run Try.prog w = .ok (.tuple #[.int .i64 x.f1, .bool true]) w)
  ∧ (x.f0 = 1 → ∀ w, (Instr.typeAssert (.iface t v) 119 133 false).run Try.prog w = .ok (.bool (x.f1 == 1)) w)
  ∧ (x.f0 = 0 → ∀ w, (Instr.typeAssert (.iface t v) 119 131 false).run Try.prog w = .ok (.int .i64 x.f1) w)
theorem thing_is {x : SValue} (h : mayV x = true) : ∃ t v f, ThingIs x t v f := by
  obtain ⟨k, n, s⟩ := x
  unfold ThingIs
  have hm := mayV_iff.1 h
  by_cases h0 : k = 0
  · subst h0
    have hs : s = ⟨#[]⟩ := by
      rcases hm with ⟨_, h2⟩ | ⟨h1, _⟩ | ⟨h1, _⟩ | ⟨h1, _⟩
      · exact toList_nil h2
      all_goals exact absurd (show (0 : Int) = _ from h1) (by decide)
    subst hs
    refine ⟨_, _, 103, by unfold thV; rw [if_pos rfl], meth_num n, enters_of Try.func103 (by kernel_rfl) rfl, valNum_told n, ⟨_, as_num_tru n⟩, ⟨_, as_num_num n⟩, fun h => absurd (show (0 : Int) = 1 from h) (by decide), fun _ => as_num_num n, fun h => absurd (show (0 : Int) = 1 from h) (by decide), fun _ => is_num n⟩
  by_cases h1 : k = 1
  · subst h1
    have hs : s = ⟨#[]⟩ ∧ 0 ≤ n ∧ n < 2 := by
      rcases hm with ⟨h1, _⟩ | ⟨_, h2, h3, h4⟩ | ⟨h1, _⟩ | ⟨h1, _⟩
      · exact absurd (show (1 : Int) = _ from h1) (by decide)
      · exact ⟨toList_nil h2, h3, h4⟩
      all_goals exact absurd (show (1 : Int) = _ from h1) (by decide)
    obtain ⟨rfl, hn0, hn1⟩ := hs
    refine ⟨_, _, 104, by unfold thV; rw [if_neg h0, if_pos rfl], meth_tru _, enters_of Try.func104 (by kernel_rfl) rfl, ?_, ⟨_, as_tru_tru _⟩, ⟨_, as_tru_num _⟩, fun _ => as_tru_tru _, fun h => absurd (show (1 : Int) = 0 from h) (by decide), fun _ => is_tru _, fun h => absurd (show (1 : Int) = 0 from h) (by decide)⟩
    intro w
    have := valTru_told (n == 1) w
    have e : (if (n == 1) = true then (1 : Int) else 0) = n := by
      by_cases h : n = 1
      · subst h; rfl
      · rw [if_neg (by simpa using h)]; omega
    rw [e] at this
    exact this
  · have e0 : (k == 0) = false := beq_eq_false_iff_ne.2 h0
    have e1 : (k == 1) = false := beq_eq_false_iff_ne.2 h1
    refine ⟨_, _, 105, by unfold thV; rw [if_neg h0, if_neg h1], meth_oth k n s, enters_of Try.func105 (by kernel_rfl) rfl, valOth_told ⟨k, n, s⟩, ⟨_, fun w => by rw [show ((⟨k, n, s⟩ : SValue).f0 == 1) = false from e1]; exact as_oth_tru k n s w⟩, ⟨_, fun w => by rw [show ((⟨k, n, s⟩ : SValue).f0 == 0) = false from e0]; exact as_oth_num k n s w⟩, fun h => absurd h h1, fun h => absurd h h0, fun h => absurd h h1, fun h => absurd h h0⟩
def twoPost (r : Except Int SValue) (w : World) (e : Ending) (w' : World) : Prop := (match r with | .ok y => e = .returned (.tuple #[thV y, .int .i64 0]) | .error n => e = .returned (.tuple #[.nilIface, .int .i64 n])) ∧ Below w.heap.size w w'
theorem thV_tru (b : Bool) : thV (truV b) = .iface 133 (.bool b) := by cases b <;> rfl
theorem thV_num (n : Int) : thV ⟨0, n, ⟨#[]⟩⟩ = .iface 131 (.int .i64 n) := rfl
set_option maxHeartbeats 1000000 in
set_option maxRecDepth 100000 in
theorem two_differ (x y : SValue) (w : World) (hx : okV x) (hy : okV y) (code : Int) (he : x.f0 ≠ y.f0) : Calls Try.prog 78 #[.int .i64 code, thV x, thV y] w (twoPost (.error 5) w) := by
  obtain ⟨t, v, f, hx1, hx2, hx3, hx4, ⟨px, hx5⟩, ⟨nx, hx6⟩, hx7, hx8, hx9, hx10⟩ := thing_is hx.1
  obtain ⟨s, u, g, hy1, hy2, hy3, hy4, ⟨py, hy5⟩, ⟨ny, hy6⟩, hy7, hy8, hy9, hy10⟩ := thing_is hy.1
  rw [hx1, hy1]
  have HX4 := Aside0.mk hx4
  have HY4 := Aside0.mk hy4
  have HVX := Aside0.mk hx
  have HVY := Aside0.mk hy
  have HX1 := Aside0.mk hx1
  have HY1 := Aside0.mk hy1
  have he2 : (x.f0 == y.f0) = false := beq_eq_false_iff_ne.2 he
  have he3 : (x.f0 != y.f0) = true := bne_iff_ne.2 he
  clear he
  clear hx4 hy4 hx7 hx8 hx9 hx10 hy7 hy8 hy9 hy10 hx hy hx1 hy1
  go_enter Try.func78, Try.ntmps78
  go_wp2_with fail
  refine (HX4.out _).mono ?_
  rintro e w1 ⟨rfl, hb1⟩
  have HB1 := Aside0.mk hb1
  clear hb1
  go_wp2_with fail
  refine (HY4.out _).mono ?_
  rintro e w2 ⟨rfl, hb2⟩
  have HB2 := Aside0.mk (below_step HB1.out hb2)
  clear hb2
  go_wp2_with fail
  go_ret2
  exact ⟨rfl, below_alloc (below_alloc HB2.out _) _⟩
set_option maxHeartbeats 1000000 in
set_option maxRecDepth 100000 in
theorem two_six (x y : SValue) (w : World) (hx : okV x) (hy : okV y) (he : x.f0 = y.f0) : Calls Try.prog 78 #[.int .i64 6, thV x, thV y] w (twoPost (.ok (truV (eqV x y))) w) := by
  obtain ⟨t, v, f, hx1, hx2, hx3, hx4, ⟨px, hx5⟩, ⟨nx, hx6⟩, hx7, hx8, hx9, hx10⟩ := thing_is hx.1
  obtain ⟨s, u, g, hy1, hy2, hy3, hy4, ⟨py, hy5⟩, ⟨ny, hy6⟩, hy7, hy8, hy9, hy10⟩ := thing_is hy.1
  rw [hx1, hy1]
  have HX4 := Aside0.mk hx4
  have HY4 := Aside0.mk hy4
  have HVX := Aside0.mk hx
  have HVY := Aside0.mk hy
  have HX1 := Aside0.mk hx1
  have HY1 := Aside0.mk hy1
  have HE := Aside0.mk he
  have he2 : (x.f0 == y.f0) = true := beq_iff_eq.2 he
  have he3 : (x.f0 != y.f0) = false := by rw [bne, he2]; rfl
  clear he
  have heq : (x.f1 == y.f1 && x.f2.toList == y.f2.toList) = eqV x y := by unfold eqV; rw [he2, Bool.true_and]
  show Calls _ _ _ _ (fun e w' => e = .returned (.tuple #[thV (truV (eqV x y)), .int .i64 0]) ∧ Below w.heap.size w w')
  rw [thV_tru]
  generalize eqV x y = q at *
  clear hx4 hy4 hx7 hx8 hx9 hx10 hy7 hy8 hy9 hy10 hx hy hx1 hy1
  go_enter Try.func78, Try.ntmps78
  go_wp2_with fail
  refine (HX4.out _).mono ?_
  rintro e w1 ⟨rfl, hb1⟩
  have HB1 := Aside0.mk hb1
  clear hb1
  go_wp2_with fail
  refine (HY4.out _).mono ?_
  rintro e w2 ⟨rfl, hb2⟩
  have HB2 := Aside0.mk (below_step HB1.out hb2)
  clear hb2
  go_wp2_with fail
  go_ret2
  exact ⟨rfl, below_alloc (below_alloc HB2.out _) _⟩
set_option maxHeartbeats 1000000 in
set_option maxRecDepth 100000 in
theorem two_five_b (x y : SValue) (w : World) (hx : okV x) (hy : okV y) (he : x.f0 = y.f0) (h1 : x.f0 = 1) : Calls Try.prog 78 #[.int .i64 5, thV x, thV y] w (twoPost (.error 5) w) := by
  obtain ⟨t, v, f, hx1, hx2, hx3, hx4, ⟨px, hx5⟩, ⟨nx, hx6⟩, hx7, hx8, hx9, hx10⟩ := thing_is hx.1
  obtain ⟨s, u, g, hy1, hy2, hy3, hy4, ⟨py, hy5⟩, ⟨ny, hy6⟩, hy7, hy8, hy9, hy10⟩ := thing_is hy.1
  rw [hx1, hy1]
  have HX4 := Aside0.mk hx4
  have HY4 := Aside0.mk hy4
  have HVX := Aside0.mk hx
  have HVY := Aside0.mk hy
  have HX1 := Aside0.mk hx1
  have HY1 := Aside0.mk hy1
  have HE := Aside0.mk he
  have he2 : (x.f0 == y.f0) = true := beq_iff_eq.2 he
  have he3 : (x.f0 != y.f0) = false := by rw [bne, he2]; rfl
  clear he
  have h1b : (x.f0 == 1) = true := beq_iff_eq.2 h1
  clear h1
  clear hx4 hy4 hx7 hx8 hx9 hx10 hy7 hy8 hy9 hy10 hx hy hx1 hy1
  go_enter Try.func78, Try.ntmps78
  go_wp2_with fail
  refine (HX4.out _).mono ?_
  rintro e w1 ⟨rfl, hb1⟩
  have HB1 := Aside0.mk hb1
  clear hb1
  go_wp2_with fail
  refine (HY4.out _).mono ?_
  rintro e w2 ⟨rfl, hb2⟩
  have HB2 := Aside0.mk (below_step HB1.out hb2)
  clear hb2
  go_wp2_with fail
  go_at_call 81
  refine (less_told x y _ HVX.out HVY.out HE.out rfl).mono ?_
  rintro e w3 ⟨rfl, hb3⟩
  go_wp2_with fail
  go_ret2
  exact ⟨rfl, below_step (below_alloc (below_alloc HB2.out _) _) hb3⟩
set_option maxHeartbeats 1000000 in
set_option maxRecDepth 100000 in
theorem two_five (x y : SValue) (w : World) (hx : okV x) (hy : okV y) (he : x.f0 = y.f0) (h1 : ¬ x.f0 = 1) : Calls Try.prog 78 #[.int .i64 5, thV x, thV y] w (twoPost (.ok (truV (lessV x y))) w) := by
  obtain ⟨t, v, f, hx1, hx2, hx3, hx4, ⟨px, hx5⟩, ⟨nx, hx6⟩, hx7, hx8, hx9, hx10⟩ := thing_is hx.1
  obtain ⟨s, u, g, hy1, hy2, hy3, hy4, ⟨py, hy5⟩, ⟨ny, hy6⟩, hy7, hy8, hy9, hy10⟩ := thing_is hy.1
  rw [hx1, hy1]
  have HX4 := Aside0.mk hx4
  have HY4 := Aside0.mk hy4
  have HVX := Aside0.mk hx
  have HVY := Aside0.mk hy
  have HX1 := Aside0.mk hx1
  have HY1 := Aside0.mk hy1
  have HE := Aside0.mk he
  have he2 : (x.f0 == y.f0) = true := beq_iff_eq.2 he
  have he3 : (x.f0 != y.f0) = false := by rw [bne, he2]; rfl
  clear he
  have h1b : (x.f0 == 1) = false := beq_eq_false_iff_ne.2 h1
  clear h1
  show Calls _ _ _ _ (fun e w' => e = .returned (.tuple #[thV (truV (lessV x y)), .int .i64 0]) ∧ Below w.heap.size w w')
  rw [thV_tru]
  obtain ⟨q, hq⟩ : ∃ q, lessV x y = q := ⟨_, rfl⟩
  rw [hq]
  have HQ := Aside0.mk hq
  clear hq
  clear hx4 hy4 hx7 hx8 hx9 hx10 hy7 hy8 hy9 hy10 hx hy hx1 hy1
  go_enter Try.func78, Try.ntmps78
  go_wp2_with fail
  refine (HX4.out _).mono ?_
  rintro e w1 ⟨rfl, hb1⟩
  have HB1 := Aside0.mk hb1
  clear hb1
  go_wp2_with fail
  refine (HY4.out _).mono ?_
  rintro e w2 ⟨rfl, hb2⟩
  have HB2 := Aside0.mk (below_step HB1.out hb2)
  clear hb2
  go_wp2_with fail
  go_at_call 81
  refine (less_told x y _ HVX.out HVY.out HE.out HQ.out).mono ?_
  rintro e w3 ⟨rfl, hb3⟩
  go_wp2_with fail
  go_ret2
  exact ⟨rfl, below_step (below_alloc (below_alloc HB2.out _) _) hb3⟩
set_option maxHeartbeats 1000000 in
set_option maxRecDepth 100000 in
theorem two_seven (x y : SValue) (w : World) (hx : okV x) (hy : okV y) (he : x.f0 = y.f0) (h1 : x.f0 = 1) : Calls Try.prog 78 #[.int .i64 7, thV x, thV y] w (twoPost (.ok (truV (x.f1 == 1 && y.f1 == 1))) w) := by
  obtain ⟨t, v, f, hx1, hx2, hx3, hx4, ⟨px, hx5⟩, ⟨nx, hx6⟩, hx7, hx8, hx9, hx10⟩ := thing_is hx.1
  obtain ⟨s, u, g, hy1, hy2, hy3, hy4, ⟨py, hy5⟩, ⟨ny, hy6⟩, hy7, hy8, hy9, hy10⟩ := thing_is hy.1
  rw [hx1, hy1]
  have HX4 := Aside0.mk hx4
  have HY4 := Aside0.mk hy4
  have HVX := Aside0.mk hx
  have HVY := Aside0.mk hy
  have HX1 := Aside0.mk hx1
  have HY1 := Aside0.mk hy1
  have hy1' : y.f0 = 1 := by omega
  have a1 := hx9 h1
  have a2 := hy9 hy1'
  have a3 := hx7 h1
  have HE := Aside0.mk he
  have he2 : (x.f0 == y.f0) = true := beq_iff_eq.2 he
  have he3 : (x.f0 != y.f0) = false := by rw [bne, he2]; rfl
  clear he
  show Calls _ _ _ _ (fun e w' => e = .returned (.tuple #[thV (truV (x.f1 == 1 && y.f1 == 1)), .int .i64 0]) ∧ Below w.heap.size w w')
  rw [thV_tru]
  clear h1 hy1' hx5
  generalize (x.f1 == 1) = p at *
  generalize (y.f1 == 1) = q at *
  clear hx4 hy4 hx7 hx8 hx9 hx10 hy7 hy8 hy9 hy10 hx hy hx1 hy1
  cases p <;> cases q
  all_goals
    go_enter Try.func78, Try.ntmps78
    go_wp2_with fail
    refine (HX4.out _).mono ?_
    rintro e w1 ⟨rfl, hb1⟩
    have HB1 := Aside0.mk hb1
    clear hb1
    go_wp2_with fail
    refine (HY4.out _).mono ?_
    rintro e w2 ⟨rfl, hb2⟩
    have HB2 := Aside0.mk (below_step HB1.out hb2)
    clear hb2
    go_wp2_with fail
    go_quiet (fail)
    go_wp2_with fail
    go_ret2
    exact ⟨rfl, pw_below_drewN (below_alloc (below_alloc HB2.out _) _) _⟩
set_option maxHeartbeats 1000000 in
set_option maxRecDepth 100000 in
theorem two_seven_no (x y : SValue) (w : World) (hx : okV x) (hy : okV y) (he : x.f0 = y.f0) (h1 : ¬ x.f0 = 1) : Calls Try.prog 78 #[.int .i64 7, thV x, thV y] w (twoPost (.error 5) w) := by
  obtain ⟨t, v, f, hx1, hx2, hx3, hx4, ⟨px, hx5⟩, ⟨nx, hx6⟩, hx7, hx8, hx9, hx10⟩ := thing_is hx.1
  obtain ⟨s, u, g, hy1, hy2, hy3, hy4, ⟨py, hy5⟩, ⟨ny, hy6⟩, hy7, hy8, hy9, hy10⟩ := thing_is hy.1
  rw [hx1, hy1]
  have HX4 := Aside0.mk hx4
  have HY4 := Aside0.mk hy4
  have HVX := Aside0.mk hx
  have HVY := Aside0.mk hy
  have HX1 := Aside0.mk hx1
  have HY1 := Aside0.mk hy1
  have HE := Aside0.mk he
  have he2 : (x.f0 == y.f0) = true := beq_iff_eq.2 he
  have he3 : (x.f0 != y.f0) = false := by rw [bne, he2]; rfl
  clear he
  have h1b : (x.f0 == 1) = false := beq_eq_false_iff_ne.2 h1
  clear h1
  clear hx4 hy4 hx7 hx8 hx9 hx10 hy7 hy8 hy9 hy10 hx hy hx1 hy1
  go_enter Try.func78, Try.ntmps78
  go_wp2_with fail
  refine (HX4.out _).mono ?_
  rintro e w1 ⟨rfl, hb1⟩
  have HB1 := Aside0.mk hb1
  clear hb1
  go_wp2_with fail
  refine (HY4.out _).mono ?_
  rintro e w2 ⟨rfl, hb2⟩
  have HB2 := Aside0.mk (below_step HB1.out hb2)
  clear hb2
  go_wp2_with fail
  go_ret2
  exact ⟨rfl, below_alloc (below_alloc HB2.out _) _⟩
set_option maxHeartbeats 1000000 in
set_option maxRecDepth 100000 in
theorem two_eight (x y : SValue) (w : World) (hx : okV x) (hy : okV y) (he : x.f0 = y.f0) (h1 : x.f0 = 1) : Calls Try.prog 78 #[.int .i64 8, thV x, thV y] w (twoPost (.ok (truV (x.f1 == 1 || y.f1 == 1))) w) := by
  obtain ⟨t, v, f, hx1, hx2, hx3, hx4, ⟨px, hx5⟩, ⟨nx, hx6⟩, hx7, hx8, hx9, hx10⟩ := thing_is hx.1
  obtain ⟨s, u, g, hy1, hy2, hy3, hy4, ⟨py, hy5⟩, ⟨ny, hy6⟩, hy7, hy8, hy9, hy10⟩ := thing_is hy.1
  rw [hx1, hy1]
  have HX4 := Aside0.mk hx4
  have HY4 := Aside0.mk hy4
  have HVX := Aside0.mk hx
  have HVY := Aside0.mk hy
  have HX1 := Aside0.mk hx1
  have HY1 := Aside0.mk hy1
  have hy1' : y.f0 = 1 := by omega
  have a1 := hx9 h1
  have a2 := hy9 hy1'
  have a3 := hx7 h1
  have HE := Aside0.mk he
  have he2 : (x.f0 == y.f0) = true := beq_iff_eq.2 he
  have he3 : (x.f0 != y.f0) = false := by rw [bne, he2]; rfl
  clear he
  show Calls _ _ _ _ (fun e w' => e = .returned (.tuple #[thV (truV (x.f1 == 1 || y.f1 == 1)), .int .i64 0]) ∧ Below w.heap.size w w')
  rw [thV_tru]
  clear h1 hy1' hx5
  generalize (x.f1 == 1) = p at *
  generalize (y.f1 == 1) = q at *
  clear hx4 hy4 hx7 hx8 hx9 hx10 hy7 hy8 hy9 hy10 hx hy hx1 hy1
  cases p <;> cases q
  all_goals
    go_enter Try.func78, Try.ntmps78
    go_wp2_with fail
    refine (HX4.out _).mono ?_
    rintro e w1 ⟨rfl, hb1⟩
    have HB1 := Aside0.mk hb1
    clear hb1
    go_wp2_with fail
    refine (HY4.out _).mono ?_
    rintro e w2 ⟨rfl, hb2⟩
    have HB2 := Aside0.mk (below_step HB1.out hb2)
    clear hb2
    go_wp2_with fail
    go_quiet (fail)
    go_wp2_with fail
    go_ret2
    exact ⟨rfl, pw_below_drewN (below_alloc (below_alloc HB2.out _) _) _⟩
set_option maxHeartbeats 1000000 in
set_option maxRecDepth 100000 in
theorem two_eight_no (x y : SValue) (w : World) (hx : okV x) (hy : okV y) (he : x.f0 = y.f0) (h1 : ¬ x.f0 = 1) : Calls Try.prog 78 #[.int .i64 8, thV x, thV y] w (twoPost (.error 5) w) := by
  obtain ⟨t, v, f, hx1, hx2, hx3, hx4, ⟨px, hx5⟩, ⟨nx, hx6⟩, hx7, hx8, hx9, hx10⟩ := thing_is hx.1
  obtain ⟨s, u, g, hy1, hy2, hy3, hy4, ⟨py, hy5⟩, ⟨ny, hy6⟩, hy7, hy8, hy9, hy10⟩ := thing_is hy.1
  rw [hx1, hy1]
  have HX4 := Aside0.mk hx4
  have HY4 := Aside0.mk hy4
  have HVX := Aside0.mk hx
  have HVY := Aside0.mk hy
  have HX1 := Aside0.mk hx1
  have HY1 := Aside0.mk hy1
  have HE := Aside0.mk he
  have he2 : (x.f0 == y.f0) = true := beq_iff_eq.2 he
  have he3 : (x.f0 != y.f0) = false := by rw [bne, he2]; rfl
  clear he
  have h1b : (x.f0 == 1) = false := beq_eq_false_iff_ne.2 h1
  clear h1
  clear hx4 hy4 hx7 hx8 hx9 hx10 hy7 hy8 hy9 hy10 hx hy hx1 hy1
  go_enter Try.func78, Try.ntmps78
  go_wp2_with fail
  refine (HX4.out _).mono ?_
  rintro e w1 ⟨rfl, hb1⟩
  have HB1 := Aside0.mk hb1
  clear hb1
  go_wp2_with fail
  refine (HY4.out _).mono ?_
  rintro e w2 ⟨rfl, hb2⟩
  have HB2 := Aside0.mk (below_step HB1.out hb2)
  clear hb2
  go_wp2_with fail
  go_ret2
  exact ⟨rfl, below_alloc (below_alloc HB2.out _) _⟩
set_option maxHeartbeats 1000000 in
set_option maxRecDepth 100000 in
theorem two_over (x y : SValue) (w : World) (hx : okV x) (hy : okV y) (code : Int) (he : x.f0 = y.f0) (h6 : ¬ code = 6) (h5 : ¬ code = 5) (h78 : ¬ (code = 7 ∨ code = 8)) (h0 : x.f0 = 0) (hs : sumV code x.f1 y.f1 = none) : Calls Try.prog 78 #[.int .i64 code, thV x, thV y] w (twoPost (.error 6) w) := by
  obtain ⟨t, v, f, hx1, hx2, hx3, hx4, ⟨px, hx5⟩, ⟨nx, hx6⟩, hx7, hx8, hx9, hx10⟩ := thing_is hx.1
  obtain ⟨s, u, g, hy1, hy2, hy3, hy4, ⟨py, hy5⟩, ⟨ny, hy6⟩, hy7, hy8, hy9, hy10⟩ := thing_is hy.1
  rw [hx1, hy1]
  have HX4 := Aside0.mk hx4
  have HY4 := Aside0.mk hy4
  have HVX := Aside0.mk hx
  have HVY := Aside0.mk hy
  have HX1 := Aside0.mk hx1
  have HY1 := Aside0.mk hy1
  have h0b : (x.f0 == 0) = true := beq_iff_eq.2 h0
  have hy0 : y.f0 = 0 := by omega
  have a1 := hx8 h0
  have a2 := hy10 hy0
  have HE := Aside0.mk he
  have he2 : (x.f0 == y.f0) = true := beq_iff_eq.2 he
  have he3 : (x.f0 != y.f0) = false := by rw [bne, he2]; rfl
  clear he
  have h5b : (code == 5) = false := beq_eq_false_iff_ne.2 h5
  have h6b : (code == 6) = false := beq_eq_false_iff_ne.2 h6
  have h7b : (code == 7) = false := beq_eq_false_iff_ne.2 (fun h => h78 (.inl h))
  have h8b : (code == 8) = false := beq_eq_false_iff_ne.2 (fun h => h78 (.inr h))
  clear h5 h6 h78
  obtain ⟨n, hn⟩ := sum_none hx.2 hy.2 hs
  have HS := Aside0.mk hn
  clear hn hs hx6 hy0 h0
  clear hx4 hy4 hx7 hx8 hx9 hx10 hy7 hy8 hy9 hy10 hx hy hx1 hy1
  go_enter Try.func78, Try.ntmps78
  go_wp2_with fail
  refine (HX4.out _).mono ?_
  rintro e w1 ⟨rfl, hb1⟩
  have HB1 := Aside0.mk hb1
  clear hb1
  go_wp2_with fail
  refine (HY4.out _).mono ?_
  rintro e w2 ⟨rfl, hb2⟩
  have HB2 := Aside0.mk (below_step HB1.out hb2)
  clear hb2
  go_wp2_with fail
  go_at_call 82
  refine (HS.out _).mono ?_
  rintro e w3 ⟨rfl, hb3⟩
  go_wp2_with fail
  go_ret2
  exact ⟨rfl, below_step (below_alloc (below_alloc HB2.out _) _) hb3⟩
set_option maxHeartbeats 1000000 in
set_option maxRecDepth 100000 in
theorem two_sum (x y : SValue) (w : World) (hx : okV x) (hy : okV y) (code : Int) (he : x.f0 = y.f0) (h6 : ¬ code = 6) (h5 : ¬ code = 5) (h78 : ¬ (code = 7 ∨ code = 8)) (h0 : x.f0 = 0) {n : Int} (hs : sumV code x.f1 y.f1 = some n) : Calls Try.prog 78 #[.int .i64 code, thV x, thV y] w (twoPost (.ok ⟨0, n, ⟨#[]⟩⟩) w) := by
  obtain ⟨t, v, f, hx1, hx2, hx3, hx4, ⟨px, hx5⟩, ⟨nx, hx6⟩, hx7, hx8, hx9, hx10⟩ := thing_is hx.1
  obtain ⟨s, u, g, hy1, hy2, hy3, hy4, ⟨py, hy5⟩, ⟨ny, hy6⟩, hy7, hy8, hy9, hy10⟩ := thing_is hy.1
  rw [hx1, hy1]
  have HX4 := Aside0.mk hx4
  have HY4 := Aside0.mk hy4
  have HVX := Aside0.mk hx
  have HVY := Aside0.mk hy
  have HX1 := Aside0.mk hx1
  have HY1 := Aside0.mk hy1
  have h0b : (x.f0 == 0) = true := beq_iff_eq.2 h0
  have hy0 : y.f0 = 0 := by omega
  have a1 := hx8 h0
  have a2 := hy10 hy0
  have HE := Aside0.mk he
  have he2 : (x.f0 == y.f0) = true := beq_iff_eq.2 he
  have he3 : (x.f0 != y.f0) = false := by rw [bne, he2]; rfl
  clear he
  have h5b : (code == 5) = false := beq_eq_false_iff_ne.2 h5
  have h6b : (code == 6) = false := beq_eq_false_iff_ne.2 h6
  have h7b : (code == 7) = false := beq_eq_false_iff_ne.2 (fun h => h78 (.inl h))
  have h8b : (code == 8) = false := beq_eq_false_iff_ne.2 (fun h => h78 (.inr h))
  clear h5 h6 h78
  show Calls _ _ _ _ (fun e w' => e = .returned (.tuple #[thV ⟨0, n, ⟨#[]⟩⟩, .int .i64 0]) ∧ Below w.heap.size w w')
  rw [thV_num]
  have HS := Aside0.mk (sum_some hx.2 hy.2 hs)
  clear hs hx6 hy0 h0
  clear hx4 hy4 hx7 hx8 hx9 hx10 hy7 hy8 hy9 hy10 hx hy hx1 hy1
  go_enter Try.func78, Try.ntmps78
  go_wp2_with fail
  refine (HX4.out _).mono ?_
  rintro e w1 ⟨rfl, hb1⟩
  have HB1 := Aside0.mk hb1
  clear hb1
  go_wp2_with fail
  refine (HY4.out _).mono ?_
  rintro e w2 ⟨rfl, hb2⟩
  have HB2 := Aside0.mk (below_step HB1.out hb2)
  clear hb2
  go_wp2_with fail
  go_at_call 82
  refine (HS.out _).mono ?_
  rintro e w3 ⟨rfl, hb3⟩
  go_wp2_with fail
  go_ret2
  exact ⟨rfl, below_step (below_alloc (below_alloc HB2.out _) _) hb3⟩
set_option maxHeartbeats 1000000 in
set_option maxRecDepth 100000 in
theorem two_type (x y : SValue) (w : World) (hx : okV x) (hy : okV y) (code : Int) (he : x.f0 = y.f0) (h6 : ¬ code = 6) (h5 : ¬ code = 5) (h78 : ¬ (code = 7 ∨ code = 8)) (h0 : ¬ x.f0 = 0) : Calls Try.prog 78 #[.int .i64 code, thV x, thV y] w (twoPost (.error 5) w) := by
  obtain ⟨t, v, f, hx1, hx2, hx3, hx4, ⟨px, hx5⟩, ⟨nx, hx6⟩, hx7, hx8, hx9, hx10⟩ := thing_is hx.1
  obtain ⟨s, u, g, hy1, hy2, hy3, hy4, ⟨py, hy5⟩, ⟨ny, hy6⟩, hy7, hy8, hy9, hy10⟩ := thing_is hy.1
  rw [hx1, hy1]
  have HX4 := Aside0.mk hx4
  have HY4 := Aside0.mk hy4
  have HVX := Aside0.mk hx
  have HVY := Aside0.mk hy
  have HX1 := Aside0.mk hx1
  have HY1 := Aside0.mk hy1
  have HE := Aside0.mk he
  have he2 : (x.f0 == y.f0) = true := beq_iff_eq.2 he
  have he3 : (x.f0 != y.f0) = false := by rw [bne, he2]; rfl
  clear he
  have h5b : (code == 5) = false := beq_eq_false_iff_ne.2 h5
  have h6b : (code == 6) = false := beq_eq_false_iff_ne.2 h6
  have h7b : (code == 7) = false := beq_eq_false_iff_ne.2 (fun h => h78 (.inl h))
  have h8b : (code == 8) = false := beq_eq_false_iff_ne.2 (fun h => h78 (.inr h))
  clear h5 h6 h78
  have h0b : (x.f0 == 0) = false := beq_eq_false_iff_ne.2 h0
  clear h0
  clear hx4 hy4 hx7 hx8 hx9 hx10 hy7 hy8 hy9 hy10 hx hy hx1 hy1
  go_enter Try.func78, Try.ntmps78
  go_wp2_with fail
  refine (HX4.out _).mono ?_
  rintro e w1 ⟨rfl, hb1⟩
  have HB1 := Aside0.mk hb1
  clear hb1
  go_wp2_with fail
  refine (HY4.out _).mono ?_
  rintro e w2 ⟨rfl, hb2⟩
  have HB2 := Aside0.mk (below_step HB1.out hb2)
  clear hb2
  go_wp2_with fail
  go_ret2
  exact ⟨rfl, below_alloc (below_alloc HB2.out _) _⟩
theorem two_told (code : Int) (x y : SValue) (w : World) (hx : okV x) (hy : okV y) {r : Except Int SValue} (hr : twoV code x y = r) : Calls Try.prog 78 #[.int .i64 code, thV x, thV y] w (twoPost r w) := by
  unfold twoV at hr
  by_cases he : x.f0 ≠ y.f0
  · rw [if_pos he] at hr; subst hr; exact two_differ x y w hx hy code he
  rw [if_neg he] at hr
  replace he := Classical.byContradiction he
  by_cases h6 : code = 6
  · rw [if_pos h6] at hr; subst hr h6; exact two_six x y w hx hy he
  rw [if_neg h6] at hr
  by_cases h5 : code = 5
  · rw [if_pos h5] at hr; subst h5
    by_cases h1 : x.f0 = 1
    · rw [if_pos h1] at hr; subst hr; exact two_five_b x y w hx hy he h1
    · rw [if_neg h1] at hr; subst hr; exact two_five x y w hx hy he h1
  rw [if_neg h5] at hr
  by_cases h78 : code = 7 ∨ code = 8
  · rw [if_pos h78] at hr
    by_cases h1 : x.f0 = 1
    · rw [if_pos h1] at hr; subst hr
      rcases h78 with rfl | rfl
      · exact two_seven x y w hx hy he h1
      · exact two_eight x y w hx hy he h1
    · rw [if_neg h1] at hr; subst hr
      rcases h78 with rfl | rfl
      · exact two_seven_no x y w hx hy he h1
      · exact two_eight_no x y w hx hy he h1
  rw [if_neg h78] at hr
  by_cases h0 : x.f0 = 0
  · rw [if_pos h0] at hr
    cases hs : sumV code x.f1 y.f1 with
    | none => rw [hs] at hr; subst hr; exact two_over x y w hx hy code he h6 h5 h78 h0 hs
    | some n => rw [hs] at hr; subst hr; exact two_sum x y w hx hy code he h6 h5 h78 h0 hs
  · rw [if_neg h0] at hr; subst hr; exact two_type x y w hx hy code he h6 h5 h78 h0
end Go.Proofs.Ytooemobolfoefaa.P

namespace Go.Proofs.Ytooemobolfoefaa.P
open Go.RowKit Go.Proofs.YtooemobolfoefaaW.PrintWords Go.Proofs.YtooemobolfoefaaW.PrintLast Go.Proofs.YtooemobolfoefaaW.PrintMore
attribute [local go_sem] max2_int min2_int max_two min_two max_three min_three max_four min_four   -- for this text's walks alone
set_option linter.unusedVariables false
set_option linter.unusedSimpArgs false
def partPost (w0 : World) (B : Nat) (V : Value) (k : Bool) (r : Except Int (List SValue)) (e : Ending) (w' : World) : Prop := match r with
  | .ok q => e = .returned (.int .i64 0) ∧ pileRel w0 B V k q w'
  | .error n => e = .returned (.int .i64 n) ∧ ∃ q, pileRel w0 B V k q w'
theorem at_thing {w : World} {ad : Addr} {n : Nat} {xs : List SValue} (h : Kd.C kThing w (some ad) n xs) (i : Nat) (hi : i < n) : w.cell? (ad.add i) = some (thV (xs.getD i zValue)) := by
  obtain ⟨ad', c, e, hl, hK, hcell⟩ := Kd.C_get h zValue (i : Int) (by omega) (by omega)
  cases e
  have hK2 : c = [thV (xs.getD ((i : Int).toNat) zValue)] := hK
  subst hK2
  have := hcell 0 _ rfl
  rw [show kThing.sz = 1 from rfl, Nat.mul_one, Nat.add_zero, Int.toNat_natCast] at this
  exact this
theorem addr_zero (a : Addr) : a.add 0 = a := by simp [Addr.add]
theorem at_last {w : World} {ad : Addr} {xs : List SValue} {m : Nat} (h : Kd.C kThing w (some ad) 1 (xs.drop m)) (hm : xs.length = m + 1) : w.cell? ad = some (thV (xs.getD m zValue)) := by
  have := at_thing h 0 (by decide)
  rw [addr_zero] at this
  rw [this]
  congr 2
  simp [List.getD]
theorem lay_tru (w0 : World) (B : Nat) (V : Value) (k : Bool) (xs : List SValue) (b : Bool) (w : World) (h : pileRel w0 B V k xs w) (hB : B < w0.heap.size) (hl : xs.length ≤ 1000) :
    Calls Try.prog 74 #[.pointer (some ⟨B, 0, none⟩), .iface 133 (.bool b)] w fun e w' => e = .returned (.tuple #[]) ∧ pileRel w0 B V k (xs ++ [truV b]) w' := by
  have := lay_told w0 B V k xs (truV b) w h hB hl
  rwa [thV_tru] at this
set_option maxHeartbeats 1000000 in
set_option maxRecDepth 100000 in
theorem not_told (w0 : World) (B : Nat) (V : Value) (k : Bool) (xs : List SValue) (w : World) (h : pileRel w0 B V k xs w) (hB : B < w0.heap.size) (hl : xs.length ≤ 1000) (hok : okVs xs) {r : Except Int (List SValue)}
    (hr : (if xs.length < 1 then .error 2 else if (xs.getD (xs.length - 1) zValue).f0 = 1 then .ok (xs.take (xs.length - 1) ++ [truV (!((xs.getD (xs.length - 1) zValue).f1 == 1))]) else .error 5 : Except Int (List SValue)) = r) :
    Calls Try.prog 76 #[.pointer (some ⟨B, 0, none⟩)] w (partPost w0 B V k r) := by
  have HH := Aside0.mk h
  by_cases hn : xs.length < 1
  · rw [if_pos hn] at hr
    subst hr
    clear h hok
    go_enter Try.func76, Try.ntmps76
    go_wp2_with fail
    go_at_call 77
    refine (take_no w0 B 1 V k xs _ HH.out hn (by decide)).mono ?_
    rintro e w1 ⟨rfl, rfl⟩
    go_wp2_with fail
    go_ret
    exact ⟨rfl, xs, HH.out⟩
  rw [if_neg hn] at hr
  obtain ⟨m, hm⟩ : ∃ m, xs.length = m + 1 := ⟨xs.length - 1, by omega⟩
  rw [show xs.length - 1 = m from by omega] at hr
  have hat := okVs_at hok (i := m) (by omega)
  obtain ⟨x, hx⟩ : ∃ x, xs.getD m zValue = x := ⟨_, rfl⟩
  rw [hx] at hr hat
  have HX := Aside0.mk hx
  obtain ⟨t, v, f, hx1, hx2, hx3, hx4, ⟨px, hx5⟩, _, hx7, _, _, _⟩ := thing_is hat.1
  have HX1 := Aside0.mk hx1
  clear hx1 hx2 hx3 hx4 hat hok h hx
  by_cases h1 : x.f0 = 1
  · rw [if_pos h1] at hr
    subst hr
    have a1 := hx7 h1
    clear hx5 hx7
    go_enter Try.func76, Try.ntmps76
    go_wp2_with fail
    go_at_call 77
    refine (take_told w0 B 1 V k xs _ HH.out hB (by decide) (by decide) hl (by omega)).mono ?_
    rintro e w1 ⟨A, c, ⟨rfl, hc, hC⟩, hp, hsp⟩
    rw [show xs.length - 1 = m from by omega] at hC hp
    have HC := Aside0.mk hC
    have HP := Aside0.mk hp
    have hcell := at_last hC hm
    rw [HX.out, HX1.out] at hcell
    have hcell2 : w1.cell? (A.add 0) = some (.iface t v) := by rw [addr_zero]; exact hcell
    clear hC hp hsp
    go_wp2_with fail
    go_at_call 74
    refine (lay_tru w0 B V k (xs.take m) (!(x.f1 == 1)) _ HP.out hB (by rw [List.length_take]; omega)).mono ?_
    rintro e w2 ⟨rfl, hp2⟩
    have HP2 := Aside0.mk hp2
    clear hp2
    go_wp2_with fail
    go_ret
    exact ⟨rfl, HP2.out⟩
  · rw [if_neg h1] at hr
    subst hr
    have h1b : (x.f0 == 1) = false := beq_eq_false_iff_ne.2 h1
    rw [h1b] at hx5
    clear hx7 h1 h1b
    go_enter Try.func76, Try.ntmps76
    go_wp2_with fail
    go_at_call 77
    refine (take_told w0 B 1 V k xs _ HH.out hB (by decide) (by decide) hl (by omega)).mono ?_
    rintro e w1 ⟨A, c, ⟨rfl, hc, hC⟩, hp, hsp⟩
    rw [show xs.length - 1 = m from by omega] at hC hp
    have HP := Aside0.mk hp
    have hcell := at_last hC hm
    rw [HX.out, HX1.out] at hcell
    have hcell2 : w1.cell? (A.add 0) = some (.iface t v) := by rw [addr_zero]; exact hcell
    clear hC hp hsp
    go_wp2_with fail
    go_ret
    exact ⟨rfl, _, HP.out⟩
end Go.Proofs.Ytooemobolfoefaa.P

namespace Go.Proofs.Ytooemobolfoefaa.P
open Go.RowKit Go.Proofs.YtooemobolfoefaaW.PrintWords Go.Proofs.YtooemobolfoefaaW.PrintLast Go.Proofs.YtooemobolfoefaaW.PrintMore
attribute [local go_sem] max2_int min2_int max_two min_two max_three min_three max_four min_four   -- for this text's walks alone
set_option linter.unusedVariables false
set_option linter.unusedSimpArgs false
def cellsP (x : SOp) : Array Value := #[.int .i64 x.f0, .int .i64 x.f1, .int .i64 x.f2.f0, .int .i64 x.f2.f1, .string x.f2.f2]
def partBPost (r : Option (SOp × Nat)) (w : World) (e : Ending) (w' : World) : Prop := (match r with
  | some (x, n) => e = .returned (.tuple #[.agg (cellsP x), .int .i64 (n : Int), .bool true])
  | none => ∃ (x : SOp) (n : Int), e = .returned (.tuple #[.agg (cellsP x), .int .i64 n, .bool false])) ∧ Below w.heap.size w w'
theorem blk_put5 {W : World} {g : Nat} {t : TypeId} {a b c d e : Value} (h : W.heap[g]? = some (.cells #[a, b, c, d, e] t (0, 0))) (x y z u v : Value) : (((((W.setCell ⟨g, 0, none⟩ x).setCell ⟨g, 1, none⟩ y).setCell ⟨g, 2, none⟩ z).setCell ⟨g, 3, none⟩ u).setCell ⟨g, 4, none⟩ v).heap[g]? = some (.cells #[x, y, z, u, v] t (0, 0)) :=
  blk_put (blk_put (blk_put (blk_put (blk_put h 0 x rfl) 1 y rfl) 2 z rfl) 3 u rfl) 4 v rfl
theorem below_put5 {B : Nat} {w W : World} {g : Nat} (h : Below B w W) (hg : B ≤ g) (x y z u v : Value) : Below B w (((((W.setCell ⟨g, 0, none⟩ x).setCell ⟨g, 1, none⟩ y).setCell ⟨g, 2, none⟩ z).setCell ⟨g, 3, none⟩ u).setCell ⟨g, 4, none⟩ v) :=
  ((((h.setCell (p := ⟨g, 0, none⟩) hg x).setCell (p := ⟨g, 1, none⟩) hg y).setCell (p := ⟨g, 2, none⟩) hg z).setCell (p := ⟨g, 3, none⟩) hg u).setCell (p := ⟨g, 4, none⟩) hg v
set_option maxHeartbeats 1000000 in
set_option maxRecDepth 100000 in
theorem partb_nil (A : Option Addr) (c : Nat) (w : World) : Calls Try.prog 70 #[.slice A 0 c] w (partBPost none w) := by
  go_enter Try.func70, Try.ntmps70
  go_wp2_with fail
  exact bodyPost_ret (v := .tuple #[.agg #[.int .i64 0, .int .i64 0, .int .i64 0, .int .i64 0, .string ⟨#[]⟩], .int .i64 0, .bool false]) (by simp [results, Try.results70, go_sem]) rfl ⟨⟨⟨0, 0, ⟨0, 0, ⟨#[]⟩⟩⟩, 0, rfl⟩, below_alloc (Below.refl _ _) _⟩
set_option maxHeartbeats 1000000 in
set_option maxRecDepth 100000 in
theorem partb_code (k : Int) (r : List Int) (A : Option Addr) (c : Nat) (w : World) (hr : Kd.C (Kd.int .u8) w A (r.length + 1) (k :: r)) (hc : r.length + 1 ≤ c) (hb : byteL (k :: r)) (hl : (k :: r).length < 4611686018427387904) (h0 : ¬ k = 0) (h1 : ¬ k = 1) : Calls Try.prog 70 #[.slice A (r.length + 1) c] w (partBPost (some (⟨k, 0, zeroV⟩, 1)) w) := by
  obtain ⟨ad, e, z0⟩ := Kd.at_int hr 0 (by decide) (by omega)
  subst e
  have z1 : w.cell? ad = some (.int .u8 k) := by have h := z0; rw [show (0 : Int).toNat = 0 from rfl, addr_zero] at h; exact h
  have z2 : w.cell? (ad.add 0) = some (.int .u8 k) := z0
  have z3 : ∀ o, (w.alloc o).cell? ad = some (.int .u8 k) := fun o => cell_later o z1
  have z4 : ∀ o, (w.alloc o).cell? (ad.add 0) = some (.int .u8 k) := fun o => cell_later o z2
  obtain ⟨hk0, hk1⟩ := hb k (by simp)
  have hwk : IntKind.i64.wrap k = k := IntWalk.i64_in _ (by omega)
  have hlen : (((r.length + 1 : Nat) : Int) == 0) = false := beq_eq_false_iff_ne.2 (by omega)
  have hlen2 : ((r.length : Int) + 1 == 0) = false := beq_eq_false_iff_ne.2 (by omega)
  have hlen3 : ¬ (r.length : Int) + 1 = 0 := by omega
  have h0b : (k == 0) = false := beq_eq_false_iff_ne.2 h0
  have h1b : (k == 1) = false := beq_eq_false_iff_ne.2 h1
  clear z0 hr hc hb hl h0 h1
  go_enter Try.func70, Try.ntmps70
  go_wp2_with fail
  exact bodyPost_ret (v := .tuple #[.agg #[.int .i64 k, .int .i64 0, .int .i64 0, .int .i64 0, .string ⟨#[]⟩], .int .i64 1, .bool true]) (by simp [results, Try.results70, go_sem]) rfl ⟨rfl, below_alloc (below_alloc (Below.refl _ _) _) _⟩
set_option maxHeartbeats 1000000 in
set_option maxRecDepth 100000 in
theorem partb_short (k : Int) (r : List Int) (A : Option Addr) (c : Nat) (w : World) (hr : Kd.C (Kd.int .u8) w A (r.length + 1) (k :: r)) (hc : r.length + 1 ≤ c) (hb : byteL (k :: r)) (hl : (k :: r).length < 4611686018427387904) (h1 : k = 1) (h2 : r = []) : Calls Try.prog 70 #[.slice A (r.length + 1) c] w (partBPost none w) := by
  obtain ⟨ad, e, z0⟩ := Kd.at_int hr 0 (by decide) (by omega)
  subst e
  have z1 : w.cell? ad = some (.int .u8 k) := by have h := z0; rw [show (0 : Int).toNat = 0 from rfl, addr_zero] at h; exact h
  have z2 : w.cell? (ad.add 0) = some (.int .u8 k) := z0
  have z3 : ∀ o, (w.alloc o).cell? ad = some (.int .u8 k) := fun o => cell_later o z1
  have z4 : ∀ o, (w.alloc o).cell? (ad.add 0) = some (.int .u8 k) := fun o => cell_later o z2
  obtain ⟨hk0, hk1⟩ := hb k (by simp)
  have hwk : IntKind.i64.wrap k = k := IntWalk.i64_in _ (by omega)
  have hlen : (((r.length + 1 : Nat) : Int) == 0) = false := beq_eq_false_iff_ne.2 (by omega)
  have hlen2 : ((r.length : Int) + 1 == 0) = false := beq_eq_false_iff_ne.2 (by omega)
  have hlen3 : ¬ (r.length : Int) + 1 = 0 := by omega
  subst h1 h2
  clear z0 hr hc hb hl hlen hlen2 hlen3
  go_enter Try.func70, Try.ntmps70
  go_wp2_with fail
  exact bodyPost_ret (v := .tuple #[.agg #[.int .i64 1, .int .i64 0, .int .i64 0, .int .i64 0, .string ⟨#[]⟩], .int .i64 0, .bool false]) (by simp [results, Try.results70, go_sem]) rfl ⟨⟨⟨1, 0, ⟨0, 0, ⟨#[]⟩⟩⟩, 0, rfl⟩, below_alloc (below_alloc (Below.refl _ _) _) _⟩
set_option maxHeartbeats 1000000 in
set_option maxRecDepth 100000 in
theorem partb_load (a : Int) (r : List Int) (A : Option Addr) (c : Nat) (w : World) (hr : Kd.C (Kd.int .u8) w A (r.length + 1 + 1) (1 :: a :: r)) (hc : r.length + 1 + 1 ≤ c) (hb : byteL (1 :: a :: r)) (hl : (1 :: a :: r).length < 4611686018427387904) : Calls Try.prog 70 #[.slice A (r.length + 1 + 1) c] w (partBPost (some (⟨1, a, zeroV⟩, 2)) w) := by
  obtain ⟨ad, e, z0⟩ := Kd.at_int hr 0 (by decide) (by omega)
  subst e
  have z1 : w.cell? ad = some (.int .u8 1) := by have h := z0; rw [show (0 : Int).toNat = 0 from rfl, addr_zero] at h; exact h
  have z2 : w.cell? (ad.add 0) = some (.int .u8 1) := z0
  have z3 : ∀ o, (w.alloc o).cell? ad = some (.int .u8 1) := fun o => cell_later o z1
  have z4 : ∀ o, (w.alloc o).cell? (ad.add 0) = some (.int .u8 1) := fun o => cell_later o z2
  obtain ⟨hk0, hk1⟩ := hb a (by simp)
  have hwk : IntKind.i64.wrap a = a := IntWalk.i64_in _ (by omega)
  have hlen : (((r.length + 1 + 1 : Nat) : Int) == 0) = false := beq_eq_false_iff_ne.2 (by omega)
  have hlen2 : ((r.length : Int) + 1 + 1 == 0) = false := beq_eq_false_iff_ne.2 (by omega)
  have hlen3 : ¬ (r.length : Int) + 1 + 1 = 0 := by omega
  obtain ⟨ad2, e2, y0⟩ := Kd.at_int hr 1 (by decide) (by omega)
  cases e2
  have y1 : w.cell? ⟨ad.block, ad.off + 1, none⟩ = some (.int .u8 a) := by have h := y0; rw [show (1 : Int).toNat = 1 from rfl, add_field _ _ 1 (by omega)] at h; exact h
  have y2 : w.cell? (ad.add 1) = some (.int .u8 a) := y0
  have y3 : ∀ o o2, ((w.alloc o).alloc o2).cell? ⟨ad.block, ad.off + 1, none⟩ = some (.int .u8 a) := fun o o2 => cell_later o2 (cell_later o y1)
  have y4 : ∀ o o2, ((w.alloc o).alloc o2).cell? (ad.add 1) = some (.int .u8 a) := fun o o2 => cell_later o2 (cell_later o y2)
  have hw1 : IntKind.i64.wrap 1 = 1 := by decide
  have hge : ¬ (r.length : Int) + 1 + 1 < 2 := by omega
  have hged : decide ((r.length : Int) + 1 + 1 < 2) = false := decide_eq_false hge
  have hlt1 : (1 : Int) < (r.length : Int) + 1 + 1 := by omega
  clear z0 hr hc hb hl y0
  go_enter Try.func70, Try.ntmps70
  go_wp2_with fail
  exact bodyPost_ret (v := .tuple #[.agg #[.int .i64 1, .int .i64 a, .int .i64 0, .int .i64 0, .string ⟨#[]⟩], .int .i64 2, .bool true]) (by simp [results, Try.results70, go_sem]) rfl ⟨rfl, below_alloc (below_alloc (Below.refl _ _) _) _⟩
set_option maxHeartbeats 1000000 in
set_option maxRecDepth 100000 in
theorem partb_push {x : SValue} {m : Nat} (r : List Int) (A : Option Addr) (c : Nat) (w : World) (hr : Kd.C (Kd.int .u8) w A (r.length + 1) (0 :: r)) (hc : r.length + 1 ≤ c) (hb : byteL (0 :: r)) (hl : (0 :: r).length < 4611686018427387904) (hg : gotV (getV r) = (x, m, true)) : Calls Try.prog 70 #[.slice A (r.length + 1) c] w (partBPost (some (⟨0, 0, x⟩, m + 1)) w) := by
  obtain ⟨ad, e, z0⟩ := Kd.at_int hr 0 (by decide) (by omega)
  subst e
  have z1 : w.cell? ad = some (.int .u8 0) := by have h := z0; rw [show (0 : Int).toNat = 0 from rfl, addr_zero] at h; exact h
  have z2 : w.cell? (ad.add 0) = some (.int .u8 0) := z0
  have z3 : ∀ o, (w.alloc o).cell? ad = some (.int .u8 0) := fun o => cell_later o z1
  have z4 : ∀ o, (w.alloc o).cell? (ad.add 0) = some (.int .u8 0) := fun o => cell_later o z2
  obtain ⟨hk0, hk1⟩ := hb 0 (by simp)
  have hwk : IntKind.i64.wrap 0 = 0 := IntWalk.i64_in _ (by omega)
  have hlen : (((r.length + 1 : Nat) : Int) == 0) = false := beq_eq_false_iff_ne.2 (by omega)
  have hlen2 : ((r.length : Int) + 1 == 0) = false := beq_eq_false_iff_ne.2 (by omega)
  have hlen3 : ¬ (r.length : Int) + 1 = 0 := by omega
  obtain ⟨i0, hi0, _, hsz0, _⟩ := info_parts info5
  obtain ⟨A', hcut, hC', hlc⟩ := drop_row (P := Try.prog) (d := Kd.int .u8) Try.underlying25 hi0 hsz0 (some ad) c (0 :: r) 1 1 rfl (by simp) (by simpa using hc)
  have HROW := Aside0.mk (hC' w hr)
  have HLC := Aside0.mk hlc
  have hcut2 : ∀ W : World, (Instr.slice 25 (.slice (some ad) (r.length + 1) c) (some (.int .i64 1)) none none).run Try.prog W = .ok (.slice A' r.length (c - 1)) W := hcut
  have HBY := Aside0.mk (show byteL r from fun z hz => hb z (by simp [hz]))
  have hlr : r.length < 4611686018427387904 := by simp only [List.length_cons] at hl; omega
  have hm := gotV_len hg
  have hwm : IntKind.i64.wrap ((m : Int) + 1) = ((m + 1 : Nat) : Int) := by rw [IntWalk.i64_in _ (by omega)]; rfl
  have HG := Aside0.mk hg
  clear z0 hr hc hb hl hC' hi0 hsz0 hcut hlc hg
  go_enter Try.func70, Try.ntmps70
  go_wp2_with fail
  go_at_call 73
  refine (value_Get.told _ A' (c - 1) r (Kd.C_below HROW.out (below_alloc (below_alloc (Below.refl _ _) _) _)) HLC.out HBY.out hlr HG.out).mono ?_
  rintro e w1 ⟨rfl, hb1⟩
  have HB1 := Aside0.mk (below_step (below_alloc (below_alloc (Below.refl _ _) _) _) hb1)
  have HT := Aside0.mk (blk_alloc (blk_below (blk_alloc (blk_new w (.cells #[.int .i64 0, .int .i64 0, .int .i64 0, .int .i64 0, .string ⟨#[]⟩] 75)) (.cells #[.int .i64 0, .int .i64 0, .int .i64 0, .int .i64 0, .string ⟨#[]⟩] 75)) hb1) (.cells #[.int .i64 x.f0, .int .i64 x.f1, .string x.f2] 73))
  have HX := Aside0.mk (blk_alloc (blk_below (blk_new2 w (.cells #[.int .i64 0, .int .i64 0, .int .i64 0, .int .i64 0, .string ⟨#[]⟩] 75) (.cells #[.int .i64 0, .int .i64 0, .int .i64 0, .int .i64 0, .string ⟨#[]⟩] 75)) hb1) (.cells #[.int .i64 x.f0, .int .i64 x.f1, .string x.f2] 73))
  have HBV := Aside0.mk (below_alloc HB1.out (.cells #[.int .i64 x.f0, .int .i64 x.f1, .string x.f2] 73))
  clear hb1
  go_upto_region 7 with fail
  go_cut [] (fun wx => wx.heap[w.heap.size]? = some (.cells #[.int .i64 0, .int .i64 0, .int .i64 0, .int .i64 0, .string ⟨#[]⟩] 75) ∧ wx.heap[w.heap.size + 1]? = some (.cells #[.int .i64 0, .int .i64 0, .int .i64 x.f0, .int .i64 x.f1, .string x.f2] 75) ∧ Below w.heap.size w wx)
  case first =>
    obtain ⟨k1, _, k3, _⟩ := know HX.out
    go_wp2_with fail
    go_meet
    exact ⟨blk_far (blk_far (blk_far HT.out (p := ⟨w.heap.size + 1, 2, none⟩) (show w.heap.size ≠ w.heap.size + 1 by omega) (.int .i64 x.f0)) (p := ⟨w.heap.size + 1, 3, none⟩) (show w.heap.size ≠ w.heap.size + 1 by omega) (.int .i64 x.f1)) (p := ⟨w.heap.size + 1, 4, none⟩) (show w.heap.size ≠ w.heap.size + 1 by omega) (.string x.f2), blk_put (blk_put (blk_put HX.out 2 (.int .i64 x.f0) rfl) 3 (.int .i64 x.f1) rfl) 4 (.string x.f2) rfl, Below.setCell (p := ⟨w.heap.size + 1, 4, none⟩) (Below.setCell (p := ⟨w.heap.size + 1, 3, none⟩) (Below.setCell (p := ⟨w.heap.size + 1, 2, none⟩) HBV.out (Nat.le_succ _) _) (Nat.le_succ _) _) (Nat.le_succ _) _⟩
  case rest =>
  obtain ⟨hkt, hkx, hbw⟩ := hcut
  obtain ⟨w9, rfl⟩ : ∃ w9, w9 = wc := ⟨_, rfl⟩
  have HKT := Aside0.mk hkt
  have HBW := Aside0.mk hbw
  obtain ⟨j1, _, j3, _⟩ := know hkx
  obtain ⟨i1, _, i3, _⟩ := know hkt
  clear hkt hkx hbw
  have hfz := blk_put5 (HKT.out) (.int .i64 0) (.int .i64 0) (.int .i64 x.f0) (.int .i64 x.f1) (.string x.f2)
  have hz0 := blk_cell hfz 0
  have hz1 := blk_cell hfz 1
  have hz2 := blk_cell hfz 2
  have hz3 := blk_cell hfz 3
  have hz4 := blk_cell hfz 4
  go_wp2_with fail
  exact bodyPost_ret (v := .tuple #[.agg #[.int .i64 0, .int .i64 0, .int .i64 x.f0, .int .i64 x.f1, .string x.f2], .int .i64 ((m + 1 : Nat) : Int), .bool true]) (by simp [results, Try.results70, go_sem, hz0, hz1, hz2, hz3, hz4]) rfl ⟨rfl, below_put5 (HBW.out) (Nat.le_refl _) _ _ _ _ _⟩
set_option maxHeartbeats 1000000 in
set_option maxRecDepth 100000 in
theorem partb_bad {x : SValue} {m : Nat} (r : List Int) (A : Option Addr) (c : Nat) (w : World) (hr : Kd.C (Kd.int .u8) w A (r.length + 1) (0 :: r)) (hc : r.length + 1 ≤ c) (hb : byteL (0 :: r)) (hl : (0 :: r).length < 4611686018427387904) (hg : gotV (getV r) = (x, m, false)) : Calls Try.prog 70 #[.slice A (r.length + 1) c] w (partBPost none w) := by
  obtain ⟨ad, e, z0⟩ := Kd.at_int hr 0 (by decide) (by omega)
  subst e
  have z1 : w.cell? ad = some (.int .u8 0) := by have h := z0; rw [show (0 : Int).toNat = 0 from rfl, addr_zero] at h; exact h
  have z2 : w.cell? (ad.add 0) = some (.int .u8 0) := z0
  have z3 : ∀ o, (w.alloc o).cell? ad = some (.int .u8 0) := fun o => cell_later o z1
  have z4 : ∀ o, (w.alloc o).cell? (ad.add 0) = some (.int .u8 0) := fun o => cell_later o z2
  obtain ⟨hk0, hk1⟩ := hb 0 (by simp)
  have hwk : IntKind.i64.wrap 0 = 0 := IntWalk.i64_in _ (by omega)
  have hlen : (((r.length + 1 : Nat) : Int) == 0) = false := beq_eq_false_iff_ne.2 (by omega)
  have hlen2 : ((r.length : Int) + 1 == 0) = false := beq_eq_false_iff_ne.2 (by omega)
  have hlen3 : ¬ (r.length : Int) + 1 = 0 := by omega
  obtain ⟨i0, hi0, _, hsz0, _⟩ := info_parts info5
  obtain ⟨A', hcut, hC', hlc⟩ := drop_row (P := Try.prog) (d := Kd.int .u8) Try.underlying25 hi0 hsz0 (some ad) c (0 :: r) 1 1 rfl (by simp) (by simpa using hc)
  have HROW := Aside0.mk (hC' w hr)
  have HLC := Aside0.mk hlc
  have hcut2 : ∀ W : World, (Instr.slice 25 (.slice (some ad) (r.length + 1) c) (some (.int .i64 1)) none none).run Try.prog W = .ok (.slice A' r.length (c - 1)) W := hcut
  have HBY := Aside0.mk (show byteL r from fun z hz => hb z (by simp [hz]))
  have hlr : r.length < 4611686018427387904 := by simp only [List.length_cons] at hl; omega
  have hm := gotV_len hg
  have hwm : IntKind.i64.wrap ((m : Int) + 1) = ((m + 1 : Nat) : Int) := by rw [IntWalk.i64_in _ (by omega)]; rfl
  have HG := Aside0.mk hg
  clear z0 hr hc hb hl hC' hi0 hsz0 hcut hlc hg
  go_enter Try.func70, Try.ntmps70
  go_wp2_with fail
  go_at_call 73
  refine (value_Get.told _ A' (c - 1) r (Kd.C_below HROW.out (below_alloc (below_alloc (Below.refl _ _) _) _)) HLC.out HBY.out hlr HG.out).mono ?_
  rintro e w1 ⟨rfl, hb1⟩
  have HB1 := Aside0.mk (below_step (below_alloc (below_alloc (Below.refl _ _) _) _) hb1)
  have HT := Aside0.mk (blk_alloc (blk_below (blk_alloc (blk_new w (.cells #[.int .i64 0, .int .i64 0, .int .i64 0, .int .i64 0, .string ⟨#[]⟩] 75)) (.cells #[.int .i64 0, .int .i64 0, .int .i64 0, .int .i64 0, .string ⟨#[]⟩] 75)) hb1) (.cells #[.int .i64 x.f0, .int .i64 x.f1, .string x.f2] 73))
  have HX := Aside0.mk (blk_alloc (blk_below (blk_new2 w (.cells #[.int .i64 0, .int .i64 0, .int .i64 0, .int .i64 0, .string ⟨#[]⟩] 75) (.cells #[.int .i64 0, .int .i64 0, .int .i64 0, .int .i64 0, .string ⟨#[]⟩] 75)) hb1) (.cells #[.int .i64 x.f0, .int .i64 x.f1, .string x.f2] 73))
  have HBV := Aside0.mk (below_alloc HB1.out (.cells #[.int .i64 x.f0, .int .i64 x.f1, .string x.f2] 73))
  clear hb1
  go_upto_region 7 with fail
  go_cut [] (fun wx => wx.heap[w.heap.size]? = some (.cells #[.int .i64 0, .int .i64 0, .int .i64 0, .int .i64 0, .string ⟨#[]⟩] 75) ∧ wx.heap[w.heap.size + 1]? = some (.cells #[.int .i64 0, .int .i64 0, .int .i64 x.f0, .int .i64 x.f1, .string x.f2] 75) ∧ Below w.heap.size w wx)
  case first =>
    obtain ⟨k1, _, k3, _⟩ := know HX.out
    go_wp2_with fail
    go_meet
    exact ⟨blk_far (blk_far (blk_far HT.out (p := ⟨w.heap.size + 1, 2, none⟩) (show w.heap.size ≠ w.heap.size + 1 by omega) (.int .i64 x.f0)) (p := ⟨w.heap.size + 1, 3, none⟩) (show w.heap.size ≠ w.heap.size + 1 by omega) (.int .i64 x.f1)) (p := ⟨w.heap.size + 1, 4, none⟩) (show w.heap.size ≠ w.heap.size + 1 by omega) (.string x.f2), blk_put (blk_put (blk_put HX.out 2 (.int .i64 x.f0) rfl) 3 (.int .i64 x.f1) rfl) 4 (.string x.f2) rfl, Below.setCell (p := ⟨w.heap.size + 1, 4, none⟩) (Below.setCell (p := ⟨w.heap.size + 1, 3, none⟩) (Below.setCell (p := ⟨w.heap.size + 1, 2, none⟩) HBV.out (Nat.le_succ _) _) (Nat.le_succ _) _) (Nat.le_succ _) _⟩
  case rest =>
  obtain ⟨hkt, hkx, hbw⟩ := hcut
  obtain ⟨w9, rfl⟩ : ∃ w9, w9 = wc := ⟨_, rfl⟩
  have HKT := Aside0.mk hkt
  have HBW := Aside0.mk hbw
  obtain ⟨j1, _, j3, _⟩ := know hkx
  obtain ⟨i1, _, i3, _⟩ := know hkt
  clear hkt hkx hbw
  have hfz := blk_put5 (HKT.out) (.int .i64 0) (.int .i64 0) (.int .i64 x.f0) (.int .i64 x.f1) (.string x.f2)
  have hz0 := blk_cell hfz 0
  have hz1 := blk_cell hfz 1
  have hz2 := blk_cell hfz 2
  have hz3 := blk_cell hfz 3
  have hz4 := blk_cell hfz 4
  go_wp2_with fail
  exact bodyPost_ret (v := .tuple #[.agg #[.int .i64 0, .int .i64 0, .int .i64 x.f0, .int .i64 x.f1, .string x.f2], .int .i64 ((m + 1 : Nat) : Int), .bool false]) (by simp [results, Try.results70, go_sem, hz0, hz1, hz2, hz3, hz4]) rfl ⟨⟨⟨0, 0, x⟩, _, rfl⟩, below_put5 (HBW.out) (Nat.le_refl _) _ _ _ _ _⟩
theorem partb_told (l : List Int) (A : Option Addr) (c : Nat) (w : World) (hr : Kd.C (Kd.int .u8) w A l.length l) (hc : l.length ≤ c) (hb : byteL l) (hl : l.length < 4611686018427387904) {r : Option (SOp × Nat)} (hq : getP l = r) : Calls Try.prog 70 #[.slice A l.length c] w (partBPost r w) := by
  cases l with
  | nil =>
    subst hq
    exact partb_nil A c w
  | cons k r' =>
    simp only [getP] at hq
    by_cases h0 : k = 0
    · subst h0
      rw [if_pos rfl] at hq
      obtain ⟨⟨x, m, b⟩, hg⟩ : ∃ q, gotV (getV r') = q := ⟨_, rfl⟩
      cases hv : getV r' with
      | none =>
        rw [hv] at hq hg
        subst hq
        simp only [gotV, Prod.mk.injEq] at hg
        obtain ⟨rfl, rfl, rfl⟩ := hg
        exact partb_bad r' A c w hr hc hb hl (by rw [hv]; rfl)
      | some p =>
        obtain ⟨y, j⟩ := p
        rw [hv] at hq hg
        subst hq
        simp only [gotV, Prod.mk.injEq] at hg
        obtain ⟨rfl, rfl, rfl⟩ := hg
        exact partb_push r' A c w hr hc hb hl (by rw [hv]; rfl)
    · rw [if_neg h0] at hq
      by_cases h1 : k = 1
      · rw [if_pos h1] at hq
        subst h1
        cases r' with
        | nil => subst hq; exact partb_short 1 [] A c w hr hc hb hl rfl rfl
        | cons a r'' => subst hq; exact partb_load a r'' A c w hr hc hb hl
      · rw [if_neg h1] at hq
        subst hq
        exact partb_code k r' A c w hr hc hb hl h0 h1
end Go.Proofs.Ytooemobolfoefaa.P

namespace Go.Proofs.Ytooemobolfoefaa.P
open Go.RowKit Go.Proofs.YtooemobolfoefaaW.PrintWords Go.Proofs.YtooemobolfoefaaW.PrintLast Go.Proofs.YtooemobolfoefaaW.PrintMore
attribute [local go_sem] max2_int min2_int max_two min_two max_three min_three max_four min_four   -- for this text's walks alone
set_option linter.unusedVariables false
set_option linter.unusedSimpArgs false
def getORel (l : List Int) (n : Nat) (w : World) (k : Nat) (at_ v8 : Value) (w' : World) : Prop := ∃ (a : Nat) (fs : List SOp), at_ = .int .i64 (a : Int) ∧ k ≤ n ∧ a ≤ l.length ∧ fs.length = k ∧ (∀ x ∈ fs, i64V x.f2) ∧ getO l = contO l (n - k) a fs ∧ Kd.R kOp 75 w' w.heap.size (fun _ => True) v8 fs ∧ Below w.heap.size w w'
def opsPostR (x : List SOp) (n : Nat) (b : Bool) (w : World) (e : Ending) (w' : World) : Prop := ∃ v, e = .returned (.tuple #[v, .int .i64 (n : Int), .bool b]) ∧ Kd.R kOp 75 w' w.heap.size (fun _ => True) v x ∧ Below w.heap.size w w'
theorem none_opsR {w : World} {e : Ending} {w' : World} (he : e = .returned (.tuple #[.slice none 0 0, .int .i64 0, .bool false])) (hb : Below w.heap.size w w') : opsPostR [] 0 false w e w' := ⟨_, he, Kd.R_nil _ _ _ _ _, hb⟩
set_option maxHeartbeats 1000000 in
set_option maxRecDepth 100000 in
theorem getO_no1 (w : World) (A : Option Addr) (c : Nat) (l : List Int) (hr : Kd.C (Kd.int .u8) w A l.length l) (hc : l.length ≤ c) (hb : byteL l) (hl : l.length < 4611686018427387904) (hg : getN l = none) : Calls Try.prog 60 #[.slice A l.length c] w (opsPostR [] 0 false w) := by
  go_enter Try.func60, Try.ntmps60
  go_wp2_with fail
  go_at_call 42
  refine (le_Get.no A c l _ hg hb hl hr hc).mono ?_
  rintro e w1 ⟨rfl, hb1⟩
  go_wp2_with fail
  go_ret3
  exact none_opsR rfl hb1
set_option maxHeartbeats 1000000 in
set_option maxRecDepth 100000 in
theorem getO_no2 (w : World) (A : Option Addr) (c : Nat) (l : List Int) (hr : Kd.C (Kd.int .u8) w A l.length l) (hc : l.length ≤ c) (hb : byteL l) (hl : l.length < 4611686018427387904) {n u : Nat} (hg : getN l = some (n, u)) (hn : ¬ n ≤ 12) : Calls Try.prog 60 #[.slice A l.length c] w (opsPostR [] 0 false w) := by
  have hgt : (n : Int) > 12 := by omega
  have hgt2 : (12 : Int) < (n : Int) := by omega
  have hd : decide ((12 : Int) < (n : Int)) = true := decide_eq_true hgt2
  go_enter Try.func60, Try.ntmps60
  go_wp2_with fail
  go_at_call 42
  refine (le_Get.yes A c l _ hg hb hl hr hc).mono ?_
  rintro e w1 ⟨rfl, hb1⟩
  go_wp2_with fail
  go_ret3
  exact none_opsR rfl hb1
set_option maxHeartbeats 8000000 in
set_option maxRecDepth 100000 in
theorem getO_go (w : World) (A : Option Addr) (c : Nat) (l : List Int) (hr : Kd.C (Kd.int .u8) w A l.length l) (hc : l.length ≤ c) (hb : byteL l) (hl : l.length < 4611686018427387904) {n u : Nat} (hg : getN l = some (n, u)) (hn : n ≤ 12) {x : List SOp} {m : Nat} {b : Bool} (hq : gotO (getO l) = (x, m, b)) : Calls Try.prog 60 #[.slice A l.length c] w (opsPostR x m b w) := by
  obtain ⟨i0, hi0, _, hsz0, _⟩ := info_parts info5
  have HR := Aside0.mk hr
  have HC := Aside0.mk hc
  have HBY := Aside0.mk hb
  have HG := Aside0.mk hg
  have HQ := Aside0.mk hq
  have hngt : ¬ (12 : Int) < (n : Int) := by omega
  have hd : decide ((12 : Int) < (n : Int)) = false := decide_eq_false hngt
  have hul := (getN_used hg).2.1
  have HST := Aside0.mk (getO_some (show getM l 12 = some (n, u) from by rw [getM_some hg, if_pos hn]))
  clear hr hc hb hg hq
  go_enter Try.func60, Try.ntmps60
  go_wp2_with fail
  go_at_call 42
  refine (le_Get.yes A c l _ HG.out HBY.out hl HR.out HC.out).mono ?_
  rintro e w1 ⟨rfl, hb1⟩
  have HB1 := Aside0.mk hb1
  clear hb1
  go_wp2_with fail
  go_loopw [6, 8, 9, 10, 11, 25] (fun v6 v8 _ _ _ v25 w' => ∃ k : Nat, v25 = .int .u64 (k : Int) ∧ getORel l n w k v6 v8 w') (fun _ _ _ _ _ i _ => n - (intOf i).toNat)
  case atStart => exact ⟨0, rfl, u, [], rfl, Nat.zero_le _, hul, rfl, (fun _ h => by cases h), by rw [Nat.sub_zero]; exact HST.out, Kd.R_nil _ _ _ _ _, HB1.out⟩
  case round =>
    obtain ⟨k, rfl, a, fs, rfl, hk, ha, hfl, hfi, hcont, ho, hbw⟩ := hrel
    have HO := Aside0.mk ho
    have HB := Aside0.mk hbw
    have HFI := Aside0.mk hfi
    have HCT := Aside0.mk hcont
    have HFL := Aside0.mk hfl
    have hfl12 : fs.length ≤ 12 := by omega
    clear ho hbw hfi hcont HB1 hfl
    by_cases hlt : k < n
    · obtain ⟨A4, hcut4, hD4, hlc4⟩ := drop_row (P := Try.prog) (d := Kd.int .u8) Try.underlying25 hi0 hsz0 A c l a (a : Int) rfl ha HC.out
      have HD4 := Aside0.mk (hD4 w HR.out)
      have HL4 := Aside0.mk hlc4
      have hln4 : a + (l.drop a).length = l.length := by rw [List.length_drop]; omega
      have hstep := contO_step l (n - k - 1) a fs
      rw [show n - k - 1 + 1 = n - k from by omega] at hstep
      have HBD := Aside0.mk (byteL_drop HBY.out a)
      have hld : (l.drop a).length < 4611686018427387904 := by omega
      have hlti : (k : Int) < (n : Int) := by omega
      have hltd : decide ((k : Int) < (n : Int)) = true := decide_eq_true hlti
      clear hD4 hlc4
      cases hg4 : getP (l.drop a) with
      | none =>
        have HN : Aside0 (getO l = none) := ⟨by rw [HCT.out, hstep, hg4]⟩
        have HG4 := Aside0.mk hg4
        have hq2 := HQ.out
        rw [HN.out] at hq2
        simp only [gotO, Prod.mk.injEq] at hq2
        obtain ⟨rfl, rfl, rfl⟩ := hq2
        clear hg4 hstep hi0 hsz0
        generalize l.drop a = ld4 at *
        go_wp2_with fail
        go_at_call 70
        refine (partb_told ld4 A4 _ _ (Kd.C_below HD4.out HB.out) HL4.out HBD.out hld HG4.out).mono ?_
        rintro e w4 ⟨⟨z, zn, rfl⟩, hb4⟩
        unfold cellsP
        go_wp2_with fail
        go_ret3
        exact none_opsR rfl (below_alloc (below_step HB.out hb4) _)
      | some p4 =>
        obtain ⟨z, zn⟩ := p4
        obtain ⟨hz1, hz2, hz3⟩ := getP_used HBD.out hg4
        rw [hg4] at hstep
        simp only at hstep
        have HST4 := Aside0.mk (HCT.out.trans hstep)
        have HG4 := Aside0.mk hg4
        have HZ1 := Aside0.mk hz1
        have hsum : IntKind.i64.wrap ((a : Int) + (zn : Int)) = ((a + zn : Nat) : Int) := by rw [IntWalk.i64_in _ (by omega)]; rfl
        have hwk : IntKind.u64.wrap ((k : Int) + 1) = ((k + 1 : Nat) : Int) := by rw [show (k : Int) + 1 = ((k + 1 : Nat) : Int) from rfl]; exact u64_small' (by omega)
        clear hg4 hstep hi0 hsz0 hz1
        generalize l.drop a = ld4 at *
        go_wp2_with fail
        go_at_call 70
        refine (partb_told ld4 A4 _ _ (Kd.C_below HD4.out HB.out) HL4.out HBD.out hld HG4.out).mono ?_
        rintro e w4 ⟨rfl, hb4⟩
        unfold cellsP
        have HB4 := Aside0.mk (below_alloc (below_step HB.out hb4) (.cells #[.int .i64 z.f0, .int .i64 z.f1, .int .i64 z.f2.f0, .int .i64 z.f2.f1, .string z.f2.f2] 75))
        have HO4 := Aside0.mk (Kd.R_alloc (Kd.R_below HO.out hb4) (.cells #[.int .i64 z.f0, .int .i64 z.f1, .int .i64 z.f2.f0, .int .i64 z.f2.f1, .string z.f2.f2] 75))
        have HS4 := Aside0.mk (World.size_alloc w4 (.cells #[.int .i64 z.f0, .int .i64 z.f1, .int .i64 z.f2.f0, .int .i64 z.f2.f1, .string z.f2.f2] 75))
        clear hb4
        go_wp2_with ((with_reducible refine gate_builtin (b := .append) (xs := #[.tmp 37, .tmp 39]) rfl ?_); at_builtin; refine Kd.R_append kOp (w0 := w) w.heap.size rfl (.tmp 37) (.tmp 39) 38 75 (.agg #[.int .i64 0, .int .i64 0, .int .i64 0, .int .i64 0, .string ⟨#[]⟩]) 48 rfl Try.underlying38 infoOp rfl ?h1 ?h2 u8 fs z [.int .i64 z.f0, .int .i64 z.f1, .int .i64 z.f2.f0, .int .i64 z.f2.f1, .string z.f2.f2] (fun _ => True) (fun _ => False) ?hs ?hx ?aP (fun _ hk => hk.elim) (fun _ _ => trivial) ?aO ?aB ?aS ?aL ?_; (case h1 => decide); (case h2 => decide); (case hs => rfl); (case hx => first | rfl | (show Value.slice (some ⟨w4.heap.size + 1, 0, none⟩) 1 1 = _; rw [World.size_alloc])); (case aP => exact kOp_mkM _ _ _ z); (case aO => exact HO4.out); (case aB => exact HB4.out); (case aS => exact below_size HB4.out); (case aL => omega); intro v5 w5 ho5 hb5 hg5 hat5; have HO5 := Aside0.mk ho5; have HB5 := Aside0.mk hb5; clear ho5 hb5 hg5 hat5)
        go_roundw
        case rel => exact ⟨k + 1, by first | go_num | (rw [hwk]) | rfl, a + zn, fs ++ [z], by first | go_num | rfl, by omega, by omega, by rw [List.length_append, HFL.out]; rfl, fun y hy => by rcases List.mem_append.1 hy with h | h; exact HFI.out y h; rw [List.mem_singleton.1 h]; exact HZ1.out, by rw [show n - (k + 1) = n - k - 1 from by omega]; exact HST4.out, HO5.out, HB5.out⟩
        case measure => simp [intOf]; omega
    · obtain rfl : k = n := by omega
      have hnl : ¬ (k : Int) < (k : Int) := by omega
      have hcte := HCT.out
      rw [Nat.sub_self, contO_end] at hcte
      obtain ⟨A5, c5, rfl, hc5, hr5⟩ := Kd.R_reads HO.out
      have HC5 := Aside0.mk hc5
      have HR5 := Aside0.mk hr5
      have hq2 := HQ.out
      rw [hcte] at hq2
      clear hc5 hr5 hcte hi0 hsz0
      cases hmf : mayO fs with
      | false =>
        rw [hmf, if_neg (by decide)] at hq2
        simp only [gotO, Prod.mk.injEq] at hq2
        obtain ⟨rfl, rfl, rfl⟩ := hq2
        have HMF := Aside0.mk hmf
        clear hmf
        go_wp2_with fail
        go_at_call 58
        refine (mayO_told fs A5 c5 _ HR5.out HC5.out HFI.out HMF.out).mono ?_
        rintro e w6 ⟨rfl, hb6⟩
        go_wp2_with fail
        go_ret3
        exact none_opsR rfl (below_step HB.out hb6)
      | true =>
        rw [hmf, if_pos rfl] at hq2
        simp only [gotO, Prod.mk.injEq] at hq2
        obtain ⟨rfl, rfl, rfl⟩ := hq2
        have HMF := Aside0.mk hmf
        clear hmf
        go_wp2_with fail
        go_at_call 58
        refine (mayO_told fs A5 c5 _ HR5.out HC5.out HFI.out HMF.out).mono ?_
        rintro e w6 ⟨rfl, hb6⟩
        go_wp2_with fail
        go_ret3
        exact ⟨_, rfl, Kd.R_below HO.out hb6, below_step HB.out hb6⟩
theorem getO_toldR (w : World) (A : Option Addr) (c : Nat) (l : List Int) (hr : Kd.C (Kd.int .u8) w A l.length l) (hc : l.length ≤ c) (hb : byteL l) (hl : l.length < 4611686018427387904) {x : List SOp} {m : Nat} {b : Bool} (hq : gotO (getO l) = (x, m, b)) : Calls Try.prog 60 #[.slice A l.length c] w (opsPostR x m b w) := by
  cases hg : getN l with
  | none =>
    rw [getO_none (getM_none hg)] at hq
    simp only [gotO, Prod.mk.injEq] at hq
    obtain ⟨rfl, rfl, rfl⟩ := hq
    exact getO_no1 w A c l hr hc hb hl hg
  | some p =>
    obtain ⟨n, u⟩ := p
    by_cases hn : n ≤ 12
    · exact getO_go w A c l hr hc hb hl hg hn hq
    · rw [getO_none (show getM l 12 = none from by rw [getM_some hg, if_neg hn])] at hq
      simp only [gotO, Prod.mk.injEq] at hq
      obtain ⟨rfl, rfl, rfl⟩ := hq
      exact getO_no2 w A c l hr hc hb hl hg hn
end Go.Proofs.Ytooemobolfoefaa.P

namespace Go.Proofs.Ytooemobolfoefaa.P
open Go.RowKit Go.Proofs.YtooemobolfoefaaW.PrintWords Go.Proofs.YtooemobolfoefaaW.PrintLast Go.Proofs.YtooemobolfoefaaW.PrintMore
attribute [local go_sem] max2_int min2_int max_two min_two max_three min_three max_four min_four   -- for this text's walks alone
set_option linter.unusedVariables false
set_option linter.unusedSimpArgs false
def opsPost9 (w0 : World) (B : Nat) (s : Option (List Int)) (w : World) (e : Ending) (w' : World) : Prop := ∃ v x, e = .returned v ∧ Kd.R kOp 75 w' w.heap.size (fun _ => True) v x ∧ (∀ y ∈ x, i64V y.f2) ∧ x.length ≤ 12 ∧ (∀ y r, s.bind rO = some (y, r) → x = y) ∧ RdAt w0 B (restO s rO) w' ∧ Only B w w'
set_option maxHeartbeats 1000000 in
set_option maxRecDepth 100000 in
theorem ops_told (w0 : World) (B : Nat) (s : Option (List Int)) (w : World) (h : RdAt w0 B s w) :
    Calls Try.prog 45 #[.pointer (some ⟨B, 0, none⟩)] w (opsPost9 w0 B s w) := by
  have HH := Aside0.mk h
  obtain ⟨⟨A, c, l, bad, h1, h2, h3, h4, h5, hs⟩, h6, h7⟩ := h
  have HR := Aside0.mk (Kd.C_below h3 h6)
  have HC := Aside0.mk h2
  have HBY := Aside0.mk h4
  obtain ⟨k1, k2, k3, k4⟩ := know h1
  obtain ⟨x, m, b, hg⟩ : ∃ x m b, gotO (getO l) = (x, m, b) := ⟨_, _, _, rfl⟩
  have hx : (∀ y ∈ x, i64V y.f2) ∧ m ≤ l.length ∧ x.length ≤ 12 := by
    cases hz : getO l with
    | none =>
      rw [hz] at hg
      simp only [gotO, Prod.mk.injEq] at hg
      obtain ⟨rfl, rfl, _⟩ := hg
      exact ⟨(fun _ h => by cases h), Nat.zero_le _, by decide⟩
    | some p =>
      obtain ⟨y, k⟩ := p
      rw [hz] at hg
      simp only [gotO, Prod.mk.injEq] at hg
      obtain ⟨rfl, rfl, _⟩ := hg
      have ht := getO_take h4 hz
      exact ⟨ht.2.2.2, ht.2.1, (mayO_iff.1 ht.1).1⟩
  have hsl : s = none ∨ s = some l := by
    rw [hs]
    cases bad
    · exact .inr rfl
    · exact .inl rfl
  have HE := Aside0.mk (restO_rO s hg hsl (fun _ => hx.2.1))
  have HX := Aside0.mk (show ∀ y r, s.bind rO = some (y, r) → x = y from by
    intro y r hy
    rcases hsl with rfl | rfl
    · cases hy
    · rw [Option.bind_some] at hy
      unfold rO at hy
      cases hz : getO l with
      | none => rw [hz] at hy; cases hy
      | some p =>
        obtain ⟨z, k⟩ := p
        rw [hz] at hy hg
        simp only [gotO, Option.some.injEq, Prod.mk.injEq] at hy hg
        rw [← hg.1, hy.1])
  have HG := Aside0.mk hg
  have HI := Aside0.mk hx.1
  have HX12 := Aside0.mk hx.2.2
  have hm63 : m < 4611686018427387904 := by omega
  clear h1 h2 h3 h4 h6 hs hsl hg hx
  go_enter Try.func45, Try.ntmps45
  go_wp2_with fail
  go_at_call 60
  refine (getO_toldR w A c l HR.out HC.out HBY.out h5 HG.out).mono ?_
  rintro e w1 ⟨v1, rfl, ho1, hb1⟩
  have HV1 := Aside0.mk ho1
  have HH1 := Aside0.mk (HH.out.grow hb1)
  have HO1 := Aside0.mk (Only.of_below hb1 (Nat.le_of_lt HH.out.lt))
  clear hb1 ho1 k1 k2 k3 k4
  go_wp2_with fail
  go_at_call 43
  refine (skip_told w0 B s m b _ HH1.out hm63).mono ?_
  rintro e w2 ⟨rfl, hrd, ho⟩
  rw [← HE.out] at hrd
  have HR2 := Aside0.mk hrd
  have HO2 := Aside0.mk (HO1.out.trans ho)
  obtain ⟨⟨A1, c1, l1, bad1, g1, g2, g3, g4, g5, g6⟩, g7, g8⟩ := HH1.out
  have HV2 := Aside0.mk (ho.row HV1.out g1 (by decide))
  clear g1 g2 g3 g4 g6 g7 hrd ho
  go_wp2_with fail
  go_ret
  exact ⟨v1, x, rfl, HV2.out, HI.out, HX12.out, HX.out, HR2.out, HO2.out⟩
end Go.Proofs.Ytooemobolfoefaa.P

namespace Go.Proofs.Ytooemobolfoefaa.P
open Go.RowKit Go.Proofs.YtooemobolfoefaaW.PrintWords Go.Proofs.YtooemobolfoefaaW.PrintLast Go.Proofs.YtooemobolfoefaaW.PrintMore
attribute [local go_sem] max2_int min2_int max_two min_two max_three min_three max_four min_four   -- for this text's walks alone
set_option linter.unusedVariables false
set_option linter.unusedSimpArgs false
def stepPost (w0 : World) (B : Nat) (s : Option (List Int)) (w : World) (e : Ending) (w' : World) : Prop := ∃ (v1 v6 : Value) (x : SStep), e = .returned (.agg #[.string x.f0, v1, .int .i64 x.f2, .int .i64 x.f3, .bool x.f4, .string x.f5, v6]) ∧ Kd.R kOp 75 w' w.heap.size (fun _ => True) v1 x.f1 ∧ Kd.R kOp 75 w' w.heap.size (fun _ => True) v6 x.f6 ∧ (∀ y ∈ x.f1, i64V y.f2) ∧ (∀ y ∈ x.f6, i64V y.f2) ∧ (∀ y r, s.bind rS = some (y, r) → x = y) ∧ RdAt w0 B (restO s rS) w' ∧ Only B w w'
theorem rd_row {w0 w w' : World} {B : Nat} {s : Option (List Int)} {base : Nat} {v : Value} {x : List SOp} (h : RdAt w0 B s w) (hr : Kd.R kOp 75 w base (fun _ => True) v x) (ho : Only B w w') : Kd.R kOp 75 w' base (fun _ => True) v x := by
  obtain ⟨⟨A1, c1, l1, bad1, g1, _⟩, _⟩ := h
  exact ho.row hr g1 (by decide)
theorem Only.set_new {B g j : Nat} {w w' : World} (h : Only B w w') (hg : w.heap.size ≤ g) (hB : B ≤ g) (u : Value) : Only B w (w'.setCell ⟨g, j, none⟩ u) :=
  ⟨h.1.setCell (p := ⟨g, j, none⟩) hB u, fun i hi hl => (Below.heap_setCell w' ⟨g, j, none⟩ u i (show i ≠ g by omega)).trans (h.2 i hi hl)⟩
theorem RdAt.set_far {w0 w : World} {B g j : Nat} {s : Option (List Int)} (h : RdAt w0 B s w) (hne : B ≠ g) (hg : w0.heap.size ≤ g) (u : Value) : RdAt w0 B s (w.setCell ⟨g, j, none⟩ u) := by
  obtain ⟨⟨A, c, l, bad, h1, h2⟩, h3, h4⟩ := h
  exact ⟨⟨A, c, l, bad, blk_far h1 (p := ⟨g, j, none⟩) hne u, h2⟩, h3.setCell (p := ⟨g, j, none⟩) hg u, h4⟩
structure StepSt (w0 w : World) (B : Nat) (s : Option (List Int)) (v1 : Value) (o1 : List SOp) (v6 : Value) (o2 : List SOp) (W : World) : Prop where
  rd : RdAt w0 B s W
  only : Only B w W
  r1 : Kd.R kOp 75 W w.heap.size (fun _ => True) v1 o1
  r6 : Kd.R kOp 75 W w.heap.size (fun _ => True) v6 o2
theorem StepSt.set {w0 w W : World} {B g j : Nat} {s : Option (List Int)} {v1 v6 : Value} {o1 o2 : List SOp} {cs : Array Value} (h : StepSt w0 w B s v1 o1 v6 o2 W) (hk : W.heap[g]? = some (.cells cs 40 (0, 0))) (hg : w.heap.size ≤ g) (hB : B < w.heap.size) (u : Value) : StepSt w0 w B s v1 o1 v6 o2 (W.setCell ⟨g, j, none⟩ u) :=
  ⟨h.rd.set_far (by omega) (by have := h.rd.hB; omega) u, h.only.set_new hg (by omega) u, Kd.R_set h.r1 hk (by decide) j u, Kd.R_set h.r6 hk (by decide) j u⟩
theorem StepSt.set7 {w0 w W : World} {B g : Nat} {s : Option (List Int)} {v1 v6 : Value} {o1 o2 : List SOp} {a0 a1 a2 a3 a4 a5 a6 : Value} (h : StepSt w0 w B s v1 o1 v6 o2 W) (hk : W.heap[g]? = some (.cells #[a0, a1, a2, a3, a4, a5, a6] 40 (0, 0))) (hg : w.heap.size ≤ g) (hB : B < w.heap.size) (x0 x1 x2 x3 x4 x5 x6 : Value) :
    StepSt w0 w B s v1 o1 v6 o2 (((((((W.setCell ⟨g, 0, none⟩ x0).setCell ⟨g, 1, none⟩ x1).setCell ⟨g, 2, none⟩ x2).setCell ⟨g, 3, none⟩ x3).setCell ⟨g, 4, none⟩ x4).setCell ⟨g, 5, none⟩ x5).setCell ⟨g, 6, none⟩ x6) ∧ (((((((W.setCell ⟨g, 0, none⟩ x0).setCell ⟨g, 1, none⟩ x1).setCell ⟨g, 2, none⟩ x2).setCell ⟨g, 3, none⟩ x3).setCell ⟨g, 4, none⟩ x4).setCell ⟨g, 5, none⟩ x5).setCell ⟨g, 6, none⟩ x6).heap[g]? = some (.cells #[x0, x1, x2, x3, x4, x5, x6] 40 (0, 0)) := by
  have k0 := blk_put (cs' := #[x0, a1, a2, a3, a4, a5, a6]) hk 0 x0 rfl
  have k1 := blk_put (cs' := #[x0, x1, a2, a3, a4, a5, a6]) k0 1 x1 rfl
  have k2 := blk_put (cs' := #[x0, x1, x2, a3, a4, a5, a6]) k1 2 x2 rfl
  have k3 := blk_put (cs' := #[x0, x1, x2, x3, a4, a5, a6]) k2 3 x3 rfl
  have k4 := blk_put (cs' := #[x0, x1, x2, x3, x4, a5, a6]) k3 4 x4 rfl
  have k5 := blk_put (cs' := #[x0, x1, x2, x3, x4, x5, a6]) k4 5 x5 rfl
  have s0 := h.set (j := 0) hk hg hB x0
  have s1 := s0.set (j := 1) k0 hg hB x1
  have s2 := s1.set (j := 2) k1 hg hB x2
  have s3 := s2.set (j := 3) k2 hg hB x3
  have s4 := s3.set (j := 4) k3 hg hB x4
  have s5 := s4.set (j := 5) k4 hg hB x5
  have s6 := s5.set (j := 6) k5 hg hB x6
  exact ⟨s6, blk_put k5 6 x6 rfl⟩
set_option maxHeartbeats 4000000 in
set_option maxRecDepth 100000 in
theorem step_told (w0 : World) (B : Nat) (s : Option (List Int)) (w : World) (h : RdAt w0 B s w) :
    Calls Try.prog 26 #[.pointer (some ⟨B, 0, none⟩)] w (stepPost w0 B s w) := by
  have HZ := Aside0.mk (blk_new w (.cells #[.string ⟨#[]⟩, .slice none 0 0, .int .i64 0, .int .i64 0, .bool false, .string ⟨#[]⟩, .slice none 0 0] 40))
  have HB0 := Aside0.mk (below_alloc (Below.refl w.heap.size w) (.cells #[.string ⟨#[]⟩, .slice none 0 0, .int .i64 0, .int .i64 0, .bool false, .string ⟨#[]⟩, .slice none 0 0] 40))
  have HH := Aside0.mk (h.grow HB0.out)
  have HO0 := Aside0.mk (Only.of_below HB0.out (Nat.le_of_lt h.lt))
  have hBw := h.lt
  have hne : w.heap.size ≠ B := by omega
  obtain ⟨s1, hs1⟩ : ∃ s1, restO s rT = s1 := ⟨_, rfl⟩
  obtain ⟨s2, hs2⟩ : ∃ s2, restO s1 rO = s2 := ⟨_, rfl⟩
  obtain ⟨s3, hs3⟩ : ∃ s3, restO s2 (rN 4) = s3 := ⟨_, rfl⟩
  obtain ⟨s4, hs4⟩ : ∃ s4, restO s3 (rN 4) = s4 := ⟨_, rfl⟩
  obtain ⟨s5, hs5⟩ : ∃ s5, restO s4 (rN 1) = s5 := ⟨_, rfl⟩
  obtain ⟨nm, hnm⟩ : ∃ t, wasO (⟨#[]⟩ : ByteArray) s rT = t := ⟨_, rfl⟩
  obtain ⟨mn, hmn⟩ : ∃ t, wasO 0 s2 (rN 4) = t := ⟨_, rfl⟩
  obtain ⟨mx, hmx⟩ : ∃ t, wasO 0 s3 (rN 4) = t := ⟨_, rfl⟩
  obtain ⟨g, hg⟩ : ∃ t, wasO 0 s4 (rN 1) = t := ⟨_, rfl⟩
  have HP := Aside0.mk (fun (y : SStep) (r : List Int) (hy : s.bind rS = some (y, r)) => rS_parts hy)
  have HRS := Aside0.mk (restO_rS s)
  rw [hs1, hs2, hs3, hs4, hs5, hg] at HRS
  rw [hs1, hs2, hs3, hs4, hs5, hg, hnm, hmn, hmx] at HP
  have HS1 := Aside0.mk hs1
  have HS2 := Aside0.mk hs2
  have HS3 := Aside0.mk hs3
  have HS4 := Aside0.mk hs4
  have HS5 := Aside0.mk hs5
  have HNM := Aside0.mk hnm
  have HMN := Aside0.mk hmn
  have HMX := Aside0.mk hmx
  have HG := Aside0.mk hg
  clear h hs1 hs2 hs3 hs4 hs5 hnm hmn hmx hg
  go_enter Try.func26, Try.ntmps26
  go_wp2_with fail
  go_at_call 44
  refine (text_told w0 B s _ HH.out).mono ?_
  rintro e w1 ⟨rfl, hrd, ho⟩
  rw [HS1.out] at hrd
  rw [HNM.out]
  have HR1 := Aside0.mk hrd
  have HO1 := Aside0.mk (HO0.out.trans ho)
  have HZ1 := Aside0.mk (ho.blk HZ.out hne)
  clear hrd ho
  go_wp2_with fail
  go_at_call 45
  refine (ops_told w0 B s1 _ HR1.out).mono ?_
  rintro e w2 ⟨v1, o1, rfl, hv, hi, _, hx, hrd, ho⟩
  rw [HS2.out] at hrd
  have HR2 := Aside0.mk hrd
  have HO2 := Aside0.mk (HO1.out.trans ho)
  have HV2 := Aside0.mk (Kd.R_lower hv HO1.out.1.size)
  have HI1 := Aside0.mk hi
  have HX1 := Aside0.mk hx
  have HZ2 := Aside0.mk (ho.blk HZ1.out hne)
  clear hrd ho hv hi hx
  go_wp2_with fail
  go_at_call 25
  refine (number_told w0 B s2 4 _ HR2.out (by decide)).mono ?_
  rintro e w3 ⟨rfl, hrd, ho⟩
  rw [HS3.out] at hrd
  rw [HMN.out]
  have HR3 := Aside0.mk hrd
  have HO3 := Aside0.mk (HO2.out.trans ho)
  have HV3 := Aside0.mk (rd_row HR2.out HV2.out ho)
  have HZ3 := Aside0.mk (ho.blk HZ2.out hne)
  clear hrd ho
  go_wp2_with fail
  go_at_call 25
  refine (number_told w0 B s3 4 _ HR3.out (by decide)).mono ?_
  rintro e w4 ⟨rfl, hrd, ho⟩
  rw [HS4.out] at hrd
  rw [HMX.out]
  have HR4 := Aside0.mk hrd
  have HO4 := Aside0.mk (HO3.out.trans ho)
  have HV4 := Aside0.mk (rd_row HR3.out HV3.out ho)
  have HZ4 := Aside0.mk (ho.blk HZ3.out hne)
  clear hrd ho
  go_wp2_with fail
  go_at_call 25
  refine (number_told w0 B s4 1 _ HR4.out (by decide)).mono ?_
  rintro e w5 ⟨rfl, hrd, ho⟩
  rw [HS5.out] at hrd
  rw [HG.out]
  have HR5 := Aside0.mk hrd
  have HO5 := Aside0.mk (HO4.out.trans ho)
  have hv5 := rd_row HR4.out HV4.out ho
  obtain ⟨A1, c1, rfl⟩ := Kd.R_slice hv5
  have HV5 := Aside0.mk hv5
  have HZ5 := Aside0.mk (ho.blk HZ4.out hne)
  clear hrd ho hv5
  by_cases hg : g = 1
  · have hgb : (((g : Nat) : Int) == 1) = true := beq_iff_eq.2 (by omega)
    have HGG := Aside0.mk hg
    clear hg
    have HX := Aside0.mk (blk_new w5 (.cells #[.string nm, .slice (A1) o1.length c1, .int .i64 (mn : Int), .int .i64 (mx : Int), .bool true, .string ⟨#[]⟩, .slice none 0 0] 40))
    have HBX := Aside0.mk (below_alloc (Below.refl w5.heap.size w5) (.cells #[.string nm, .slice (A1) o1.length c1, .int .i64 (mn : Int), .int .i64 (mx : Int), .bool true, .string ⟨#[]⟩, .slice none 0 0] 40))
    obtain ⟨q1, q2, q3, q4⟩ := know HX.out
    have hB5 := HR5.out.lt
    have hne5 : w5.heap.size ≠ B := by omega
    have hzl := blk_lt HZ5.out
    have hnz : w.heap.size ≠ w5.heap.size := by omega
    go_wp2_with fail
    go_at_call 44
    refine (text_told w0 B s5 _ (HR5.out.grow HBX.out)).mono ?_
    rintro e w6 ⟨rfl, hrd, ho⟩
    obtain ⟨s6, hs6⟩ : ∃ s6, restO s5 rT = s6 := ⟨_, rfl⟩
    obtain ⟨nm2, hnm2⟩ : ∃ t, wasO (⟨#[]⟩ : ByteArray) s5 rT = t := ⟨_, rfl⟩
    rw [hs6] at hrd
    have HNM2 := Aside0.mk hnm2
    have HS6 := Aside0.mk hs6
    rw [hnm2]
    have HR6 := Aside0.mk hrd
    have HO6 := Aside0.mk ((HO5.out.step HBX.out (Nat.le_of_lt hB5)).trans ho)
    have HV6 := Aside0.mk (rd_row (HR5.out.grow HBX.out) (Kd.R_below HV5.out HBX.out) ho)
    have HZ6 := Aside0.mk (ho.blk (blk_below HZ5.out HBX.out) hne)
    have HX6 := Aside0.mk (ho.blk HX.out hne5)
    obtain ⟨j1, j2, j3, j4⟩ := know HX6.out
    clear hrd ho q1 q2 q3 q4 hs6 hnm2
    go_wp2_with fail
    go_at_call 45
    refine (ops_told w0 B s6 _ HR6.out).mono ?_
    rintro e w7 ⟨v6, o2, rfl, hv, hi, _, hx, hrd, ho⟩
    obtain ⟨A6, c6, rfl⟩ := Kd.R_slice hv
    have HR7 := Aside0.mk hrd
    have HO7 := Aside0.mk (HO6.out.trans ho)
    have HW7 := Aside0.mk (Kd.R_lower hv HO6.out.1.size)
    have HV7 := Aside0.mk (rd_row HR6.out HV6.out ho)
    have HI2 := Aside0.mk hi
    have HX2 := Aside0.mk hx
    have hz7 := ho.blk HZ6.out hne
    have hx7 := ho.blk HX6.out hne5
    have HZ7 := Aside0.mk hz7
    have HX7 := Aside0.mk hx7
    obtain ⟨k1, k2, k3, k4⟩ := know hx7
    have hz7b := blk_far (blk_far hz7 (p := ⟨w5.heap.size, 5, none⟩) hnz (.string nm2)) (p := ⟨w5.heap.size, 6, none⟩) hnz (.slice A6 o2.length c6)
    have hx7b := blk_put (blk_put hx7 5 (Value.string nm2) rfl) 6 (Value.slice A6 o2.length c6) rfl
    have hx7a := blk_put hx7 5 (Value.string nm2) rfl
    obtain ⟨m1, m2, m3, m4⟩ := know hx7a
    obtain ⟨n1, n2, n3, n4⟩ := know hx7b
    obtain ⟨p1, p2, p3, p4⟩ := know hz7b
    have HX7A := Aside0.mk hx7a
    have HZ7B := Aside0.mk hz7b
    have hwx : w.heap.size ≤ w5.heap.size := Nat.le_of_lt hzl
    have HE7 := Aside0.mk (show restO s rS = restO s6 rO from by rw [HRS.out, if_pos HGG.out, HS6.out])
    clear hrd ho hv hi hx hz7 hx7 j1 j2 j3 j4 hz7b hx7b hx7a
    go_wp2_with fail
    have hst : StepSt w0 w B (restO s6 rO) (.slice A1 o1.length c1) o1 (.slice A6 o2.length c6) o2 w7 := ⟨HR7.out, HO7.out, HV7.out, HW7.out⟩
    have hfin := ((hst.set (j := 5) HX7.out hwx hBw (.string nm2)).set (j := 6) HX7A.out hwx hBw (.slice A6 o2.length c6)).set7 HZ7B.out (Nat.le_refl _) hBw (.string nm) (.slice A1 o1.length c1) (.int .i64 (mn : Int)) (.int .i64 (mx : Int)) (.bool true) (.string nm2) (.slice A6 o2.length c6)
    generalize World.setCell (World.setCell (World.setCell (World.setCell (World.setCell (World.setCell (World.setCell _ _ _) _ _) _ _) _ _) _ _) _ _) _ _ = Wf at hfin ⊢
    obtain ⟨hst2, hkf⟩ := hfin
    obtain ⟨f1, f2, f3, f4⟩ := know hkf
    have HST := Aside0.mk hst2
    clear hst hst2 hkf k1 k2 k3 k4 m1 m2 m3 m4 n1 n2 n3 n4 p1 p2 p3 p4
    refine bodyPost_ret (v := .agg #[.string nm, .slice A1 o1.length c1, .int .i64 (mn : Int), .int .i64 (mx : Int), .bool true, .string nm2, .slice A6 o2.length c6]) (by simp [results, Try.results26, go_sem, f1]) rfl ?_
    refine ⟨_, _, ⟨nm, o1, (mn : Int), (mx : Int), true, nm2, o2⟩, rfl, HST.out.r1, HST.out.r6, HI1.out, HI2.out, ?_, by rw [HE7.out]; exact HST.out.rd, HST.out.only⟩
    intro y r hy
    obtain ⟨o1', l2, e1, e2, e3, e4, e5, e6, e7, _⟩ := HP.out y r hy
    obtain ⟨e8, l7, e9⟩ := e7 HGG.out
    obtain ⟨y0, y1, y2, y3, y4, y5, y6⟩ := y
    have x1 := HX1.out _ _ e1
    rw [HS6.out] at e9
    rw [HNM2.out] at e8
    have x2 := HX2.out _ _ e9
    simp only at e2 e3 e4 e5 e6 e8 x2
    rw [e2, e3, e4, e5, e6, e8, ← x1, ← x2, decide_eq_true HGG.out]
  · have hgb : (((g : Nat) : Int) == 1) = false := beq_eq_false_iff_ne.2 (by omega)
    have HGG := Aside0.mk hg
    clear hg
    have HX := Aside0.mk (blk_new w5 (.cells #[.string nm, .slice (A1) o1.length c1, .int .i64 (mn : Int), .int .i64 (mx : Int), .bool false, .string ⟨#[]⟩, .slice none 0 0] 40))
    have hzz := blk_alloc HZ5.out (.cells #[.string nm, .slice (A1) o1.length c1, .int .i64 (mn : Int), .int .i64 (mx : Int), .bool false, .string ⟨#[]⟩, .slice none 0 0] 40)
    have HZZ := Aside0.mk hzz
    have HBX := Aside0.mk (below_alloc (Below.refl w5.heap.size w5) (.cells #[.string nm, .slice (A1) o1.length c1, .int .i64 (mn : Int), .int .i64 (mx : Int), .bool false, .string ⟨#[]⟩, .slice none 0 0] 40))
    have hzl := blk_lt HZ5.out
    have hnz : w.heap.size ≠ w5.heap.size := by omega
    go_upto_region 2 with fail
    generalize w5.alloc (.cells #[.string nm, .slice (A1) o1.length c1, .int .i64 (mn : Int), .int .i64 (mx : Int), .bool false, .string ⟨#[]⟩, .slice none 0 0] 40) = W6 at HX HZZ HBX hzz ⊢
    obtain ⟨q1, q2, q3, q4⟩ := know HX.out
    obtain ⟨p1, p2, p3, p4⟩ := know hzz
    clear hzz
    go_wp2_with fail
    have hst : StepSt w0 w B s5 (.slice A1 o1.length c1) o1 (.slice none 0 0) [] W6 := ⟨HR5.out.grow HBX.out, HO5.out.step HBX.out (Nat.le_of_lt HR5.out.lt), Kd.R_below HV5.out HBX.out, Kd.R_nil _ _ _ _ _⟩
    have hfin := hst.set7 HZZ.out (Nat.le_refl _) hBw (.string nm) (.slice A1 o1.length c1) (.int .i64 (mn : Int)) (.int .i64 (mx : Int)) (.bool false) (.string ⟨#[]⟩) (.slice none 0 0)
    have HE7 := Aside0.mk (show restO s rS = s5 from by rw [HRS.out, if_neg HGG.out])
    generalize World.setCell (World.setCell (World.setCell (World.setCell (World.setCell (World.setCell (World.setCell _ _ _) _ _) _ _) _ _) _ _) _ _) _ _ = Wf at hfin ⊢
    obtain ⟨hst2, hkf⟩ := hfin
    obtain ⟨f1, f2, f3, f4⟩ := know hkf
    have HST := Aside0.mk hst2
    clear hst hst2 hkf p1 p2 p3 p4 q1 q2 q3 q4
    refine bodyPost_ret (v := .agg #[.string nm, .slice A1 o1.length c1, .int .i64 (mn : Int), .int .i64 (mx : Int), .bool false, .string ⟨#[]⟩, .slice none 0 0]) (by simp [results, Try.results26, go_sem, f1]) rfl ?_
    refine ⟨_, _, ⟨nm, o1, (mn : Int), (mx : Int), false, ⟨#[]⟩, []⟩, rfl, HST.out.r1, HST.out.r6, HI1.out, fun _ h => by (cases h), ?_, by rw [HE7.out]; exact HST.out.rd, HST.out.only⟩
    intro y r hy
    obtain ⟨o1', l2, e1, e2, e3, e4, e5, e6, _, e7⟩ := HP.out y r hy
    obtain ⟨e8, e9⟩ := e7 HGG.out
    obtain ⟨y0, y1, y2, y3, y4, y5, y6⟩ := y
    have x1 := HX1.out _ _ e1
    simp only at e2 e3 e4 e5 e6 e8 e9
    rw [e2, e3, e4, e5, e6, e8, e9, ← x1, decide_eq_false HGG.out]
end Go.Proofs.Ytooemobolfoefaa.P
