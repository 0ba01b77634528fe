/- The functions that the laws of this seat reach, as plain Lean functions, and for each the contract of its call: no condition but those that each theorem names. -/
import Derived.Test.YteiaoanfdkgmoaaP0
import Derived.Test.YteiaoanfdkgmoaaP26
namespace Go.Proofs.Yteiaoanfdkgmoaa.P
open Go.RowKit Go.Proofs.YteiaoanfdkgmoaaW.PrintWords Go.Proofs.YteiaoanfdkgmoaaW.PrintLast Go.Proofs.YteiaoanfdkgmoaaW.PrintMore
attribute [local go_sem] max2_int min2_int max_two min_two max_three min_three max_four min_four   -- for this text's walks alone
set_option linter.unusedVariables false
set_option linter.unusedSimpArgs false

/-! ### audit_Log: function 22 -/
def audit_Log.l0 : Nat → List (SReq) → List (SRes) → List (SEvent) → Int → Int → Option ((List (SEvent)))
  | 0, _, _, _, _, _ => none
  | k + 1, x0, x1, x5, x12, x13 => if x13 < x12 then (if 0 ≤ x13 then (if x13 < (x0.length : Int) then (if ((rd_TReq x0 x13).f0) = 3 then (if x13 < (x1.length : Int) then (if ((rd_TRes x1 x13).f0 = true) then (audit_Log.l0 k x0 x1 x5 x12 (wrap64 (x13 + 1))) else (if ((rd_TRes x1 x13).f1) = 0 then ((slices_Clone_api_Value.f ((rd_TReq x0 x13).f5.f2)).bind fun t261 => (if x5.length < 2932031007402 then (audit_Log.l0 k x0 x1 (x5 ++ [(⟨(rd_TReq x0 x13).f5.f0, (rd_TReq x0 x13).f5.f1, t261⟩ : SEvent)]) x12 (wrap64 (x13 + 1))) else (none))) else (audit_Log.l0 k x0 x1 x5 x12 (wrap64 (x13 + 1))))) else (none)) else (audit_Log.l0 k x0 x1 x5 x12 (wrap64 (x13 + 1)))) else (none)) else (none)) else (some x5)
def audit_Log.f (k : Nat) (l0 : List (SReq)) (l1 : List (SRes)) : Option ((List (SEvent))) := audit_Log.l0 k l0 l1 ([] : List (SEvent)) (mn (l0.length : Int) (l1.length : Int)) 0
theorem audit_Log.mono_l : ∀ k, (∀ y0 y1 y2 y3 y4, LeO (audit_Log.l0 k y0 y1 y2 y3 y4) (audit_Log.l0 (k + 1) y0 y1 y2 y3 y4))
  | 0 => fun _ _ _ _ _ r h => by simp [audit_Log.l0] at h
  | k + 1 => by
    have ih0 := audit_Log.mono_l k
    · intro y0 y1 y2 y3 y4
      unfold audit_Log.l0
      repeat' first
      | (with_reducible exact ih0 _ _ _ _ _)
      | (with_reducible exact LeO.refl _)
      | (with_reducible exact LeO.none _)
      | (with_reducible refine LeO.ite ?_ ?_)
      | (with_reducible refine LeO.bind ?_ (fun _ => ?_))
      | exact ih0 _ _ _ _ _
      | exact LeO.none _
      | refine LeO.ite ?_ ?_
      | refine LeO.bind ?_ (fun _ => ?_)
theorem audit_Log.mono : ∀ a0 a1 k, LeO (audit_Log.f k a0 a1) (audit_Log.f (k + 1) a0 a1) := by
  intro a0 a1 k
  have ih0 := audit_Log.mono_l k
  unfold audit_Log.f
  repeat' first
      | (with_reducible exact ih0 _ _ _ _ _)
      | (with_reducible exact LeO.refl _)
      | (with_reducible exact LeO.none _)
      | (with_reducible refine LeO.ite ?_ ?_)
      | (with_reducible refine LeO.bind ?_ (fun _ => ?_))
      | exact ih0 _ _ _ _ _
      | exact LeO.none _
      | refine LeO.ite ?_ ?_
      | refine LeO.bind ?_ (fun _ => ?_)
set_option maxHeartbeats 8000000 in
set_option maxRecDepth 100000 in
theorem audit_Log.calls (k : Nat) (A0 : Option Addr) (c0 : Nat) (l0 : List (SReq)) (A1 : Option Addr) (c1 : Nat) (l1 : List (SRes)) (r : List (SEvent)) (w : World) (hr0 : Kd.C kReq w A0 l0.length l0) (hc0 : l0.length ≤ c0) (hr1 : Kd.C kRes w A1 l1.length l1) (hc1 : l1.length ≤ c1) (h : audit_Log.f k l0 l1 = some r) :
    Calls Try.prog 22 #[.slice A0 l0.length c0, .slice A1 l1.length c1] w fun e w' => ∃ v0_ : Value, e = .returned (v0_) ∧ Kd.S kEvent 52 w' w.heap.size (fun _ => True) v0_ r ∧ Below w.heap.size w w' := by
  have hu52 := Try.underlying52
  have HR0 := Aside0.mk hr0
  have HC0 := Aside0.mk hc0
  clear hr0 hc0
  have HR1 := Aside0.mk hr1
  have HC1 := Aside0.mk hc1
  clear hr1 hc1
  have HB := Aside0.mk (Below.refl w.heap.size w)
  have H : (audit_Log.l0 k l0 l1 ([] : List (SEvent)) (mn (l0.length : Int) (l1.length : Int)) 0) = some r := h
  clear h
  obtain ⟨ji3, hji3⟩ : ∃ j_ : Int, (mn (l0.length : Int) (l1.length : Int)) = j_ := ⟨_, rfl⟩
  replace H : (audit_Log.l0 k l0 l1 ([] : List (SEvent)) ji3 0) = some r := by first | (rw [hji3] at H; exact H) | (simp only [hji3] at H ⊢; exact H)
  (try (have hji3l : 0 ≤ ji3 := by (rw [← hji3]; unfold mn; (repeat' split) <;> omega)))
  (try (have hji3m : 0 ≤ ji3 := by omega))
  have hji3_ : (if (l1.length : Int) < (l0.length : Int) then (l1.length : Int) else (l0.length : Int)) = ji3 := hji3
  (try (have hji3n : (if l1.length < l0.length then (l1.length : Int) else (l0.length : Int)) = ji3 := by simpa only [Int.ofNat_lt] using hji3_))
  have H' := Aside0.mk H
  clear H
  go_enter Try.func22, Try.ntmps22
  go_wp2
  go_loopg [5, 13] k (fun kq v5 v13 w' => ∃ (x5_1 : List (SEvent)) (x13_1 : Int), v13 = .int .i64 x13_1 ∧ Aside0 (audit_Log.l0 kq l0 l1 x5_1 ji3 x13_1 = some r) ∧ Aside0 (kq ≤ k) ∧ Aside0 (Kd.S kEvent 52 w' w.heap.size (fun _ => True) v5 x5_1) ∧ Aside0 (Below w.heap.size w w'))
  case atStart => exact ⟨(([] : List (SEvent))), (0), (by first | rfl | (simp; done) | (simp [*]; done)), H', ⟨Nat.le_refl _⟩, ⟨by first | exact Kd.S_nil _ _ _ _ _ | exact Kd.N_nil _ _ _ _ _ | exact Kd.V_nil _ _ _ _ _ | exact Kd.Q_nil _ _ _ _ _ | exact Kd.R_nil _ _ _ _ _⟩, ⟨by repeat (first | (with_reducible first | exact HB.out | apply below_alloc | apply pw_below_drewN | apply below_drew1) | exact HB.out)⟩⟩
  case round =>
    clear H'
    try clear c1
    try clear c2
    try clear p2
    obtain ⟨x5_1, x13_1, rfl, HA, HK1, HO_5, HB⟩ := hrel
    cases gk with
    | zero => exact absurd HA.out (by simp [audit_Log.l0])
    | succ k1 =>
      have H := HA.out
      clear HA
      simp only [audit_Log.l0] at H
      by_cases c4 : x13_1 < ji3
      · rw [if_pos c4] at H
        have c4b0 : decide (x13_1 < ji3) = true := decide_eq_true c4
        clear c4
        by_cases c5 : 0 ≤ x13_1
        · rw [if_pos c5] at H
          have c5b0 : decide (0 ≤ x13_1) = true := decide_eq_true c5
          clear c5
          by_cases c6 : x13_1 < (l0.length : Int)
          · rw [if_pos c6] at H
            have c6b0 : decide (x13_1 < (l0.length : Int)) = true := decide_eq_true c6
            clear c6
            by_cases c7 : ((rd_TReq l0 x13_1).f0) = 3
            · rw [if_pos c7] at H
              have c7b0 : (((rd_TReq l0 x13_1).f0) == 3) = true := beq_iff_eq.mpr c7
              have c7b1 : (((rd_TReq l0 x13_1).f0) != 3) = false := bne_eq_false_iff_eq.mpr c7
              clear c7
              by_cases c8 : x13_1 < (l1.length : Int)
              · rw [if_pos c8] at H
                have c8b0 : decide (x13_1 < (l1.length : Int)) = true := decide_eq_true c8
                clear c8
                obtain ⟨bq9, hbq9⟩ : ∃ b_ : Bool, b_ = ((rd_TRes l1 x13_1).f0) := ⟨_, rfl⟩
                replace H : (if (bq9 = true) then (audit_Log.l0 k1 l0 l1 x5_1 ji3 (wrap64 (x13_1 + 1))) else (if ((rd_TRes l1 x13_1).f1) = 0 then ((slices_Clone_api_Value.f ((rd_TReq l0 x13_1).f5.f2)).bind fun t261 => (if x5_1.length < 2932031007402 then (audit_Log.l0 k1 l0 l1 (x5_1 ++ [(⟨(rd_TReq l0 x13_1).f5.f0, (rd_TReq l0 x13_1).f5.f1, t261⟩ : SEvent)]) ji3 (wrap64 (x13_1 + 1))) else (none))) else (audit_Log.l0 k1 l0 l1 x5_1 ji3 (wrap64 (x13_1 + 1))))) = some r := by rw [← hbq9] at H; exact H
                have Nbq9 := Aside0.mk hbq9
                clear hbq9
                by_cases c10 : (bq9 = true)
                · subst c10
                  have H1 : (audit_Log.l0 k1 l0 l1 x5_1 ji3 (wrap64 (x13_1 + 1))) = some r := by rw [if_pos rfl] at H; exact H
                  clear H
                  have H := H1
                  clear H1
                  have H' := Aside0.mk H
                  clear H
                  have p256 : 0 ≤ (x13_1 : Int) := of_decide_eq_true (by first | (with_reducible assumption) | assumption)
                  have q256 : x13_1 < (l0.length : Int) := of_decide_eq_true (by first | (with_reducible assumption) | assumption)
                  obtain ⟨ad256, A256_6, c256_6, A256_9, c256_9, A256_10, c256_10, e256, hx256_0, hx256_1, hx256_2, hx256_3, hx256_4, hx256_5, hx256_6, hx256_7, hx256_8, hx256_9, hx256_10, hx256_11, hx256_12, hx256_13, hx256_14, hl256_6, hi256_6, hl256_9, hi256_9, hl256_10, hi256_10⟩ := at_TReq HR0.out x13_1 p256 q256
                  cases e256
                  replace hx256_0 := (HB.out.cell (World.block_lt_of_cell? w _ hx256_0)).trans hx256_0
                  replace hx256_1 := (HB.out.cell (World.block_lt_of_cell? w _ hx256_1)).trans hx256_1
                  replace hx256_2 := (HB.out.cell (World.block_lt_of_cell? w _ hx256_2)).trans hx256_2
                  replace hx256_3 := (HB.out.cell (World.block_lt_of_cell? w _ hx256_3)).trans hx256_3
                  replace hx256_4 := (HB.out.cell (World.block_lt_of_cell? w _ hx256_4)).trans hx256_4
                  replace hx256_5 := (HB.out.cell (World.block_lt_of_cell? w _ hx256_5)).trans hx256_5
                  replace hx256_6 := (HB.out.cell (World.block_lt_of_cell? w _ hx256_6)).trans hx256_6
                  replace hx256_7 := (HB.out.cell (World.block_lt_of_cell? w _ hx256_7)).trans hx256_7
                  replace hx256_8 := (HB.out.cell (World.block_lt_of_cell? w _ hx256_8)).trans hx256_8
                  replace hx256_9 := (HB.out.cell (World.block_lt_of_cell? w _ hx256_9)).trans hx256_9
                  replace hx256_10 := (HB.out.cell (World.block_lt_of_cell? w _ hx256_10)).trans hx256_10
                  replace hx256_11 := (HB.out.cell (World.block_lt_of_cell? w _ hx256_11)).trans hx256_11
                  replace hx256_12 := (HB.out.cell (World.block_lt_of_cell? w _ hx256_12)).trans hx256_12
                  replace hx256_13 := (HB.out.cell (World.block_lt_of_cell? w _ hx256_13)).trans hx256_13
                  replace hx256_14 := (HB.out.cell (World.block_lt_of_cell? w _ hx256_14)).trans hx256_14
                  have HR256_6 := Aside0.mk hi256_6
                  have HC256_6 := Aside0.mk hl256_6
                  clear hi256_6 hl256_6
                  have HR256_9 := Aside0.mk hi256_9
                  have HC256_9 := Aside0.mk hl256_9
                  clear hi256_9 hl256_9
                  have HR256_10 := Aside0.mk hi256_10
                  have HC256_10 := Aside0.mk hl256_10
                  clear hi256_10 hl256_10
                  replace p256 := eq_true p256
                  replace q256 := eq_true q256
                  have p257 : 0 ≤ (x13_1 : Int) := of_decide_eq_true (by first | (with_reducible assumption) | assumption)
                  have q257 : x13_1 < (l1.length : Int) := of_decide_eq_true (by first | (with_reducible assumption) | assumption)
                  obtain ⟨ad257, e257, hx257_0, hx257_1, hx257_2, hx257_3, hx257_4, hx257_5, hx257_6, hx257_7, hx257_8, hx257_9, hx257_10⟩ := at_TRes HR1.out x13_1 p257 q257
                  (try rw [← Nbq9.out] at hx257_0)
                  (try rw [← Nbq9.out] at hx257_10)
                  cases e257
                  replace hx257_0 := (HB.out.cell (World.block_lt_of_cell? w _ hx257_0)).trans hx257_0
                  replace hx257_1 := (HB.out.cell (World.block_lt_of_cell? w _ hx257_1)).trans hx257_1
                  replace hx257_2 := (HB.out.cell (World.block_lt_of_cell? w _ hx257_2)).trans hx257_2
                  replace hx257_3 := (HB.out.cell (World.block_lt_of_cell? w _ hx257_3)).trans hx257_3
                  replace hx257_4 := (HB.out.cell (World.block_lt_of_cell? w _ hx257_4)).trans hx257_4
                  replace hx257_5 := (HB.out.cell (World.block_lt_of_cell? w _ hx257_5)).trans hx257_5
                  replace hx257_6 := (HB.out.cell (World.block_lt_of_cell? w _ hx257_6)).trans hx257_6
                  replace hx257_7 := (HB.out.cell (World.block_lt_of_cell? w _ hx257_7)).trans hx257_7
                  replace hx257_8 := (HB.out.cell (World.block_lt_of_cell? w _ hx257_8)).trans hx257_8
                  replace hx257_9 := (HB.out.cell (World.block_lt_of_cell? w _ hx257_9)).trans hx257_9
                  replace hx257_10 := (HB.out.cell (World.block_lt_of_cell? w _ hx257_10)).trans hx257_10
                  replace p257 := eq_true p257
                  replace q257 := eq_true q257
                  go_wp2
                  go_roundg k1
                  case measure => have := HK1.out; omega
                  case rel => exact ⟨(x5_1), (wrap64 (x13_1 + 1)), (by first | rfl | (simp; done) | (simp [*]; done)), H', ⟨by have := HK1.out; omega⟩, ⟨by (with_reducible repeat (first | apply Kd.S_alloc | apply Kd.S_drewN | apply Kd.S_drew)); exact HO_5.out⟩, ⟨by repeat (first | (with_reducible first | exact HB.out | apply below_alloc | apply pw_below_drewN | apply below_drew1) | exact HB.out)⟩⟩
                · replace c10 := Bool.eq_false_iff.mpr c10
                  subst c10
                  have H1 : (if ((rd_TRes l1 x13_1).f1) = 0 then ((slices_Clone_api_Value.f ((rd_TReq l0 x13_1).f5.f2)).bind fun t261 => (if x5_1.length < 2932031007402 then (audit_Log.l0 k1 l0 l1 (x5_1 ++ [(⟨(rd_TReq l0 x13_1).f5.f0, (rd_TReq l0 x13_1).f5.f1, t261⟩ : SEvent)]) ji3 (wrap64 (x13_1 + 1))) else (none))) else (audit_Log.l0 k1 l0 l1 x5_1 ji3 (wrap64 (x13_1 + 1)))) = some r := by rw [if_neg (show ¬ (false = true) by decide)] at H; exact H
                  clear H
                  have H := H1
                  clear H1
                  by_cases c11 : ((rd_TRes l1 x13_1).f1) = 0
                  · rw [if_pos c11] at H
                    have c11b0 : (((rd_TRes l1 x13_1).f1) == 0) = true := beq_iff_eq.mpr c11
                    have c11b1 : (((rd_TRes l1 x13_1).f1) != 0) = false := bne_eq_false_iff_eq.mpr c11
                    clear c11
                    replace H := Option.bind_eq_some_iff.mp H
                    obtain ⟨t261, A120, H⟩ := H
                    replace H : (if x5_1.length < 2932031007402 then (audit_Log.l0 k1 l0 l1 (x5_1 ++ [(⟨(rd_TReq l0 x13_1).f5.f0, (rd_TReq l0 x13_1).f5.f1, t261⟩ : SEvent)]) ji3 (wrap64 (x13_1 + 1))) else (none)) = some r := H
                    have A12 := Aside0.mk A120
                    clear A120
                    by_cases c13 : x5_1.length < 2932031007402
                    · rw [if_pos c13] at H
                      have LMc13 := Aside0.mk c13
                      clear c13
                      obtain ⟨y264, hy264⟩ : ∃ y_ : List (SEvent), y_ = (x5_1 ++ [(⟨(rd_TReq l0 x13_1).f5.f0, (rd_TReq l0 x13_1).f5.f1, t261⟩ : SEvent)]) := ⟨_, rfl⟩
                      replace H : (audit_Log.l0 k1 l0 l1 y264 ji3 (wrap64 (x13_1 + 1))) = some r := by first | (rw [hy264]; with_reducible exact H) | (have H2_ := (Option.bind_some _ _).symm.trans H; rw [hy264]; with_reducible exact H2_) | (have H2_ := (Option.bind_some _ _).symm.trans H; with_reducible exact H2_) | with_reducible exact H | (rw [hy264]; exact H) | exact H
                      have Ny264 := Aside0.mk hy264
                      clear hy264
                      have H' := Aside0.mk H
                      clear H
                      have p256 : 0 ≤ (x13_1 : Int) := of_decide_eq_true (by first | (with_reducible assumption) | assumption)
                      have q256 : x13_1 < (l0.length : Int) := of_decide_eq_true (by first | (with_reducible assumption) | assumption)
                      obtain ⟨ad256, A256_6, c256_6, A256_9, c256_9, A256_10, c256_10, e256, hx256_0, hx256_1, hx256_2, hx256_3, hx256_4, hx256_5, hx256_6, hx256_7, hx256_8, hx256_9, hx256_10, hx256_11, hx256_12, hx256_13, hx256_14, hl256_6, hi256_6, hl256_9, hi256_9, hl256_10, hi256_10⟩ := at_TReq HR0.out x13_1 p256 q256
                      cases e256
                      replace hx256_0 := (HB.out.cell (World.block_lt_of_cell? w _ hx256_0)).trans hx256_0
                      replace hx256_1 := (HB.out.cell (World.block_lt_of_cell? w _ hx256_1)).trans hx256_1
                      replace hx256_2 := (HB.out.cell (World.block_lt_of_cell? w _ hx256_2)).trans hx256_2
                      replace hx256_3 := (HB.out.cell (World.block_lt_of_cell? w _ hx256_3)).trans hx256_3
                      replace hx256_4 := (HB.out.cell (World.block_lt_of_cell? w _ hx256_4)).trans hx256_4
                      replace hx256_5 := (HB.out.cell (World.block_lt_of_cell? w _ hx256_5)).trans hx256_5
                      replace hx256_6 := (HB.out.cell (World.block_lt_of_cell? w _ hx256_6)).trans hx256_6
                      replace hx256_7 := (HB.out.cell (World.block_lt_of_cell? w _ hx256_7)).trans hx256_7
                      replace hx256_8 := (HB.out.cell (World.block_lt_of_cell? w _ hx256_8)).trans hx256_8
                      replace hx256_9 := (HB.out.cell (World.block_lt_of_cell? w _ hx256_9)).trans hx256_9
                      replace hx256_10 := (HB.out.cell (World.block_lt_of_cell? w _ hx256_10)).trans hx256_10
                      replace hx256_11 := (HB.out.cell (World.block_lt_of_cell? w _ hx256_11)).trans hx256_11
                      replace hx256_12 := (HB.out.cell (World.block_lt_of_cell? w _ hx256_12)).trans hx256_12
                      replace hx256_13 := (HB.out.cell (World.block_lt_of_cell? w _ hx256_13)).trans hx256_13
                      replace hx256_14 := (HB.out.cell (World.block_lt_of_cell? w _ hx256_14)).trans hx256_14
                      have HR256_6 := Aside0.mk hi256_6
                      have HC256_6 := Aside0.mk hl256_6
                      clear hi256_6 hl256_6
                      have HR256_9 := Aside0.mk hi256_9
                      have HC256_9 := Aside0.mk hl256_9
                      clear hi256_9 hl256_9
                      have HR256_10 := Aside0.mk hi256_10
                      have HC256_10 := Aside0.mk hl256_10
                      clear hi256_10 hl256_10
                      replace p256 := eq_true p256
                      replace q256 := eq_true q256
                      have p257 : 0 ≤ (x13_1 : Int) := of_decide_eq_true (by first | (with_reducible assumption) | assumption)
                      have q257 : x13_1 < (l1.length : Int) := of_decide_eq_true (by first | (with_reducible assumption) | assumption)
                      obtain ⟨ad257, e257, hx257_0, hx257_1, hx257_2, hx257_3, hx257_4, hx257_5, hx257_6, hx257_7, hx257_8, hx257_9, hx257_10⟩ := at_TRes HR1.out x13_1 p257 q257
                      (try rw [← Nbq9.out] at hx257_0)
                      (try rw [← Nbq9.out] at hx257_10)
                      cases e257
                      replace hx257_0 := (HB.out.cell (World.block_lt_of_cell? w _ hx257_0)).trans hx257_0
                      replace hx257_1 := (HB.out.cell (World.block_lt_of_cell? w _ hx257_1)).trans hx257_1
                      replace hx257_2 := (HB.out.cell (World.block_lt_of_cell? w _ hx257_2)).trans hx257_2
                      replace hx257_3 := (HB.out.cell (World.block_lt_of_cell? w _ hx257_3)).trans hx257_3
                      replace hx257_4 := (HB.out.cell (World.block_lt_of_cell? w _ hx257_4)).trans hx257_4
                      replace hx257_5 := (HB.out.cell (World.block_lt_of_cell? w _ hx257_5)).trans hx257_5
                      replace hx257_6 := (HB.out.cell (World.block_lt_of_cell? w _ hx257_6)).trans hx257_6
                      replace hx257_7 := (HB.out.cell (World.block_lt_of_cell? w _ hx257_7)).trans hx257_7
                      replace hx257_8 := (HB.out.cell (World.block_lt_of_cell? w _ hx257_8)).trans hx257_8
                      replace hx257_9 := (HB.out.cell (World.block_lt_of_cell? w _ hx257_9)).trans hx257_9
                      replace hx257_10 := (HB.out.cell (World.block_lt_of_cell? w _ hx257_10)).trans hx257_10
                      replace p257 := eq_true p257
                      replace q257 := eq_true q257
                      have p258 : 0 ≤ (x13_1 : Int) := of_decide_eq_true (by first | (with_reducible assumption) | assumption)
                      have q258 : x13_1 < (l1.length : Int) := of_decide_eq_true (by first | (with_reducible assumption) | assumption)
                      obtain ⟨ad258, e258, hx258_0, hx258_1, hx258_2, hx258_3, hx258_4, hx258_5, hx258_6, hx258_7, hx258_8, hx258_9, hx258_10⟩ := at_TRes HR1.out x13_1 p258 q258
                      (try rw [← Nbq9.out] at hx258_0)
                      (try rw [← Nbq9.out] at hx258_10)
                      obtain rfl : ad257 = ad258 := (by injection e258)
                      replace hx258_0 := (HB.out.cell (World.block_lt_of_cell? w _ hx258_0)).trans hx258_0
                      replace hx258_1 := (HB.out.cell (World.block_lt_of_cell? w _ hx258_1)).trans hx258_1
                      replace hx258_2 := (HB.out.cell (World.block_lt_of_cell? w _ hx258_2)).trans hx258_2
                      replace hx258_3 := (HB.out.cell (World.block_lt_of_cell? w _ hx258_3)).trans hx258_3
                      replace hx258_4 := (HB.out.cell (World.block_lt_of_cell? w _ hx258_4)).trans hx258_4
                      replace hx258_5 := (HB.out.cell (World.block_lt_of_cell? w _ hx258_5)).trans hx258_5
                      replace hx258_6 := (HB.out.cell (World.block_lt_of_cell? w _ hx258_6)).trans hx258_6
                      replace hx258_7 := (HB.out.cell (World.block_lt_of_cell? w _ hx258_7)).trans hx258_7
                      replace hx258_8 := (HB.out.cell (World.block_lt_of_cell? w _ hx258_8)).trans hx258_8
                      replace hx258_9 := (HB.out.cell (World.block_lt_of_cell? w _ hx258_9)).trans hx258_9
                      replace hx258_10 := (HB.out.cell (World.block_lt_of_cell? w _ hx258_10)).trans hx258_10
                      replace p258 := eq_true p258
                      replace q258 := eq_true q258
                      have p259 : 0 ≤ (x13_1 : Int) := of_decide_eq_true (by first | (with_reducible assumption) | assumption)
                      have q259 : x13_1 < (l0.length : Int) := of_decide_eq_true (by first | (with_reducible assumption) | assumption)
                      obtain ⟨ad259, A259_6, c259_6, A259_9, c259_9, A259_10, c259_10, e259, hx259_0, hx259_1, hx259_2, hx259_3, hx259_4, hx259_5, hx259_6, hx259_7, hx259_8, hx259_9, hx259_10, hx259_11, hx259_12, hx259_13, hx259_14, hl259_6, hi259_6, hl259_9, hi259_9, hl259_10, hi259_10⟩ := at_TReq HR0.out x13_1 p259 q259
                      obtain rfl : ad256 = ad259 := (by injection e259)
                      replace hx259_0 := (HB.out.cell (World.block_lt_of_cell? w _ hx259_0)).trans hx259_0
                      replace hx259_1 := (HB.out.cell (World.block_lt_of_cell? w _ hx259_1)).trans hx259_1
                      replace hx259_2 := (HB.out.cell (World.block_lt_of_cell? w _ hx259_2)).trans hx259_2
                      replace hx259_3 := (HB.out.cell (World.block_lt_of_cell? w _ hx259_3)).trans hx259_3
                      replace hx259_4 := (HB.out.cell (World.block_lt_of_cell? w _ hx259_4)).trans hx259_4
                      replace hx259_5 := (HB.out.cell (World.block_lt_of_cell? w _ hx259_5)).trans hx259_5
                      replace hx259_6 := (HB.out.cell (World.block_lt_of_cell? w _ hx259_6)).trans hx259_6
                      replace hx259_7 := (HB.out.cell (World.block_lt_of_cell? w _ hx259_7)).trans hx259_7
                      replace hx259_8 := (HB.out.cell (World.block_lt_of_cell? w _ hx259_8)).trans hx259_8
                      replace hx259_9 := (HB.out.cell (World.block_lt_of_cell? w _ hx259_9)).trans hx259_9
                      replace hx259_10 := (HB.out.cell (World.block_lt_of_cell? w _ hx259_10)).trans hx259_10
                      replace hx259_11 := (HB.out.cell (World.block_lt_of_cell? w _ hx259_11)).trans hx259_11
                      replace hx259_12 := (HB.out.cell (World.block_lt_of_cell? w _ hx259_12)).trans hx259_12
                      replace hx259_13 := (HB.out.cell (World.block_lt_of_cell? w _ hx259_13)).trans hx259_13
                      replace hx259_14 := (HB.out.cell (World.block_lt_of_cell? w _ hx259_14)).trans hx259_14
                      have HR259_6 := Aside0.mk hi259_6
                      have HC259_6 := Aside0.mk hl259_6
                      clear hi259_6 hl259_6
                      have HR259_9 := Aside0.mk hi259_9
                      have HC259_9 := Aside0.mk hl259_9
                      clear hi259_9 hl259_9
                      have HR259_10 := Aside0.mk hi259_10
                      have HC259_10 := Aside0.mk hl259_10
                      clear hi259_10 hl259_10
                      replace p259 := eq_true p259
                      replace q259 := eq_true q259
                      have ea_ := Option.some.inj (hx256_6.symm.trans hx259_6)
                      injection ea_ with ea_ en_ ec_
                      subst ea_
                      subst ec_
                      clear en_
                      have ea_ := Option.some.inj (hx256_9.symm.trans hx259_9)
                      injection ea_ with ea_ en_ ec_
                      subst ea_
                      subst ec_
                      clear en_
                      have ea_ := Option.some.inj (hx256_10.symm.trans hx259_10)
                      injection ea_ with ea_ en_ ec_
                      subst ea_
                      subst ec_
                      clear en_
                      go_wp2_with (first | ((with_reducible refine gate_dst (N := 7) rfl ?_); refine box_event ?hg (N := 7) ?hd (cs := #[.string (⟨#[]⟩ : ByteArray), .int .i64 0, .slice none 0 0]) (t := 52) ?hr ?_; (case hd => rfl); (case hg => rfl); (case hr => first | (go_simp; done) | (go_simp; rfl)); intro gb260 hg w14 hbox hb; have n0_ := Aside0.mk (Kd.S_below (Kd.S_elderB (by (with_reducible repeat (first | apply Kd.S_alloc | apply Kd.S_drewN | apply Kd.S_drew)); exact HO_5.out) gb260 (Nat.le_of_eq hg.symm)) hb); have n1_ := Aside0.mk (below_step (by repeat (first | (with_reducible first | exact HB.out | apply below_alloc | apply pw_below_drewN | apply below_drew1) | exact HB.out)) hb); have n2_ := Aside0.mk (hbox); have n3_ := Aside0.mk ((by rw [hg]; exact (below_size (by repeat (first | (with_reducible first | exact HB.out | apply below_alloc | apply pw_below_drewN | apply below_drew1) | exact HB.out))) : w.heap.size ≤ gb260)); have n4_ := Aside0.mk ((by rw [hg]; exact (below_size (by repeat (first | (with_reducible first | exact HB.out | apply below_alloc | apply pw_below_drewN | apply below_drew1) | exact HB.out))) : w.heap.size ≤ gb260)); clear HO_5; clear HB; have HO_5 := n0_; have HB := n1_; have BK260 := n2_; have GW260 := n3_; have GE260 := n4_; clear n0_ n1_ n2_ n3_ n4_; clear hb hbox hg; have hcz15_0 : w14.cell? ⟨gb260, 0, none⟩ = some (.string (⟨#[]⟩ : ByteArray)) := (blk_cell BK260.out 0).trans rfl; have hcz15_1 : w14.cell? ⟨gb260, 1, none⟩ = some (.int .i64 0) := (blk_cell BK260.out 1).trans rfl; have hcz15_2 : w14.cell? ⟨gb260, 2, none⟩ = some (.slice none 0 0) := (blk_cell BK260.out 2).trans rfl; have hfz15_0 := blk_frozen BK260.out 0; have hfz15_1 := blk_frozen BK260.out 1; have hfz15_2 := blk_frozen BK260.out 2) | ((with_reducible refine gate_callee (f := 33) rfl ?_); refine goesL_ (some 45) rfl rfl Try.func33 (by kernel_rfl) rfl #[.slice A256_9 ((rd_TReq l0 x13_1).f5.f2).length c256_9] rfl (by (try simp only [List.map_toArray, List.map_cons, List.map_nil]); first | done | rfl | (simp only [List.length_drop, List.length_take]; rfl)) ?_; (with_reducible refine (slices_Clone_api_Value.calls _ _ ((rd_TReq l0 x13_1).f5.f2) t261 _ ?side1 ?side2 A12.out).mono ?_); (case side1 => exact Kd.C_below HR259_9.out (by repeat (first | (with_reducible first | exact HB.out | apply below_alloc | apply pw_below_drewN | apply below_drew1 | refine below_set ?_ GE260.out) | exact HB.out))); (case side2 => exact HC259_9.out); rintro e w16 ⟨v262, rfl, ho0, hb⟩; refine ⟨_, rfl, ?_⟩; have n0_ := Aside0.mk (Kd.S_elder' (by (with_reducible repeat (first | apply Kd.S_alloc | apply Kd.S_drewN | apply Kd.S_drew)); exact (Kd.S_mono (Kd.S_far (p := ⟨gb260, 2, none⟩) (Kd.S_far (p := ⟨gb260, 1, none⟩) (Kd.S_far (p := ⟨gb260, 0, none⟩) (Kd.S_mono HO_5.out (fun k_ hk => (⟨hk, hk.2⟩ : _ ∧ k_ ≠ gb260))) (fun _ hk => hk.2) (.string ((rd_TReq l0 x13_1).f5.f0))) (fun _ hk => hk.2) (.int .i64 ((rd_TReq l0 x13_1).f5.f1))) (fun _ hk => hk.2) (.slice A256_9 ((rd_TReq l0 x13_1).f5.f2).length c256_9)) (fun _ h_ => h_.1))) (Kd.R_base ho0) hb); have n1_ := Aside0.mk (Kd.R_lower ho0 (below_size (by repeat (first | (with_reducible first | exact HB.out | apply below_alloc | apply pw_below_drewN | apply below_drew1 | refine below_set ?_ GE260.out) | exact HB.out)))); have n2_ := Aside0.mk (blk_below (g := gb260) (o := .cells #[.string ((rd_TReq l0 x13_1).f5.f0), .int .i64 ((rd_TReq l0 x13_1).f5.f1), .slice A256_9 ((rd_TReq l0 x13_1).f5.f2).length c256_9] 52 (0, 0)) (by (with_reducible repeat (first | refine blk_drewN ?_ _ | refine blk_drew ?_ | refine blk_alloc ?_ _)); refine blk_put (cs := #[.string ((rd_TReq l0 x13_1).f5.f0), .int .i64 ((rd_TReq l0 x13_1).f5.f1), .slice none 0 0]) ?_ 2 _ rfl; (with_reducible repeat (first | refine blk_drewN ?_ _ | refine blk_drew ?_ | refine blk_alloc ?_ _)); refine blk_put (cs := #[.string ((rd_TReq l0 x13_1).f5.f0), .int .i64 0, .slice none 0 0]) ?_ 1 _ rfl; (with_reducible repeat (first | refine blk_drewN ?_ _ | refine blk_drew ?_ | refine blk_alloc ?_ _)); refine blk_put (cs := #[.string (⟨#[]⟩ : ByteArray), .int .i64 0, .slice none 0 0]) ?_ 0 _ rfl; (with_reducible repeat (first | refine blk_drewN ?_ _ | refine blk_drew ?_ | refine blk_alloc ?_ _)); exact BK260.out) hb); have n3_ := Aside0.mk (below_step (by repeat (first | (with_reducible first | exact HB.out | apply below_alloc | apply pw_below_drewN | apply below_drew1 | refine below_set ?_ GE260.out) | exact HB.out)) hb); clear HO_5; clear BK260; clear HB; have HO_5 := n0_; have HO263 := n1_; have BK260 := n2_; have HB := n3_; clear n0_ n1_ n2_ n3_; (try clear hb); (try clear hb2); (try clear hk); (try clear hi); (try clear ho0); obtain ⟨Ao17, co17, eo17⟩ := Kd.R_slice HO263.out; subst eo17; have hcz18_0 : w16.cell? ⟨gb260, 0, none⟩ = some (.string ((rd_TReq l0 x13_1).f5.f0)) := (blk_cell BK260.out 0).trans rfl; have hcz18_1 : w16.cell? ⟨gb260, 1, none⟩ = some (.int .i64 ((rd_TReq l0 x13_1).f5.f1)) := (blk_cell BK260.out 1).trans rfl; have hcz18_2 : w16.cell? ⟨gb260, 2, none⟩ = some (.slice A256_9 ((rd_TReq l0 x13_1).f5.f2).length c256_9) := (blk_cell BK260.out 2).trans rfl; have hfz18_0 := blk_frozen BK260.out 0; have hfz18_1 := blk_frozen BK260.out 1; have hfz18_2 := blk_frozen BK260.out 2) | ((with_reducible refine gate_store (t := 50) (p := 46) rfl ?_); refine store_event (t := 50) (p := 46) (v := ?vo_w19) (w1 := (w16.setCell ⟨gb260, 2, none⟩ (.slice Ao17 t261.length co17))) ?hg ?ho ?hn ?hr ?_; (case ho => rfl); (case hg => rfl); (case hn => rfl); (case hr => first | (go_simp; done) | (go_simp; rfl)); intro w19 hw; have n0_ : Aside0 (Kd.S kEvent 52 w19 w.heap.size (fun k_ => some k_ ≠ (.slice Ao17 t261.length co17 : Value).ownBlock ∧ k_ ≠ gb260) u5 x5_1) := ⟨(by rw [hw]; exact (by (with_reducible repeat (first | apply Kd.S_alloc | apply Kd.S_drewN | apply Kd.S_drew)); exact Kd.S_mono (Kd.S_far (p := ⟨gb260, 2, none⟩) (Kd.S_mono HO_5.out (fun k_ hk => (⟨hk, hk.1.2⟩ : _ ∧ k_ ≠ gb260))) (fun _ hk => hk.2) (.slice Ao17 t261.length co17)) (fun _ hk => ⟨hk.1.2, hk.1.1.2⟩)))⟩; have n1_ : Aside0 (Kd.R kValue 74 w19 w.heap.size (fun _ => True) (.slice Ao17 t261.length co17) t261) := ⟨(by rw [hw]; exact (by (with_reducible repeat (first | apply Kd.R_alloc | apply Kd.R_drewN | apply Kd.R_drew)); exact Kd.R_mono (Kd.R_far (p := ⟨gb260, 2, none⟩) (Kd.R_types HO263.out BK260.out (by decide)) (fun _ hk => hk.2) (.slice Ao17 t261.length co17)) (fun _ hk => trivial)))⟩; have n2_ : Aside0 (w19.heap[gb260]? = some (.cells #[.string ((rd_TReq l0 x13_1).f5.f0), .int .i64 ((rd_TReq l0 x13_1).f5.f1), .slice Ao17 t261.length co17] 52 (0, 0))) := ⟨(by rw [hw]; exact (by (with_reducible repeat (first | refine blk_drewN ?_ _ | refine blk_drew ?_ | refine blk_alloc ?_ _)); refine blk_put (cs := #[.string ((rd_TReq l0 x13_1).f5.f0), .int .i64 ((rd_TReq l0 x13_1).f5.f1), .slice A256_9 ((rd_TReq l0 x13_1).f5.f2).length c256_9]) ?_ 2 _ rfl; (with_reducible repeat (first | refine blk_drewN ?_ _ | refine blk_drew ?_ | refine blk_alloc ?_ _)); exact BK260.out))⟩; have n3_ : Aside0 (Below w.heap.size w w19) := ⟨(by rw [hw]; exact (by repeat (first | (with_reducible first | exact HB.out | apply below_alloc | apply pw_below_drewN | apply below_drew1 | refine below_set ?_ GE260.out) | exact HB.out)))⟩; clear hw; clear HO_5; clear HO263; clear BK260; clear HB; have HO_5 := n0_; have HO263 := n1_; have BK260 := n2_; have HB := n3_; clear n0_ n1_ n2_ n3_; have hcz20_0 : w19.cell? ⟨gb260, 0, none⟩ = some (.string ((rd_TReq l0 x13_1).f5.f0)) := (blk_cell BK260.out 0).trans rfl; have hcz20_1 : w19.cell? ⟨gb260, 1, none⟩ = some (.int .i64 ((rd_TReq l0 x13_1).f5.f1)) := (blk_cell BK260.out 1).trans rfl; have hcz20_2 : w19.cell? ⟨gb260, 2, none⟩ = some (.slice Ao17 t261.length co17) := (blk_cell BK260.out 2).trans rfl; have hfz20_0 := blk_frozen BK260.out 0; have hfz20_1 := blk_frozen BK260.out 1; have hfz20_2 := blk_frozen BK260.out 2) | ((with_reducible refine gate_builtin (b := .append) (xs := #[.tmp 47, .tmp 49]) rfl ?_); at_builtin; refine Kd.S_append kEvent (w0 := w) w.heap.size rfl (.tmp 47) (.tmp 49) 46 52 (.agg #[(.string ⟨#[]⟩), (.int .i64 0), (.slice none 0 0)]) 48 rfl Try.underlying46 infoEvent rfl (by decide) (by omega) u5 x5_1 (⟨(rd_TReq l0 x13_1).f5.f0, (rd_TReq l0 x13_1).f5.f1, t261⟩ : SEvent) [.string ((rd_TReq l0 x13_1).f5.f0), .int .i64 ((rd_TReq l0 x13_1).f5.f1), .slice Ao17 t261.length co17] (fun k_ => k_ ≠ gb260) (fun k_ => some k_ = (.slice Ao17 t261.length co17 : Value).ownBlock) rfl rfl ?aP (fun k_ hk_ => ((Kd.R_mono (ok' := fun k_ => ((fun k_ => k_ ≠ gb260)) k_ ∧ some k_ ≠ (u5 : Value).ownBlock) (Kd.R_types (Kd.R_apart' (HO263.out) (Kd.S_typed HO_5.out) (by decide)) BK260.out (by decide)) (fun k_ hk => ⟨hk.2, hk.1.2⟩))).1 k_ hk_.symm) ?aF ?aO ?aB ?aS ?aL ?_; (case aP => exact kEvent_mkM _ _ _ (⟨(rd_TReq l0 x13_1).f5.f0, (rd_TReq l0 x13_1).f5.f1, t261⟩ : SEvent) (Kd.R_mono (Kd.R_tight rfl (Kd.R_mono (ok' := fun k_ => ((fun k_ => k_ ≠ gb260)) k_ ∧ some k_ ≠ (u5 : Value).ownBlock) (Kd.R_types (Kd.R_apart' (HO263.out) (Kd.S_typed HO_5.out) (by decide)) BK260.out (by decide)) (fun k_ hk => ⟨hk.2, hk.1.2⟩))) (fun _ h_ => h_))); (case aB => exact (by repeat (first | (with_reducible first | exact HB.out | apply below_alloc | apply pw_below_drewN | apply below_drew1 | refine below_set ?_ GE260.out) | exact HB.out))); (case aF => exact (fun k_ hk => Kd.freshB (g := gb260) (o := .cells #[.string ((rd_TReq l0 x13_1).f5.f0), .int .i64 ((rd_TReq l0 x13_1).f5.f1), .slice Ao17 t261.length co17] 52 (0, 0)) (by (with_reducible repeat (first | refine blk_drewN ?_ _ | refine blk_drew ?_ | refine blk_alloc ?_ _)); exact BK260.out) k_ hk)); (case aO => exact (by (with_reducible repeat (first | apply Kd.S_alloc | apply Kd.S_drewN | apply Kd.S_drew)); exact Kd.S_mono HO_5.out (fun k_ hk => ⟨hk.2, fun e_ => hk.1 e_⟩))); (case aS => exact (below_size (by repeat (first | (with_reducible first | exact HB.out | apply below_alloc | apply pw_below_drewN | apply below_drew1 | refine below_set ?_ GE260.out) | exact HB.out)))); (case aL => have := LMc13.out; omega); intro v265 w21 ho hb hg hat; rw [← Ny264.out] at ho; have n0_ := Aside0.mk (blk_grown (g := gb260) (o := .cells #[.string ((rd_TReq l0 x13_1).f5.f0), .int .i64 ((rd_TReq l0 x13_1).f5.f1), .slice Ao17 t261.length co17] 52 (0, 0)) (by (with_reducible repeat (first | refine blk_drewN ?_ _ | refine blk_drew ?_ | refine blk_alloc ?_ _)); exact BK260.out) hg (Kd.S_away HO_5.out (fun _ hk => hk.2))); have n1_ := Aside0.mk (hb); have n2_ := Aside0.mk (ho); clear BK260; clear HB; clear HO_5; clear HO263; have BK260 := n0_; have HB := n1_; have HO266 := n2_; clear n0_ n1_ n2_; clear ho hb hg hat))
                      go_roundg k1
                      case measure => have := HK1.out; omega
                      case rel => exact ⟨(y264), (wrap64 (x13_1 + 1)), (by first | rfl | (simp; done) | (simp [*]; done)), H', ⟨by have := HK1.out; omega⟩, ⟨by (with_reducible repeat (first | apply Kd.S_alloc | apply Kd.S_drewN | apply Kd.S_drew)); exact Kd.S_mono HO266.out (fun _ hk => trivial)⟩, ⟨by repeat (first | (with_reducible first | exact HB.out | apply below_alloc | apply pw_below_drewN | apply below_drew1 | refine below_set ?_ GE260.out) | exact HB.out)⟩⟩
                    · rw [if_neg c13] at H
                      exact absurd H (by simp)
                  · rw [if_neg c11] at H
                    have c11b0 : (((rd_TRes l1 x13_1).f1) == 0) = false := beq_eq_false_iff_ne.mpr c11
                    have c11b1 : (((rd_TRes l1 x13_1).f1) != 0) = true := bne_iff_ne.mpr c11
                    have H' := Aside0.mk H
                    clear H
                    have p256 : 0 ≤ (x13_1 : Int) := of_decide_eq_true (by first | (with_reducible assumption) | assumption)
                    have q256 : x13_1 < (l0.length : Int) := of_decide_eq_true (by first | (with_reducible assumption) | assumption)
                    obtain ⟨ad256, A256_6, c256_6, A256_9, c256_9, A256_10, c256_10, e256, hx256_0, hx256_1, hx256_2, hx256_3, hx256_4, hx256_5, hx256_6, hx256_7, hx256_8, hx256_9, hx256_10, hx256_11, hx256_12, hx256_13, hx256_14, hl256_6, hi256_6, hl256_9, hi256_9, hl256_10, hi256_10⟩ := at_TReq HR0.out x13_1 p256 q256
                    cases e256
                    replace hx256_0 := (HB.out.cell (World.block_lt_of_cell? w _ hx256_0)).trans hx256_0
                    replace hx256_1 := (HB.out.cell (World.block_lt_of_cell? w _ hx256_1)).trans hx256_1
                    replace hx256_2 := (HB.out.cell (World.block_lt_of_cell? w _ hx256_2)).trans hx256_2
                    replace hx256_3 := (HB.out.cell (World.block_lt_of_cell? w _ hx256_3)).trans hx256_3
                    replace hx256_4 := (HB.out.cell (World.block_lt_of_cell? w _ hx256_4)).trans hx256_4
                    replace hx256_5 := (HB.out.cell (World.block_lt_of_cell? w _ hx256_5)).trans hx256_5
                    replace hx256_6 := (HB.out.cell (World.block_lt_of_cell? w _ hx256_6)).trans hx256_6
                    replace hx256_7 := (HB.out.cell (World.block_lt_of_cell? w _ hx256_7)).trans hx256_7
                    replace hx256_8 := (HB.out.cell (World.block_lt_of_cell? w _ hx256_8)).trans hx256_8
                    replace hx256_9 := (HB.out.cell (World.block_lt_of_cell? w _ hx256_9)).trans hx256_9
                    replace hx256_10 := (HB.out.cell (World.block_lt_of_cell? w _ hx256_10)).trans hx256_10
                    replace hx256_11 := (HB.out.cell (World.block_lt_of_cell? w _ hx256_11)).trans hx256_11
                    replace hx256_12 := (HB.out.cell (World.block_lt_of_cell? w _ hx256_12)).trans hx256_12
                    replace hx256_13 := (HB.out.cell (World.block_lt_of_cell? w _ hx256_13)).trans hx256_13
                    replace hx256_14 := (HB.out.cell (World.block_lt_of_cell? w _ hx256_14)).trans hx256_14
                    have HR256_6 := Aside0.mk hi256_6
                    have HC256_6 := Aside0.mk hl256_6
                    clear hi256_6 hl256_6
                    have HR256_9 := Aside0.mk hi256_9
                    have HC256_9 := Aside0.mk hl256_9
                    clear hi256_9 hl256_9
                    have HR256_10 := Aside0.mk hi256_10
                    have HC256_10 := Aside0.mk hl256_10
                    clear hi256_10 hl256_10
                    replace p256 := eq_true p256
                    replace q256 := eq_true q256
                    have p257 : 0 ≤ (x13_1 : Int) := of_decide_eq_true (by first | (with_reducible assumption) | assumption)
                    have q257 : x13_1 < (l1.length : Int) := of_decide_eq_true (by first | (with_reducible assumption) | assumption)
                    obtain ⟨ad257, e257, hx257_0, hx257_1, hx257_2, hx257_3, hx257_4, hx257_5, hx257_6, hx257_7, hx257_8, hx257_9, hx257_10⟩ := at_TRes HR1.out x13_1 p257 q257
                    (try rw [← Nbq9.out] at hx257_0)
                    (try rw [← Nbq9.out] at hx257_10)
                    cases e257
                    replace hx257_0 := (HB.out.cell (World.block_lt_of_cell? w _ hx257_0)).trans hx257_0
                    replace hx257_1 := (HB.out.cell (World.block_lt_of_cell? w _ hx257_1)).trans hx257_1
                    replace hx257_2 := (HB.out.cell (World.block_lt_of_cell? w _ hx257_2)).trans hx257_2
                    replace hx257_3 := (HB.out.cell (World.block_lt_of_cell? w _ hx257_3)).trans hx257_3
                    replace hx257_4 := (HB.out.cell (World.block_lt_of_cell? w _ hx257_4)).trans hx257_4
                    replace hx257_5 := (HB.out.cell (World.block_lt_of_cell? w _ hx257_5)).trans hx257_5
                    replace hx257_6 := (HB.out.cell (World.block_lt_of_cell? w _ hx257_6)).trans hx257_6
                    replace hx257_7 := (HB.out.cell (World.block_lt_of_cell? w _ hx257_7)).trans hx257_7
                    replace hx257_8 := (HB.out.cell (World.block_lt_of_cell? w _ hx257_8)).trans hx257_8
                    replace hx257_9 := (HB.out.cell (World.block_lt_of_cell? w _ hx257_9)).trans hx257_9
                    replace hx257_10 := (HB.out.cell (World.block_lt_of_cell? w _ hx257_10)).trans hx257_10
                    replace p257 := eq_true p257
                    replace q257 := eq_true q257
                    have p258 : 0 ≤ (x13_1 : Int) := of_decide_eq_true (by first | (with_reducible assumption) | assumption)
                    have q258 : x13_1 < (l1.length : Int) := of_decide_eq_true (by first | (with_reducible assumption) | assumption)
                    obtain ⟨ad258, e258, hx258_0, hx258_1, hx258_2, hx258_3, hx258_4, hx258_5, hx258_6, hx258_7, hx258_8, hx258_9, hx258_10⟩ := at_TRes HR1.out x13_1 p258 q258
                    (try rw [← Nbq9.out] at hx258_0)
                    (try rw [← Nbq9.out] at hx258_10)
                    obtain rfl : ad257 = ad258 := (by injection e258)
                    replace hx258_0 := (HB.out.cell (World.block_lt_of_cell? w _ hx258_0)).trans hx258_0
                    replace hx258_1 := (HB.out.cell (World.block_lt_of_cell? w _ hx258_1)).trans hx258_1
                    replace hx258_2 := (HB.out.cell (World.block_lt_of_cell? w _ hx258_2)).trans hx258_2
                    replace hx258_3 := (HB.out.cell (World.block_lt_of_cell? w _ hx258_3)).trans hx258_3
                    replace hx258_4 := (HB.out.cell (World.block_lt_of_cell? w _ hx258_4)).trans hx258_4
                    replace hx258_5 := (HB.out.cell (World.block_lt_of_cell? w _ hx258_5)).trans hx258_5
                    replace hx258_6 := (HB.out.cell (World.block_lt_of_cell? w _ hx258_6)).trans hx258_6
                    replace hx258_7 := (HB.out.cell (World.block_lt_of_cell? w _ hx258_7)).trans hx258_7
                    replace hx258_8 := (HB.out.cell (World.block_lt_of_cell? w _ hx258_8)).trans hx258_8
                    replace hx258_9 := (HB.out.cell (World.block_lt_of_cell? w _ hx258_9)).trans hx258_9
                    replace hx258_10 := (HB.out.cell (World.block_lt_of_cell? w _ hx258_10)).trans hx258_10
                    replace p258 := eq_true p258
                    replace q258 := eq_true q258
                    go_wp2
                    go_roundg k1
                    case measure => have := HK1.out; omega
                    case rel => exact ⟨(x5_1), (wrap64 (x13_1 + 1)), (by first | rfl | (simp; done) | (simp [*]; done)), H', ⟨by have := HK1.out; omega⟩, ⟨by (with_reducible repeat (first | apply Kd.S_alloc | apply Kd.S_drewN | apply Kd.S_drew)); exact HO_5.out⟩, ⟨by repeat (first | (with_reducible first | exact HB.out | apply below_alloc | apply pw_below_drewN | apply below_drew1) | exact HB.out)⟩⟩
              · rw [if_neg c8] at H
                exact absurd H (by simp)
            · rw [if_neg c7] at H
              have c7b0 : (((rd_TReq l0 x13_1).f0) == 3) = false := beq_eq_false_iff_ne.mpr c7
              have c7b1 : (((rd_TReq l0 x13_1).f0) != 3) = true := bne_iff_ne.mpr c7
              have H' := Aside0.mk H
              clear H
              have p256 : 0 ≤ (x13_1 : Int) := of_decide_eq_true (by first | (with_reducible assumption) | assumption)
              have q256 : x13_1 < (l0.length : Int) := of_decide_eq_true (by first | (with_reducible assumption) | assumption)
              obtain ⟨ad256, A256_6, c256_6, A256_9, c256_9, A256_10, c256_10, e256, hx256_0, hx256_1, hx256_2, hx256_3, hx256_4, hx256_5, hx256_6, hx256_7, hx256_8, hx256_9, hx256_10, hx256_11, hx256_12, hx256_13, hx256_14, hl256_6, hi256_6, hl256_9, hi256_9, hl256_10, hi256_10⟩ := at_TReq HR0.out x13_1 p256 q256
              cases e256
              replace hx256_0 := (HB.out.cell (World.block_lt_of_cell? w _ hx256_0)).trans hx256_0
              replace hx256_1 := (HB.out.cell (World.block_lt_of_cell? w _ hx256_1)).trans hx256_1
              replace hx256_2 := (HB.out.cell (World.block_lt_of_cell? w _ hx256_2)).trans hx256_2
              replace hx256_3 := (HB.out.cell (World.block_lt_of_cell? w _ hx256_3)).trans hx256_3
              replace hx256_4 := (HB.out.cell (World.block_lt_of_cell? w _ hx256_4)).trans hx256_4
              replace hx256_5 := (HB.out.cell (World.block_lt_of_cell? w _ hx256_5)).trans hx256_5
              replace hx256_6 := (HB.out.cell (World.block_lt_of_cell? w _ hx256_6)).trans hx256_6
              replace hx256_7 := (HB.out.cell (World.block_lt_of_cell? w _ hx256_7)).trans hx256_7
              replace hx256_8 := (HB.out.cell (World.block_lt_of_cell? w _ hx256_8)).trans hx256_8
              replace hx256_9 := (HB.out.cell (World.block_lt_of_cell? w _ hx256_9)).trans hx256_9
              replace hx256_10 := (HB.out.cell (World.block_lt_of_cell? w _ hx256_10)).trans hx256_10
              replace hx256_11 := (HB.out.cell (World.block_lt_of_cell? w _ hx256_11)).trans hx256_11
              replace hx256_12 := (HB.out.cell (World.block_lt_of_cell? w _ hx256_12)).trans hx256_12
              replace hx256_13 := (HB.out.cell (World.block_lt_of_cell? w _ hx256_13)).trans hx256_13
              replace hx256_14 := (HB.out.cell (World.block_lt_of_cell? w _ hx256_14)).trans hx256_14
              have HR256_6 := Aside0.mk hi256_6
              have HC256_6 := Aside0.mk hl256_6
              clear hi256_6 hl256_6
              have HR256_9 := Aside0.mk hi256_9
              have HC256_9 := Aside0.mk hl256_9
              clear hi256_9 hl256_9
              have HR256_10 := Aside0.mk hi256_10
              have HC256_10 := Aside0.mk hl256_10
              clear hi256_10 hl256_10
              replace p256 := eq_true p256
              replace q256 := eq_true q256
              go_wp2
              go_roundg k1
              case measure => have := HK1.out; omega
              case rel => exact ⟨(x5_1), (wrap64 (x13_1 + 1)), (by first | rfl | (simp; done) | (simp [*]; done)), H', ⟨by have := HK1.out; omega⟩, ⟨by (with_reducible repeat (first | apply Kd.S_alloc | apply Kd.S_drewN | apply Kd.S_drew)); exact HO_5.out⟩, ⟨by repeat (first | (with_reducible first | exact HB.out | apply below_alloc | apply pw_below_drewN | apply below_drew1) | exact HB.out)⟩⟩
          · rw [if_neg c6] at H
            exact absurd H (by simp)
        · rw [if_neg c5] at H
          exact absurd H (by simp)
      · rw [if_neg c4] at H
        have c4b0 : decide (x13_1 < ji3) = false := decide_eq_false c4
        clear c4
        obtain rfl := Option.some.inj H
        go_wp2
        go_ret
        exact ⟨_, by first | rfl | (simp [errW_none, errW_some] <;> rfl) | (simp only [← hji3]; first | rfl | (simp [errW_none, errW_some] <;> rfl)) | (simp [*, errW_none, errW_some] <;> rfl), by (with_reducible repeat (first | apply Kd.S_alloc | apply Kd.S_drewN | apply Kd.S_drew)); exact HO_5.out, by repeat (first | (with_reducible first | exact HB.out | apply below_alloc | apply pw_below_drewN | apply below_drew1) | exact HB.out)⟩

end Go.Proofs.Yteiaoanfdkgmoaa.P
