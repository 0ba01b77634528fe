/- The functions that the laws of this seat reach, as plain Lean functions, and for each the contract of its call: no condition but those that each theorem names. -/
import Derived.Test.YteiaoanfdkgmoaaP0
namespace Go.Proofs.Yteiaoanfdkgmoaa.P
open Go.RowKit Go.Proofs.YteiaoanfdkgmoaaW.PrintWords Go.Proofs.YteiaoanfdkgmoaaW.PrintLast Go.Proofs.YteiaoanfdkgmoaaW.PrintMore
attribute [local go_sem] max2_int min2_int max_two min_two max_three min_three max_four min_four   -- for this text's walks alone
set_option linter.unusedVariables false
set_option linter.unusedSimpArgs false

/-! ### towncrierref21_Log: function 23 -/
mutual
def towncrierref21_Log.l0 : Nat → List (SReq) → List (SRes) → List (SEvent) → Int → Option ((List (SEvent)))
  | 0, _, _, _, _ => none
  | k + 1, x0, x1, x5, x6 => if x6 < (x0.length : Int) then (towncrierref21_Log.j1 k x0 x1 x5 x6 (decide (x6 < (x1.length : Int)))) else (towncrierref21_Log.j1 k x0 x1 x5 x6 false)
def towncrierref21_Log.j1 : Nat → List (SReq) → List (SRes) → List (SEvent) → Int → Bool → Option ((List (SEvent)))
  | 0, _, _, _, _, _ => none
  | k + 1, x0, x1, x5, x6, x16 => if x16 = true then (if 0 ≤ x6 then (if x6 < (x0.length : Int) then (if ((rd_TReq x0 x6).f0) = 3 then (if x6 < (x1.length : Int) then (if ((rd_TRes x1 x6).f0 = true) then (towncrierref21_Log.l0 k x0 x1 x5 (wrap64 (x6 + 1))) else (if ((rd_TRes x1 x6).f1) = 0 then (if x5.length < 2932031007402 then (towncrierref21_Log.l0 k x0 x1 (x5 ++ [(⟨(rd_TReq x0 x6).f5.f0, (rd_TReq x0 x6).f5.f1, (rd_TReq x0 x6).f5.f2⟩ : SEvent)]) (wrap64 (x6 + 1))) else (none)) else (towncrierref21_Log.l0 k x0 x1 x5 (wrap64 (x6 + 1))))) else (none)) else (towncrierref21_Log.l0 k x0 x1 x5 (wrap64 (x6 + 1)))) else (none)) else (none)) else (some x5)
end
def towncrierref21_Log.f (k : Nat) (l0 : List (SReq)) (l1 : List (SRes)) : Option ((List (SEvent))) := towncrierref21_Log.l0 k l0 l1 ([] : List (SEvent)) 0
theorem towncrierref21_Log.mono_l : ∀ k, (∀ y0 y1 y2 y3, LeO (towncrierref21_Log.l0 k y0 y1 y2 y3) (towncrierref21_Log.l0 (k + 1) y0 y1 y2 y3)) ∧ (∀ y0 y1 y2 y3 y4, LeO (towncrierref21_Log.j1 k y0 y1 y2 y3 y4) (towncrierref21_Log.j1 (k + 1) y0 y1 y2 y3 y4))
  | 0 => ⟨fun _ _ _ _ r h => by simp [towncrierref21_Log.l0] at h, fun _ _ _ _ _ r h => by simp [towncrierref21_Log.j1] at h⟩
  | k + 1 => by
    obtain ⟨ih0, ih1⟩ := towncrierref21_Log.mono_l k
    refine ⟨?_, ?_⟩
    · intro y0 y1 y2 y3
      unfold towncrierref21_Log.l0
      repeat' first
      | (with_reducible exact ih0 _ _ _ _)
      | (with_reducible exact ih1 _ _ _ _ _)
      | (with_reducible exact LeO.refl _)
      | (with_reducible exact LeO.none _)
      | (with_reducible refine LeO.ite ?_ ?_)
      | (with_reducible refine LeO.bind ?_ (fun _ => ?_))
      | exact ih0 _ _ _ _
      | exact ih1 _ _ _ _ _
      | exact LeO.none _
      | refine LeO.ite ?_ ?_
      | refine LeO.bind ?_ (fun _ => ?_)
    · intro y0 y1 y2 y3 y4
      unfold towncrierref21_Log.j1
      repeat' first
      | (with_reducible exact ih0 _ _ _ _)
      | (with_reducible exact ih1 _ _ _ _ _)
      | (with_reducible exact LeO.refl _)
      | (with_reducible exact LeO.none _)
      | (with_reducible refine LeO.ite ?_ ?_)
      | (with_reducible refine LeO.bind ?_ (fun _ => ?_))
      | exact ih0 _ _ _ _
      | exact ih1 _ _ _ _ _
      | exact LeO.none _
      | refine LeO.ite ?_ ?_
      | refine LeO.bind ?_ (fun _ => ?_)
theorem towncrierref21_Log.mono : ∀ a0 a1 k, LeO (towncrierref21_Log.f k a0 a1) (towncrierref21_Log.f (k + 1) a0 a1) := by
  intro a0 a1 k
  obtain ⟨ih0, ih1⟩ := towncrierref21_Log.mono_l k
  unfold towncrierref21_Log.f
  repeat' first
      | (with_reducible exact ih0 _ _ _ _)
      | (with_reducible exact ih1 _ _ _ _ _)
      | (with_reducible exact LeO.refl _)
      | (with_reducible exact LeO.none _)
      | (with_reducible refine LeO.ite ?_ ?_)
      | (with_reducible refine LeO.bind ?_ (fun _ => ?_))
      | exact ih0 _ _ _ _
      | exact ih1 _ _ _ _ _
      | exact LeO.none _
      | refine LeO.ite ?_ ?_
      | refine LeO.bind ?_ (fun _ => ?_)
set_option maxHeartbeats 8000000 in
set_option maxRecDepth 100000 in
theorem towncrierref21_Log.calls (k : Nat) (P0_ : Nat → Prop) (A0 : Option Addr) (c0 : Nat) (l0 : List (SReq)) (A1 : Option Addr) (c1 : Nat) (l1 : List (SRes)) (r : List (SEvent)) (w : World) (hs0 : Kd.V kReq 57 w w.heap.size (fun k_ => P0_ k_) (.slice A0 l0.length c0) l0) (hr1 : Kd.C kRes w A1 l1.length l1) (hc1 : l1.length ≤ c1) (h : towncrierref21_Log.f k l0 l1 = some r) :
    Calls Try.prog 23 #[.slice A0 l0.length c0, .slice A1 l1.length c1] w fun e w' => ∃ v0_ : Value, e = .returned (v0_) ∧ Kd.N kEvent 52 w' w.heap.size (fun k_ => (P0_ k_ ∨ w.heap.size ≤ k_)) v0_ r ∧ Below w.heap.size w w' := by
  have hu52 := Try.underlying52
  have HO0 := Aside0.mk (show Kd.V kReq 57 w w.heap.size (fun k_ => (P0_ k_ ∨ w.heap.size ≤ k_)) (.slice A0 l0.length c0) l0 from Kd.V_mono hs0 (fun k_ hk => .inl hk))
  have HR1 := Aside0.mk hr1
  have HC1 := Aside0.mk hc1
  clear hr1 hc1
  have HB := Aside0.mk (Below.refl w.heap.size w)
  have H : (towncrierref21_Log.l0 k l0 l1 ([] : List (SEvent)) 0) = some r := h
  clear h
  have H' := Aside0.mk H
  clear H
  go_enter Try.func23, Try.ntmps23
  go_wp2
  go_loopg [5, 6] k (fun kq v5 v6 w' => ∃ (x5_1 : List (SEvent)) (x6_1 : Int), v6 = .int .i64 x6_1 ∧ Aside0 (towncrierref21_Log.l0 kq l0 l1 x5_1 x6_1 = some r) ∧ Aside0 (kq ≤ k) ∧ Aside0 (Kd.V kReq 57 w' w.heap.size (fun k_ => (P0_ k_ ∨ w.heap.size ≤ k_) ∧ some k_ ≠ (v5 : Value).ownBlock) (.slice A0 l0.length c0) l0) ∧ Aside0 (Kd.N kEvent 52 w' w.heap.size (fun k_ => (P0_ k_ ∨ w.heap.size ≤ k_)) v5 x5_1) ∧ Aside0 (Below w.heap.size w w'))
  case atStart => exact ⟨(([] : List (SEvent))), (0), (by first | rfl | (simp; done) | (simp [*]; done)), H', ⟨Nat.le_refl _⟩, ⟨by (with_reducible repeat (first | apply Kd.V_alloc | apply Kd.V_drewN | apply Kd.V_drew)); exact Kd.V_mono HO0.out (fun _ hk => ⟨hk, (by simp [Value.ownBlock])⟩)⟩, ⟨by first | exact Kd.S_nil _ _ _ _ _ | exact Kd.N_nil _ _ _ _ _ | exact Kd.V_nil _ _ _ _ _ | exact Kd.Q_nil _ _ _ _ _ | exact Kd.R_nil _ _ _ _ _⟩, ⟨by repeat (first | (with_reducible first | exact HB.out | apply below_alloc | apply pw_below_drewN | apply below_drew1) | exact HB.out)⟩⟩
  case round =>
    clear H'
    try clear c1
    try clear c2
    try clear p2
    obtain ⟨x5_1, x6_1, rfl, HA, HK1, HO_0, HO_5, HB⟩ := hrel
    cases gk with
    | zero => exact absurd HA.out (by simp [towncrierref21_Log.l0])
    | succ k1 =>
      have H := HA.out
      clear HA
      simp only [towncrierref21_Log.l0] at H
      have HC3 := Aside0.mk H
      clear H
      go_upto_region 3 with (fail)
      go_cut [16] (fun v16 wc => ∃ (kq : Nat) (x16_2 : Bool), v16 = .bool x16_2 ∧ Aside0 (towncrierref21_Log.j1 kq l0 l1 x5_1 x6_1 x16_2 = some r) ∧ Aside0 (kq ≤ k1) ∧ Aside0 (Kd.V kReq 57 wc w.heap.size (fun k_ => (P0_ k_ ∨ w.heap.size ≤ k_) ∧ some k_ ≠ (u5 : Value).ownBlock) (.slice A0 l0.length c0) l0) ∧ Aside0 (Kd.N kEvent 52 wc w.heap.size (fun k_ => (P0_ k_ ∨ w.heap.size ≤ k_)) u5 x5_1) ∧ Aside0 (Below w.heap.size w wc))
      case first =>
        have H := HC3.out
        clear HC3
        by_cases c4 : x6_1 < (l0.length : Int)
        · rw [if_pos c4] at H
          have c4b0 : decide (x6_1 < (l0.length : Int)) = true := decide_eq_true c4
          clear c4
          (first | rw [c4b0] | (simp only [i64_w, i32_w]; rw [c4b0]) | skip)
          have H' := Aside0.mk H
          clear H
          go_wp2
          go_meet
          case rel => exact ⟨_, (decide (x6_1 < (l1.length : Int))), (by first | rfl | (simp; done) | (simp [*]; done)), H', ⟨by have := HK1.out; first | omega | exact Nat.le_refl _⟩, ⟨by (with_reducible repeat (first | apply Kd.V_alloc | apply Kd.V_drewN | apply Kd.V_drew)); exact HO_0.out⟩, ⟨by (with_reducible repeat (first | apply Kd.N_alloc | apply Kd.N_drewN | apply Kd.N_drew)); exact HO_5.out⟩, ⟨by repeat (first | (with_reducible first | exact HB.out | apply below_alloc | apply pw_below_drewN | apply below_drew1) | exact HB.out)⟩⟩
        · rw [if_neg c4] at H
          have c4b0 : decide (x6_1 < (l0.length : Int)) = false := decide_eq_false c4
          clear c4
          (first | rw [c4b0] | (simp only [i64_w, i32_w]; rw [c4b0]) | skip)
          have H' := Aside0.mk H
          clear H
          go_wp2
          go_meet
          case rel => exact ⟨_, (false), (by first | rfl | (simp; done) | (simp [*]; done)), H', ⟨by have := HK1.out; first | omega | exact Nat.le_refl _⟩, ⟨by (with_reducible repeat (first | apply Kd.V_alloc | apply Kd.V_drewN | apply Kd.V_drew)); exact HO_0.out⟩, ⟨by (with_reducible repeat (first | apply Kd.N_alloc | apply Kd.N_drewN | apply Kd.N_drew)); exact HO_5.out⟩, ⟨by repeat (first | (with_reducible first | exact HB.out | apply below_alloc | apply pw_below_drewN | apply below_drew1) | exact HB.out)⟩⟩
      case rest =>
        clear HC3
        try clear c1
        try clear c2
        try clear p2
        try clear c4
        try clear c4b0
        try clear p2
        obtain ⟨kq, x16_2, rfl, HA, HJ2, HO_0, HO_5, HB⟩ := hcut
        cases kq with
        | zero => exact absurd HA.out (by simp [towncrierref21_Log.j1])
        | succ kj2 =>
          have H := HA.out
          clear HA
          simp only [towncrierref21_Log.j1] at H
          by_cases c5 : x16_2 = true
          · subst c5
            have H1 : (if 0 ≤ x6_1 then (if x6_1 < (l0.length : Int) then (if ((rd_TReq l0 x6_1).f0) = 3 then (if x6_1 < (l1.length : Int) then (if ((rd_TRes l1 x6_1).f0 = true) then (towncrierref21_Log.l0 kj2 l0 l1 x5_1 (wrap64 (x6_1 + 1))) else (if ((rd_TRes l1 x6_1).f1) = 0 then (if x5_1.length < 2932031007402 then (towncrierref21_Log.l0 kj2 l0 l1 (x5_1 ++ [(⟨(rd_TReq l0 x6_1).f5.f0, (rd_TReq l0 x6_1).f5.f1, (rd_TReq l0 x6_1).f5.f2⟩ : SEvent)]) (wrap64 (x6_1 + 1))) else (none)) else (towncrierref21_Log.l0 kj2 l0 l1 x5_1 (wrap64 (x6_1 + 1))))) else (none)) else (towncrierref21_Log.l0 kj2 l0 l1 x5_1 (wrap64 (x6_1 + 1)))) else (none)) else (none)) = some r := by rw [if_pos rfl] at H; exact H
            clear H
            have H := H1
            clear H1
            by_cases c6 : 0 ≤ x6_1
            · rw [if_pos c6] at H
              have c6b0 : decide (0 ≤ x6_1) = true := decide_eq_true c6
              clear c6
              by_cases c7 : x6_1 < (l0.length : Int)
              · rw [if_pos c7] at H
                have c7b0 : decide (x6_1 < (l0.length : Int)) = true := decide_eq_true c7
                clear c7
                by_cases c8 : ((rd_TReq l0 x6_1).f0) = 3
                · rw [if_pos c8] at H
                  have c8b0 : (((rd_TReq l0 x6_1).f0) == 3) = true := beq_iff_eq.mpr c8
                  have c8b1 : (((rd_TReq l0 x6_1).f0) != 3) = false := bne_eq_false_iff_eq.mpr c8
                  clear c8
                  by_cases c9 : x6_1 < (l1.length : Int)
                  · rw [if_pos c9] at H
                    have c9b0 : decide (x6_1 < (l1.length : Int)) = true := decide_eq_true c9
                    clear c9
                    obtain ⟨bq10, hbq10⟩ : ∃ b_ : Bool, b_ = ((rd_TRes l1 x6_1).f0) := ⟨_, rfl⟩
                    replace H : (if (bq10 = true) then (towncrierref21_Log.l0 kj2 l0 l1 x5_1 (wrap64 (x6_1 + 1))) else (if ((rd_TRes l1 x6_1).f1) = 0 then (if x5_1.length < 2932031007402 then (towncrierref21_Log.l0 kj2 l0 l1 (x5_1 ++ [(⟨(rd_TReq l0 x6_1).f5.f0, (rd_TReq l0 x6_1).f5.f1, (rd_TReq l0 x6_1).f5.f2⟩ : SEvent)]) (wrap64 (x6_1 + 1))) else (none)) else (towncrierref21_Log.l0 kj2 l0 l1 x5_1 (wrap64 (x6_1 + 1))))) = some r := by rw [← hbq10] at H; exact H
                    have Nbq10 := Aside0.mk hbq10
                    clear hbq10
                    by_cases c11 : (bq10 = true)
                    · subst c11
                      have H1 : (towncrierref21_Log.l0 kj2 l0 l1 x5_1 (wrap64 (x6_1 + 1))) = some r := by rw [if_pos rfl] at H; exact H
                      clear H
                      have H := H1
                      clear H1
                      have H' := Aside0.mk H
                      clear H
                      have p267 : 0 ≤ (x6_1 : Int) := of_decide_eq_true (by first | (with_reducible assumption) | assumption)
                      have q267 : x6_1 < (l0.length : Int) := of_decide_eq_true (by first | (with_reducible assumption) | assumption)
                      obtain ⟨ad267, A267_6, c267_6, A267_9, c267_9, A267_10, c267_10, e267, hx267_0, hx267_1, hx267_2, hx267_3, hx267_4, hx267_5, hx267_6, hx267_7, hx267_8, hx267_9, hx267_10, hx267_11, hx267_12, hx267_13, hx267_14, hl267_6, hi267_6, hl267_9, hi267_9, hl267_10, hi267_10⟩ := at_TReq (Kd.V_reads' HO_0.out).2.2 x6_1 p267 q267
                      cases e267
                      obtain ⟨ce267, hce267, hMe267, hcc267⟩ := Kd.V_get HO_0.out zReq x6_1 p267 (by first | exact q267 | exact of_decide_eq_true (by first | (with_reducible assumption) | assumption) | (have e_ := (Kd.V_reads' HO_0.out).1; omega))
                      obtain ⟨ua267_6, uc267_6, ua267_9, uc267_9, ua267_10, uc267_10, rfl, ul267_6, ge267_6, ul267_9, ge267_9, ul267_10, ge267_10⟩ := kReq_openF hMe267
                      have hv267_6 := hcc267 6 _ rfl
                      rw [add_field _ _ 6 (by omega)] at hv267_6
                      replace hv267_6 := Option.some.inj (hv267_6.symm.trans hx267_6)
                      injection hv267_6 with hva_ hvn_ hvc_
                      rw [hva_] at ge267_6
                      rw [hvc_] at ul267_6
                      have HL267_6 := Aside0.mk (show Kd.V kField 92 _ w.heap.size _ _ ((rd_TReq l0 x6_1).f4.f2) from Kd.V_mk ul267_6 ge267_6)
                      clear hva_ hvn_ hvc_ ge267_6 ul267_6
                      have hv267_9 := hcc267 9 _ rfl
                      rw [add_field _ _ 9 (by omega)] at hv267_9
                      replace hv267_9 := Option.some.inj (hv267_9.symm.trans hx267_9)
                      injection hv267_9 with hva_ hvn_ hvc_
                      rw [hva_] at ge267_9
                      rw [hvc_] at ul267_9
                      have HL267_9 := Aside0.mk (show Kd.V kValue 74 _ w.heap.size _ _ ((rd_TReq l0 x6_1).f5.f2) from Kd.V_mk ul267_9 ge267_9)
                      clear hva_ hvn_ hvc_ ge267_9 ul267_9
                      have hv267_10 := hcc267 10 _ rfl
                      rw [add_field _ _ 10 (by omega)] at hv267_10
                      replace hv267_10 := Option.some.inj (hv267_10.symm.trans hx267_10)
                      injection hv267_10 with hva_ hvn_ hvc_
                      rw [hva_] at ge267_10
                      rw [hvc_] at ul267_10
                      have HL267_10 := Aside0.mk (show Kd.V kStep 95 _ w.heap.size _ _ ((rd_TReq l0 x6_1).f6.f0) from Kd.V_mk ul267_10 ge267_10)
                      clear hva_ hvn_ hvc_ ge267_10 ul267_10
                      clear hcc267 hce267
                      have HR267_6 := Aside0.mk hi267_6
                      have HC267_6 := Aside0.mk hl267_6
                      clear hi267_6 hl267_6
                      have HR267_9 := Aside0.mk hi267_9
                      have HC267_9 := Aside0.mk hl267_9
                      clear hi267_9 hl267_9
                      have HR267_10 := Aside0.mk hi267_10
                      have HC267_10 := Aside0.mk hl267_10
                      clear hi267_10 hl267_10
                      replace p267 := eq_true p267
                      replace q267 := eq_true q267
                      have p268 : 0 ≤ (x6_1 : Int) := of_decide_eq_true (by first | (with_reducible assumption) | assumption)
                      have q268 : x6_1 < (l1.length : Int) := of_decide_eq_true (by first | (with_reducible assumption) | assumption)
                      obtain ⟨ad268, e268, hx268_0, hx268_1, hx268_2, hx268_3, hx268_4, hx268_5, hx268_6, hx268_7, hx268_8, hx268_9, hx268_10⟩ := at_TRes HR1.out x6_1 p268 q268
                      (try rw [← Nbq10.out] at hx268_0)
                      (try rw [← Nbq10.out] at hx268_10)
                      cases e268
                      replace hx268_0 := (HB.out.cell (World.block_lt_of_cell? w _ hx268_0)).trans hx268_0
                      replace hx268_1 := (HB.out.cell (World.block_lt_of_cell? w _ hx268_1)).trans hx268_1
                      replace hx268_2 := (HB.out.cell (World.block_lt_of_cell? w _ hx268_2)).trans hx268_2
                      replace hx268_3 := (HB.out.cell (World.block_lt_of_cell? w _ hx268_3)).trans hx268_3
                      replace hx268_4 := (HB.out.cell (World.block_lt_of_cell? w _ hx268_4)).trans hx268_4
                      replace hx268_5 := (HB.out.cell (World.block_lt_of_cell? w _ hx268_5)).trans hx268_5
                      replace hx268_6 := (HB.out.cell (World.block_lt_of_cell? w _ hx268_6)).trans hx268_6
                      replace hx268_7 := (HB.out.cell (World.block_lt_of_cell? w _ hx268_7)).trans hx268_7
                      replace hx268_8 := (HB.out.cell (World.block_lt_of_cell? w _ hx268_8)).trans hx268_8
                      replace hx268_9 := (HB.out.cell (World.block_lt_of_cell? w _ hx268_9)).trans hx268_9
                      replace hx268_10 := (HB.out.cell (World.block_lt_of_cell? w _ hx268_10)).trans hx268_10
                      replace p268 := eq_true p268
                      replace q268 := eq_true q268
                      go_wp2
                      go_roundg kj2
                      case measure => have := HK1.out; have := HJ2.out; omega
                      case rel => exact ⟨(x5_1), (wrap64 (x6_1 + 1)), (by first | rfl | (simp; done) | (simp [*]; done)), H', ⟨by have := HK1.out; have := HJ2.out; omega⟩, ⟨by (with_reducible repeat (first | apply Kd.V_alloc | apply Kd.V_drewN | apply Kd.V_drew)); exact HO_0.out⟩, ⟨by (with_reducible repeat (first | apply Kd.N_alloc | apply Kd.N_drewN | apply Kd.N_drew)); exact HO_5.out⟩, ⟨by repeat (first | (with_reducible first | exact HB.out | apply below_alloc | apply pw_below_drewN | apply below_drew1) | exact HB.out)⟩⟩
                    · replace c11 := Bool.eq_false_iff.mpr c11
                      subst c11
                      have H1 : (if ((rd_TRes l1 x6_1).f1) = 0 then (if x5_1.length < 2932031007402 then (towncrierref21_Log.l0 kj2 l0 l1 (x5_1 ++ [(⟨(rd_TReq l0 x6_1).f5.f0, (rd_TReq l0 x6_1).f5.f1, (rd_TReq l0 x6_1).f5.f2⟩ : SEvent)]) (wrap64 (x6_1 + 1))) else (none)) else (towncrierref21_Log.l0 kj2 l0 l1 x5_1 (wrap64 (x6_1 + 1)))) = some r := by rw [if_neg (show ¬ (false = true) by decide)] at H; exact H
                      clear H
                      have H := H1
                      clear H1
                      by_cases c12 : ((rd_TRes l1 x6_1).f1) = 0
                      · rw [if_pos c12] at H
                        have c12b0 : (((rd_TRes l1 x6_1).f1) == 0) = true := beq_iff_eq.mpr c12
                        have c12b1 : (((rd_TRes l1 x6_1).f1) != 0) = false := bne_eq_false_iff_eq.mpr c12
                        clear c12
                        by_cases c13 : x5_1.length < 2932031007402
                        · rw [if_pos c13] at H
                          have LMc13 := Aside0.mk c13
                          clear c13
                          obtain ⟨y271, hy271⟩ : ∃ y_ : List (SEvent), y_ = (x5_1 ++ [(⟨(rd_TReq l0 x6_1).f5.f0, (rd_TReq l0 x6_1).f5.f1, (rd_TReq l0 x6_1).f5.f2⟩ : SEvent)]) := ⟨_, rfl⟩
                          replace H : (towncrierref21_Log.l0 kj2 l0 l1 y271 (wrap64 (x6_1 + 1))) = some r := by first | (rw [hy271]; with_reducible exact H) | (have H2_ := (Option.bind_some _ _).symm.trans H; rw [hy271]; with_reducible exact H2_) | (have H2_ := (Option.bind_some _ _).symm.trans H; with_reducible exact H2_) | with_reducible exact H | (rw [hy271]; exact H) | exact H
                          have Ny271 := Aside0.mk hy271
                          clear hy271
                          have H' := Aside0.mk H
                          clear H
                          have p267 : 0 ≤ (x6_1 : Int) := of_decide_eq_true (by first | (with_reducible assumption) | assumption)
                          have q267 : x6_1 < (l0.length : Int) := of_decide_eq_true (by first | (with_reducible assumption) | assumption)
                          obtain ⟨ad267, A267_6, c267_6, A267_9, c267_9, A267_10, c267_10, e267, hx267_0, hx267_1, hx267_2, hx267_3, hx267_4, hx267_5, hx267_6, hx267_7, hx267_8, hx267_9, hx267_10, hx267_11, hx267_12, hx267_13, hx267_14, hl267_6, hi267_6, hl267_9, hi267_9, hl267_10, hi267_10⟩ := at_TReq (Kd.V_reads' HO_0.out).2.2 x6_1 p267 q267
                          cases e267
                          obtain ⟨ce267, hce267, hMe267, hcc267⟩ := Kd.V_get HO_0.out zReq x6_1 p267 (by first | exact q267 | exact of_decide_eq_true (by first | (with_reducible assumption) | assumption) | (have e_ := (Kd.V_reads' HO_0.out).1; omega))
                          obtain ⟨ua267_6, uc267_6, ua267_9, uc267_9, ua267_10, uc267_10, rfl, ul267_6, ge267_6, ul267_9, ge267_9, ul267_10, ge267_10⟩ := kReq_openF hMe267
                          have hv267_6 := hcc267 6 _ rfl
                          rw [add_field _ _ 6 (by omega)] at hv267_6
                          replace hv267_6 := Option.some.inj (hv267_6.symm.trans hx267_6)
                          injection hv267_6 with hva_ hvn_ hvc_
                          rw [hva_] at ge267_6
                          rw [hvc_] at ul267_6
                          have HL267_6 := Aside0.mk (show Kd.V kField 92 _ w.heap.size _ _ ((rd_TReq l0 x6_1).f4.f2) from Kd.V_mk ul267_6 ge267_6)
                          clear hva_ hvn_ hvc_ ge267_6 ul267_6
                          have hv267_9 := hcc267 9 _ rfl
                          rw [add_field _ _ 9 (by omega)] at hv267_9
                          replace hv267_9 := Option.some.inj (hv267_9.symm.trans hx267_9)
                          injection hv267_9 with hva_ hvn_ hvc_
                          rw [hva_] at ge267_9
                          rw [hvc_] at ul267_9
                          have HL267_9 := Aside0.mk (show Kd.V kValue 74 _ w.heap.size _ _ ((rd_TReq l0 x6_1).f5.f2) from Kd.V_mk ul267_9 ge267_9)
                          clear hva_ hvn_ hvc_ ge267_9 ul267_9
                          have hv267_10 := hcc267 10 _ rfl
                          rw [add_field _ _ 10 (by omega)] at hv267_10
                          replace hv267_10 := Option.some.inj (hv267_10.symm.trans hx267_10)
                          injection hv267_10 with hva_ hvn_ hvc_
                          rw [hva_] at ge267_10
                          rw [hvc_] at ul267_10
                          have HL267_10 := Aside0.mk (show Kd.V kStep 95 _ w.heap.size _ _ ((rd_TReq l0 x6_1).f6.f0) from Kd.V_mk ul267_10 ge267_10)
                          clear hva_ hvn_ hvc_ ge267_10 ul267_10
                          clear hcc267 hce267
                          have HR267_6 := Aside0.mk hi267_6
                          have HC267_6 := Aside0.mk hl267_6
                          clear hi267_6 hl267_6
                          have HR267_9 := Aside0.mk hi267_9
                          have HC267_9 := Aside0.mk hl267_9
                          clear hi267_9 hl267_9
                          have HR267_10 := Aside0.mk hi267_10
                          have HC267_10 := Aside0.mk hl267_10
                          clear hi267_10 hl267_10
                          replace p267 := eq_true p267
                          replace q267 := eq_true q267
                          have p268 : 0 ≤ (x6_1 : Int) := of_decide_eq_true (by first | (with_reducible assumption) | assumption)
                          have q268 : x6_1 < (l1.length : Int) := of_decide_eq_true (by first | (with_reducible assumption) | assumption)
                          obtain ⟨ad268, e268, hx268_0, hx268_1, hx268_2, hx268_3, hx268_4, hx268_5, hx268_6, hx268_7, hx268_8, hx268_9, hx268_10⟩ := at_TRes HR1.out x6_1 p268 q268
                          (try rw [← Nbq10.out] at hx268_0)
                          (try rw [← Nbq10.out] at hx268_10)
                          cases e268
                          replace hx268_0 := (HB.out.cell (World.block_lt_of_cell? w _ hx268_0)).trans hx268_0
                          replace hx268_1 := (HB.out.cell (World.block_lt_of_cell? w _ hx268_1)).trans hx268_1
                          replace hx268_2 := (HB.out.cell (World.block_lt_of_cell? w _ hx268_2)).trans hx268_2
                          replace hx268_3 := (HB.out.cell (World.block_lt_of_cell? w _ hx268_3)).trans hx268_3
                          replace hx268_4 := (HB.out.cell (World.block_lt_of_cell? w _ hx268_4)).trans hx268_4
                          replace hx268_5 := (HB.out.cell (World.block_lt_of_cell? w _ hx268_5)).trans hx268_5
                          replace hx268_6 := (HB.out.cell (World.block_lt_of_cell? w _ hx268_6)).trans hx268_6
                          replace hx268_7 := (HB.out.cell (World.block_lt_of_cell? w _ hx268_7)).trans hx268_7
                          replace hx268_8 := (HB.out.cell (World.block_lt_of_cell? w _ hx268_8)).trans hx268_8
                          replace hx268_9 := (HB.out.cell (World.block_lt_of_cell? w _ hx268_9)).trans hx268_9
                          replace hx268_10 := (HB.out.cell (World.block_lt_of_cell? w _ hx268_10)).trans hx268_10
                          replace p268 := eq_true p268
                          replace q268 := eq_true q268
                          have p269 : 0 ≤ (x6_1 : Int) := of_decide_eq_true (by first | (with_reducible assumption) | assumption)
                          have q269 : x6_1 < (l1.length : Int) := of_decide_eq_true (by first | (with_reducible assumption) | assumption)
                          obtain ⟨ad269, e269, hx269_0, hx269_1, hx269_2, hx269_3, hx269_4, hx269_5, hx269_6, hx269_7, hx269_8, hx269_9, hx269_10⟩ := at_TRes HR1.out x6_1 p269 q269
                          (try rw [← Nbq10.out] at hx269_0)
                          (try rw [← Nbq10.out] at hx269_10)
                          obtain rfl : ad268 = ad269 := (by injection e269)
                          replace hx269_0 := (HB.out.cell (World.block_lt_of_cell? w _ hx269_0)).trans hx269_0
                          replace hx269_1 := (HB.out.cell (World.block_lt_of_cell? w _ hx269_1)).trans hx269_1
                          replace hx269_2 := (HB.out.cell (World.block_lt_of_cell? w _ hx269_2)).trans hx269_2
                          replace hx269_3 := (HB.out.cell (World.block_lt_of_cell? w _ hx269_3)).trans hx269_3
                          replace hx269_4 := (HB.out.cell (World.block_lt_of_cell? w _ hx269_4)).trans hx269_4
                          replace hx269_5 := (HB.out.cell (World.block_lt_of_cell? w _ hx269_5)).trans hx269_5
                          replace hx269_6 := (HB.out.cell (World.block_lt_of_cell? w _ hx269_6)).trans hx269_6
                          replace hx269_7 := (HB.out.cell (World.block_lt_of_cell? w _ hx269_7)).trans hx269_7
                          replace hx269_8 := (HB.out.cell (World.block_lt_of_cell? w _ hx269_8)).trans hx269_8
                          replace hx269_9 := (HB.out.cell (World.block_lt_of_cell? w _ hx269_9)).trans hx269_9
                          replace hx269_10 := (HB.out.cell (World.block_lt_of_cell? w _ hx269_10)).trans hx269_10
                          replace p269 := eq_true p269
                          replace q269 := eq_true q269
                          have p270 : 0 ≤ (x6_1 : Int) := of_decide_eq_true (by first | (with_reducible assumption) | assumption)
                          have q270 : x6_1 < (l0.length : Int) := of_decide_eq_true (by first | (with_reducible assumption) | assumption)
                          obtain ⟨ad270, A270_6, c270_6, A270_9, c270_9, A270_10, c270_10, e270, hx270_0, hx270_1, hx270_2, hx270_3, hx270_4, hx270_5, hx270_6, hx270_7, hx270_8, hx270_9, hx270_10, hx270_11, hx270_12, hx270_13, hx270_14, hl270_6, hi270_6, hl270_9, hi270_9, hl270_10, hi270_10⟩ := at_TReq (Kd.V_reads' HO_0.out).2.2 x6_1 p270 q270
                          obtain rfl : ad267 = ad270 := (by injection e270)
                          obtain ⟨ce270, hce270, hMe270, hcc270⟩ := Kd.V_get HO_0.out zReq x6_1 p270 (by first | exact q270 | exact of_decide_eq_true (by first | (with_reducible assumption) | assumption) | (have e_ := (Kd.V_reads' HO_0.out).1; omega))
                          obtain ⟨ua270_6, uc270_6, ua270_9, uc270_9, ua270_10, uc270_10, rfl, ul270_6, ge270_6, ul270_9, ge270_9, ul270_10, ge270_10⟩ := kReq_openF hMe270
                          have hv270_6 := hcc270 6 _ rfl
                          rw [add_field _ _ 6 (by omega)] at hv270_6
                          replace hv270_6 := Option.some.inj (hv270_6.symm.trans hx270_6)
                          injection hv270_6 with hva_ hvn_ hvc_
                          rw [hva_] at ge270_6
                          rw [hvc_] at ul270_6
                          have HL270_6 := Aside0.mk (show Kd.V kField 92 _ w.heap.size _ _ ((rd_TReq l0 x6_1).f4.f2) from Kd.V_mk ul270_6 ge270_6)
                          clear hva_ hvn_ hvc_ ge270_6 ul270_6
                          have hv270_9 := hcc270 9 _ rfl
                          rw [add_field _ _ 9 (by omega)] at hv270_9
                          replace hv270_9 := Option.some.inj (hv270_9.symm.trans hx270_9)
                          injection hv270_9 with hva_ hvn_ hvc_
                          rw [hva_] at ge270_9
                          rw [hvc_] at ul270_9
                          have HL270_9 := Aside0.mk (show Kd.V kValue 74 _ w.heap.size _ _ ((rd_TReq l0 x6_1).f5.f2) from Kd.V_mk ul270_9 ge270_9)
                          clear hva_ hvn_ hvc_ ge270_9 ul270_9
                          have hv270_10 := hcc270 10 _ rfl
                          rw [add_field _ _ 10 (by omega)] at hv270_10
                          replace hv270_10 := Option.some.inj (hv270_10.symm.trans hx270_10)
                          injection hv270_10 with hva_ hvn_ hvc_
                          rw [hva_] at ge270_10
                          rw [hvc_] at ul270_10
                          have HL270_10 := Aside0.mk (show Kd.V kStep 95 _ w.heap.size _ _ ((rd_TReq l0 x6_1).f6.f0) from Kd.V_mk ul270_10 ge270_10)
                          clear hva_ hvn_ hvc_ ge270_10 ul270_10
                          clear hcc270 hce270
                          have HR270_6 := Aside0.mk hi270_6
                          have HC270_6 := Aside0.mk hl270_6
                          clear hi270_6 hl270_6
                          have HR270_9 := Aside0.mk hi270_9
                          have HC270_9 := Aside0.mk hl270_9
                          clear hi270_9 hl270_9
                          have HR270_10 := Aside0.mk hi270_10
                          have HC270_10 := Aside0.mk hl270_10
                          clear hi270_10 hl270_10
                          replace p270 := eq_true p270
                          replace q270 := eq_true q270
                          have ea_ := Option.some.inj (hx267_6.symm.trans hx270_6)
                          injection ea_ with ea_ en_ ec_
                          subst ea_
                          subst ec_
                          clear en_
                          have ea_ := Option.some.inj (hx267_9.symm.trans hx270_9)
                          injection ea_ with ea_ en_ ec_
                          subst ea_
                          subst ec_
                          clear en_
                          have ea_ := Option.some.inj (hx267_10.symm.trans hx270_10)
                          injection ea_ with ea_ en_ ec_
                          subst ea_
                          subst ec_
                          clear en_
                          go_wp2_with (first | ((with_reducible refine gate_builtin (b := .append) (xs := #[.tmp 41, .tmp 47]) rfl ?_); (try (refine gate_guard (by rfl) ?_; dsimp only)); at_builtin; refine Kd.N_append kEvent (w0 := w) w.heap.size rfl (.tmp 41) (.tmp 47) 46 52 (.agg #[(.string ⟨#[]⟩), (.int .i64 0), (.slice none 0 0)]) 48 rfl Try.underlying46 infoEvent rfl (by decide) (by omega) u5 x5_1 (⟨(rd_TReq l0 x6_1).f5.f0, (rd_TReq l0 x6_1).f5.f1, (rd_TReq l0 x6_1).f5.f2⟩ : SEvent) [.string ((rd_TReq l0 x6_1).f5.f0), .int .i64 ((rd_TReq l0 x6_1).f5.f1), .slice A267_9 ((rd_TReq l0 x6_1).f5.f2).length c267_9] (fun k_ => (P0_ k_ ∨ w.heap.size ≤ k_)) (fun k_ => ((fun k_ => (P0_ k_ ∨ w.heap.size ≤ k_))) k_ ∧ some k_ ≠ (u5 : Value).ownBlock) rfl rfl ?aP (fun _ hk => hk) ?aF ?aO ?aB ?aS ?aL ?_; (case aP => exact (kEvent_mkF _ _ (⟨(rd_TReq l0 x6_1).f5.f0, (rd_TReq l0 x6_1).f5.f1, (rd_TReq l0 x6_1).f5.f2⟩ : SEvent) (Kd.V_reads' (Kd.V_mono (ok' := (fun k_ => ((fun k_ => (P0_ k_ ∨ w.heap.size ≤ k_))) k_ ∧ some k_ ≠ (u5 : Value).ownBlock)) (HL270_9.out) (fun k_ hk => ⟨hk.1, hk.2⟩))).2.1 (Kd.V_F (Kd.V_mono (ok' := (fun k_ => ((fun k_ => (P0_ k_ ∨ w.heap.size ≤ k_))) k_ ∧ some k_ ≠ (u5 : Value).ownBlock)) (HL270_9.out) (fun k_ hk => ⟨hk.1, hk.2⟩))))); (case aB => exact (by repeat (first | (with_reducible first | exact HB.out | apply below_alloc | apply pw_below_drewN | apply below_drew1) | exact HB.out))); (case aF => exact (fun k_ hk => (.inr (Nat.le_trans (below_size (by repeat (first | (with_reducible first | exact HB.out | apply below_alloc | apply pw_below_drewN | apply below_drew1) | exact HB.out))) hk)))); (case aO => exact (by (with_reducible repeat (first | apply Kd.N_alloc | apply Kd.N_drewN | apply Kd.N_drew)); exact HO_5.out)); (case aS => exact (below_size (by repeat (first | (with_reducible first | exact HB.out | apply below_alloc | apply pw_below_drewN | apply below_drew1) | exact HB.out)))); (case aL => have := LMc13.out; omega); intro v272 w14 ho hb hg hat; rw [← Ny271.out] at ho; have n0_ := Aside0.mk (Kd.V_afterv (ok := (fun k_ => (P0_ k_ ∨ w.heap.size ≤ k_))) (by (with_reducible repeat (first | apply Kd.V_alloc | apply Kd.V_drewN | apply Kd.V_drew)); exact HO_0.out) hg hat); have n1_ := Aside0.mk (Kd.V_afterv (ok := (fun k_ => (P0_ k_ ∨ w.heap.size ≤ k_))) (by (with_reducible repeat (first | apply Kd.V_alloc | apply Kd.V_drewN | apply Kd.V_drew)); exact HL267_6.out) hg hat); have n2_ := Aside0.mk (Kd.V_afterv (ok := (fun k_ => (P0_ k_ ∨ w.heap.size ≤ k_))) (by (with_reducible repeat (first | apply Kd.V_alloc | apply Kd.V_drewN | apply Kd.V_drew)); exact HL267_9.out) hg hat); have n3_ := Aside0.mk (Kd.V_afterv (ok := (fun k_ => (P0_ k_ ∨ w.heap.size ≤ k_))) (by (with_reducible repeat (first | apply Kd.V_alloc | apply Kd.V_drewN | apply Kd.V_drew)); exact HL267_10.out) hg hat); have n4_ := Aside0.mk (Kd.V_afterv (ok := (fun k_ => (P0_ k_ ∨ w.heap.size ≤ k_))) (by (with_reducible repeat (first | apply Kd.V_alloc | apply Kd.V_drewN | apply Kd.V_drew)); exact HL270_6.out) hg hat); have n5_ := Aside0.mk (Kd.V_afterv (ok := (fun k_ => (P0_ k_ ∨ w.heap.size ≤ k_))) (by (with_reducible repeat (first | apply Kd.V_alloc | apply Kd.V_drewN | apply Kd.V_drew)); exact HL270_9.out) hg hat); have n6_ := Aside0.mk (Kd.V_afterv (ok := (fun k_ => (P0_ k_ ∨ w.heap.size ≤ k_))) (by (with_reducible repeat (first | apply Kd.V_alloc | apply Kd.V_drewN | apply Kd.V_drew)); exact HL270_10.out) hg hat); have n7_ := Aside0.mk (hb); have n8_ := Aside0.mk (ho); clear HO_0; clear HL267_6; clear HL267_9; clear HL267_10; clear HL270_6; clear HL270_9; clear HL270_10; clear HB; clear HO_5; have HO_0 := n0_; have HL267_6 := n1_; have HL267_9 := n2_; have HL267_10 := n3_; have HL270_6 := n4_; have HL270_9 := n5_; have HL270_10 := n6_; have HB := n7_; have HO273 := n8_; clear n0_ n1_ n2_ n3_ n4_ n5_ n6_ n7_ n8_; clear ho hb hg hat))
                          go_roundg kj2
                          case measure => have := HK1.out; have := HJ2.out; omega
                          case rel => exact ⟨(y271), (wrap64 (x6_1 + 1)), (by first | rfl | (simp; done) | (simp [*]; done)), H', ⟨by have := HK1.out; have := HJ2.out; omega⟩, ⟨by (with_reducible repeat (first | apply Kd.V_alloc | apply Kd.V_drewN | apply Kd.V_drew)); exact HO_0.out⟩, ⟨by (with_reducible repeat (first | apply Kd.N_alloc | apply Kd.N_drewN | apply Kd.N_drew)); exact HO273.out⟩, ⟨by repeat (first | (with_reducible first | exact HB.out | apply below_alloc | apply pw_below_drewN | apply below_drew1) | exact HB.out)⟩⟩
                        · rw [if_neg c13] at H
                          exact absurd H (by simp)
                      · rw [if_neg c12] at H
                        have c12b0 : (((rd_TRes l1 x6_1).f1) == 0) = false := beq_eq_false_iff_ne.mpr c12
                        have c12b1 : (((rd_TRes l1 x6_1).f1) != 0) = true := bne_iff_ne.mpr c12
                        have H' := Aside0.mk H
                        clear H
                        have p267 : 0 ≤ (x6_1 : Int) := of_decide_eq_true (by first | (with_reducible assumption) | assumption)
                        have q267 : x6_1 < (l0.length : Int) := of_decide_eq_true (by first | (with_reducible assumption) | assumption)
                        obtain ⟨ad267, A267_6, c267_6, A267_9, c267_9, A267_10, c267_10, e267, hx267_0, hx267_1, hx267_2, hx267_3, hx267_4, hx267_5, hx267_6, hx267_7, hx267_8, hx267_9, hx267_10, hx267_11, hx267_12, hx267_13, hx267_14, hl267_6, hi267_6, hl267_9, hi267_9, hl267_10, hi267_10⟩ := at_TReq (Kd.V_reads' HO_0.out).2.2 x6_1 p267 q267
                        cases e267
                        obtain ⟨ce267, hce267, hMe267, hcc267⟩ := Kd.V_get HO_0.out zReq x6_1 p267 (by first | exact q267 | exact of_decide_eq_true (by first | (with_reducible assumption) | assumption) | (have e_ := (Kd.V_reads' HO_0.out).1; omega))
                        obtain ⟨ua267_6, uc267_6, ua267_9, uc267_9, ua267_10, uc267_10, rfl, ul267_6, ge267_6, ul267_9, ge267_9, ul267_10, ge267_10⟩ := kReq_openF hMe267
                        have hv267_6 := hcc267 6 _ rfl
                        rw [add_field _ _ 6 (by omega)] at hv267_6
                        replace hv267_6 := Option.some.inj (hv267_6.symm.trans hx267_6)
                        injection hv267_6 with hva_ hvn_ hvc_
                        rw [hva_] at ge267_6
                        rw [hvc_] at ul267_6
                        have HL267_6 := Aside0.mk (show Kd.V kField 92 _ w.heap.size _ _ ((rd_TReq l0 x6_1).f4.f2) from Kd.V_mk ul267_6 ge267_6)
                        clear hva_ hvn_ hvc_ ge267_6 ul267_6
                        have hv267_9 := hcc267 9 _ rfl
                        rw [add_field _ _ 9 (by omega)] at hv267_9
                        replace hv267_9 := Option.some.inj (hv267_9.symm.trans hx267_9)
                        injection hv267_9 with hva_ hvn_ hvc_
                        rw [hva_] at ge267_9
                        rw [hvc_] at ul267_9
                        have HL267_9 := Aside0.mk (show Kd.V kValue 74 _ w.heap.size _ _ ((rd_TReq l0 x6_1).f5.f2) from Kd.V_mk ul267_9 ge267_9)
                        clear hva_ hvn_ hvc_ ge267_9 ul267_9
                        have hv267_10 := hcc267 10 _ rfl
                        rw [add_field _ _ 10 (by omega)] at hv267_10
                        replace hv267_10 := Option.some.inj (hv267_10.symm.trans hx267_10)
                        injection hv267_10 with hva_ hvn_ hvc_
                        rw [hva_] at ge267_10
                        rw [hvc_] at ul267_10
                        have HL267_10 := Aside0.mk (show Kd.V kStep 95 _ w.heap.size _ _ ((rd_TReq l0 x6_1).f6.f0) from Kd.V_mk ul267_10 ge267_10)
                        clear hva_ hvn_ hvc_ ge267_10 ul267_10
                        clear hcc267 hce267
                        have HR267_6 := Aside0.mk hi267_6
                        have HC267_6 := Aside0.mk hl267_6
                        clear hi267_6 hl267_6
                        have HR267_9 := Aside0.mk hi267_9
                        have HC267_9 := Aside0.mk hl267_9
                        clear hi267_9 hl267_9
                        have HR267_10 := Aside0.mk hi267_10
                        have HC267_10 := Aside0.mk hl267_10
                        clear hi267_10 hl267_10
                        replace p267 := eq_true p267
                        replace q267 := eq_true q267
                        have p268 : 0 ≤ (x6_1 : Int) := of_decide_eq_true (by first | (with_reducible assumption) | assumption)
                        have q268 : x6_1 < (l1.length : Int) := of_decide_eq_true (by first | (with_reducible assumption) | assumption)
                        obtain ⟨ad268, e268, hx268_0, hx268_1, hx268_2, hx268_3, hx268_4, hx268_5, hx268_6, hx268_7, hx268_8, hx268_9, hx268_10⟩ := at_TRes HR1.out x6_1 p268 q268
                        (try rw [← Nbq10.out] at hx268_0)
                        (try rw [← Nbq10.out] at hx268_10)
                        cases e268
                        replace hx268_0 := (HB.out.cell (World.block_lt_of_cell? w _ hx268_0)).trans hx268_0
                        replace hx268_1 := (HB.out.cell (World.block_lt_of_cell? w _ hx268_1)).trans hx268_1
                        replace hx268_2 := (HB.out.cell (World.block_lt_of_cell? w _ hx268_2)).trans hx268_2
                        replace hx268_3 := (HB.out.cell (World.block_lt_of_cell? w _ hx268_3)).trans hx268_3
                        replace hx268_4 := (HB.out.cell (World.block_lt_of_cell? w _ hx268_4)).trans hx268_4
                        replace hx268_5 := (HB.out.cell (World.block_lt_of_cell? w _ hx268_5)).trans hx268_5
                        replace hx268_6 := (HB.out.cell (World.block_lt_of_cell? w _ hx268_6)).trans hx268_6
                        replace hx268_7 := (HB.out.cell (World.block_lt_of_cell? w _ hx268_7)).trans hx268_7
                        replace hx268_8 := (HB.out.cell (World.block_lt_of_cell? w _ hx268_8)).trans hx268_8
                        replace hx268_9 := (HB.out.cell (World.block_lt_of_cell? w _ hx268_9)).trans hx268_9
                        replace hx268_10 := (HB.out.cell (World.block_lt_of_cell? w _ hx268_10)).trans hx268_10
                        replace p268 := eq_true p268
                        replace q268 := eq_true q268
                        have p269 : 0 ≤ (x6_1 : Int) := of_decide_eq_true (by first | (with_reducible assumption) | assumption)
                        have q269 : x6_1 < (l1.length : Int) := of_decide_eq_true (by first | (with_reducible assumption) | assumption)
                        obtain ⟨ad269, e269, hx269_0, hx269_1, hx269_2, hx269_3, hx269_4, hx269_5, hx269_6, hx269_7, hx269_8, hx269_9, hx269_10⟩ := at_TRes HR1.out x6_1 p269 q269
                        (try rw [← Nbq10.out] at hx269_0)
                        (try rw [← Nbq10.out] at hx269_10)
                        obtain rfl : ad268 = ad269 := (by injection e269)
                        replace hx269_0 := (HB.out.cell (World.block_lt_of_cell? w _ hx269_0)).trans hx269_0
                        replace hx269_1 := (HB.out.cell (World.block_lt_of_cell? w _ hx269_1)).trans hx269_1
                        replace hx269_2 := (HB.out.cell (World.block_lt_of_cell? w _ hx269_2)).trans hx269_2
                        replace hx269_3 := (HB.out.cell (World.block_lt_of_cell? w _ hx269_3)).trans hx269_3
                        replace hx269_4 := (HB.out.cell (World.block_lt_of_cell? w _ hx269_4)).trans hx269_4
                        replace hx269_5 := (HB.out.cell (World.block_lt_of_cell? w _ hx269_5)).trans hx269_5
                        replace hx269_6 := (HB.out.cell (World.block_lt_of_cell? w _ hx269_6)).trans hx269_6
                        replace hx269_7 := (HB.out.cell (World.block_lt_of_cell? w _ hx269_7)).trans hx269_7
                        replace hx269_8 := (HB.out.cell (World.block_lt_of_cell? w _ hx269_8)).trans hx269_8
                        replace hx269_9 := (HB.out.cell (World.block_lt_of_cell? w _ hx269_9)).trans hx269_9
                        replace hx269_10 := (HB.out.cell (World.block_lt_of_cell? w _ hx269_10)).trans hx269_10
                        replace p269 := eq_true p269
                        replace q269 := eq_true q269
                        go_wp2
                        go_roundg kj2
                        case measure => have := HK1.out; have := HJ2.out; omega
                        case rel => exact ⟨(x5_1), (wrap64 (x6_1 + 1)), (by first | rfl | (simp; done) | (simp [*]; done)), H', ⟨by have := HK1.out; have := HJ2.out; omega⟩, ⟨by (with_reducible repeat (first | apply Kd.V_alloc | apply Kd.V_drewN | apply Kd.V_drew)); exact HO_0.out⟩, ⟨by (with_reducible repeat (first | apply Kd.N_alloc | apply Kd.N_drewN | apply Kd.N_drew)); exact HO_5.out⟩, ⟨by repeat (first | (with_reducible first | exact HB.out | apply below_alloc | apply pw_below_drewN | apply below_drew1) | exact HB.out)⟩⟩
                  · rw [if_neg c9] at H
                    exact absurd H (by simp)
                · rw [if_neg c8] at H
                  have c8b0 : (((rd_TReq l0 x6_1).f0) == 3) = false := beq_eq_false_iff_ne.mpr c8
                  have c8b1 : (((rd_TReq l0 x6_1).f0) != 3) = true := bne_iff_ne.mpr c8
                  have H' := Aside0.mk H
                  clear H
                  have p267 : 0 ≤ (x6_1 : Int) := of_decide_eq_true (by first | (with_reducible assumption) | assumption)
                  have q267 : x6_1 < (l0.length : Int) := of_decide_eq_true (by first | (with_reducible assumption) | assumption)
                  obtain ⟨ad267, A267_6, c267_6, A267_9, c267_9, A267_10, c267_10, e267, hx267_0, hx267_1, hx267_2, hx267_3, hx267_4, hx267_5, hx267_6, hx267_7, hx267_8, hx267_9, hx267_10, hx267_11, hx267_12, hx267_13, hx267_14, hl267_6, hi267_6, hl267_9, hi267_9, hl267_10, hi267_10⟩ := at_TReq (Kd.V_reads' HO_0.out).2.2 x6_1 p267 q267
                  cases e267
                  obtain ⟨ce267, hce267, hMe267, hcc267⟩ := Kd.V_get HO_0.out zReq x6_1 p267 (by first | exact q267 | exact of_decide_eq_true (by first | (with_reducible assumption) | assumption) | (have e_ := (Kd.V_reads' HO_0.out).1; omega))
                  obtain ⟨ua267_6, uc267_6, ua267_9, uc267_9, ua267_10, uc267_10, rfl, ul267_6, ge267_6, ul267_9, ge267_9, ul267_10, ge267_10⟩ := kReq_openF hMe267
                  have hv267_6 := hcc267 6 _ rfl
                  rw [add_field _ _ 6 (by omega)] at hv267_6
                  replace hv267_6 := Option.some.inj (hv267_6.symm.trans hx267_6)
                  injection hv267_6 with hva_ hvn_ hvc_
                  rw [hva_] at ge267_6
                  rw [hvc_] at ul267_6
                  have HL267_6 := Aside0.mk (show Kd.V kField 92 _ w.heap.size _ _ ((rd_TReq l0 x6_1).f4.f2) from Kd.V_mk ul267_6 ge267_6)
                  clear hva_ hvn_ hvc_ ge267_6 ul267_6
                  have hv267_9 := hcc267 9 _ rfl
                  rw [add_field _ _ 9 (by omega)] at hv267_9
                  replace hv267_9 := Option.some.inj (hv267_9.symm.trans hx267_9)
                  injection hv267_9 with hva_ hvn_ hvc_
                  rw [hva_] at ge267_9
                  rw [hvc_] at ul267_9
                  have HL267_9 := Aside0.mk (show Kd.V kValue 74 _ w.heap.size _ _ ((rd_TReq l0 x6_1).f5.f2) from Kd.V_mk ul267_9 ge267_9)
                  clear hva_ hvn_ hvc_ ge267_9 ul267_9
                  have hv267_10 := hcc267 10 _ rfl
                  rw [add_field _ _ 10 (by omega)] at hv267_10
                  replace hv267_10 := Option.some.inj (hv267_10.symm.trans hx267_10)
                  injection hv267_10 with hva_ hvn_ hvc_
                  rw [hva_] at ge267_10
                  rw [hvc_] at ul267_10
                  have HL267_10 := Aside0.mk (show Kd.V kStep 95 _ w.heap.size _ _ ((rd_TReq l0 x6_1).f6.f0) from Kd.V_mk ul267_10 ge267_10)
                  clear hva_ hvn_ hvc_ ge267_10 ul267_10
                  clear hcc267 hce267
                  have HR267_6 := Aside0.mk hi267_6
                  have HC267_6 := Aside0.mk hl267_6
                  clear hi267_6 hl267_6
                  have HR267_9 := Aside0.mk hi267_9
                  have HC267_9 := Aside0.mk hl267_9
                  clear hi267_9 hl267_9
                  have HR267_10 := Aside0.mk hi267_10
                  have HC267_10 := Aside0.mk hl267_10
                  clear hi267_10 hl267_10
                  replace p267 := eq_true p267
                  replace q267 := eq_true q267
                  go_wp2
                  go_roundg kj2
                  case measure => have := HK1.out; have := HJ2.out; omega
                  case rel => exact ⟨(x5_1), (wrap64 (x6_1 + 1)), (by first | rfl | (simp; done) | (simp [*]; done)), H', ⟨by have := HK1.out; have := HJ2.out; omega⟩, ⟨by (with_reducible repeat (first | apply Kd.V_alloc | apply Kd.V_drewN | apply Kd.V_drew)); exact HO_0.out⟩, ⟨by (with_reducible repeat (first | apply Kd.N_alloc | apply Kd.N_drewN | apply Kd.N_drew)); exact HO_5.out⟩, ⟨by repeat (first | (with_reducible first | exact HB.out | apply below_alloc | apply pw_below_drewN | apply below_drew1) | exact HB.out)⟩⟩
              · rw [if_neg c7] at H
                exact absurd H (by simp)
            · rw [if_neg c6] at H
              exact absurd H (by simp)
          · replace c5 := Bool.eq_false_iff.mpr c5
            subst c5
            have H1 : (some x5_1) = some r := by rw [if_neg (show ¬ (false = true) by decide)] at H; exact H
            clear H
            have H := H1
            clear H1
            obtain rfl := Option.some.inj H
            go_wp2
            go_ret
            exact ⟨_, by first | rfl | (simp [errW_none, errW_some] <;> rfl) | (simp [*, errW_none, errW_some] <;> rfl), by (with_reducible repeat (first | apply Kd.N_alloc | apply Kd.N_drewN | apply Kd.N_drew)); exact HO_5.out, by repeat (first | (with_reducible first | exact HB.out | apply below_alloc | apply pw_below_drewN | apply below_drew1) | exact HB.out)⟩

end Go.Proofs.Yteiaoanfdkgmoaa.P
