/- The functions that the laws of this seat reach, as plain Lean functions, and for each the contract of its call: no condition but those that each theorem names. -/
import Derived.Test.YteiaoanfdkgmoaaP0
namespace Go.Proofs.Yteiaoanfdkgmoaa.P
open Go.RowKit Go.Proofs.YteiaoanfdkgmoaaW.PrintWords Go.Proofs.YteiaoanfdkgmoaaW.PrintLast Go.Proofs.YteiaoanfdkgmoaaW.PrintMore
attribute [local go_sem] max2_int min2_int max_two min_two max_three min_three max_four min_four   -- for this text's walks alone
set_option linter.unusedVariables false
set_option linter.unusedSimpArgs false

/-! ### towncrierref21_Notes: function 18 -/
def towncrierref21_Notes.l0 : Nat → List (SRes) → Int → List (SNote) → Int → Option ((List (SNote)))
  | 0, _, _, _, _ => none
  | k + 1, x0, x1, x5, x6 => if x6 < (x0.length : Int) then (if 0 ≤ x6 then (if (rd_TRes x0 x6).f0 = true then (if ((rd_TRes x0 x6).f4.f0) = x1 then (if x5.length < 2513169434916 then (towncrierref21_Notes.l0 k x0 x1 (x5 ++ [(⟨(rd_TRes x0 x6).f4.f0, (rd_TRes x0 x6).f4.f1, (rd_TRes x0 x6).f4.f2, (⟨(rd_TRes x0 x6).f4.f3.f0, (rd_TRes x0 x6).f4.f3.f1, (rd_TRes x0 x6).f4.f3.f2, (rd_TRes x0 x6).f4.f3.f3⟩ : SMatch)⟩ : SNote)]) (wrap64 (x6 + 1))) else (none)) else (towncrierref21_Notes.l0 k x0 x1 x5 (wrap64 (x6 + 1)))) else (towncrierref21_Notes.l0 k x0 x1 x5 (wrap64 (x6 + 1)))) else (none)) else (some x5)
def towncrierref21_Notes.f (k : Nat) (l0 : List (SRes)) (a1 : Int) : Option ((List (SNote))) := towncrierref21_Notes.l0 k l0 a1 ([] : List (SNote)) 0
theorem towncrierref21_Notes.mono_l : ∀ k, (∀ y0 y1 y2 y3, LeO (towncrierref21_Notes.l0 k y0 y1 y2 y3) (towncrierref21_Notes.l0 (k + 1) y0 y1 y2 y3))
  | 0 => fun _ _ _ _ r h => by simp [towncrierref21_Notes.l0] at h
  | k + 1 => by
    have ih0 := towncrierref21_Notes.mono_l k
    · intro y0 y1 y2 y3
      unfold towncrierref21_Notes.l0
      repeat' first
      | (with_reducible exact ih0 _ _ _ _)
      | (with_reducible exact LeO.refl _)
      | (with_reducible exact LeO.none _)
      | (with_reducible refine LeO.ite ?_ ?_)
      | (with_reducible refine LeO.bind ?_ (fun _ => ?_))
      | exact ih0 _ _ _ _
      | exact LeO.none _
      | refine LeO.ite ?_ ?_
      | refine LeO.bind ?_ (fun _ => ?_)
theorem towncrierref21_Notes.mono : ∀ a0 a1 k, LeO (towncrierref21_Notes.f k a0 a1) (towncrierref21_Notes.f (k + 1) a0 a1) := by
  intro a0 a1 k
  have ih0 := towncrierref21_Notes.mono_l k
  unfold towncrierref21_Notes.f
  repeat' first
      | (with_reducible exact ih0 _ _ _ _)
      | (with_reducible exact LeO.refl _)
      | (with_reducible exact LeO.none _)
      | (with_reducible refine LeO.ite ?_ ?_)
      | (with_reducible refine LeO.bind ?_ (fun _ => ?_))
      | exact ih0 _ _ _ _
      | exact LeO.none _
      | refine LeO.ite ?_ ?_
      | refine LeO.bind ?_ (fun _ => ?_)
set_option maxHeartbeats 8000000 in
set_option maxRecDepth 100000 in
theorem towncrierref21_Notes.calls (k : Nat) (A0 : Option Addr) (c0 : Nat) (l0 : List (SRes)) (a1 : Int) (r : List (SNote)) (w : World) (hr0 : Kd.C kRes w A0 l0.length l0) (hc0 : l0.length ≤ c0) (h : towncrierref21_Notes.f k l0 a1 = some r) :
    Calls Try.prog 18 #[.slice A0 l0.length c0, .int .i64 a1] w fun e w' => ∃ v0_ : Value, e = .returned (v0_) ∧ Kd.R kNote 27 w' w.heap.size (fun _ => True) v0_ r ∧ Below w.heap.size w w' := by
  have hu27 := Try.underlying27
  have HR0 := Aside0.mk hr0
  have HC0 := Aside0.mk hc0
  clear hr0 hc0
  have HB := Aside0.mk (Below.refl w.heap.size w)
  have H : (towncrierref21_Notes.l0 k l0 a1 ([] : List (SNote)) 0) = some r := h
  clear h
  have H' := Aside0.mk H
  clear H
  go_enter Try.func18, Try.ntmps18
  go_wp2
  go_loopg [5, 6] k (fun kq v5 v6 w' => ∃ (x5_1 : List (SNote)) (x6_1 : Int), v6 = .int .i64 x6_1 ∧ Aside0 (towncrierref21_Notes.l0 kq l0 a1 x5_1 x6_1 = some r) ∧ Aside0 (kq ≤ k) ∧ Aside0 (Kd.R kNote 27 w' w.heap.size (fun _ => True) v5 x5_1) ∧ Aside0 (Below w.heap.size w w'))
  case atStart => exact ⟨(([] : List (SNote))), (0), (by first | rfl | (simp; done) | (simp [*]; done)), H', ⟨Nat.le_refl _⟩, ⟨by first | exact Kd.R_nil _ _ _ _ _ | exact Kd.N_nil _ _ _ _ _ | exact Kd.V_nil _ _ _ _ _ | exact Kd.Q_nil _ _ _ _ _ | exact Kd.S_nil _ _ _ _ _⟩, ⟨by repeat (first | (with_reducible first | exact HB.out | apply below_alloc | apply pw_below_drewN | apply below_drew1) | exact HB.out)⟩⟩
  case round =>
    clear H'
    try clear c1
    try clear p2
    obtain ⟨x5_1, x6_1, rfl, HA, HK1, HO_5, HB⟩ := hrel
    cases gk with
    | zero => exact absurd HA.out (by simp [towncrierref21_Notes.l0])
    | succ k1 =>
      have H := HA.out
      clear HA
      simp only [towncrierref21_Notes.l0] at H
      by_cases c3 : x6_1 < (l0.length : Int)
      · rw [if_pos c3] at H
        have c3b0 : decide (x6_1 < (l0.length : Int)) = true := decide_eq_true c3
        clear c3
        by_cases c4 : 0 ≤ x6_1
        · rw [if_pos c4] at H
          have c4b0 : decide (0 ≤ x6_1) = true := decide_eq_true c4
          clear c4
          obtain ⟨bq5, hbq5⟩ : ∃ b_ : Bool, b_ = ((rd_TRes l0 x6_1).f0) := ⟨_, rfl⟩
          replace H : (if bq5 = true then (if ((rd_TRes l0 x6_1).f4.f0) = a1 then (if x5_1.length < 2513169434916 then (towncrierref21_Notes.l0 k1 l0 a1 (x5_1 ++ [(⟨(rd_TRes l0 x6_1).f4.f0, (rd_TRes l0 x6_1).f4.f1, (rd_TRes l0 x6_1).f4.f2, (⟨(rd_TRes l0 x6_1).f4.f3.f0, (rd_TRes l0 x6_1).f4.f3.f1, (rd_TRes l0 x6_1).f4.f3.f2, (rd_TRes l0 x6_1).f4.f3.f3⟩ : SMatch)⟩ : SNote)]) (wrap64 (x6_1 + 1))) else (none)) else (towncrierref21_Notes.l0 k1 l0 a1 x5_1 (wrap64 (x6_1 + 1)))) else (towncrierref21_Notes.l0 k1 l0 a1 x5_1 (wrap64 (x6_1 + 1)))) = some r := by rw [← hbq5] at H; exact H
          have Nbq5 := Aside0.mk hbq5
          clear hbq5
          by_cases c6 : bq5 = true
          · subst c6
            have H1 : (if ((rd_TRes l0 x6_1).f4.f0) = a1 then (if x5_1.length < 2513169434916 then (towncrierref21_Notes.l0 k1 l0 a1 (x5_1 ++ [(⟨(rd_TRes l0 x6_1).f4.f0, (rd_TRes l0 x6_1).f4.f1, (rd_TRes l0 x6_1).f4.f2, (⟨(rd_TRes l0 x6_1).f4.f3.f0, (rd_TRes l0 x6_1).f4.f3.f1, (rd_TRes l0 x6_1).f4.f3.f2, (rd_TRes l0 x6_1).f4.f3.f3⟩ : SMatch)⟩ : SNote)]) (wrap64 (x6_1 + 1))) else (none)) else (towncrierref21_Notes.l0 k1 l0 a1 x5_1 (wrap64 (x6_1 + 1)))) = some r := by rw [if_pos rfl] at H; exact H
            clear H
            have H := H1
            clear H1
            by_cases c7 : ((rd_TRes l0 x6_1).f4.f0) = a1
            · rw [if_pos c7] at H
              have c7b0 : (((rd_TRes l0 x6_1).f4.f0) == a1) = true := beq_iff_eq.mpr c7
              have c7b1 : (((rd_TRes l0 x6_1).f4.f0) != a1) = false := bne_eq_false_iff_eq.mpr c7
              clear c7
              by_cases c8 : x5_1.length < 2513169434916
              · rw [if_pos c8] at H
                have LMc8 := Aside0.mk c8
                clear c8
                obtain ⟨y247, hy247⟩ : ∃ y_ : List (SNote), y_ = (x5_1 ++ [(⟨(rd_TRes l0 x6_1).f4.f0, (rd_TRes l0 x6_1).f4.f1, (rd_TRes l0 x6_1).f4.f2, (⟨(rd_TRes l0 x6_1).f4.f3.f0, (rd_TRes l0 x6_1).f4.f3.f1, (rd_TRes l0 x6_1).f4.f3.f2, (rd_TRes l0 x6_1).f4.f3.f3⟩ : SMatch)⟩ : SNote)]) := ⟨_, rfl⟩
                replace H : (towncrierref21_Notes.l0 k1 l0 a1 y247 (wrap64 (x6_1 + 1))) = some r := by first | (rw [hy247]; with_reducible exact H) | (have H2_ := (Option.bind_some _ _).symm.trans H; rw [hy247]; with_reducible exact H2_) | (have H2_ := (Option.bind_some _ _).symm.trans H; with_reducible exact H2_) | with_reducible exact H | (rw [hy247]; exact H) | exact H
                have Ny247 := Aside0.mk hy247
                clear hy247
                have H' := Aside0.mk H
                clear H
                have p244 : 0 ≤ (x6_1 : Int) := of_decide_eq_true (by first | (with_reducible assumption) | assumption)
                have q244 : x6_1 < (l0.length : Int) := of_decide_eq_true (by first | (with_reducible assumption) | assumption)
                obtain ⟨ad244, e244, hx244_0, hx244_1, hx244_2, hx244_3, hx244_4, hx244_5, hx244_6, hx244_7, hx244_8, hx244_9, hx244_10⟩ := at_TRes HR0.out x6_1 p244 q244
                (try rw [← Nbq5.out] at hx244_0)
                (try rw [← Nbq5.out] at hx244_10)
                cases e244
                replace hx244_0 := (HB.out.cell (World.block_lt_of_cell? w _ hx244_0)).trans hx244_0
                replace hx244_1 := (HB.out.cell (World.block_lt_of_cell? w _ hx244_1)).trans hx244_1
                replace hx244_2 := (HB.out.cell (World.block_lt_of_cell? w _ hx244_2)).trans hx244_2
                replace hx244_3 := (HB.out.cell (World.block_lt_of_cell? w _ hx244_3)).trans hx244_3
                replace hx244_4 := (HB.out.cell (World.block_lt_of_cell? w _ hx244_4)).trans hx244_4
                replace hx244_5 := (HB.out.cell (World.block_lt_of_cell? w _ hx244_5)).trans hx244_5
                replace hx244_6 := (HB.out.cell (World.block_lt_of_cell? w _ hx244_6)).trans hx244_6
                replace hx244_7 := (HB.out.cell (World.block_lt_of_cell? w _ hx244_7)).trans hx244_7
                replace hx244_8 := (HB.out.cell (World.block_lt_of_cell? w _ hx244_8)).trans hx244_8
                replace hx244_9 := (HB.out.cell (World.block_lt_of_cell? w _ hx244_9)).trans hx244_9
                replace hx244_10 := (HB.out.cell (World.block_lt_of_cell? w _ hx244_10)).trans hx244_10
                replace p244 := eq_true p244
                replace q244 := eq_true q244
                have p245 : 0 ≤ (x6_1 : Int) := of_decide_eq_true (by first | (with_reducible assumption) | assumption)
                have q245 : x6_1 < (l0.length : Int) := of_decide_eq_true (by first | (with_reducible assumption) | assumption)
                obtain ⟨ad245, e245, hx245_0, hx245_1, hx245_2, hx245_3, hx245_4, hx245_5, hx245_6, hx245_7, hx245_8, hx245_9, hx245_10⟩ := at_TRes HR0.out x6_1 p245 q245
                (try rw [← Nbq5.out] at hx245_0)
                (try rw [← Nbq5.out] at hx245_10)
                obtain rfl : ad244 = ad245 := (by injection e245)
                replace hx245_0 := (HB.out.cell (World.block_lt_of_cell? w _ hx245_0)).trans hx245_0
                replace hx245_1 := (HB.out.cell (World.block_lt_of_cell? w _ hx245_1)).trans hx245_1
                replace hx245_2 := (HB.out.cell (World.block_lt_of_cell? w _ hx245_2)).trans hx245_2
                replace hx245_3 := (HB.out.cell (World.block_lt_of_cell? w _ hx245_3)).trans hx245_3
                replace hx245_4 := (HB.out.cell (World.block_lt_of_cell? w _ hx245_4)).trans hx245_4
                replace hx245_5 := (HB.out.cell (World.block_lt_of_cell? w _ hx245_5)).trans hx245_5
                replace hx245_6 := (HB.out.cell (World.block_lt_of_cell? w _ hx245_6)).trans hx245_6
                replace hx245_7 := (HB.out.cell (World.block_lt_of_cell? w _ hx245_7)).trans hx245_7
                replace hx245_8 := (HB.out.cell (World.block_lt_of_cell? w _ hx245_8)).trans hx245_8
                replace hx245_9 := (HB.out.cell (World.block_lt_of_cell? w _ hx245_9)).trans hx245_9
                replace hx245_10 := (HB.out.cell (World.block_lt_of_cell? w _ hx245_10)).trans hx245_10
                replace p245 := eq_true p245
                replace q245 := eq_true q245
                have p246 : 0 ≤ (x6_1 : Int) := of_decide_eq_true (by first | (with_reducible assumption) | assumption)
                have q246 : x6_1 < (l0.length : Int) := of_decide_eq_true (by first | (with_reducible assumption) | assumption)
                obtain ⟨ad246, e246, hx246_0, hx246_1, hx246_2, hx246_3, hx246_4, hx246_5, hx246_6, hx246_7, hx246_8, hx246_9, hx246_10⟩ := at_TRes HR0.out x6_1 p246 q246
                (try rw [← Nbq5.out] at hx246_0)
                (try rw [← Nbq5.out] at hx246_10)
                obtain rfl : ad244 = ad246 := (by injection e246)
                replace hx246_0 := (HB.out.cell (World.block_lt_of_cell? w _ hx246_0)).trans hx246_0
                replace hx246_1 := (HB.out.cell (World.block_lt_of_cell? w _ hx246_1)).trans hx246_1
                replace hx246_2 := (HB.out.cell (World.block_lt_of_cell? w _ hx246_2)).trans hx246_2
                replace hx246_3 := (HB.out.cell (World.block_lt_of_cell? w _ hx246_3)).trans hx246_3
                replace hx246_4 := (HB.out.cell (World.block_lt_of_cell? w _ hx246_4)).trans hx246_4
                replace hx246_5 := (HB.out.cell (World.block_lt_of_cell? w _ hx246_5)).trans hx246_5
                replace hx246_6 := (HB.out.cell (World.block_lt_of_cell? w _ hx246_6)).trans hx246_6
                replace hx246_7 := (HB.out.cell (World.block_lt_of_cell? w _ hx246_7)).trans hx246_7
                replace hx246_8 := (HB.out.cell (World.block_lt_of_cell? w _ hx246_8)).trans hx246_8
                replace hx246_9 := (HB.out.cell (World.block_lt_of_cell? w _ hx246_9)).trans hx246_9
                replace hx246_10 := (HB.out.cell (World.block_lt_of_cell? w _ hx246_10)).trans hx246_10
                replace p246 := eq_true p246
                replace q246 := eq_true q246
                go_wp2_with (first | ((with_reducible refine gate_builtin (b := .append) (xs := #[.tmp 28, .tmp 34]) rfl ?_); at_builtin; refine Kd.R_append kNote (w0 := w) w.heap.size rfl (.tmp 28) (.tmp 34) 22 27 (.agg #[(.int .i64 0), (.int .i64 0), (.int .i64 0), (.int .i64 0), (.int .i64 0), (.int .i64 0), (.bool false)]) 56 rfl Try.underlying22 infoNote rfl (by decide) (by omega) u5 x5_1 (⟨(rd_TRes l0 x6_1).f4.f0, (rd_TRes l0 x6_1).f4.f1, (rd_TRes l0 x6_1).f4.f2, (⟨(rd_TRes l0 x6_1).f4.f3.f0, (rd_TRes l0 x6_1).f4.f3.f1, (rd_TRes l0 x6_1).f4.f3.f2, (rd_TRes l0 x6_1).f4.f3.f3⟩ : SMatch)⟩ : SNote) [.int .i64 ((rd_TRes l0 x6_1).f4.f0), .int .i64 ((rd_TRes l0 x6_1).f4.f1), .int .i64 ((rd_TRes l0 x6_1).f4.f2), .int .i64 ((rd_TRes l0 x6_1).f4.f3.f0), .int .i64 ((rd_TRes l0 x6_1).f4.f3.f1), .int .i64 ((rd_TRes l0 x6_1).f4.f3.f2), .bool ((rd_TRes l0 x6_1).f4.f3.f3)] (fun _ => True) (fun _ => False) rfl rfl ?aP (fun _ hk => hk.elim) ?aF ?aO ?aB ?aS ?aL ?_; (case aP => exact kNote_mkM _ _ _ (⟨(rd_TRes l0 x6_1).f4.f0, (rd_TRes l0 x6_1).f4.f1, (rd_TRes l0 x6_1).f4.f2, (⟨(rd_TRes l0 x6_1).f4.f3.f0, (rd_TRes l0 x6_1).f4.f3.f1, (rd_TRes l0 x6_1).f4.f3.f2, (rd_TRes l0 x6_1).f4.f3.f3⟩ : SMatch)⟩ : SNote)); (case aB => exact (by repeat (first | (with_reducible first | exact HB.out | apply below_alloc | apply pw_below_drewN | apply below_drew1) | exact HB.out))); (case aF => exact (fun _ _ => trivial)); (case aO => exact (by (with_reducible repeat (first | apply Kd.R_alloc | apply Kd.R_drewN | apply Kd.R_drew)); exact HO_5.out)); (case aS => exact (below_size (by repeat (first | (with_reducible first | exact HB.out | apply below_alloc | apply pw_below_drewN | apply below_drew1) | exact HB.out)))); (case aL => have := LMc8.out; omega); intro v248 w9 ho hb hg hat; rw [← Ny247.out] at ho; have n0_ := Aside0.mk (hb); have n1_ := Aside0.mk (ho); clear HB; clear HO_5; have HB := n0_; have HO249 := n1_; clear n0_ n1_; clear ho hb hg hat))
                go_roundg k1
                case measure => have := HK1.out; omega
                case rel => exact ⟨(y247), (wrap64 (x6_1 + 1)), (by first | rfl | (simp; done) | (simp [*]; done)), H', ⟨by have := HK1.out; omega⟩, ⟨by (with_reducible repeat (first | apply Kd.R_alloc | apply Kd.R_drewN | apply Kd.R_drew)); exact HO249.out⟩, ⟨by repeat (first | (with_reducible first | exact HB.out | apply below_alloc | apply pw_below_drewN | apply below_drew1) | exact HB.out)⟩⟩
              · rw [if_neg c8] at H
                exact absurd H (by simp)
            · rw [if_neg c7] at H
              have c7b0 : (((rd_TRes l0 x6_1).f4.f0) == a1) = false := beq_eq_false_iff_ne.mpr c7
              have c7b1 : (((rd_TRes l0 x6_1).f4.f0) != a1) = true := bne_iff_ne.mpr c7
              have H' := Aside0.mk H
              clear H
              have p244 : 0 ≤ (x6_1 : Int) := of_decide_eq_true (by first | (with_reducible assumption) | assumption)
              have q244 : x6_1 < (l0.length : Int) := of_decide_eq_true (by first | (with_reducible assumption) | assumption)
              obtain ⟨ad244, e244, hx244_0, hx244_1, hx244_2, hx244_3, hx244_4, hx244_5, hx244_6, hx244_7, hx244_8, hx244_9, hx244_10⟩ := at_TRes HR0.out x6_1 p244 q244
              (try rw [← Nbq5.out] at hx244_0)
              (try rw [← Nbq5.out] at hx244_10)
              cases e244
              replace hx244_0 := (HB.out.cell (World.block_lt_of_cell? w _ hx244_0)).trans hx244_0
              replace hx244_1 := (HB.out.cell (World.block_lt_of_cell? w _ hx244_1)).trans hx244_1
              replace hx244_2 := (HB.out.cell (World.block_lt_of_cell? w _ hx244_2)).trans hx244_2
              replace hx244_3 := (HB.out.cell (World.block_lt_of_cell? w _ hx244_3)).trans hx244_3
              replace hx244_4 := (HB.out.cell (World.block_lt_of_cell? w _ hx244_4)).trans hx244_4
              replace hx244_5 := (HB.out.cell (World.block_lt_of_cell? w _ hx244_5)).trans hx244_5
              replace hx244_6 := (HB.out.cell (World.block_lt_of_cell? w _ hx244_6)).trans hx244_6
              replace hx244_7 := (HB.out.cell (World.block_lt_of_cell? w _ hx244_7)).trans hx244_7
              replace hx244_8 := (HB.out.cell (World.block_lt_of_cell? w _ hx244_8)).trans hx244_8
              replace hx244_9 := (HB.out.cell (World.block_lt_of_cell? w _ hx244_9)).trans hx244_9
              replace hx244_10 := (HB.out.cell (World.block_lt_of_cell? w _ hx244_10)).trans hx244_10
              replace p244 := eq_true p244
              replace q244 := eq_true q244
              have p245 : 0 ≤ (x6_1 : Int) := of_decide_eq_true (by first | (with_reducible assumption) | assumption)
              have q245 : x6_1 < (l0.length : Int) := of_decide_eq_true (by first | (with_reducible assumption) | assumption)
              obtain ⟨ad245, e245, hx245_0, hx245_1, hx245_2, hx245_3, hx245_4, hx245_5, hx245_6, hx245_7, hx245_8, hx245_9, hx245_10⟩ := at_TRes HR0.out x6_1 p245 q245
              (try rw [← Nbq5.out] at hx245_0)
              (try rw [← Nbq5.out] at hx245_10)
              obtain rfl : ad244 = ad245 := (by injection e245)
              replace hx245_0 := (HB.out.cell (World.block_lt_of_cell? w _ hx245_0)).trans hx245_0
              replace hx245_1 := (HB.out.cell (World.block_lt_of_cell? w _ hx245_1)).trans hx245_1
              replace hx245_2 := (HB.out.cell (World.block_lt_of_cell? w _ hx245_2)).trans hx245_2
              replace hx245_3 := (HB.out.cell (World.block_lt_of_cell? w _ hx245_3)).trans hx245_3
              replace hx245_4 := (HB.out.cell (World.block_lt_of_cell? w _ hx245_4)).trans hx245_4
              replace hx245_5 := (HB.out.cell (World.block_lt_of_cell? w _ hx245_5)).trans hx245_5
              replace hx245_6 := (HB.out.cell (World.block_lt_of_cell? w _ hx245_6)).trans hx245_6
              replace hx245_7 := (HB.out.cell (World.block_lt_of_cell? w _ hx245_7)).trans hx245_7
              replace hx245_8 := (HB.out.cell (World.block_lt_of_cell? w _ hx245_8)).trans hx245_8
              replace hx245_9 := (HB.out.cell (World.block_lt_of_cell? w _ hx245_9)).trans hx245_9
              replace hx245_10 := (HB.out.cell (World.block_lt_of_cell? w _ hx245_10)).trans hx245_10
              replace p245 := eq_true p245
              replace q245 := eq_true q245
              go_wp2
              go_roundg k1
              case measure => have := HK1.out; omega
              case rel => exact ⟨(x5_1), (wrap64 (x6_1 + 1)), (by first | rfl | (simp; done) | (simp [*]; done)), H', ⟨by have := HK1.out; omega⟩, ⟨by (with_reducible repeat (first | apply Kd.R_alloc | apply Kd.R_drewN | apply Kd.R_drew)); exact HO_5.out⟩, ⟨by repeat (first | (with_reducible first | exact HB.out | apply below_alloc | apply pw_below_drewN | apply below_drew1) | exact HB.out)⟩⟩
          · replace c6 := Bool.eq_false_iff.mpr c6
            subst c6
            have H1 : (towncrierref21_Notes.l0 k1 l0 a1 x5_1 (wrap64 (x6_1 + 1))) = some r := by rw [if_neg (show ¬ (false = true) by decide)] at H; exact H
            clear H
            have H := H1
            clear H1
            have H' := Aside0.mk H
            clear H
            have p244 : 0 ≤ (x6_1 : Int) := of_decide_eq_true (by first | (with_reducible assumption) | assumption)
            have q244 : x6_1 < (l0.length : Int) := of_decide_eq_true (by first | (with_reducible assumption) | assumption)
            obtain ⟨ad244, e244, hx244_0, hx244_1, hx244_2, hx244_3, hx244_4, hx244_5, hx244_6, hx244_7, hx244_8, hx244_9, hx244_10⟩ := at_TRes HR0.out x6_1 p244 q244
            (try rw [← Nbq5.out] at hx244_0)
            (try rw [← Nbq5.out] at hx244_10)
            cases e244
            replace hx244_0 := (HB.out.cell (World.block_lt_of_cell? w _ hx244_0)).trans hx244_0
            replace hx244_1 := (HB.out.cell (World.block_lt_of_cell? w _ hx244_1)).trans hx244_1
            replace hx244_2 := (HB.out.cell (World.block_lt_of_cell? w _ hx244_2)).trans hx244_2
            replace hx244_3 := (HB.out.cell (World.block_lt_of_cell? w _ hx244_3)).trans hx244_3
            replace hx244_4 := (HB.out.cell (World.block_lt_of_cell? w _ hx244_4)).trans hx244_4
            replace hx244_5 := (HB.out.cell (World.block_lt_of_cell? w _ hx244_5)).trans hx244_5
            replace hx244_6 := (HB.out.cell (World.block_lt_of_cell? w _ hx244_6)).trans hx244_6
            replace hx244_7 := (HB.out.cell (World.block_lt_of_cell? w _ hx244_7)).trans hx244_7
            replace hx244_8 := (HB.out.cell (World.block_lt_of_cell? w _ hx244_8)).trans hx244_8
            replace hx244_9 := (HB.out.cell (World.block_lt_of_cell? w _ hx244_9)).trans hx244_9
            replace hx244_10 := (HB.out.cell (World.block_lt_of_cell? w _ hx244_10)).trans hx244_10
            replace p244 := eq_true p244
            replace q244 := eq_true q244
            go_wp2
            go_roundg k1
            case measure => have := HK1.out; omega
            case rel => exact ⟨(x5_1), (wrap64 (x6_1 + 1)), (by first | rfl | (simp; done) | (simp [*]; done)), H', ⟨by have := HK1.out; omega⟩, ⟨by (with_reducible repeat (first | apply Kd.R_alloc | apply Kd.R_drewN | apply Kd.R_drew)); exact HO_5.out⟩, ⟨by repeat (first | (with_reducible first | exact HB.out | apply below_alloc | apply pw_below_drewN | apply below_drew1) | exact HB.out)⟩⟩
        · rw [if_neg c4] at H
          exact absurd H (by simp)
      · rw [if_neg c3] at H
        have c3b0 : decide (x6_1 < (l0.length : Int)) = false := decide_eq_false c3
        clear c3
        obtain rfl := Option.some.inj H
        go_wp2
        go_ret
        exact ⟨_, by first | rfl | (simp [errW_none, errW_some] <;> rfl) | (simp [*, errW_none, errW_some] <;> rfl), by (with_reducible repeat (first | apply Kd.R_alloc | apply Kd.R_drewN | apply Kd.R_drew)); exact HO_5.out, by repeat (first | (with_reducible first | exact HB.out | apply below_alloc | apply pw_below_drewN | apply below_drew1) | exact HB.out)⟩

end Go.Proofs.Yteiaoanfdkgmoaa.P
