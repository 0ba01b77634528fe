/- The functions that the laws of this seat reach, as plain Lean functions, and for each the contract of its call: no condition but those that each theorem names. -/
import Derived.Test.YteiaoanfdkgmoaaP0
import Derived.Test.YteiaoanfdkgmoaaP5
import Derived.Test.YteiaoanfdkgmoaaP12
namespace Go.Proofs.Yteiaoanfdkgmoaa.P
open Go.RowKit Go.Proofs.YteiaoanfdkgmoaaW.PrintWords Go.Proofs.YteiaoanfdkgmoaaW.PrintLast Go.Proofs.YteiaoanfdkgmoaaW.PrintMore
attribute [local go_sem] max2_int min2_int max_two min_two max_three min_three max_four min_four   -- for this text's walks alone
set_option linter.unusedVariables false
set_option linter.unusedSimpArgs false

/-! ### towncrierlaw21_AuditLines: function 3 -/
mutual
def towncrierlaw21_AuditLines.j0 : Nat → List (SNote) → Int → Int → Bool → Bool → Option (Bool)
  | 0, _, _, _, _, _ => none
  | k + 1, x0, x1, x2, x7, x36 => if x36 = true then (some x7) else (towncrierlaw21_AuditLines.l0 k x0 x1 x2 0)
def towncrierlaw21_AuditLines.l0 : Nat → List (SNote) → Int → Int → Int → Option (Bool)
  | 0, _, _, _, _ => none
  | k + 1, x0, x1, x2, x8 => if x8 < x2 then (if 0 ≤ x8 then (if x8 < (x0.length : Int) then (if ((rd_TNote x0 x8).f2) = 0 then (towncrierlaw21_AuditLines.l0 k x0 x1 x2 (wrap64 (x8 + 1))) else (some true)) else (none)) else (none)) else (if 0 ≤ x2 then (if x2 ≤ (x0.length : Int) then ((audit_Line.f (x0.take (x2 : Int).toNat) x1).bind fun t138 => ((audit_Line.f (x0.drop (x2 : Int).toNat) (wrap64 (x1 + x2))).bind fun t143 => ((audit_Line.f x0 x1).bind fun t144 => (if t138 = true then (some (t144 == t143)) else (some (t144 == false)))))) else (none)) else (none))
end
def towncrierlaw21_AuditLines.f (k : Nat) (l0 : List (SNote)) (a1 : Int) (a2 : Int) : Option (Bool) := (towncrierlaw21_awake.f k).bind fun t132 => (if t132 = true then (if (l0.length : Int) > 40 then (towncrierlaw21_AuditLines.j0 k l0 a1 a2 t132 true) else (if a2 < 0 then (towncrierlaw21_AuditLines.j0 k l0 a1 a2 t132 true) else (if a2 > (l0.length : Int) then (towncrierlaw21_AuditLines.j0 k l0 a1 a2 t132 true) else (if a1 < 0 then (towncrierlaw21_AuditLines.j0 k l0 a1 a2 t132 true) else (towncrierlaw21_AuditLines.j0 k l0 a1 a2 t132 (decide (a1 > 1099511627776))))))) else (towncrierlaw21_AuditLines.j0 k l0 a1 a2 t132 true))
theorem towncrierlaw21_AuditLines.mono_l : ∀ k, (∀ y0 y1 y2 y3 y4, LeO (towncrierlaw21_AuditLines.j0 k y0 y1 y2 y3 y4) (towncrierlaw21_AuditLines.j0 (k + 1) y0 y1 y2 y3 y4)) ∧ (∀ y0 y1 y2 y3, LeO (towncrierlaw21_AuditLines.l0 k y0 y1 y2 y3) (towncrierlaw21_AuditLines.l0 (k + 1) y0 y1 y2 y3))
  | 0 => ⟨fun _ _ _ _ _ r h => by simp [towncrierlaw21_AuditLines.j0] at h, fun _ _ _ _ r h => by simp [towncrierlaw21_AuditLines.l0] at h⟩
  | k + 1 => by
    obtain ⟨ih0, ih1⟩ := towncrierlaw21_AuditLines.mono_l k
    refine ⟨?_, ?_⟩
    · intro y0 y1 y2 y3 y4
      unfold towncrierlaw21_AuditLines.j0
      repeat' first
      | (with_reducible exact ih0 _ _ _ _ _)
      | (with_reducible exact ih1 _ _ _ _)
      | (with_reducible exact towncrierlaw21_awake.mono _)
      | (with_reducible exact LeO.refl _)
      | (with_reducible exact LeO.none _)
      | (with_reducible refine LeO.ite ?_ ?_)
      | (with_reducible refine LeO.bind ?_ (fun _ => ?_))
      | exact ih0 _ _ _ _ _
      | exact ih1 _ _ _ _
      | exact towncrierlaw21_awake.mono _
      | exact LeO.none _
      | refine LeO.ite ?_ ?_
      | refine LeO.bind ?_ (fun _ => ?_)
    · intro y0 y1 y2 y3
      unfold towncrierlaw21_AuditLines.l0
      repeat' first
      | (with_reducible exact ih0 _ _ _ _ _)
      | (with_reducible exact ih1 _ _ _ _)
      | (with_reducible exact towncrierlaw21_awake.mono _)
      | (with_reducible exact LeO.refl _)
      | (with_reducible exact LeO.none _)
      | (with_reducible refine LeO.ite ?_ ?_)
      | (with_reducible refine LeO.bind ?_ (fun _ => ?_))
      | exact ih0 _ _ _ _ _
      | exact ih1 _ _ _ _
      | exact towncrierlaw21_awake.mono _
      | exact LeO.none _
      | refine LeO.ite ?_ ?_
      | refine LeO.bind ?_ (fun _ => ?_)
theorem towncrierlaw21_AuditLines.mono : ∀ a0 a1 a2 k, LeO (towncrierlaw21_AuditLines.f k a0 a1 a2) (towncrierlaw21_AuditLines.f (k + 1) a0 a1 a2) := by
  intro a0 a1 a2 k
  obtain ⟨ih0, ih1⟩ := towncrierlaw21_AuditLines.mono_l k
  unfold towncrierlaw21_AuditLines.f
  repeat' first
      | (with_reducible exact ih0 _ _ _ _ _)
      | (with_reducible exact ih1 _ _ _ _)
      | (with_reducible exact towncrierlaw21_awake.mono _)
      | (with_reducible exact LeO.refl _)
      | (with_reducible exact LeO.none _)
      | (with_reducible refine LeO.ite ?_ ?_)
      | (with_reducible refine LeO.bind ?_ (fun _ => ?_))
      | exact ih0 _ _ _ _ _
      | exact ih1 _ _ _ _
      | exact towncrierlaw21_awake.mono _
      | exact LeO.none _
      | refine LeO.ite ?_ ?_
      | refine LeO.bind ?_ (fun _ => ?_)
set_option maxHeartbeats 8000000 in
set_option maxRecDepth 100000 in
theorem towncrierlaw21_AuditLines.calls (k : Nat) (A0 : Option Addr) (c0 : Nat) (l0 : List (SNote)) (a1 : Int) (a2 : Int) (r : Bool) (w : World) (hr0 : Kd.C kNote w A0 l0.length l0) (hc0 : l0.length ≤ c0) (h : towncrierlaw21_AuditLines.f k l0 a1 a2 = some r) :
    Calls Try.prog 3 #[.slice A0 l0.length c0, .int .i64 a1, .int .i64 a2] w fun e w' => e = .returned (.bool r) ∧ Below w.heap.size w w' := by
  have HR0 := Aside0.mk hr0
  have HC0 := Aside0.mk hc0
  clear hr0 hc0
  have HB := Aside0.mk (Below.refl w.heap.size w)
  have H : ((towncrierlaw21_awake.f k).bind fun t132 => (if t132 = true then (if (l0.length : Int) > 40 then (towncrierlaw21_AuditLines.j0 k l0 a1 a2 t132 true) else (if a2 < 0 then (towncrierlaw21_AuditLines.j0 k l0 a1 a2 t132 true) else (if a2 > (l0.length : Int) then (towncrierlaw21_AuditLines.j0 k l0 a1 a2 t132 true) else (if a1 < 0 then (towncrierlaw21_AuditLines.j0 k l0 a1 a2 t132 true) else (towncrierlaw21_AuditLines.j0 k l0 a1 a2 t132 (decide (a1 > 1099511627776))))))) else (towncrierlaw21_AuditLines.j0 k l0 a1 a2 t132 true))) = some r := h
  clear h
  replace H := Option.bind_eq_some_iff.mp H
  obtain ⟨t132, A40, H⟩ := H
  replace H : (if t132 = true then (if (l0.length : Int) > 40 then (towncrierlaw21_AuditLines.j0 k l0 a1 a2 t132 true) else (if a2 < 0 then (towncrierlaw21_AuditLines.j0 k l0 a1 a2 t132 true) else (if a2 > (l0.length : Int) then (towncrierlaw21_AuditLines.j0 k l0 a1 a2 t132 true) else (if a1 < 0 then (towncrierlaw21_AuditLines.j0 k l0 a1 a2 t132 true) else (towncrierlaw21_AuditLines.j0 k l0 a1 a2 t132 (decide (a1 > 1099511627776))))))) else (towncrierlaw21_AuditLines.j0 k l0 a1 a2 t132 true)) = some r := H
  have A4 := Aside0.mk A40
  clear A40
  have HC5 := Aside0.mk H
  clear H
  go_enter Try.func3, Try.ntmps3
  go_upto_region 2 with (first | ((with_reducible refine gate_callee (f := 10) rfl ?_); refine goesL_ (some 11) rfl rfl Try.func10 (by kernel_rfl) rfl #[] rfl (by (try simp only [List.map_toArray, List.map_cons, List.map_nil]); first | done | rfl | (simp only [List.length_drop, List.length_take]; rfl)) ?_; (with_reducible refine (towncrierlaw21_awake.calls k  t132 _ A4.out).mono ?_); rintro e w6 ⟨rfl, hb⟩; refine ⟨_, rfl, ?_⟩; have n0_ := Aside0.mk (below_step (by repeat (first | (with_reducible first | exact HB.out | apply below_alloc | apply pw_below_drewN | apply below_drew1) | exact HB.out)) hb); clear HB; have HB := n0_; clear n0_; (try clear hb); (try clear hb2); (try clear hk); (try clear hi)))
  (try simp only [Act.put, List.setIfInBounds_toArray, List.set_cons_zero, List.set_cons_succ])
  go_cut [36] (fun v36 wc => ∃ (kq : Nat) (x36_4 : Bool), v36 = .bool x36_4 ∧ Aside0 (towncrierlaw21_AuditLines.j0 kq l0 a1 a2 t132 x36_4 = some r) ∧ Aside0 (kq ≤ k) ∧ Aside0 (Below w.heap.size w wc))
  case first =>
    have H := HC5.out
    clear HC5
    by_cases c7 : t132 = true
    · subst c7
      have H1 : (if (l0.length : Int) > 40 then (towncrierlaw21_AuditLines.j0 k l0 a1 a2 true true) else (if a2 < 0 then (towncrierlaw21_AuditLines.j0 k l0 a1 a2 true true) else (if a2 > (l0.length : Int) then (towncrierlaw21_AuditLines.j0 k l0 a1 a2 true true) else (if a1 < 0 then (towncrierlaw21_AuditLines.j0 k l0 a1 a2 true true) else (towncrierlaw21_AuditLines.j0 k l0 a1 a2 true (decide (a1 > 1099511627776))))))) = some r := by rw [if_pos rfl] at H; exact H
      clear H
      have H := H1
      clear H1
      by_cases c8 : (l0.length : Int) > 40
      · rw [if_pos c8] at H
        have c8b0 : decide (40 < (l0.length : Int)) = true := decide_eq_true c8
        have c8b1 : decide (40 < l0.length) = true := decide_eq_true (by omega)
        clear c8
        (first | rw [c8b0] | (simp only [i64_w, i32_w]; rw [c8b0]) | skip)
        have H' := Aside0.mk H
        clear H
        go_wp2
        go_meet
        case rel => exact ⟨_, (true), (by first | rfl | (simp; done) | (simp [*]; done)), H', ⟨by first | omega | exact Nat.le_refl _⟩, ⟨by repeat (first | (with_reducible first | exact HB.out | apply below_alloc | apply pw_below_drewN | apply below_drew1) | exact HB.out)⟩⟩
      · rw [if_neg c8] at H
        have c8b0 : decide (40 < (l0.length : Int)) = false := decide_eq_false c8
        have c8b1 : decide (40 < l0.length) = false := decide_eq_false (by omega)
        clear c8
        (first | rw [c8b0] | (simp only [i64_w, i32_w]; rw [c8b0]) | skip)
        by_cases c9 : a2 < 0
        · rw [if_pos c9] at H
          have c9b0 : decide (a2 < 0) = true := decide_eq_true c9
          clear c9
          have H' := Aside0.mk H
          clear H
          go_wp2
          go_meet
          case rel => exact ⟨_, (true), (by first | rfl | (simp; done) | (simp [*]; done)), H', ⟨by first | omega | exact Nat.le_refl _⟩, ⟨by repeat (first | (with_reducible first | exact HB.out | apply below_alloc | apply pw_below_drewN | apply below_drew1) | exact HB.out)⟩⟩
        · rw [if_neg c9] at H
          have c9b0 : decide (a2 < 0) = false := decide_eq_false c9
          clear c9
          by_cases c10 : a2 > (l0.length : Int)
          · rw [if_pos c10] at H
            have c10b0 : decide ((l0.length : Int) < a2) = true := decide_eq_true c10
            clear c10
            have H' := Aside0.mk H
            clear H
            go_wp2
            go_meet
            case rel => exact ⟨_, (true), (by first | rfl | (simp; done) | (simp [*]; done)), H', ⟨by first | omega | exact Nat.le_refl _⟩, ⟨by repeat (first | (with_reducible first | exact HB.out | apply below_alloc | apply pw_below_drewN | apply below_drew1) | exact HB.out)⟩⟩
          · rw [if_neg c10] at H
            have c10b0 : decide ((l0.length : Int) < a2) = false := decide_eq_false c10
            clear c10
            by_cases c11 : a1 < 0
            · rw [if_pos c11] at H
              have c11b0 : decide (a1 < 0) = true := decide_eq_true c11
              clear c11
              have H' := Aside0.mk H
              clear H
              go_wp2
              go_meet
              case rel => exact ⟨_, (true), (by first | rfl | (simp; done) | (simp [*]; done)), H', ⟨by first | omega | exact Nat.le_refl _⟩, ⟨by repeat (first | (with_reducible first | exact HB.out | apply below_alloc | apply pw_below_drewN | apply below_drew1) | exact HB.out)⟩⟩
            · rw [if_neg c11] at H
              have c11b0 : decide (a1 < 0) = false := decide_eq_false c11
              clear c11
              have H' := Aside0.mk H
              clear H
              go_wp2
              go_meet
              case rel => exact ⟨_, (decide (a1 > 1099511627776)), (by first | rfl | (simp; done) | (simp [*]; done)), H', ⟨by first | omega | exact Nat.le_refl _⟩, ⟨by repeat (first | (with_reducible first | exact HB.out | apply below_alloc | apply pw_below_drewN | apply below_drew1) | exact HB.out)⟩⟩
    · replace c7 := Bool.eq_false_iff.mpr c7
      subst c7
      have H1 : (towncrierlaw21_AuditLines.j0 k l0 a1 a2 false true) = some r := by rw [if_neg (show ¬ (false = true) by decide)] at H; exact H
      clear H
      have H := H1
      clear H1
      have H' := Aside0.mk H
      clear H
      go_wp2
      go_meet
      case rel => exact ⟨_, (true), (by first | rfl | (simp; done) | (simp [*]; done)), H', ⟨by first | omega | exact Nat.le_refl _⟩, ⟨by repeat (first | (with_reducible first | exact HB.out | apply below_alloc | apply pw_below_drewN | apply below_drew1) | exact HB.out)⟩⟩
  case rest =>
    clear HC5
    try clear c1
    try clear p2
    try clear c3
    try clear c7
    try clear c8
    try clear c8b0
    try clear c8b1
    try clear c9
    try clear c9b0
    try clear c10
    try clear c10b0
    try clear c11
    try clear c11b0
    obtain ⟨kq, x36_4, rfl, HA, HJ4, HB⟩ := hcut
    cases kq with
    | zero => exact absurd HA.out (by simp [towncrierlaw21_AuditLines.j0])
    | succ kj4 =>
      have H := HA.out
      clear HA
      simp only [towncrierlaw21_AuditLines.j0] at H
      by_cases c12 : x36_4 = true
      · subst c12
        have H1 : (some t132) = some r := by rw [if_pos rfl] at H; exact H
        clear H
        have H := H1
        clear H1
        obtain rfl := Option.some.inj H
        go_wp2
        go_ret
        exact ⟨by first | rfl | (simp [errW_none, errW_some] <;> rfl) | (simp [*, errW_none, errW_some] <;> rfl), by repeat (first | (with_reducible first | exact HB.out | apply below_alloc | apply pw_below_drewN | apply below_drew1) | exact HB.out)⟩
      · replace c12 := Bool.eq_false_iff.mpr c12
        subst c12
        have H1 : (towncrierlaw21_AuditLines.l0 kj4 l0 a1 a2 0) = some r := by rw [if_neg (show ¬ (false = true) by decide)] at H; exact H
        clear H
        have H := H1
        clear H1
        have H' := Aside0.mk H
        clear H
        go_wp2
        go_loopg [8] kj4 (fun kq v8 w' => ∃ (x8_2 : Int), v8 = .int .i64 x8_2 ∧ Aside0 (towncrierlaw21_AuditLines.l0 kq l0 a1 a2 x8_2 = some r) ∧ Aside0 (kq ≤ kj4) ∧ Aside0 (Below w.heap.size w w'))
        case atStart => exact ⟨(0), (by first | rfl | (simp; done) | (simp [*]; done)), H', ⟨Nat.le_refl _⟩, ⟨by repeat (first | (with_reducible first | exact HB.out | apply below_alloc | apply pw_below_drewN | apply below_drew1) | exact HB.out)⟩⟩
        case round =>
          clear H'
          try clear c1
          try clear p2
          try clear c3
          try clear c7
          try clear c8
          try clear c8b0
          try clear c8b1
          try clear c9
          try clear c9b0
          try clear c10
          try clear c10b0
          try clear c11
          try clear c11b0
          try clear c12
          try clear p2
          obtain ⟨x8_2, rfl, HA, HK2, HB⟩ := hrel
          cases gk with
          | zero => exact absurd HA.out (by simp [towncrierlaw21_AuditLines.l0])
          | succ k2 =>
            have H := HA.out
            clear HA
            simp only [towncrierlaw21_AuditLines.l0] at H
            by_cases c13 : x8_2 < a2
            · rw [if_pos c13] at H
              have c13b0 : decide (x8_2 < a2) = true := decide_eq_true c13
              clear c13
              by_cases c14 : 0 ≤ x8_2
              · rw [if_pos c14] at H
                have c14b0 : decide (0 ≤ x8_2) = true := decide_eq_true c14
                clear c14
                by_cases c15 : x8_2 < (l0.length : Int)
                · rw [if_pos c15] at H
                  have c15b0 : decide (x8_2 < (l0.length : Int)) = true := decide_eq_true c15
                  clear c15
                  by_cases c16 : ((rd_TNote l0 x8_2).f2) = 0
                  · rw [if_pos c16] at H
                    have c16b0 : (((rd_TNote l0 x8_2).f2) == 0) = true := beq_iff_eq.mpr c16
                    have c16b1 : (((rd_TNote l0 x8_2).f2) != 0) = false := bne_eq_false_iff_eq.mpr c16
                    clear c16
                    have H' := Aside0.mk H
                    clear H
                    have p133 : 0 ≤ (x8_2 : Int) := of_decide_eq_true (by first | (with_reducible assumption) | assumption)
                    have q133 : x8_2 < (l0.length : Int) := of_decide_eq_true (by first | (with_reducible assumption) | assumption)
                    obtain ⟨ad133, e133, hx133_0, hx133_1, hx133_2, hx133_3, hx133_4, hx133_5, hx133_6⟩ := at_TNote HR0.out x8_2 p133 q133
                    cases e133
                    replace hx133_0 := (HB.out.cell (World.block_lt_of_cell? w _ hx133_0)).trans hx133_0
                    replace hx133_1 := (HB.out.cell (World.block_lt_of_cell? w _ hx133_1)).trans hx133_1
                    replace hx133_2 := (HB.out.cell (World.block_lt_of_cell? w _ hx133_2)).trans hx133_2
                    replace hx133_3 := (HB.out.cell (World.block_lt_of_cell? w _ hx133_3)).trans hx133_3
                    replace hx133_4 := (HB.out.cell (World.block_lt_of_cell? w _ hx133_4)).trans hx133_4
                    replace hx133_5 := (HB.out.cell (World.block_lt_of_cell? w _ hx133_5)).trans hx133_5
                    replace hx133_6 := (HB.out.cell (World.block_lt_of_cell? w _ hx133_6)).trans hx133_6
                    replace p133 := eq_true p133
                    replace q133 := eq_true q133
                    go_wp2
                    go_roundg k2
                    case measure => have := HJ4.out; have := HK2.out; omega
                    case rel => exact ⟨(wrap64 (x8_2 + 1)), (by first | rfl | (simp; done) | (simp [*]; done)), H', ⟨by have := HJ4.out; have := HK2.out; omega⟩, ⟨by repeat (first | (with_reducible first | exact HB.out | apply below_alloc | apply pw_below_drewN | apply below_drew1) | exact HB.out)⟩⟩
                  · rw [if_neg c16] at H
                    have c16b0 : (((rd_TNote l0 x8_2).f2) == 0) = false := beq_eq_false_iff_ne.mpr c16
                    have c16b1 : (((rd_TNote l0 x8_2).f2) != 0) = true := bne_iff_ne.mpr c16
                    obtain rfl := Option.some.inj H
                    have p133 : 0 ≤ (x8_2 : Int) := of_decide_eq_true (by first | (with_reducible assumption) | assumption)
                    have q133 : x8_2 < (l0.length : Int) := of_decide_eq_true (by first | (with_reducible assumption) | assumption)
                    obtain ⟨ad133, e133, hx133_0, hx133_1, hx133_2, hx133_3, hx133_4, hx133_5, hx133_6⟩ := at_TNote HR0.out x8_2 p133 q133
                    cases e133
                    replace hx133_0 := (HB.out.cell (World.block_lt_of_cell? w _ hx133_0)).trans hx133_0
                    replace hx133_1 := (HB.out.cell (World.block_lt_of_cell? w _ hx133_1)).trans hx133_1
                    replace hx133_2 := (HB.out.cell (World.block_lt_of_cell? w _ hx133_2)).trans hx133_2
                    replace hx133_3 := (HB.out.cell (World.block_lt_of_cell? w _ hx133_3)).trans hx133_3
                    replace hx133_4 := (HB.out.cell (World.block_lt_of_cell? w _ hx133_4)).trans hx133_4
                    replace hx133_5 := (HB.out.cell (World.block_lt_of_cell? w _ hx133_5)).trans hx133_5
                    replace hx133_6 := (HB.out.cell (World.block_lt_of_cell? w _ hx133_6)).trans hx133_6
                    replace p133 := eq_true p133
                    replace q133 := eq_true q133
                    go_wp2
                    go_ret
                    exact ⟨by first | rfl | (simp [errW_none, errW_some] <;> rfl) | (simp [*, errW_none, errW_some] <;> rfl), by repeat (first | (with_reducible first | exact HB.out | apply below_alloc | apply pw_below_drewN | apply below_drew1) | exact HB.out)⟩
                · rw [if_neg c15] at H
                  exact absurd H (by simp)
              · rw [if_neg c14] at H
                exact absurd H (by simp)
            · rw [if_neg c13] at H
              have c13b0 : decide (x8_2 < a2) = false := decide_eq_false c13
              clear c13
              by_cases c17 : 0 ≤ a2
              · rw [if_pos c17] at H
                have c17b0 := eq_true c17
                have c17b1 : decide (0 ≤ a2) = true := decide_eq_true c17
                clear c17
                by_cases c18 : a2 ≤ (l0.length : Int)
                · rw [if_pos c18] at H
                  have c18b0 := eq_true c18
                  have c18b1 : decide (a2 ≤ (l0.length : Int)) = true := decide_eq_true c18
                  clear c18
                  obtain ⟨y134, hy134⟩ : ∃ y_ : List (SNote), y_ = (l0.take (a2 : Int).toNat) := ⟨_, rfl⟩
                  replace H : ((audit_Line.f y134 a1).bind fun t138 => ((audit_Line.f (l0.drop (a2 : Int).toNat) (wrap64 (a1 + a2))).bind fun t143 => ((audit_Line.f l0 a1).bind fun t144 => (if t138 = true then (some (t144 == t143)) else (some (t144 == false)))))) = some r := by first | (rw [hy134]; with_reducible exact H) | (have H2_ := (Option.bind_some _ _).symm.trans H; rw [hy134]; with_reducible exact H2_) | (have H2_ := (Option.bind_some _ _).symm.trans H; with_reducible exact H2_) | with_reducible exact H | (rw [hy134]; exact H) | exact H
                  have Ny134 := Aside0.mk hy134
                  clear hy134
                  replace H := Option.bind_eq_some_iff.mp H
                  obtain ⟨t138, A190, H⟩ := H
                  replace H : ((audit_Line.f (l0.drop (a2 : Int).toNat) (wrap64 (a1 + a2))).bind fun t143 => ((audit_Line.f l0 a1).bind fun t144 => (if t138 = true then (some (t144 == t143)) else (some (t144 == false))))) = some r := H
                  have A19 := Aside0.mk A190
                  clear A190
                  have c20b0 := eq_true (of_decide_eq_true (by first | (with_reducible assumption) | assumption) : 0 ≤ a2)
                  have c21b0 := eq_true (of_decide_eq_true (by first | (with_reducible assumption) | assumption) : a2 ≤ (l0.length : Int))
                  obtain ⟨y139, hy139⟩ : ∃ y_ : List (SNote), y_ = (l0.drop (a2 : Int).toNat) := ⟨_, rfl⟩
                  replace H : ((audit_Line.f y139 (wrap64 (a1 + a2))).bind fun t143 => ((audit_Line.f l0 a1).bind fun t144 => (if t138 = true then (some (t144 == t143)) else (some (t144 == false))))) = some r := by first | (rw [hy139]; with_reducible exact H) | (have H2_ := (Option.bind_some _ _).symm.trans H; rw [hy139]; with_reducible exact H2_) | (have H2_ := (Option.bind_some _ _).symm.trans H; with_reducible exact H2_) | with_reducible exact H | (rw [hy139]; exact H) | exact H
                  have Ny139 := Aside0.mk hy139
                  clear hy139
                  replace H := Option.bind_eq_some_iff.mp H
                  obtain ⟨t143, A220, H⟩ := H
                  replace H : ((audit_Line.f l0 a1).bind fun t144 => (if t138 = true then (some (t144 == t143)) else (some (t144 == false)))) = some r := H
                  have A22 := Aside0.mk A220
                  clear A220
                  replace H := Option.bind_eq_some_iff.mp H
                  obtain ⟨t144, A230, H⟩ := H
                  replace H : (if t138 = true then (some (t144 == t143)) else (some (t144 == false))) = some r := H
                  have A23 := Aside0.mk A230
                  clear A230
                  by_cases c24 : t138 = true
                  · subst c24
                    have H1 : (some (t144 == t143)) = some r := by rw [if_pos rfl] at H; exact H
                    clear H
                    have H := H1
                    clear H1
                    obtain rfl := Option.some.inj H
                    have q25 : (a2 : Int) ≤ ((l0.length : Int) : Int) := of_decide_eq_true (by first | (with_reducible assumption) | assumption)
                    obtain ⟨i025, hi025, _, hsz25, _⟩ := info_parts infoNote
                    have hroom25 : l0.length ≤ c0 := HC0.out
                    have hC25 : Kd.C kNote _ A0 l0.length l0 := HR0.out
                    have hcut25 := cut_to (P := Try.prog) 22 27 .i64 Try.underlying22 hi025 A0 l0.length c0 a2 (of_decide_eq_true (by first | (with_reducible assumption) | assumption)) q25 hroom25
                    have hr25 := Kd.C_take (m := (a2 : Int).toNat) hC25 (by omega)
                    have hy25 : y134.length = (a2 : Int).toNat := (by rw [Ny134.out, List.length_take]; omega)
                    rw [← Ny134.out] at hr25
                    rw [← hy25] at hcut25
                    have HR137 := Aside0.mk hr25
                    have HC137 := Aside0.mk (show y134.length ≤ c0 from by omega)
                    clear hr25 hC25 hroom25 hi025 hsz25
                    have KY25 := Aside0.mk hy25
                    clear hy25
                    replace q25 := eq_true q25
                    go_wp2_with (first | ((with_reducible refine gate_callee (f := 11) rfl ?_); refine goesL_ (some 53) rfl rfl Try.func11 (by kernel_rfl) rfl #[.slice A0 y134.length c0, .int .i64 a1] rfl (by (try simp only [List.map_toArray, List.map_cons, List.map_nil]); first | done | rfl | (simp only [List.length_drop, List.length_take]; rfl)) ?_; (with_reducible refine (audit_Line.calls _ _ y134 a1 true _ ?side1 ?side2 A19.out).mono ?_); (case side1 => repeat (first | exact (Kd.C_below HR137.out HB.out) | (with_reducible refine Kd.C_alloc ?_ _) | (with_reducible refine Kd.C_drewN ?_ _) | (with_reducible refine Kd.C_drew ?_))); (case side2 => exact HC137.out); rintro e w26 ⟨rfl, hb⟩; refine ⟨_, rfl, ?_⟩; have n0_ := Aside0.mk (below_step (by repeat (first | (with_reducible first | exact HB.out | apply below_alloc | apply pw_below_drewN | apply below_drew1) | exact HB.out)) hb); clear HB; have HB := n0_; clear n0_; (try clear hb); (try clear hb2); (try clear hk); (try clear hi); have q27 : (a2 : Int) ≤ ((l0.length : Int) : Int) := of_decide_eq_true (by first | (with_reducible assumption) | assumption); obtain ⟨i027, hi027, _, hsz27, _⟩ := info_parts infoNote; have hroom27 : l0.length ≤ c0 := HC0.out; have hC27 : Kd.C kNote _ A0 l0.length l0 := HR0.out; have q027 : (0 : Int) ≤ (a2 : Int) := of_decide_eq_true (by first | (with_reducible assumption) | assumption); have hcut27 := cut_from (P := Try.prog) 22 27 .i64 Try.underlying22 hi027 7 hsz27 A0 l0.length c0 a2 q027 q27; have hr27 := Kd.C_drop (m := (a2 : Int).toNat) (c := c0) hC27 (by omega) hroom27; obtain ⟨A27, hA27⟩ : ∃ A1z_, A1z_ = (if c0 = (a2 : Int).toNat then A0 else (A0 : Option Addr).map (·.add ((a2 : Int).toNat * 7))) := ⟨_, rfl⟩; obtain ⟨c27, hc27⟩ : ∃ c1z_, c1z_ = c0 - (a2 : Int).toNat := ⟨_, rfl⟩; have hy27 : y139.length = l0.length - (a2 : Int).toNat := (by rw [Ny139.out, List.length_drop] <;> omega); rw [show (l0).drop (a2 : Int).toNat = y139 from Ny139.out.symm] at hr27; replace hr27 : Kd.C kNote _ A27 y139.length y139 := (by rw [hA27]; exact hr27); rw [← hy27, ← hA27, ← hc27] at hcut27; have HR142 := Aside0.mk hr27; have HC142 := Aside0.mk (show y139.length ≤ c27 from by rw [hy27, hc27]; exact Nat.sub_le_sub_right hroom27 _); clear hr27 hC27 hroom27 hi027 hsz27 hc27; have KY27 := Aside0.mk hy27; have KA27 := Aside0.mk hA27; clear hy27 hA27; replace q27 := eq_true q27) | ((with_reducible refine gate_callee (f := 11) rfl ?_); refine goesL_ (some 60) rfl rfl Try.func11 (by kernel_rfl) rfl #[.slice A27 y139.length c27, .int .i64 (wrap64 (a1 + a2))] rfl (by (try simp only [List.map_toArray, List.map_cons, List.map_nil]); first | done | rfl | (simp only [List.length_drop, List.length_take]; rfl)) ?_; (with_reducible refine (audit_Line.calls _ _ y139 (wrap64 (a1 + a2)) t143 _ ?side1 ?side2 A22.out).mono ?_); (case side1 => repeat (first | exact (Kd.C_below HR142.out HB.out) | (with_reducible refine Kd.C_alloc ?_ _) | (with_reducible refine Kd.C_drewN ?_ _) | (with_reducible refine Kd.C_drew ?_))); (case side2 => exact HC142.out); rintro e w28 ⟨rfl, hb⟩; refine ⟨_, rfl, ?_⟩; have n0_ := Aside0.mk (below_step (by repeat (first | (with_reducible first | exact HB.out | apply below_alloc | apply pw_below_drewN | apply below_drew1) | exact HB.out)) hb); clear HB; have HB := n0_; clear n0_; (try clear hb); (try clear hb2); (try clear hk); (try clear hi)) | ((with_reducible refine gate_callee (f := 11) rfl ?_); refine goesL_ (some 63) rfl rfl Try.func11 (by kernel_rfl) rfl #[.slice A0 l0.length c0, .int .i64 a1] rfl (by (try simp only [List.map_toArray, List.map_cons, List.map_nil]); first | done | rfl | (simp only [List.length_drop, List.length_take]; rfl)) ?_; (with_reducible refine (audit_Line.calls _ _ l0 a1 t144 _ ?side1 ?side2 A23.out).mono ?_); (case side1 => repeat (first | exact (Kd.C_below HR0.out HB.out) | (with_reducible refine Kd.C_alloc ?_ _) | (with_reducible refine Kd.C_drewN ?_ _) | (with_reducible refine Kd.C_drew ?_))); (case side2 => exact HC0.out); rintro e w29 ⟨rfl, hb⟩; refine ⟨_, rfl, ?_⟩; have n0_ := Aside0.mk (below_step (by repeat (first | (with_reducible first | exact HB.out | apply below_alloc | apply pw_below_drewN | apply below_drew1) | exact HB.out)) hb); clear HB; have HB := n0_; clear n0_; (try clear hb); (try clear hb2); (try clear hk); (try clear hi)))
                    go_ret
                    exact ⟨by first | rfl | (simp [errW_none, errW_some] <;> rfl) | (simp [*, errW_none, errW_some] <;> rfl), by repeat (first | (with_reducible first | exact HB.out | apply below_alloc | apply pw_below_drewN | apply below_drew1) | exact HB.out)⟩
                  · replace c24 := Bool.eq_false_iff.mpr c24
                    subst c24
                    have H1 : (some (t144 == false)) = some r := by rw [if_neg (show ¬ (false = true) by decide)] at H; exact H
                    clear H
                    have H := H1
                    clear H1
                    obtain rfl := Option.some.inj H
                    have q30 : (a2 : Int) ≤ ((l0.length : Int) : Int) := of_decide_eq_true (by first | (with_reducible assumption) | assumption)
                    obtain ⟨i030, hi030, _, hsz30, _⟩ := info_parts infoNote
                    have hroom30 : l0.length ≤ c0 := HC0.out
                    have hC30 : Kd.C kNote _ A0 l0.length l0 := HR0.out
                    have hcut30 := cut_to (P := Try.prog) 22 27 .i64 Try.underlying22 hi030 A0 l0.length c0 a2 (of_decide_eq_true (by first | (with_reducible assumption) | assumption)) q30 hroom30
                    have hr30 := Kd.C_take (m := (a2 : Int).toNat) hC30 (by omega)
                    have hy30 : y134.length = (a2 : Int).toNat := (by rw [Ny134.out, List.length_take]; omega)
                    rw [← Ny134.out] at hr30
                    rw [← hy30] at hcut30
                    have HR137 := Aside0.mk hr30
                    have HC137 := Aside0.mk (show y134.length ≤ c0 from by omega)
                    clear hr30 hC30 hroom30 hi030 hsz30
                    have KY30 := Aside0.mk hy30
                    clear hy30
                    replace q30 := eq_true q30
                    go_wp2_with (first | ((with_reducible refine gate_callee (f := 11) rfl ?_); refine goesL_ (some 53) rfl rfl Try.func11 (by kernel_rfl) rfl #[.slice A0 y134.length c0, .int .i64 a1] rfl (by (try simp only [List.map_toArray, List.map_cons, List.map_nil]); first | done | rfl | (simp only [List.length_drop, List.length_take]; rfl)) ?_; (with_reducible refine (audit_Line.calls _ _ y134 a1 false _ ?side1 ?side2 A19.out).mono ?_); (case side1 => repeat (first | exact (Kd.C_below HR137.out HB.out) | (with_reducible refine Kd.C_alloc ?_ _) | (with_reducible refine Kd.C_drewN ?_ _) | (with_reducible refine Kd.C_drew ?_))); (case side2 => exact HC137.out); rintro e w31 ⟨rfl, hb⟩; refine ⟨_, rfl, ?_⟩; have n0_ := Aside0.mk (below_step (by repeat (first | (with_reducible first | exact HB.out | apply below_alloc | apply pw_below_drewN | apply below_drew1) | exact HB.out)) hb); clear HB; have HB := n0_; clear n0_; (try clear hb); (try clear hb2); (try clear hk); (try clear hi); have q32 : (a2 : Int) ≤ ((l0.length : Int) : Int) := of_decide_eq_true (by first | (with_reducible assumption) | assumption); obtain ⟨i032, hi032, _, hsz32, _⟩ := info_parts infoNote; have hroom32 : l0.length ≤ c0 := HC0.out; have hC32 : Kd.C kNote _ A0 l0.length l0 := HR0.out; have q032 : (0 : Int) ≤ (a2 : Int) := of_decide_eq_true (by first | (with_reducible assumption) | assumption); have hcut32 := cut_from (P := Try.prog) 22 27 .i64 Try.underlying22 hi032 7 hsz32 A0 l0.length c0 a2 q032 q32; have hr32 := Kd.C_drop (m := (a2 : Int).toNat) (c := c0) hC32 (by omega) hroom32; obtain ⟨A32, hA32⟩ : ∃ A1z_, A1z_ = (if c0 = (a2 : Int).toNat then A0 else (A0 : Option Addr).map (·.add ((a2 : Int).toNat * 7))) := ⟨_, rfl⟩; obtain ⟨c32, hc32⟩ : ∃ c1z_, c1z_ = c0 - (a2 : Int).toNat := ⟨_, rfl⟩; have hy32 : y139.length = l0.length - (a2 : Int).toNat := (by rw [Ny139.out, List.length_drop] <;> omega); rw [show (l0).drop (a2 : Int).toNat = y139 from Ny139.out.symm] at hr32; replace hr32 : Kd.C kNote _ A32 y139.length y139 := (by rw [hA32]; exact hr32); rw [← hy32, ← hA32, ← hc32] at hcut32; have HR142 := Aside0.mk hr32; have HC142 := Aside0.mk (show y139.length ≤ c32 from by rw [hy32, hc32]; exact Nat.sub_le_sub_right hroom32 _); clear hr32 hC32 hroom32 hi032 hsz32 hc32; have KY32 := Aside0.mk hy32; have KA32 := Aside0.mk hA32; clear hy32 hA32; replace q32 := eq_true q32) | ((with_reducible refine gate_callee (f := 11) rfl ?_); refine goesL_ (some 60) rfl rfl Try.func11 (by kernel_rfl) rfl #[.slice A32 y139.length c32, .int .i64 (wrap64 (a1 + a2))] rfl (by (try simp only [List.map_toArray, List.map_cons, List.map_nil]); first | done | rfl | (simp only [List.length_drop, List.length_take]; rfl)) ?_; (with_reducible refine (audit_Line.calls _ _ y139 (wrap64 (a1 + a2)) t143 _ ?side1 ?side2 A22.out).mono ?_); (case side1 => repeat (first | exact (Kd.C_below HR142.out HB.out) | (with_reducible refine Kd.C_alloc ?_ _) | (with_reducible refine Kd.C_drewN ?_ _) | (with_reducible refine Kd.C_drew ?_))); (case side2 => exact HC142.out); rintro e w33 ⟨rfl, hb⟩; refine ⟨_, rfl, ?_⟩; have n0_ := Aside0.mk (below_step (by repeat (first | (with_reducible first | exact HB.out | apply below_alloc | apply pw_below_drewN | apply below_drew1) | exact HB.out)) hb); clear HB; have HB := n0_; clear n0_; (try clear hb); (try clear hb2); (try clear hk); (try clear hi)) | ((with_reducible refine gate_callee (f := 11) rfl ?_); refine goesL_ (some 63) rfl rfl Try.func11 (by kernel_rfl) rfl #[.slice A0 l0.length c0, .int .i64 a1] rfl (by (try simp only [List.map_toArray, List.map_cons, List.map_nil]); first | done | rfl | (simp only [List.length_drop, List.length_take]; rfl)) ?_; (with_reducible refine (audit_Line.calls _ _ l0 a1 t144 _ ?side1 ?side2 A23.out).mono ?_); (case side1 => repeat (first | exact (Kd.C_below HR0.out HB.out) | (with_reducible refine Kd.C_alloc ?_ _) | (with_reducible refine Kd.C_drewN ?_ _) | (with_reducible refine Kd.C_drew ?_))); (case side2 => exact HC0.out); rintro e w34 ⟨rfl, hb⟩; refine ⟨_, rfl, ?_⟩; have n0_ := Aside0.mk (below_step (by repeat (first | (with_reducible first | exact HB.out | apply below_alloc | apply pw_below_drewN | apply below_drew1) | exact HB.out)) hb); clear HB; have HB := n0_; clear n0_; (try clear hb); (try clear hb2); (try clear hk); (try clear hi)))
                    go_ret
                    exact ⟨by first | rfl | (simp [errW_none, errW_some] <;> rfl) | (simp [*, errW_none, errW_some] <;> rfl), by repeat (first | (with_reducible first | exact HB.out | apply below_alloc | apply pw_below_drewN | apply below_drew1) | exact HB.out)⟩
                · rw [if_neg c18] at H
                  exact absurd H (by simp)
              · rw [if_neg c17] at H
                exact absurd H (by simp)

end Go.Proofs.Yteiaoanfdkgmoaa.P
