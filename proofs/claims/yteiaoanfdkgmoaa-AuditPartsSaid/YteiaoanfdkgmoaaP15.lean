/- The functions that the laws of this seat reach, as plain Lean functions, and for each the contract of its call: no condition but those that each theorem names. -/
import Derived.Test.YteiaoanfdkgmoaaP0
import Derived.Test.YteiaoanfdkgmoaaP7
import Derived.Test.YteiaoanfdkgmoaaP12
import Derived.Test.YteiaoanfdkgmoaaP14
namespace Go.Proofs.Yteiaoanfdkgmoaa.P
open Go.RowKit Go.Proofs.YteiaoanfdkgmoaaW.PrintWords Go.Proofs.YteiaoanfdkgmoaaW.PrintLast Go.Proofs.YteiaoanfdkgmoaaW.PrintMore
attribute [local go_sem] max2_int min2_int max_two min_two max_three min_three max_four min_four   -- for this text's walks alone
set_option linter.unusedVariables false
set_option linter.unusedSimpArgs false

/-! ### towncrierlaw21_AuditParts: function 4 -/
mutual
def towncrierlaw21_AuditParts.j0 : Nat → List (SRes) → Int → Int → Int → Bool → Bool → Option (Bool)
  | 0, _, _, _, _, _, _ => none
  | k + 1, x0, x1, x2, x3, x9, x32 => if x32 = true then (some x9) else (if 0 ≤ x3 then (if x3 ≤ (x0.length : Int) then ((audit_Notes.f (x0.take (x3 : Int).toNat) x1).bind fun t152 => ((audit_Notes.f (x0.drop (x3 : Int).toNat) x1).bind fun t159 => ((audit_Notes.f x0 x1).bind fun t162 => (if ([] : List (SNote)).length + t152.length < 2513169434916 then ((some (([] : List (SNote)) ++ t152 : List (SNote))).bind fun y165 => (if y165.length + t159.length < 2513169434916 then ((towncrierref21_Same.f k t162 (y165 ++ t159)).bind fun t171 => (if t171 = true then ((audit_Notes.f x0 x2).bind fun t172 => (towncrierlaw21_AuditParts.l0 k x2 t172 0)) else (some false))) else (none))) else (none))))) else (none)) else (none))
def towncrierlaw21_AuditParts.l0 : Nat → Int → List (SNote) → Int → Option (Bool)
  | 0, _, _, _ => none
  | k + 1, x2, x13, x14 => if x14 < (x13.length : Int) then (if 0 ≤ x14 then (if ((rd_TNote x13 x14).f0) = x2 then (towncrierlaw21_AuditParts.l0 k x2 x13 (wrap64 (x14 + 1))) else (some false)) else (none)) else (some true)
end
def towncrierlaw21_AuditParts.f (k : Nat) (l0 : List (SRes)) (a1 : Int) (a2 : Int) (a3 : Int) : Option (Bool) := (towncrierlaw21_awake.f k).bind fun t147 => (if t147 = true then (if (l0.length : Int) > 40 then (towncrierlaw21_AuditParts.j0 k l0 a1 a2 a3 t147 true) else (if a3 < 0 then (towncrierlaw21_AuditParts.j0 k l0 a1 a2 a3 t147 true) else (towncrierlaw21_AuditParts.j0 k l0 a1 a2 a3 t147 (decide (a3 > (l0.length : Int)))))) else (towncrierlaw21_AuditParts.j0 k l0 a1 a2 a3 t147 true))
theorem towncrierlaw21_AuditParts.mono_l : ∀ k, (∀ y0 y1 y2 y3 y4 y5, LeO (towncrierlaw21_AuditParts.j0 k y0 y1 y2 y3 y4 y5) (towncrierlaw21_AuditParts.j0 (k + 1) y0 y1 y2 y3 y4 y5)) ∧ (∀ y0 y1 y2, LeO (towncrierlaw21_AuditParts.l0 k y0 y1 y2) (towncrierlaw21_AuditParts.l0 (k + 1) y0 y1 y2))
  | 0 => ⟨fun _ _ _ _ _ _ r h => by simp [towncrierlaw21_AuditParts.j0] at h, fun _ _ _ r h => by simp [towncrierlaw21_AuditParts.l0] at h⟩
  | k + 1 => by
    obtain ⟨ih0, ih1⟩ := towncrierlaw21_AuditParts.mono_l k
    refine ⟨?_, ?_⟩
    · intro y0 y1 y2 y3 y4 y5
      unfold towncrierlaw21_AuditParts.j0
      repeat' first
      | (with_reducible exact ih0 _ _ _ _ _ _)
      | (with_reducible exact ih1 _ _ _)
      | (with_reducible exact towncrierlaw21_awake.mono _)
      | (with_reducible exact towncrierref21_Same.mono _ _ _)
      | (with_reducible exact LeO.refl _)
      | (with_reducible exact LeO.none _)
      | (with_reducible refine LeO.ite ?_ ?_)
      | (with_reducible refine LeO.bind ?_ (fun _ => ?_))
      | exact ih0 _ _ _ _ _ _
      | exact ih1 _ _ _
      | exact towncrierlaw21_awake.mono _
      | exact towncrierref21_Same.mono _ _ _
      | exact LeO.none _
      | refine LeO.ite ?_ ?_
      | refine LeO.bind ?_ (fun _ => ?_)
    · intro y0 y1 y2
      unfold towncrierlaw21_AuditParts.l0
      repeat' first
      | (with_reducible exact ih0 _ _ _ _ _ _)
      | (with_reducible exact ih1 _ _ _)
      | (with_reducible exact towncrierlaw21_awake.mono _)
      | (with_reducible exact towncrierref21_Same.mono _ _ _)
      | (with_reducible exact LeO.refl _)
      | (with_reducible exact LeO.none _)
      | (with_reducible refine LeO.ite ?_ ?_)
      | (with_reducible refine LeO.bind ?_ (fun _ => ?_))
      | exact ih0 _ _ _ _ _ _
      | exact ih1 _ _ _
      | exact towncrierlaw21_awake.mono _
      | exact towncrierref21_Same.mono _ _ _
      | exact LeO.none _
      | refine LeO.ite ?_ ?_
      | refine LeO.bind ?_ (fun _ => ?_)
theorem towncrierlaw21_AuditParts.mono : ∀ a0 a1 a2 a3 k, LeO (towncrierlaw21_AuditParts.f k a0 a1 a2 a3) (towncrierlaw21_AuditParts.f (k + 1) a0 a1 a2 a3) := by
  intro a0 a1 a2 a3 k
  obtain ⟨ih0, ih1⟩ := towncrierlaw21_AuditParts.mono_l k
  unfold towncrierlaw21_AuditParts.f
  repeat' first
      | (with_reducible exact ih0 _ _ _ _ _ _)
      | (with_reducible exact ih1 _ _ _)
      | (with_reducible exact towncrierlaw21_awake.mono _)
      | (with_reducible exact towncrierref21_Same.mono _ _ _)
      | (with_reducible exact LeO.refl _)
      | (with_reducible exact LeO.none _)
      | (with_reducible refine LeO.ite ?_ ?_)
      | (with_reducible refine LeO.bind ?_ (fun _ => ?_))
      | exact ih0 _ _ _ _ _ _
      | exact ih1 _ _ _
      | exact towncrierlaw21_awake.mono _
      | exact towncrierref21_Same.mono _ _ _
      | exact LeO.none _
      | refine LeO.ite ?_ ?_
      | refine LeO.bind ?_ (fun _ => ?_)
set_option maxHeartbeats 8000000 in
set_option maxRecDepth 100000 in
theorem towncrierlaw21_AuditParts.calls (k : Nat) (A0 : Option Addr) (c0 : Nat) (l0 : List (SRes)) (a1 : Int) (a2 : Int) (a3 : Int) (r : Bool) (w : World) (hr0 : Kd.C kRes w A0 l0.length l0) (hc0 : l0.length ≤ c0) (h : towncrierlaw21_AuditParts.f k l0 a1 a2 a3 = some r) :
    Calls Try.prog 4 #[.slice A0 l0.length c0, .int .i64 a1, .int .i64 a2, .int .i64 a3] w fun e w' => e = .returned (.bool r) ∧ Below w.heap.size w w' := by
  have HR0 := Aside0.mk hr0
  have HC0 := Aside0.mk hc0
  clear hr0 hc0
  have HB := Aside0.mk (Below.refl w.heap.size w)
  have H : ((towncrierlaw21_awake.f k).bind fun t147 => (if t147 = true then (if (l0.length : Int) > 40 then (towncrierlaw21_AuditParts.j0 k l0 a1 a2 a3 t147 true) else (if a3 < 0 then (towncrierlaw21_AuditParts.j0 k l0 a1 a2 a3 t147 true) else (towncrierlaw21_AuditParts.j0 k l0 a1 a2 a3 t147 (decide (a3 > (l0.length : Int)))))) else (towncrierlaw21_AuditParts.j0 k l0 a1 a2 a3 t147 true))) = some r := h
  clear h
  replace H := Option.bind_eq_some_iff.mp H
  obtain ⟨t147, A50, H⟩ := H
  replace H : (if t147 = true then (if (l0.length : Int) > 40 then (towncrierlaw21_AuditParts.j0 k l0 a1 a2 a3 t147 true) else (if a3 < 0 then (towncrierlaw21_AuditParts.j0 k l0 a1 a2 a3 t147 true) else (towncrierlaw21_AuditParts.j0 k l0 a1 a2 a3 t147 (decide (a3 > (l0.length : Int)))))) else (towncrierlaw21_AuditParts.j0 k l0 a1 a2 a3 t147 true)) = some r := H
  have A5 := Aside0.mk A50
  clear A50
  have HC6 := Aside0.mk H
  clear H
  go_enter Try.func4, Try.ntmps4
  go_upto_region 2 with (first | ((with_reducible refine gate_callee (f := 10) rfl ?_); refine goesL_ (some 15) rfl rfl Try.func10 (by kernel_rfl) rfl #[] rfl (by (try simp only [List.map_toArray, List.map_cons, List.map_nil]); first | done | rfl | (simp only [List.length_drop, List.length_take]; rfl)) ?_; (with_reducible refine (towncrierlaw21_awake.calls k  t147 _ A5.out).mono ?_); rintro e w7 ⟨rfl, hb⟩; refine ⟨_, rfl, ?_⟩; have n0_ := Aside0.mk (below_step (by repeat (first | (with_reducible first | exact HB.out | apply below_alloc | apply pw_below_drewN | apply below_drew1) | exact HB.out)) hb); clear HB; have HB := n0_; clear n0_; (try clear hb); (try clear hb2); (try clear hk); (try clear hi)))
  (try simp only [Act.put, List.setIfInBounds_toArray, List.set_cons_zero, List.set_cons_succ])
  go_cut [32] (fun v32 wc => ∃ (kq : Nat) (x32_5 : Bool), v32 = .bool x32_5 ∧ Aside0 (towncrierlaw21_AuditParts.j0 kq l0 a1 a2 a3 t147 x32_5 = some r) ∧ Aside0 (kq ≤ k) ∧ Aside0 (Below w.heap.size w wc))
  case first =>
    have H := HC6.out
    clear HC6
    by_cases c8 : t147 = true
    · subst c8
      have H1 : (if (l0.length : Int) > 40 then (towncrierlaw21_AuditParts.j0 k l0 a1 a2 a3 true true) else (if a3 < 0 then (towncrierlaw21_AuditParts.j0 k l0 a1 a2 a3 true true) else (towncrierlaw21_AuditParts.j0 k l0 a1 a2 a3 true (decide (a3 > (l0.length : Int)))))) = some r := by rw [if_pos rfl] at H; exact H
      clear H
      have H := H1
      clear H1
      by_cases c9 : (l0.length : Int) > 40
      · rw [if_pos c9] at H
        have c9b0 : decide (40 < (l0.length : Int)) = true := decide_eq_true c9
        have c9b1 : decide (40 < l0.length) = true := decide_eq_true (by omega)
        clear c9
        (first | rw [c9b0] | (simp only [i64_w, i32_w]; rw [c9b0]) | skip)
        have H' := Aside0.mk H
        clear H
        go_wp2
        go_meet
        case rel => exact ⟨_, (true), (by first | rfl | (simp; done) | (simp [*]; done)), H', ⟨by first | omega | exact Nat.le_refl _⟩, ⟨by repeat (first | (with_reducible first | exact HB.out | apply below_alloc | apply pw_below_drewN | apply below_drew1) | exact HB.out)⟩⟩
      · rw [if_neg c9] at H
        have c9b0 : decide (40 < (l0.length : Int)) = false := decide_eq_false c9
        have c9b1 : decide (40 < l0.length) = false := decide_eq_false (by omega)
        clear c9
        (first | rw [c9b0] | (simp only [i64_w, i32_w]; rw [c9b0]) | skip)
        by_cases c10 : a3 < 0
        · rw [if_pos c10] at H
          have c10b0 : decide (a3 < 0) = true := decide_eq_true c10
          clear c10
          have H' := Aside0.mk H
          clear H
          go_wp2
          go_meet
          case rel => exact ⟨_, (true), (by first | rfl | (simp; done) | (simp [*]; done)), H', ⟨by first | omega | exact Nat.le_refl _⟩, ⟨by repeat (first | (with_reducible first | exact HB.out | apply below_alloc | apply pw_below_drewN | apply below_drew1) | exact HB.out)⟩⟩
        · rw [if_neg c10] at H
          have c10b0 : decide (a3 < 0) = false := decide_eq_false c10
          clear c10
          have H' := Aside0.mk H
          clear H
          go_wp2
          go_meet
          case rel => exact ⟨_, (decide (a3 > (l0.length : Int))), (by first | rfl | (simp; done) | (simp [*]; done)), H', ⟨by first | omega | exact Nat.le_refl _⟩, ⟨by repeat (first | (with_reducible first | exact HB.out | apply below_alloc | apply pw_below_drewN | apply below_drew1) | exact HB.out)⟩⟩
    · replace c8 := Bool.eq_false_iff.mpr c8
      subst c8
      have H1 : (towncrierlaw21_AuditParts.j0 k l0 a1 a2 a3 false true) = some r := by rw [if_neg (show ¬ (false = true) by decide)] at H; exact H
      clear H
      have H := H1
      clear H1
      have H' := Aside0.mk H
      clear H
      go_wp2
      go_meet
      case rel => exact ⟨_, (true), (by first | rfl | (simp; done) | (simp [*]; done)), H', ⟨by first | omega | exact Nat.le_refl _⟩, ⟨by repeat (first | (with_reducible first | exact HB.out | apply below_alloc | apply pw_below_drewN | apply below_drew1) | exact HB.out)⟩⟩
  case rest =>
    clear HC6
    try clear c1
    try clear p2
    try clear c4
    try clear c8
    try clear c9
    try clear c9b0
    try clear c9b1
    try clear c10
    try clear c10b0
    obtain ⟨kq, x32_5, rfl, HA, HJ5, HB⟩ := hcut
    cases kq with
    | zero => exact absurd HA.out (by simp [towncrierlaw21_AuditParts.j0])
    | succ kj5 =>
      have H := HA.out
      clear HA
      simp only [towncrierlaw21_AuditParts.j0] at H
      by_cases c11 : x32_5 = true
      · subst c11
        have H1 : (some t147) = some r := by rw [if_pos rfl] at H; exact H
        clear H
        have H := H1
        clear H1
        obtain rfl := Option.some.inj H
        go_wp2
        go_ret
        exact ⟨by first | rfl | (simp [errW_none, errW_some] <;> rfl) | (simp [*, errW_none, errW_some] <;> rfl), by repeat (first | (with_reducible first | exact HB.out | apply below_alloc | apply pw_below_drewN | apply below_drew1) | exact HB.out)⟩
      · replace c11 := Bool.eq_false_iff.mpr c11
        subst c11
        have H1 : (if 0 ≤ a3 then (if a3 ≤ (l0.length : Int) then ((audit_Notes.f (l0.take (a3 : Int).toNat) a1).bind fun t152 => ((audit_Notes.f (l0.drop (a3 : Int).toNat) a1).bind fun t159 => ((audit_Notes.f l0 a1).bind fun t162 => (if ([] : List (SNote)).length + t152.length < 2513169434916 then ((some (([] : List (SNote)) ++ t152 : List (SNote))).bind fun y165 => (if y165.length + t159.length < 2513169434916 then ((towncrierref21_Same.f kj5 t162 (y165 ++ t159)).bind fun t171 => (if t171 = true then ((audit_Notes.f l0 a2).bind fun t172 => (towncrierlaw21_AuditParts.l0 kj5 a2 t172 0)) else (some false))) else (none))) else (none))))) else (none)) else (none)) = some r := by rw [if_neg (show ¬ (false = true) by decide)] at H; exact H
        clear H
        have H := H1
        clear H1
        by_cases c12 : 0 ≤ a3
        · rw [if_pos c12] at H
          have c12b0 := eq_true c12
          have c12b1 : decide (0 ≤ a3) = true := decide_eq_true c12
          clear c12
          by_cases c13 : a3 ≤ (l0.length : Int)
          · rw [if_pos c13] at H
            have c13b0 := eq_true c13
            have c13b1 : decide (a3 ≤ (l0.length : Int)) = true := decide_eq_true c13
            clear c13
            obtain ⟨y148, hy148⟩ : ∃ y_ : List (SRes), y_ = (l0.take (a3 : Int).toNat) := ⟨_, rfl⟩
            replace H : ((audit_Notes.f y148 a1).bind fun t152 => ((audit_Notes.f (l0.drop (a3 : Int).toNat) a1).bind fun t159 => ((audit_Notes.f l0 a1).bind fun t162 => (if ([] : List (SNote)).length + t152.length < 2513169434916 then ((some (([] : List (SNote)) ++ t152 : List (SNote))).bind fun y165 => (if y165.length + t159.length < 2513169434916 then ((towncrierref21_Same.f kj5 t162 (y165 ++ t159)).bind fun t171 => (if t171 = true then ((audit_Notes.f l0 a2).bind fun t172 => (towncrierlaw21_AuditParts.l0 kj5 a2 t172 0)) else (some false))) else (none))) else (none))))) = some r := by first | (rw [hy148]; with_reducible exact H) | (have H2_ := (Option.bind_some _ _).symm.trans H; rw [hy148]; with_reducible exact H2_) | (have H2_ := (Option.bind_some _ _).symm.trans H; with_reducible exact H2_) | with_reducible exact H | (rw [hy148]; exact H) | exact H
            have Ny148 := Aside0.mk hy148
            clear hy148
            replace H := Option.bind_eq_some_iff.mp H
            obtain ⟨t152, A140, H⟩ := H
            replace H : ((audit_Notes.f (l0.drop (a3 : Int).toNat) a1).bind fun t159 => ((audit_Notes.f l0 a1).bind fun t162 => (if ([] : List (SNote)).length + t152.length < 2513169434916 then ((some (([] : List (SNote)) ++ t152 : List (SNote))).bind fun y165 => (if y165.length + t159.length < 2513169434916 then ((towncrierref21_Same.f kj5 t162 (y165 ++ t159)).bind fun t171 => (if t171 = true then ((audit_Notes.f l0 a2).bind fun t172 => (towncrierlaw21_AuditParts.l0 kj5 a2 t172 0)) else (some false))) else (none))) else (none)))) = some r := H
            have A14 := Aside0.mk A140
            clear A140
            have c15b0 := eq_true (of_decide_eq_true (by first | (with_reducible assumption) | assumption) : 0 ≤ a3)
            have c16b0 := eq_true (of_decide_eq_true (by first | (with_reducible assumption) | assumption) : a3 ≤ (l0.length : Int))
            obtain ⟨y155, hy155⟩ : ∃ y_ : List (SRes), y_ = (l0.drop (a3 : Int).toNat) := ⟨_, rfl⟩
            replace H : ((audit_Notes.f y155 a1).bind fun t159 => ((audit_Notes.f l0 a1).bind fun t162 => (if ([] : List (SNote)).length + t152.length < 2513169434916 then ((some (([] : List (SNote)) ++ t152 : List (SNote))).bind fun y165 => (if y165.length + t159.length < 2513169434916 then ((towncrierref21_Same.f kj5 t162 (y165 ++ t159)).bind fun t171 => (if t171 = true then ((audit_Notes.f l0 a2).bind fun t172 => (towncrierlaw21_AuditParts.l0 kj5 a2 t172 0)) else (some false))) else (none))) else (none)))) = some r := by first | (rw [hy155]; with_reducible exact H) | (have H2_ := (Option.bind_some _ _).symm.trans H; rw [hy155]; with_reducible exact H2_) | (have H2_ := (Option.bind_some _ _).symm.trans H; with_reducible exact H2_) | with_reducible exact H | (rw [hy155]; exact H) | exact H
            have Ny155 := Aside0.mk hy155
            clear hy155
            replace H := Option.bind_eq_some_iff.mp H
            obtain ⟨t159, A170, H⟩ := H
            replace H : ((audit_Notes.f l0 a1).bind fun t162 => (if ([] : List (SNote)).length + t152.length < 2513169434916 then ((some (([] : List (SNote)) ++ t152 : List (SNote))).bind fun y165 => (if y165.length + t159.length < 2513169434916 then ((towncrierref21_Same.f kj5 t162 (y165 ++ t159)).bind fun t171 => (if t171 = true then ((audit_Notes.f l0 a2).bind fun t172 => (towncrierlaw21_AuditParts.l0 kj5 a2 t172 0)) else (some false))) else (none))) else (none))) = some r := H
            have A17 := Aside0.mk A170
            clear A170
            replace H := Option.bind_eq_some_iff.mp H
            obtain ⟨t162, A180, H⟩ := H
            replace H : (if ([] : List (SNote)).length + t152.length < 2513169434916 then ((some (([] : List (SNote)) ++ t152 : List (SNote))).bind fun y165 => (if y165.length + t159.length < 2513169434916 then ((towncrierref21_Same.f kj5 t162 (y165 ++ t159)).bind fun t171 => (if t171 = true then ((audit_Notes.f l0 a2).bind fun t172 => (towncrierlaw21_AuditParts.l0 kj5 a2 t172 0)) else (some false))) else (none))) else (none)) = some r := H
            have A18 := Aside0.mk A180
            clear A180
            by_cases c19 : ([] : List (SNote)).length + t152.length < 2513169434916
            · rw [if_pos c19] at H
              have LMc19 := Aside0.mk c19
              clear c19
              obtain ⟨y165, hy165⟩ : ∃ y_ : List (SNote), y_ = (([] : List (SNote)) ++ t152) := ⟨_, rfl⟩
              replace H : (if y165.length + t159.length < 2513169434916 then ((towncrierref21_Same.f kj5 t162 (y165 ++ t159)).bind fun t171 => (if t171 = true then ((audit_Notes.f l0 a2).bind fun t172 => (towncrierlaw21_AuditParts.l0 kj5 a2 t172 0)) else (some false))) else (none)) = some r := by first | (rw [hy165]; with_reducible exact H) | (have H2_ := (Option.bind_some _ _).symm.trans H; rw [hy165]; with_reducible exact H2_) | (have H2_ := (Option.bind_some _ _).symm.trans H; with_reducible exact H2_) | with_reducible exact H | (rw [hy165]; exact H) | exact H
              have Ny165 := Aside0.mk hy165
              clear hy165
              by_cases c20 : y165.length + t159.length < 2513169434916
              · rw [if_pos c20] at H
                have LMc20 := Aside0.mk c20
                clear c20
                obtain ⟨y168, hy168⟩ : ∃ y_ : List (SNote), y_ = (y165 ++ t159) := ⟨_, rfl⟩
                replace H : ((towncrierref21_Same.f kj5 t162 y168).bind fun t171 => (if t171 = true then ((audit_Notes.f l0 a2).bind fun t172 => (towncrierlaw21_AuditParts.l0 kj5 a2 t172 0)) else (some false))) = some r := by first | (rw [hy168]; with_reducible exact H) | (have H2_ := (Option.bind_some _ _).symm.trans H; rw [hy168]; with_reducible exact H2_) | (have H2_ := (Option.bind_some _ _).symm.trans H; with_reducible exact H2_) | with_reducible exact H | (rw [hy168]; exact H) | exact H
                have Ny168 := Aside0.mk hy168
                clear hy168
                replace H := Option.bind_eq_some_iff.mp H
                obtain ⟨t171, A210, H⟩ := H
                replace H : (if t171 = true then ((audit_Notes.f l0 a2).bind fun t172 => (towncrierlaw21_AuditParts.l0 kj5 a2 t172 0)) else (some false)) = some r := H
                have A21 := Aside0.mk A210
                clear A210
                by_cases c22 : t171 = true
                · subst c22
                  have H1 : ((audit_Notes.f l0 a2).bind fun t172 => (towncrierlaw21_AuditParts.l0 kj5 a2 t172 0)) = some r := by rw [if_pos rfl] at H; exact H
                  clear H
                  have H := H1
                  clear H1
                  replace H := Option.bind_eq_some_iff.mp H
                  obtain ⟨t172, A230, H⟩ := H
                  replace H : (towncrierlaw21_AuditParts.l0 kj5 a2 t172 0) = some r := H
                  have A23 := Aside0.mk A230
                  clear A230
                  have H' := Aside0.mk H
                  clear H
                  have q24 : (a3 : Int) ≤ ((l0.length : Int) : Int) := of_decide_eq_true (by first | (with_reducible assumption) | assumption)
                  obtain ⟨i024, hi024, _, hsz24, _⟩ := info_parts infoRes
                  have hroom24 : l0.length ≤ c0 := HC0.out
                  have hC24 : Kd.C kRes _ A0 l0.length l0 := HR0.out
                  have hcut24 := cut_to (P := Try.prog) 30 43 .i64 Try.underlying30 hi024 A0 l0.length c0 a3 (of_decide_eq_true (by first | (with_reducible assumption) | assumption)) q24 hroom24
                  have hr24 := Kd.C_take (m := (a3 : Int).toNat) hC24 (by omega)
                  have hy24 : y148.length = (a3 : Int).toNat := (by rw [Ny148.out, List.length_take]; omega)
                  rw [← Ny148.out] at hr24
                  rw [← hy24] at hcut24
                  have HR151 := Aside0.mk hr24
                  have HC151 := Aside0.mk (show y148.length ≤ c0 from by omega)
                  clear hr24 hC24 hroom24 hi024 hsz24
                  have KY24 := Aside0.mk hy24
                  clear hy24
                  replace q24 := eq_true q24
                  go_wp2_with (first | ((with_reducible refine gate_callee (f := 12) rfl ?_); refine goesL_ (some 38) rfl rfl Try.func12 (by kernel_rfl) rfl #[.slice A0 y148.length c0, .int .i64 a1] rfl (by (try simp only [List.map_toArray, List.map_cons, List.map_nil]); first | done | rfl | (simp only [List.length_drop, List.length_take]; rfl)) ?_; (with_reducible refine (audit_Notes.calls _ _ y148 a1 t152 _ ?side1 ?side2 A14.out).mono ?_); (case side1 => repeat (first | exact (Kd.C_below HR151.out HB.out) | (with_reducible refine Kd.C_alloc ?_ _) | (with_reducible refine Kd.C_drewN ?_ _) | (with_reducible refine Kd.C_drew ?_))); (case side2 => exact HC151.out); rintro e w25 ⟨v153, rfl, ho0, hb⟩; refine ⟨_, rfl, ?_⟩; have n0_ := Aside0.mk (Kd.R_lower ho0 (below_size (by repeat (first | (with_reducible first | exact HB.out | apply below_alloc | apply pw_below_drewN | apply below_drew1) | exact HB.out)))); have n1_ := Aside0.mk (below_step (by repeat (first | (with_reducible first | exact HB.out | apply below_alloc | apply pw_below_drewN | apply below_drew1) | exact HB.out)) hb); clear HB; have HO154 := n0_; have HB := n1_; clear n0_ n1_; (try clear hb); (try clear hb2); (try clear hk); (try clear hi); (try clear ho0); have q26 : (a3 : Int) ≤ ((l0.length : Int) : Int) := of_decide_eq_true (by first | (with_reducible assumption) | assumption); obtain ⟨i026, hi026, _, hsz26, _⟩ := info_parts infoRes; have hroom26 : l0.length ≤ c0 := HC0.out; have hC26 : Kd.C kRes _ A0 l0.length l0 := HR0.out; have q026 : (0 : Int) ≤ (a3 : Int) := of_decide_eq_true (by first | (with_reducible assumption) | assumption); have hcut26 := cut_from (P := Try.prog) 30 43 .i64 Try.underlying30 hi026 11 hsz26 A0 l0.length c0 a3 q026 q26; have hr26 := Kd.C_drop (m := (a3 : Int).toNat) (c := c0) hC26 (by omega) hroom26; obtain ⟨A26, hA26⟩ : ∃ A1z_, A1z_ = (if c0 = (a3 : Int).toNat then A0 else (A0 : Option Addr).map (·.add ((a3 : Int).toNat * 11))) := ⟨_, rfl⟩; obtain ⟨c26, hc26⟩ : ∃ c1z_, c1z_ = c0 - (a3 : Int).toNat := ⟨_, rfl⟩; have hy26 : y155.length = l0.length - (a3 : Int).toNat := (by rw [Ny155.out, List.length_drop] <;> omega); rw [show (l0).drop (a3 : Int).toNat = y155 from Ny155.out.symm] at hr26; replace hr26 : Kd.C kRes _ A26 y155.length y155 := (by rw [hA26]; exact hr26); rw [← hy26, ← hA26, ← hc26] at hcut26; have HR158 := Aside0.mk hr26; have HC158 := Aside0.mk (show y155.length ≤ c26 from by rw [hy26, hc26]; exact Nat.sub_le_sub_right hroom26 _); clear hr26 hC26 hroom26 hi026 hsz26 hc26; have KY26 := Aside0.mk hy26; have KA26 := Aside0.mk hA26; clear hy26 hA26; replace q26 := eq_true q26) | ((with_reducible refine gate_callee (f := 12) rfl ?_); refine goesL_ (some 43) rfl rfl Try.func12 (by kernel_rfl) rfl #[.slice A26 y155.length c26, .int .i64 a1] rfl (by (try simp only [List.map_toArray, List.map_cons, List.map_nil]); first | done | rfl | (simp only [List.length_drop, List.length_take]; rfl)) ?_; (with_reducible refine (audit_Notes.calls _ _ y155 a1 t159 _ ?side1 ?side2 A17.out).mono ?_); (case side1 => repeat (first | exact (Kd.C_below HR158.out HB.out) | (with_reducible refine Kd.C_alloc ?_ _) | (with_reducible refine Kd.C_drewN ?_ _) | (with_reducible refine Kd.C_drew ?_))); (case side2 => exact HC158.out); rintro e w27 ⟨v160, rfl, ho0, hb⟩; refine ⟨_, rfl, ?_⟩; have n0_ := Aside0.mk (Kd.R_elder' (by (with_reducible repeat (first | apply Kd.R_alloc | apply Kd.R_drewN | apply Kd.R_drew)); exact HO154.out) (Kd.R_base ho0) hb); have n1_ := Aside0.mk (Kd.R_lower (Kd.R_new' ho0 (Kd.R_lt (by (with_reducible repeat (first | apply Kd.R_alloc | apply Kd.R_drewN | apply Kd.R_drew)); exact HO154.out))) (below_size (by repeat (first | (with_reducible first | exact HB.out | apply below_alloc | apply pw_below_drewN | apply below_drew1) | exact HB.out)))); have n2_ := Aside0.mk (below_step (by repeat (first | (with_reducible first | exact HB.out | apply below_alloc | apply pw_below_drewN | apply below_drew1) | exact HB.out)) hb); clear HO154; clear HB; have HO154 := n0_; have HO161 := n1_; have HB := n2_; clear n0_ n1_ n2_; (try clear hb); (try clear hb2); (try clear hk); (try clear hi); (try clear ho0)) | ((with_reducible refine gate_callee (f := 12) rfl ?_); refine goesL_ (some 46) rfl rfl Try.func12 (by kernel_rfl) rfl #[.slice A0 l0.length c0, .int .i64 a1] rfl (by (try simp only [List.map_toArray, List.map_cons, List.map_nil]); first | done | rfl | (simp only [List.length_drop, List.length_take]; rfl)) ?_; (with_reducible refine (audit_Notes.calls _ _ l0 a1 t162 _ ?side1 ?side2 A18.out).mono ?_); (case side1 => repeat (first | exact (Kd.C_below HR0.out HB.out) | (with_reducible refine Kd.C_alloc ?_ _) | (with_reducible refine Kd.C_drewN ?_ _) | (with_reducible refine Kd.C_drew ?_))); (case side2 => exact HC0.out); rintro e w28 ⟨v163, rfl, ho0, hb⟩; refine ⟨_, rfl, ?_⟩; have n0_ := Aside0.mk (Kd.R_elder' (by (with_reducible repeat (first | apply Kd.R_alloc | apply Kd.R_drewN | apply Kd.R_drew)); exact HO154.out) (Kd.R_base ho0) hb); have n1_ := Aside0.mk (Kd.R_elder' (by (with_reducible repeat (first | apply Kd.R_alloc | apply Kd.R_drewN | apply Kd.R_drew)); exact HO161.out) (Kd.R_base ho0) hb); have n2_ := Aside0.mk (Kd.R_lower (Kd.R_new' (Kd.R_new' ho0 (Kd.R_lt (by (with_reducible repeat (first | apply Kd.R_alloc | apply Kd.R_drewN | apply Kd.R_drew)); exact HO154.out))) (Kd.R_lt (by (with_reducible repeat (first | apply Kd.R_alloc | apply Kd.R_drewN | apply Kd.R_drew)); exact HO161.out))) (below_size (by repeat (first | (with_reducible first | exact HB.out | apply below_alloc | apply pw_below_drewN | apply below_drew1) | exact HB.out)))); have n3_ := Aside0.mk (below_step (by repeat (first | (with_reducible first | exact HB.out | apply below_alloc | apply pw_below_drewN | apply below_drew1) | exact HB.out)) hb); clear HO154; clear HO161; clear HB; have HO154 := n0_; have HO161 := n1_; have HO164 := n2_; have HB := n3_; clear n0_ n1_ n2_ n3_; (try clear hb); (try clear hb2); (try clear hk); (try clear hi); (try clear ho0); obtain ⟨Ao30, co30, eo30⟩ := Kd.R_slice HO154.out; subst eo30) | ((with_reducible refine gate_builtin (b := .append) (xs := #[.const (.slice none 0 0), .tmp 47]) rfl ?_); (try (refine gate_guard (by rfl) ?_; dsimp only)); at_builtin; refine Kd.R_append_rows kNote (w0 := w) w.heap.size rfl (.const (.slice none 0 0)) (.tmp 47) 22 27 (.agg #[(.int .i64 0), (.int .i64 0), (.int .i64 0), (.int .i64 0), (.int .i64 0), (.int .i64 0), (.bool false)]) 56 rfl Try.underlying22 infoNote rfl (by decide) (by omega) (.slice none 0 0) ([] : List (SNote)) t152 _ _ _ (fun k_ => some k_ ≠ (.slice Ao30 t152.length co30 : Value).ownBlock ∧ some k_ ≠ (v160 : Value).ownBlock ∧ some k_ ≠ (v163 : Value).ownBlock) (fun _ => False) rfl rfl ?aO ?aR (fun _ _ h => h) (fun _ h => h.elim) ?aF ?aB ?aS ?aL ?_; (case aR => repeat (first | exact (Kd.R_reads' HO154.out).2.2 | (with_reducible refine Kd.C_alloc ?_ _) | (with_reducible refine Kd.C_drewN ?_ _) | (with_reducible refine Kd.C_drew ?_))); (case aB => exact (by repeat (first | (with_reducible first | exact HB.out | apply below_alloc | apply pw_below_drewN | apply below_drew1) | exact HB.out))); (case aF => exact (fun k_ hk => ⟨Kd.fresh' (Kd.R_lt (by (with_reducible repeat (first | apply Kd.R_alloc | apply Kd.R_drewN | apply Kd.R_drew)); exact HO154.out)) k_ hk, Kd.fresh' (Kd.R_lt (by (with_reducible repeat (first | apply Kd.R_alloc | apply Kd.R_drewN | apply Kd.R_drew)); exact HO161.out)) k_ hk, Kd.fresh' (Kd.R_lt (by (with_reducible repeat (first | apply Kd.R_alloc | apply Kd.R_drewN | apply Kd.R_drew)); exact HO164.out)) k_ hk⟩)); (case aO => exact ((Kd.R_nil _ _ _ _ (fun k_ => some k_ ≠ (.slice Ao30 t152.length co30 : Value).ownBlock ∧ some k_ ≠ (v160 : Value).ownBlock ∧ some k_ ≠ (v163 : Value).ownBlock)))); (case aS => exact (below_size (by repeat (first | (with_reducible first | exact HB.out | apply below_alloc | apply pw_below_drewN | apply below_drew1) | exact HB.out)))); (case aL => have := LMc19.out; omega); intro v166 w29 ho hb hg hat; rw [← Ny165.out] at ho; have n0_ := Aside0.mk (Kd.R_after (Kd.R_apart_nil (by (with_reducible repeat (first | apply Kd.R_alloc | apply Kd.R_drewN | apply Kd.R_drew)); exact HO154.out)) hg hat); have n1_ := Aside0.mk (Kd.R_after (Kd.R_apart_nil (by (with_reducible repeat (first | apply Kd.R_alloc | apply Kd.R_drewN | apply Kd.R_drew)); exact HO161.out)) hg hat); have n2_ := Aside0.mk (Kd.R_after (Kd.R_apart_nil (by (with_reducible repeat (first | apply Kd.R_alloc | apply Kd.R_drewN | apply Kd.R_drew)); exact HO164.out)) hg hat); have n3_ := Aside0.mk (hb); have n4_ := Aside0.mk (ho); clear HO154; clear HO161; clear HO164; clear HB; have HO154 := n0_; have HO161 := n1_; have HO164 := n2_; have HB := n3_; have HO167 := n4_; clear n0_ n1_ n2_ n3_ n4_; clear ho hb hg hat; obtain ⟨Ao32, co32, eo32⟩ := Kd.R_slice HO161.out; subst eo32) | ((with_reducible refine gate_builtin (b := .append) (xs := #[.tmp 48, .tmp 49]) rfl ?_); (try (refine gate_guard (by rfl) ?_; dsimp only)); at_builtin; refine Kd.R_append_rows kNote (w0 := w) w.heap.size rfl (.tmp 48) (.tmp 49) 22 27 (.agg #[(.int .i64 0), (.int .i64 0), (.int .i64 0), (.int .i64 0), (.int .i64 0), (.int .i64 0), (.bool false)]) 56 rfl Try.underlying22 infoNote rfl (by decide) (by omega) v166 y165 t159 _ _ _ (fun k_ => some k_ ≠ (.slice Ao30 t152.length co30 : Value).ownBlock ∧ some k_ ≠ (.slice Ao32 t159.length co32 : Value).ownBlock ∧ some k_ ≠ (v163 : Value).ownBlock) (fun _ => False) rfl rfl ?aO ?aR (fun _ _ h => h) (fun _ h => h.elim) ?aF ?aB ?aS ?aL ?_; (case aR => repeat (first | exact (Kd.R_reads' HO161.out).2.2 | (with_reducible refine Kd.C_alloc ?_ _) | (with_reducible refine Kd.C_drewN ?_ _) | (with_reducible refine Kd.C_drew ?_))); (case aB => exact (by repeat (first | (with_reducible first | exact HB.out | apply below_alloc | apply pw_below_drewN | apply below_drew1) | exact HB.out))); (case aF => exact (fun k_ hk => ⟨Kd.fresh' (Kd.R_lt (by (with_reducible repeat (first | apply Kd.R_alloc | apply Kd.R_drewN | apply Kd.R_drew)); exact HO154.out)) k_ hk, Kd.fresh' (Kd.R_lt (by (with_reducible repeat (first | apply Kd.R_alloc | apply Kd.R_drewN | apply Kd.R_drew)); exact HO161.out)) k_ hk, Kd.fresh' (Kd.R_lt (by (with_reducible repeat (first | apply Kd.R_alloc | apply Kd.R_drewN | apply Kd.R_drew)); exact HO164.out)) k_ hk⟩)); (case aO => exact (by (with_reducible repeat (first | apply Kd.R_alloc | apply Kd.R_drewN | apply Kd.R_drew)); exact HO167.out)); (case aS => exact (below_size (by repeat (first | (with_reducible first | exact HB.out | apply below_alloc | apply pw_below_drewN | apply below_drew1) | exact HB.out)))); (case aL => have := LMc20.out; omega); intro v169 w31 ho hb hg hat; rw [← Ny168.out] at ho; have n0_ := Aside0.mk (Kd.R_after (ok := (fun k_ => some k_ ≠ (.slice Ao32 t159.length co32 : Value).ownBlock ∧ some k_ ≠ (v163 : Value).ownBlock)) (by (with_reducible repeat (first | apply Kd.R_alloc | apply Kd.R_drewN | apply Kd.R_drew)); exact Kd.R_mono HO154.out (fun _ hk => ⟨⟨hk.1.1.2, hk.1.2⟩, hk.2⟩)) hg hat); have n1_ := Aside0.mk (Kd.R_after (ok := (fun k_ => some k_ ≠ (.slice Ao30 t152.length co30 : Value).ownBlock ∧ some k_ ≠ (v163 : Value).ownBlock)) (by (with_reducible repeat (first | apply Kd.R_alloc | apply Kd.R_drewN | apply Kd.R_drew)); exact Kd.R_mono HO161.out (fun _ hk => ⟨⟨hk.1.1.2, hk.1.2⟩, hk.2⟩)) hg hat); have n2_ := Aside0.mk (Kd.R_after (ok := (fun k_ => some k_ ≠ (.slice Ao30 t152.length co30 : Value).ownBlock ∧ some k_ ≠ (.slice Ao32 t159.length co32 : Value).ownBlock)) (by (with_reducible repeat (first | apply Kd.R_alloc | apply Kd.R_drewN | apply Kd.R_drew)); exact Kd.R_mono HO164.out (fun _ hk => ⟨⟨hk.1.1.2, hk.1.2⟩, hk.2⟩)) hg hat); have n3_ := Aside0.mk (hb); have n4_ := Aside0.mk (ho); clear HO154; clear HO161; clear HO164; clear HB; clear HO167; have HO154 := n0_; have HO161 := n1_; have HO164 := n2_; have HB := n3_; have HO170 := n4_; clear n0_ n1_ n2_ n3_ n4_; clear ho hb hg hat; obtain ⟨Ao33, co33, eo33⟩ := Kd.R_slice HO164.out; subst eo33; obtain ⟨Ao34, co34, eo34⟩ := Kd.R_slice HO170.out; subst eo34) | ((with_reducible refine gate_callee (f := 13) rfl ?_); refine goesL_ (some 51) rfl rfl Try.func13 (by kernel_rfl) rfl #[.slice Ao33 t162.length co33, .slice Ao34 y168.length co34] rfl (by (try simp only [List.map_toArray, List.map_cons, List.map_nil]); first | done | rfl | (simp only [List.length_drop, List.length_take]; rfl)) ?_; (with_reducible refine (towncrierref21_Same.calls kj5 _ _ t162 _ _ y168 true _ ?side1 ?side2 ?side3 ?side4 A21.out).mono ?_); (case side1 => repeat (first | exact (Kd.R_reads' HO164.out).2.2 | (with_reducible refine Kd.C_alloc ?_ _) | (with_reducible refine Kd.C_drewN ?_ _) | (with_reducible refine Kd.C_drew ?_))); (case side2 => exact (Kd.R_reads' HO164.out).2.1); (case side3 => repeat (first | exact (Kd.R_reads' HO170.out).2.2 | (with_reducible refine Kd.C_alloc ?_ _) | (with_reducible refine Kd.C_drewN ?_ _) | (with_reducible refine Kd.C_drew ?_))); (case side4 => exact (Kd.R_reads' HO170.out).2.1); rintro e w' ⟨rfl, ⟨nd, rfl⟩⟩; refine ⟨_, rfl, ?_⟩) | ((with_reducible refine gate_callee (f := 12) rfl ?_); refine goesL_ (some 56) rfl rfl Try.func12 (by kernel_rfl) rfl #[.slice A0 l0.length c0, .int .i64 a2] rfl (by (try simp only [List.map_toArray, List.map_cons, List.map_nil]); first | done | rfl | (simp only [List.length_drop, List.length_take]; rfl)) ?_; (with_reducible refine (audit_Notes.calls _ _ l0 a2 t172 _ ?side1 ?side2 A23.out).mono ?_); (case side1 => repeat (first | exact (Kd.C_below HR0.out (by repeat (first | (with_reducible first | exact HB.out | apply below_alloc | apply pw_below_drewN | apply below_drew1) | exact HB.out))) | (with_reducible refine Kd.C_alloc ?_ _) | (with_reducible refine Kd.C_drewN ?_ _) | (with_reducible refine Kd.C_drew ?_))); (case side2 => exact HC0.out); rintro e w35 ⟨v173, rfl, ho0, hb⟩; refine ⟨_, rfl, ?_⟩; have n0_ := Aside0.mk (Kd.R_elder' (by (with_reducible repeat (first | apply Kd.R_alloc | apply Kd.R_drewN | apply Kd.R_drew)); exact HO154.out) (Kd.R_base ho0) hb); have n1_ := Aside0.mk (Kd.R_elder' (by (with_reducible repeat (first | apply Kd.R_alloc | apply Kd.R_drewN | apply Kd.R_drew)); exact HO161.out) (Kd.R_base ho0) hb); have n2_ := Aside0.mk (Kd.R_elder' (by (with_reducible repeat (first | apply Kd.R_alloc | apply Kd.R_drewN | apply Kd.R_drew)); exact HO164.out) (Kd.R_base ho0) hb); have n3_ := Aside0.mk (Kd.R_elder' (by (with_reducible repeat (first | apply Kd.R_alloc | apply Kd.R_drewN | apply Kd.R_drew)); exact HO170.out) (Kd.R_base ho0) hb); have n4_ := Aside0.mk (Kd.R_lower (Kd.R_new' (Kd.R_new' (Kd.R_new' (Kd.R_new' ho0 (Kd.R_lt (by (with_reducible repeat (first | apply Kd.R_alloc | apply Kd.R_drewN | apply Kd.R_drew)); exact HO154.out))) (Kd.R_lt (by (with_reducible repeat (first | apply Kd.R_alloc | apply Kd.R_drewN | apply Kd.R_drew)); exact HO161.out))) (Kd.R_lt (by (with_reducible repeat (first | apply Kd.R_alloc | apply Kd.R_drewN | apply Kd.R_drew)); exact HO164.out))) (Kd.R_lt (by (with_reducible repeat (first | apply Kd.R_alloc | apply Kd.R_drewN | apply Kd.R_drew)); exact HO170.out))) (below_size (by repeat (first | (with_reducible first | exact HB.out | apply below_alloc | apply pw_below_drewN | apply below_drew1) | exact HB.out)))); have n5_ := Aside0.mk (below_step (by repeat (first | (with_reducible first | exact HB.out | apply below_alloc | apply pw_below_drewN | apply below_drew1) | exact HB.out)) hb); clear HO154; clear HO161; clear HO164; clear HO170; clear HB; have HO154 := n0_; have HO161 := n1_; have HO164 := n2_; have HO170 := n3_; have HO174 := n4_; have HB := n5_; clear n0_ n1_ n2_ n3_ n4_ n5_; (try clear hb); (try clear hb2); (try clear hk); (try clear hi); (try clear ho0)))
                  go_loopg [14] kj5 (fun kq v14 w' => ∃ (x14_2 : Int), v14 = .int .i64 x14_2 ∧ Aside0 (towncrierlaw21_AuditParts.l0 kq a2 t172 x14_2 = some r) ∧ Aside0 (kq ≤ kj5) ∧ Aside0 (Kd.R kNote 27 w' w.heap.size (fun _ => True) v173 t172) ∧ Aside0 (Below w.heap.size w w'))
                  case atStart => exact ⟨(0), (by first | rfl | (simp; done) | (simp [*]; done)), H', ⟨Nat.le_refl _⟩, ⟨by (with_reducible repeat (first | apply Kd.R_alloc | apply Kd.R_drewN | apply Kd.R_drew)); exact Kd.R_mono HO174.out (fun _ hk => trivial)⟩, ⟨by repeat (first | (with_reducible first | exact HB.out | apply below_alloc | apply pw_below_drewN | apply below_drew1) | exact HB.out)⟩⟩
                  case round =>
                    clear H'
                    try clear c1
                    try clear c2
                    try clear p2
                    try clear q2
                    try clear c4
                    try clear c8
                    try clear c9
                    try clear c9b0
                    try clear c9b1
                    try clear c10
                    try clear c10b0
                    try clear c11
                    try clear c12
                    try clear c12b0
                    try clear c12b1
                    try clear c13
                    try clear c13b0
                    try clear c13b1
                    try clear c15
                    try clear c15b0
                    try clear c16
                    try clear c16b0
                    try clear c19
                    try clear c20
                    try clear c22
                    try clear q24
                    try clear c26
                    try clear q26
                    try clear p2
                    try clear q026
                    try clear q24
                    try clear q26
                    obtain ⟨x14_2, rfl, HA, HK2, HO_13, HB⟩ := hrel
                    cases gk with
                    | zero => exact absurd HA.out (by simp [towncrierlaw21_AuditParts.l0])
                    | succ k2 =>
                      have H := HA.out
                      clear HA
                      simp only [towncrierlaw21_AuditParts.l0] at H
                      by_cases c36 : x14_2 < (t172.length : Int)
                      · rw [if_pos c36] at H
                        have c36b0 : decide (x14_2 < (t172.length : Int)) = true := decide_eq_true c36
                        clear c36
                        by_cases c37 : 0 ≤ x14_2
                        · rw [if_pos c37] at H
                          have c37b0 : decide (0 ≤ x14_2) = true := decide_eq_true c37
                          clear c37
                          by_cases c38 : ((rd_TNote t172 x14_2).f0) = a2
                          · rw [if_pos c38] at H
                            have c38b0 : (((rd_TNote t172 x14_2).f0) == a2) = true := beq_iff_eq.mpr c38
                            have c38b1 : (((rd_TNote t172 x14_2).f0) != a2) = false := bne_eq_false_iff_eq.mpr c38
                            clear c38
                            have H' := Aside0.mk H
                            clear H
                            obtain ⟨Ao39, co39, eo39⟩ := Kd.R_slice HO_13.out
                            subst eo39
                            have p175 : 0 ≤ (x14_2 : Int) := of_decide_eq_true (by first | (with_reducible assumption) | assumption)
                            have q175 : x14_2 < (t172.length : Int) := of_decide_eq_true (by first | (with_reducible assumption) | assumption)
                            obtain ⟨ad175, e175, hx175_0, hx175_1, hx175_2, hx175_3, hx175_4, hx175_5, hx175_6⟩ := at_TNote (Kd.R_reads' HO_13.out).2.2 x14_2 p175 q175
                            cases e175
                            replace p175 := eq_true p175
                            replace q175 := eq_true q175
                            go_wp2
                            go_roundg k2
                            case measure => have := HJ5.out; have := HK2.out; omega
                            case rel => exact ⟨(wrap64 (x14_2 + 1)), (by first | rfl | (simp; done) | (simp [*]; done)), H', ⟨by have := HJ5.out; have := HK2.out; omega⟩, ⟨by (with_reducible repeat (first | apply Kd.R_alloc | apply Kd.R_drewN | apply Kd.R_drew)); exact HO_13.out⟩, ⟨by repeat (first | (with_reducible first | exact HB.out | apply below_alloc | apply pw_below_drewN | apply below_drew1) | exact HB.out)⟩⟩
                          · rw [if_neg c38] at H
                            have c38b0 : (((rd_TNote t172 x14_2).f0) == a2) = false := beq_eq_false_iff_ne.mpr c38
                            have c38b1 : (((rd_TNote t172 x14_2).f0) != a2) = true := bne_iff_ne.mpr c38
                            obtain rfl := Option.some.inj H
                            obtain ⟨Ao40, co40, eo40⟩ := Kd.R_slice HO_13.out
                            subst eo40
                            have p175 : 0 ≤ (x14_2 : Int) := of_decide_eq_true (by first | (with_reducible assumption) | assumption)
                            have q175 : x14_2 < (t172.length : Int) := of_decide_eq_true (by first | (with_reducible assumption) | assumption)
                            obtain ⟨ad175, e175, hx175_0, hx175_1, hx175_2, hx175_3, hx175_4, hx175_5, hx175_6⟩ := at_TNote (Kd.R_reads' HO_13.out).2.2 x14_2 p175 q175
                            cases e175
                            replace p175 := eq_true p175
                            replace q175 := eq_true q175
                            go_wp2
                            go_ret
                            exact ⟨by first | rfl | (simp [errW_none, errW_some] <;> rfl) | (simp [*, errW_none, errW_some] <;> rfl), by repeat (first | (with_reducible first | exact HB.out | apply below_alloc | apply pw_below_drewN | apply below_drew1) | exact HB.out)⟩
                        · rw [if_neg c37] at H
                          exact absurd H (by simp)
                      · rw [if_neg c36] at H
                        have c36b0 : decide (x14_2 < (t172.length : Int)) = false := decide_eq_false c36
                        clear c36
                        obtain rfl := Option.some.inj H
                        obtain ⟨Ao41, co41, eo41⟩ := Kd.R_slice HO_13.out
                        subst eo41
                        go_wp2
                        go_ret
                        exact ⟨by first | rfl | (simp [errW_none, errW_some] <;> rfl) | (simp [*, errW_none, errW_some] <;> rfl), by repeat (first | (with_reducible first | exact HB.out | apply below_alloc | apply pw_below_drewN | apply below_drew1) | exact HB.out)⟩
                · replace c22 := Bool.eq_false_iff.mpr c22
                  subst c22
                  have H1 : (some false) = some r := by rw [if_neg (show ¬ (false = true) by decide)] at H; exact H
                  clear H
                  have H := H1
                  clear H1
                  obtain rfl := Option.some.inj H
                  have q42 : (a3 : Int) ≤ ((l0.length : Int) : Int) := of_decide_eq_true (by first | (with_reducible assumption) | assumption)
                  obtain ⟨i042, hi042, _, hsz42, _⟩ := info_parts infoRes
                  have hroom42 : l0.length ≤ c0 := HC0.out
                  have hC42 : Kd.C kRes _ A0 l0.length l0 := HR0.out
                  have hcut42 := cut_to (P := Try.prog) 30 43 .i64 Try.underlying30 hi042 A0 l0.length c0 a3 (of_decide_eq_true (by first | (with_reducible assumption) | assumption)) q42 hroom42
                  have hr42 := Kd.C_take (m := (a3 : Int).toNat) hC42 (by omega)
                  have hy42 : y148.length = (a3 : Int).toNat := (by rw [Ny148.out, List.length_take]; omega)
                  rw [← Ny148.out] at hr42
                  rw [← hy42] at hcut42
                  have HR151 := Aside0.mk hr42
                  have HC151 := Aside0.mk (show y148.length ≤ c0 from by omega)
                  clear hr42 hC42 hroom42 hi042 hsz42
                  have KY42 := Aside0.mk hy42
                  clear hy42
                  replace q42 := eq_true q42
                  go_wp2_with (first | ((with_reducible refine gate_callee (f := 12) rfl ?_); refine goesL_ (some 38) rfl rfl Try.func12 (by kernel_rfl) rfl #[.slice A0 y148.length c0, .int .i64 a1] rfl (by (try simp only [List.map_toArray, List.map_cons, List.map_nil]); first | done | rfl | (simp only [List.length_drop, List.length_take]; rfl)) ?_; (with_reducible refine (audit_Notes.calls _ _ y148 a1 t152 _ ?side1 ?side2 A14.out).mono ?_); (case side1 => repeat (first | exact (Kd.C_below HR151.out HB.out) | (with_reducible refine Kd.C_alloc ?_ _) | (with_reducible refine Kd.C_drewN ?_ _) | (with_reducible refine Kd.C_drew ?_))); (case side2 => exact HC151.out); rintro e w43 ⟨v153, rfl, ho0, hb⟩; refine ⟨_, rfl, ?_⟩; have n0_ := Aside0.mk (Kd.R_lower ho0 (below_size (by repeat (first | (with_reducible first | exact HB.out | apply below_alloc | apply pw_below_drewN | apply below_drew1) | exact HB.out)))); have n1_ := Aside0.mk (below_step (by repeat (first | (with_reducible first | exact HB.out | apply below_alloc | apply pw_below_drewN | apply below_drew1) | exact HB.out)) hb); clear HB; have HO154 := n0_; have HB := n1_; clear n0_ n1_; (try clear hb); (try clear hb2); (try clear hk); (try clear hi); (try clear ho0); have q44 : (a3 : Int) ≤ ((l0.length : Int) : Int) := of_decide_eq_true (by first | (with_reducible assumption) | assumption); obtain ⟨i044, hi044, _, hsz44, _⟩ := info_parts infoRes; have hroom44 : l0.length ≤ c0 := HC0.out; have hC44 : Kd.C kRes _ A0 l0.length l0 := HR0.out; have q044 : (0 : Int) ≤ (a3 : Int) := of_decide_eq_true (by first | (with_reducible assumption) | assumption); have hcut44 := cut_from (P := Try.prog) 30 43 .i64 Try.underlying30 hi044 11 hsz44 A0 l0.length c0 a3 q044 q44; have hr44 := Kd.C_drop (m := (a3 : Int).toNat) (c := c0) hC44 (by omega) hroom44; obtain ⟨A44, hA44⟩ : ∃ A1z_, A1z_ = (if c0 = (a3 : Int).toNat then A0 else (A0 : Option Addr).map (·.add ((a3 : Int).toNat * 11))) := ⟨_, rfl⟩; obtain ⟨c44, hc44⟩ : ∃ c1z_, c1z_ = c0 - (a3 : Int).toNat := ⟨_, rfl⟩; have hy44 : y155.length = l0.length - (a3 : Int).toNat := (by rw [Ny155.out, List.length_drop] <;> omega); rw [show (l0).drop (a3 : Int).toNat = y155 from Ny155.out.symm] at hr44; replace hr44 : Kd.C kRes _ A44 y155.length y155 := (by rw [hA44]; exact hr44); rw [← hy44, ← hA44, ← hc44] at hcut44; have HR158 := Aside0.mk hr44; have HC158 := Aside0.mk (show y155.length ≤ c44 from by rw [hy44, hc44]; exact Nat.sub_le_sub_right hroom44 _); clear hr44 hC44 hroom44 hi044 hsz44 hc44; have KY44 := Aside0.mk hy44; have KA44 := Aside0.mk hA44; clear hy44 hA44; replace q44 := eq_true q44) | ((with_reducible refine gate_callee (f := 12) rfl ?_); refine goesL_ (some 43) rfl rfl Try.func12 (by kernel_rfl) rfl #[.slice A44 y155.length c44, .int .i64 a1] rfl (by (try simp only [List.map_toArray, List.map_cons, List.map_nil]); first | done | rfl | (simp only [List.length_drop, List.length_take]; rfl)) ?_; (with_reducible refine (audit_Notes.calls _ _ y155 a1 t159 _ ?side1 ?side2 A17.out).mono ?_); (case side1 => repeat (first | exact (Kd.C_below HR158.out HB.out) | (with_reducible refine Kd.C_alloc ?_ _) | (with_reducible refine Kd.C_drewN ?_ _) | (with_reducible refine Kd.C_drew ?_))); (case side2 => exact HC158.out); rintro e w45 ⟨v160, rfl, ho0, hb⟩; refine ⟨_, rfl, ?_⟩; have n0_ := Aside0.mk (Kd.R_elder' (by (with_reducible repeat (first | apply Kd.R_alloc | apply Kd.R_drewN | apply Kd.R_drew)); exact HO154.out) (Kd.R_base ho0) hb); have n1_ := Aside0.mk (Kd.R_lower (Kd.R_new' ho0 (Kd.R_lt (by (with_reducible repeat (first | apply Kd.R_alloc | apply Kd.R_drewN | apply Kd.R_drew)); exact HO154.out))) (below_size (by repeat (first | (with_reducible first | exact HB.out | apply below_alloc | apply pw_below_drewN | apply below_drew1) | exact HB.out)))); have n2_ := Aside0.mk (below_step (by repeat (first | (with_reducible first | exact HB.out | apply below_alloc | apply pw_below_drewN | apply below_drew1) | exact HB.out)) hb); clear HO154; clear HB; have HO154 := n0_; have HO161 := n1_; have HB := n2_; clear n0_ n1_ n2_; (try clear hb); (try clear hb2); (try clear hk); (try clear hi); (try clear ho0)) | ((with_reducible refine gate_callee (f := 12) rfl ?_); refine goesL_ (some 46) rfl rfl Try.func12 (by kernel_rfl) rfl #[.slice A0 l0.length c0, .int .i64 a1] rfl (by (try simp only [List.map_toArray, List.map_cons, List.map_nil]); first | done | rfl | (simp only [List.length_drop, List.length_take]; rfl)) ?_; (with_reducible refine (audit_Notes.calls _ _ l0 a1 t162 _ ?side1 ?side2 A18.out).mono ?_); (case side1 => repeat (first | exact (Kd.C_below HR0.out HB.out) | (with_reducible refine Kd.C_alloc ?_ _) | (with_reducible refine Kd.C_drewN ?_ _) | (with_reducible refine Kd.C_drew ?_))); (case side2 => exact HC0.out); rintro e w46 ⟨v163, rfl, ho0, hb⟩; refine ⟨_, rfl, ?_⟩; have n0_ := Aside0.mk (Kd.R_elder' (by (with_reducible repeat (first | apply Kd.R_alloc | apply Kd.R_drewN | apply Kd.R_drew)); exact HO154.out) (Kd.R_base ho0) hb); have n1_ := Aside0.mk (Kd.R_elder' (by (with_reducible repeat (first | apply Kd.R_alloc | apply Kd.R_drewN | apply Kd.R_drew)); exact HO161.out) (Kd.R_base ho0) hb); have n2_ := Aside0.mk (Kd.R_lower (Kd.R_new' (Kd.R_new' ho0 (Kd.R_lt (by (with_reducible repeat (first | apply Kd.R_alloc | apply Kd.R_drewN | apply Kd.R_drew)); exact HO154.out))) (Kd.R_lt (by (with_reducible repeat (first | apply Kd.R_alloc | apply Kd.R_drewN | apply Kd.R_drew)); exact HO161.out))) (below_size (by repeat (first | (with_reducible first | exact HB.out | apply below_alloc | apply pw_below_drewN | apply below_drew1) | exact HB.out)))); have n3_ := Aside0.mk (below_step (by repeat (first | (with_reducible first | exact HB.out | apply below_alloc | apply pw_below_drewN | apply below_drew1) | exact HB.out)) hb); clear HO154; clear HO161; clear HB; have HO154 := n0_; have HO161 := n1_; have HO164 := n2_; have HB := n3_; clear n0_ n1_ n2_ n3_; (try clear hb); (try clear hb2); (try clear hk); (try clear hi); (try clear ho0); obtain ⟨Ao48, co48, eo48⟩ := Kd.R_slice HO154.out; subst eo48) | ((with_reducible refine gate_builtin (b := .append) (xs := #[.const (.slice none 0 0), .tmp 47]) rfl ?_); (try (refine gate_guard (by rfl) ?_; dsimp only)); at_builtin; refine Kd.R_append_rows kNote (w0 := w) w.heap.size rfl (.const (.slice none 0 0)) (.tmp 47) 22 27 (.agg #[(.int .i64 0), (.int .i64 0), (.int .i64 0), (.int .i64 0), (.int .i64 0), (.int .i64 0), (.bool false)]) 56 rfl Try.underlying22 infoNote rfl (by decide) (by omega) (.slice none 0 0) ([] : List (SNote)) t152 _ _ _ (fun k_ => some k_ ≠ (.slice Ao48 t152.length co48 : Value).ownBlock ∧ some k_ ≠ (v160 : Value).ownBlock ∧ some k_ ≠ (v163 : Value).ownBlock) (fun _ => False) rfl rfl ?aO ?aR (fun _ _ h => h) (fun _ h => h.elim) ?aF ?aB ?aS ?aL ?_; (case aR => repeat (first | exact (Kd.R_reads' HO154.out).2.2 | (with_reducible refine Kd.C_alloc ?_ _) | (with_reducible refine Kd.C_drewN ?_ _) | (with_reducible refine Kd.C_drew ?_))); (case aB => exact (by repeat (first | (with_reducible first | exact HB.out | apply below_alloc | apply pw_below_drewN | apply below_drew1) | exact HB.out))); (case aF => exact (fun k_ hk => ⟨Kd.fresh' (Kd.R_lt (by (with_reducible repeat (first | apply Kd.R_alloc | apply Kd.R_drewN | apply Kd.R_drew)); exact HO154.out)) k_ hk, Kd.fresh' (Kd.R_lt (by (with_reducible repeat (first | apply Kd.R_alloc | apply Kd.R_drewN | apply Kd.R_drew)); exact HO161.out)) k_ hk, Kd.fresh' (Kd.R_lt (by (with_reducible repeat (first | apply Kd.R_alloc | apply Kd.R_drewN | apply Kd.R_drew)); exact HO164.out)) k_ hk⟩)); (case aO => exact ((Kd.R_nil _ _ _ _ (fun k_ => some k_ ≠ (.slice Ao48 t152.length co48 : Value).ownBlock ∧ some k_ ≠ (v160 : Value).ownBlock ∧ some k_ ≠ (v163 : Value).ownBlock)))); (case aS => exact (below_size (by repeat (first | (with_reducible first | exact HB.out | apply below_alloc | apply pw_below_drewN | apply below_drew1) | exact HB.out)))); (case aL => have := LMc19.out; omega); intro v166 w47 ho hb hg hat; rw [← Ny165.out] at ho; have n0_ := Aside0.mk (Kd.R_after (Kd.R_apart_nil (by (with_reducible repeat (first | apply Kd.R_alloc | apply Kd.R_drewN | apply Kd.R_drew)); exact HO154.out)) hg hat); have n1_ := Aside0.mk (Kd.R_after (Kd.R_apart_nil (by (with_reducible repeat (first | apply Kd.R_alloc | apply Kd.R_drewN | apply Kd.R_drew)); exact HO161.out)) hg hat); have n2_ := Aside0.mk (Kd.R_after (Kd.R_apart_nil (by (with_reducible repeat (first | apply Kd.R_alloc | apply Kd.R_drewN | apply Kd.R_drew)); exact HO164.out)) hg hat); have n3_ := Aside0.mk (hb); have n4_ := Aside0.mk (ho); clear HO154; clear HO161; clear HO164; clear HB; have HO154 := n0_; have HO161 := n1_; have HO164 := n2_; have HB := n3_; have HO167 := n4_; clear n0_ n1_ n2_ n3_ n4_; clear ho hb hg hat; obtain ⟨Ao50, co50, eo50⟩ := Kd.R_slice HO161.out; subst eo50) | ((with_reducible refine gate_builtin (b := .append) (xs := #[.tmp 48, .tmp 49]) rfl ?_); (try (refine gate_guard (by rfl) ?_; dsimp only)); at_builtin; refine Kd.R_append_rows kNote (w0 := w) w.heap.size rfl (.tmp 48) (.tmp 49) 22 27 (.agg #[(.int .i64 0), (.int .i64 0), (.int .i64 0), (.int .i64 0), (.int .i64 0), (.int .i64 0), (.bool false)]) 56 rfl Try.underlying22 infoNote rfl (by decide) (by omega) v166 y165 t159 _ _ _ (fun k_ => some k_ ≠ (.slice Ao48 t152.length co48 : Value).ownBlock ∧ some k_ ≠ (.slice Ao50 t159.length co50 : Value).ownBlock ∧ some k_ ≠ (v163 : Value).ownBlock) (fun _ => False) rfl rfl ?aO ?aR (fun _ _ h => h) (fun _ h => h.elim) ?aF ?aB ?aS ?aL ?_; (case aR => repeat (first | exact (Kd.R_reads' HO161.out).2.2 | (with_reducible refine Kd.C_alloc ?_ _) | (with_reducible refine Kd.C_drewN ?_ _) | (with_reducible refine Kd.C_drew ?_))); (case aB => exact (by repeat (first | (with_reducible first | exact HB.out | apply below_alloc | apply pw_below_drewN | apply below_drew1) | exact HB.out))); (case aF => exact (fun k_ hk => ⟨Kd.fresh' (Kd.R_lt (by (with_reducible repeat (first | apply Kd.R_alloc | apply Kd.R_drewN | apply Kd.R_drew)); exact HO154.out)) k_ hk, Kd.fresh' (Kd.R_lt (by (with_reducible repeat (first | apply Kd.R_alloc | apply Kd.R_drewN | apply Kd.R_drew)); exact HO161.out)) k_ hk, Kd.fresh' (Kd.R_lt (by (with_reducible repeat (first | apply Kd.R_alloc | apply Kd.R_drewN | apply Kd.R_drew)); exact HO164.out)) k_ hk⟩)); (case aO => exact (by (with_reducible repeat (first | apply Kd.R_alloc | apply Kd.R_drewN | apply Kd.R_drew)); exact HO167.out)); (case aS => exact (below_size (by repeat (first | (with_reducible first | exact HB.out | apply below_alloc | apply pw_below_drewN | apply below_drew1) | exact HB.out)))); (case aL => have := LMc20.out; omega); intro v169 w49 ho hb hg hat; rw [← Ny168.out] at ho; have n0_ := Aside0.mk (Kd.R_after (ok := (fun k_ => some k_ ≠ (.slice Ao50 t159.length co50 : Value).ownBlock ∧ some k_ ≠ (v163 : Value).ownBlock)) (by (with_reducible repeat (first | apply Kd.R_alloc | apply Kd.R_drewN | apply Kd.R_drew)); exact Kd.R_mono HO154.out (fun _ hk => ⟨⟨hk.1.1.2, hk.1.2⟩, hk.2⟩)) hg hat); have n1_ := Aside0.mk (Kd.R_after (ok := (fun k_ => some k_ ≠ (.slice Ao48 t152.length co48 : Value).ownBlock ∧ some k_ ≠ (v163 : Value).ownBlock)) (by (with_reducible repeat (first | apply Kd.R_alloc | apply Kd.R_drewN | apply Kd.R_drew)); exact Kd.R_mono HO161.out (fun _ hk => ⟨⟨hk.1.1.2, hk.1.2⟩, hk.2⟩)) hg hat); have n2_ := Aside0.mk (Kd.R_after (ok := (fun k_ => some k_ ≠ (.slice Ao48 t152.length co48 : Value).ownBlock ∧ some k_ ≠ (.slice Ao50 t159.length co50 : Value).ownBlock)) (by (with_reducible repeat (first | apply Kd.R_alloc | apply Kd.R_drewN | apply Kd.R_drew)); exact Kd.R_mono HO164.out (fun _ hk => ⟨⟨hk.1.1.2, hk.1.2⟩, hk.2⟩)) hg hat); have n3_ := Aside0.mk (hb); have n4_ := Aside0.mk (ho); clear HO154; clear HO161; clear HO164; clear HB; clear HO167; have HO154 := n0_; have HO161 := n1_; have HO164 := n2_; have HB := n3_; have HO170 := n4_; clear n0_ n1_ n2_ n3_ n4_; clear ho hb hg hat; obtain ⟨Ao51, co51, eo51⟩ := Kd.R_slice HO164.out; subst eo51; obtain ⟨Ao52, co52, eo52⟩ := Kd.R_slice HO170.out; subst eo52) | ((with_reducible refine gate_callee (f := 13) rfl ?_); refine goesL_ (some 51) rfl rfl Try.func13 (by kernel_rfl) rfl #[.slice Ao51 t162.length co51, .slice Ao52 y168.length co52] rfl (by (try simp only [List.map_toArray, List.map_cons, List.map_nil]); first | done | rfl | (simp only [List.length_drop, List.length_take]; rfl)) ?_; (with_reducible refine (towncrierref21_Same.calls kj5 _ _ t162 _ _ y168 false _ ?side1 ?side2 ?side3 ?side4 A21.out).mono ?_); (case side1 => repeat (first | exact (Kd.R_reads' HO164.out).2.2 | (with_reducible refine Kd.C_alloc ?_ _) | (with_reducible refine Kd.C_drewN ?_ _) | (with_reducible refine Kd.C_drew ?_))); (case side2 => exact (Kd.R_reads' HO164.out).2.1); (case side3 => repeat (first | exact (Kd.R_reads' HO170.out).2.2 | (with_reducible refine Kd.C_alloc ?_ _) | (with_reducible refine Kd.C_drewN ?_ _) | (with_reducible refine Kd.C_drew ?_))); (case side4 => exact (Kd.R_reads' HO170.out).2.1); rintro e w' ⟨rfl, ⟨nd, rfl⟩⟩; refine ⟨_, rfl, ?_⟩))
                  go_ret
                  exact ⟨by first | rfl | (simp [errW_none, errW_some] <;> rfl) | (simp [*, errW_none, errW_some] <;> rfl), by repeat (first | (with_reducible first | exact HB.out | apply below_alloc | apply pw_below_drewN | apply below_drew1) | exact HB.out)⟩
              · rw [if_neg c20] at H
                exact absurd H (by simp)
            · rw [if_neg c19] at H
              exact absurd H (by simp)
          · rw [if_neg c13] at H
            exact absurd H (by simp)
        · rw [if_neg c12] at H
          exact absurd H (by simp)

end Go.Proofs.Yteiaoanfdkgmoaa.P
