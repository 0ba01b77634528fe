/- The functions that the laws of this seat reach, as plain Lean functions, and for each the contract of its call: no condition but those that each theorem names. -/
import Derived.Test.YteiaoanfdkgmoaaP0
import Derived.Test.YteiaoanfdkgmoaaP5
import Derived.Test.YteiaoanfdkgmoaaP7
import Derived.Test.YteiaoanfdkgmoaaP9
import Derived.Test.YteiaoanfdkgmoaaP11
import Derived.Test.YteiaoanfdkgmoaaP12
import Derived.Test.YteiaoanfdkgmoaaP14
import Derived.Test.YteiaoanfdkgmoaaP16
import Derived.Test.YteiaoanfdkgmoaaP21
import Derived.Test.YteiaoanfdkgmoaaP22
import Derived.Test.YteiaoanfdkgmoaaP23
import Derived.Test.YteiaoanfdkgmoaaP24
import Derived.Test.YteiaoanfdkgmoaaP25
import Derived.Test.YteiaoanfdkgmoaaP27
import Derived.Test.YteiaoanfdkgmoaaP28
import Derived.Test.YteiaoanfdkgmoaaP29
namespace Go.Proofs.Yteiaoanfdkgmoaa.P
open Go.RowKit Go.Proofs.YteiaoanfdkgmoaaW.PrintWords Go.Proofs.YteiaoanfdkgmoaaW.PrintLast Go.Proofs.YteiaoanfdkgmoaaW.PrintMore
attribute [local go_sem] max2_int min2_int max_two min_two max_three min_three max_four min_four   -- for this text's walks alone
set_option linter.unusedVariables false
set_option linter.unusedSimpArgs false

/-! ### towncrierlaw21_AuditTells: function 8 -/
mutual
def towncrierlaw21_AuditTells.j0 : Nat → List (SRes) → Int → List (SNote) → Int → List (SReq) → List (SMatch) → Int → Bool → Bool → Option (Bool)
  | 0, _, _, _, _, _, _, _, _, _ => none
  | k + 1, x0, x1, x2, x3, x4, x5, x6, x15, x49 => if x49 = true then (some x15) else (towncrierlaw21_AuditTells.l0 k x0 x1 x2 x3 x4 x5 x6 ([] : List (SEvent)) 0)
def towncrierlaw21_AuditTells.l0 : Nat → List (SRes) → Int → List (SNote) → Int → List (SReq) → List (SMatch) → Int → List (SEvent) → Int → Option (Bool)
  | 0, _, _, _, _, _, _, _, _, _ => none
  | k + 1, x0, x1, x2, x3, x4, x5, x6, x16, x17 => if x17 < (x4.length : Int) then (if 0 ≤ x17 then (if x16.length < 2932031007402 then (towncrierlaw21_AuditTells.l0 k x0 x1 x2 x3 x4 x5 x6 (x16 ++ [(⟨(rd_TReq x4 x17).f5.f0, (rd_TReq x4 x17).f5.f1, (rd_TReq x4 x17).f5.f2⟩ : SEvent)]) (wrap64 (x17 + 1))) else (none)) else (none)) else ((towncrierlaw12_Log.f k x16 40).bind fun t283 => (if t283 = true then ((audit_Notes.f x0 x1).bind fun t284 => ((towncrierref21_Notes.f k x0 x1).bind fun t287 => ((towncrierref21_Same.f k t284 t287).bind fun t290 => ((audit_Shift.f k x5 x6).bind fun t291 => ((towncrierref21_Shift.f x5 x6).bind fun t294 => ((towncrierref12_Same.f k t291 t294).bind fun t297 => ((towncrierref21_Line.f k x2 x3).bind fun t298 => ((towncrierref21_Right.f k x2 x5).bind fun t299 => ((audit_Log.f k x4 x0).bind fun t300 => ((towncrierref21_Log.f k x4 x0).bind fun t303 => (if (t300.length : Int) = (t303.length : Int) then (towncrierlaw21_AuditTells.l1 k x2 x3 x5 t290 t297 t298 t299 t300 t303 0) else (some false)))))))))))) else (some true)))
def towncrierlaw21_AuditTells.l1 : Nat → List (SNote) → Int → List (SMatch) → Bool → Bool → Bool → Bool → List (SEvent) → List (SEvent) → Int → Option (Bool)
  | 0, _, _, _, _, _, _, _, _, _, _ => none
  | k + 1, x2, x3, x5, x19, x20, x21, x22, x23, x24, x25 => if x25 < (x23.length : Int) then (if 0 ≤ x25 then (if x25 < (x24.length : Int) then ((towncrierref06_Same.f k ((rd_TEvent x23 x25).f0) ((rd_TEvent x23 x25).f1) ((rd_TEvent x23 x25).f2) ((rd_TEvent x24 x25).f0) ((rd_TEvent x24 x25).f1) ((rd_TEvent x24 x25).f2)).bind fun t308 => (if t308 = true then (towncrierlaw21_AuditTells.l1 k x2 x3 x5 x19 x20 x21 x22 x23 x24 (wrap64 (x25 + 1))) else (some false))) else (none)) else (none)) else (if x19 = true then (if x20 = true then ((audit_Line.f x2 x3).bind fun t309 => (if (t309 == x21) = true then ((audit_Right.f x2 x5).bind fun t310 => (some (t310 == x22))) else (some false))) else (some false)) else (some false))
end
def towncrierlaw21_AuditTells.f (k : Nat) (l0 : List (SRes)) (a1 : Int) (l2 : List (SNote)) (a3 : Int) (l4 : List (SReq)) (l5 : List (SMatch)) (a6 : Int) : Option (Bool) := (towncrierlaw21_awake.f k).bind fun t278 => (if t278 = true then (if (l0.length : Int) > 40 then (towncrierlaw21_AuditTells.j0 k l0 a1 l2 a3 l4 l5 a6 t278 true) else (if (l2.length : Int) > 40 then (towncrierlaw21_AuditTells.j0 k l0 a1 l2 a3 l4 l5 a6 t278 true) else (if (l4.length : Int) > 40 then (towncrierlaw21_AuditTells.j0 k l0 a1 l2 a3 l4 l5 a6 t278 true) else (towncrierlaw21_AuditTells.j0 k l0 a1 l2 a3 l4 l5 a6 t278 (decide ((l5.length : Int) > 40)))))) else (towncrierlaw21_AuditTells.j0 k l0 a1 l2 a3 l4 l5 a6 t278 true))
theorem towncrierlaw21_AuditTells.mono_l : ∀ k, (∀ y0 y1 y2 y3 y4 y5 y6 y7 y8, LeO (towncrierlaw21_AuditTells.j0 k y0 y1 y2 y3 y4 y5 y6 y7 y8) (towncrierlaw21_AuditTells.j0 (k + 1) y0 y1 y2 y3 y4 y5 y6 y7 y8)) ∧ (∀ y0 y1 y2 y3 y4 y5 y6 y7 y8, LeO (towncrierlaw21_AuditTells.l0 k y0 y1 y2 y3 y4 y5 y6 y7 y8) (towncrierlaw21_AuditTells.l0 (k + 1) y0 y1 y2 y3 y4 y5 y6 y7 y8)) ∧ (∀ y0 y1 y2 y3 y4 y5 y6 y7 y8 y9, LeO (towncrierlaw21_AuditTells.l1 k y0 y1 y2 y3 y4 y5 y6 y7 y8 y9) (towncrierlaw21_AuditTells.l1 (k + 1) y0 y1 y2 y3 y4 y5 y6 y7 y8 y9))
  | 0 => ⟨fun _ _ _ _ _ _ _ _ _ r h => by simp [towncrierlaw21_AuditTells.j0] at h, fun _ _ _ _ _ _ _ _ _ r h => by simp [towncrierlaw21_AuditTells.l0] at h, fun _ _ _ _ _ _ _ _ _ _ r h => by simp [towncrierlaw21_AuditTells.l1] at h⟩
  | k + 1 => by
    obtain ⟨ih0, ih1, ih2⟩ := towncrierlaw21_AuditTells.mono_l k
    refine ⟨?_, ?_, ?_⟩
    · intro y0 y1 y2 y3 y4 y5 y6 y7 y8
      unfold towncrierlaw21_AuditTells.j0
      repeat' first
      | (with_reducible exact ih0 _ _ _ _ _ _ _ _ _)
      | (with_reducible exact ih1 _ _ _ _ _ _ _ _ _)
      | (with_reducible exact ih2 _ _ _ _ _ _ _ _ _ _)
      | (with_reducible exact audit_Log.mono _ _ _)
      | (with_reducible exact audit_Shift.mono _ _ _)
      | (with_reducible exact towncrierlaw12_Log.mono _ _ _)
      | (with_reducible exact towncrierlaw21_awake.mono _)
      | (with_reducible exact towncrierref06_Same.mono _ _ _ _ _ _ _)
      | (with_reducible exact towncrierref12_Same.mono _ _ _)
      | (with_reducible exact towncrierref21_Line.mono _ _ _)
      | (with_reducible exact towncrierref21_Log.mono _ _ _)
      | (with_reducible exact towncrierref21_Notes.mono _ _ _)
      | (with_reducible exact towncrierref21_Right.mono _ _ _)
      | (with_reducible exact towncrierref21_Same.mono _ _ _)
      | (with_reducible exact LeO.refl _)
      | (with_reducible exact LeO.none _)
      | (with_reducible refine LeO.ite ?_ ?_)
      | (with_reducible refine LeO.bind ?_ (fun _ => ?_))
      | exact ih0 _ _ _ _ _ _ _ _ _
      | exact ih1 _ _ _ _ _ _ _ _ _
      | exact ih2 _ _ _ _ _ _ _ _ _ _
      | exact audit_Log.mono _ _ _
      | exact audit_Shift.mono _ _ _
      | exact towncrierlaw12_Log.mono _ _ _
      | exact towncrierlaw21_awake.mono _
      | exact towncrierref06_Same.mono _ _ _ _ _ _ _
      | exact towncrierref12_Same.mono _ _ _
      | exact towncrierref21_Line.mono _ _ _
      | exact towncrierref21_Log.mono _ _ _
      | exact towncrierref21_Notes.mono _ _ _
      | exact towncrierref21_Right.mono _ _ _
      | exact towncrierref21_Same.mono _ _ _
      | exact LeO.none _
      | refine LeO.ite ?_ ?_
      | refine LeO.bind ?_ (fun _ => ?_)
    · intro y0 y1 y2 y3 y4 y5 y6 y7 y8
      unfold towncrierlaw21_AuditTells.l0
      repeat' first
      | (with_reducible exact ih0 _ _ _ _ _ _ _ _ _)
      | (with_reducible exact ih1 _ _ _ _ _ _ _ _ _)
      | (with_reducible exact ih2 _ _ _ _ _ _ _ _ _ _)
      | (with_reducible exact audit_Log.mono _ _ _)
      | (with_reducible exact audit_Shift.mono _ _ _)
      | (with_reducible exact towncrierlaw12_Log.mono _ _ _)
      | (with_reducible exact towncrierlaw21_awake.mono _)
      | (with_reducible exact towncrierref06_Same.mono _ _ _ _ _ _ _)
      | (with_reducible exact towncrierref12_Same.mono _ _ _)
      | (with_reducible exact towncrierref21_Line.mono _ _ _)
      | (with_reducible exact towncrierref21_Log.mono _ _ _)
      | (with_reducible exact towncrierref21_Notes.mono _ _ _)
      | (with_reducible exact towncrierref21_Right.mono _ _ _)
      | (with_reducible exact towncrierref21_Same.mono _ _ _)
      | (with_reducible exact LeO.refl _)
      | (with_reducible exact LeO.none _)
      | (with_reducible refine LeO.ite ?_ ?_)
      | (with_reducible refine LeO.bind ?_ (fun _ => ?_))
      | exact ih0 _ _ _ _ _ _ _ _ _
      | exact ih1 _ _ _ _ _ _ _ _ _
      | exact ih2 _ _ _ _ _ _ _ _ _ _
      | exact audit_Log.mono _ _ _
      | exact audit_Shift.mono _ _ _
      | exact towncrierlaw12_Log.mono _ _ _
      | exact towncrierlaw21_awake.mono _
      | exact towncrierref06_Same.mono _ _ _ _ _ _ _
      | exact towncrierref12_Same.mono _ _ _
      | exact towncrierref21_Line.mono _ _ _
      | exact towncrierref21_Log.mono _ _ _
      | exact towncrierref21_Notes.mono _ _ _
      | exact towncrierref21_Right.mono _ _ _
      | exact towncrierref21_Same.mono _ _ _
      | exact LeO.none _
      | refine LeO.ite ?_ ?_
      | refine LeO.bind ?_ (fun _ => ?_)
    · intro y0 y1 y2 y3 y4 y5 y6 y7 y8 y9
      unfold towncrierlaw21_AuditTells.l1
      repeat' first
      | (with_reducible exact ih0 _ _ _ _ _ _ _ _ _)
      | (with_reducible exact ih1 _ _ _ _ _ _ _ _ _)
      | (with_reducible exact ih2 _ _ _ _ _ _ _ _ _ _)
      | (with_reducible exact audit_Log.mono _ _ _)
      | (with_reducible exact audit_Shift.mono _ _ _)
      | (with_reducible exact towncrierlaw12_Log.mono _ _ _)
      | (with_reducible exact towncrierlaw21_awake.mono _)
      | (with_reducible exact towncrierref06_Same.mono _ _ _ _ _ _ _)
      | (with_reducible exact towncrierref12_Same.mono _ _ _)
      | (with_reducible exact towncrierref21_Line.mono _ _ _)
      | (with_reducible exact towncrierref21_Log.mono _ _ _)
      | (with_reducible exact towncrierref21_Notes.mono _ _ _)
      | (with_reducible exact towncrierref21_Right.mono _ _ _)
      | (with_reducible exact towncrierref21_Same.mono _ _ _)
      | (with_reducible exact LeO.refl _)
      | (with_reducible exact LeO.none _)
      | (with_reducible refine LeO.ite ?_ ?_)
      | (with_reducible refine LeO.bind ?_ (fun _ => ?_))
      | exact ih0 _ _ _ _ _ _ _ _ _
      | exact ih1 _ _ _ _ _ _ _ _ _
      | exact ih2 _ _ _ _ _ _ _ _ _ _
      | exact audit_Log.mono _ _ _
      | exact audit_Shift.mono _ _ _
      | exact towncrierlaw12_Log.mono _ _ _
      | exact towncrierlaw21_awake.mono _
      | exact towncrierref06_Same.mono _ _ _ _ _ _ _
      | exact towncrierref12_Same.mono _ _ _
      | exact towncrierref21_Line.mono _ _ _
      | exact towncrierref21_Log.mono _ _ _
      | exact towncrierref21_Notes.mono _ _ _
      | exact towncrierref21_Right.mono _ _ _
      | exact towncrierref21_Same.mono _ _ _
      | exact LeO.none _
      | refine LeO.ite ?_ ?_
      | refine LeO.bind ?_ (fun _ => ?_)
theorem towncrierlaw21_AuditTells.mono : ∀ a0 a1 a2 a3 a4 a5 a6 k, LeO (towncrierlaw21_AuditTells.f k a0 a1 a2 a3 a4 a5 a6) (towncrierlaw21_AuditTells.f (k + 1) a0 a1 a2 a3 a4 a5 a6) := by
  intro a0 a1 a2 a3 a4 a5 a6 k
  obtain ⟨ih0, ih1, ih2⟩ := towncrierlaw21_AuditTells.mono_l k
  unfold towncrierlaw21_AuditTells.f
  repeat' first
      | (with_reducible exact ih0 _ _ _ _ _ _ _ _ _)
      | (with_reducible exact ih1 _ _ _ _ _ _ _ _ _)
      | (with_reducible exact ih2 _ _ _ _ _ _ _ _ _ _)
      | (with_reducible exact audit_Log.mono _ _ _)
      | (with_reducible exact audit_Shift.mono _ _ _)
      | (with_reducible exact towncrierlaw12_Log.mono _ _ _)
      | (with_reducible exact towncrierlaw21_awake.mono _)
      | (with_reducible exact towncrierref06_Same.mono _ _ _ _ _ _ _)
      | (with_reducible exact towncrierref12_Same.mono _ _ _)
      | (with_reducible exact towncrierref21_Line.mono _ _ _)
      | (with_reducible exact towncrierref21_Log.mono _ _ _)
      | (with_reducible exact towncrierref21_Notes.mono _ _ _)
      | (with_reducible exact towncrierref21_Right.mono _ _ _)
      | (with_reducible exact towncrierref21_Same.mono _ _ _)
      | (with_reducible exact LeO.refl _)
      | (with_reducible exact LeO.none _)
      | (with_reducible refine LeO.ite ?_ ?_)
      | (with_reducible refine LeO.bind ?_ (fun _ => ?_))
      | exact ih0 _ _ _ _ _ _ _ _ _
      | exact ih1 _ _ _ _ _ _ _ _ _
      | exact ih2 _ _ _ _ _ _ _ _ _ _
      | exact audit_Log.mono _ _ _
      | exact audit_Shift.mono _ _ _
      | exact towncrierlaw12_Log.mono _ _ _
      | exact towncrierlaw21_awake.mono _
      | exact towncrierref06_Same.mono _ _ _ _ _ _ _
      | exact towncrierref12_Same.mono _ _ _
      | exact towncrierref21_Line.mono _ _ _
      | exact towncrierref21_Log.mono _ _ _
      | exact towncrierref21_Notes.mono _ _ _
      | exact towncrierref21_Right.mono _ _ _
      | exact towncrierref21_Same.mono _ _ _
      | exact LeO.none _
      | refine LeO.ite ?_ ?_
      | refine LeO.bind ?_ (fun _ => ?_)
def towncrierlaw21_AuditTells.T23 : Bool × List (List Nat × List Nat) := (true, [([], []), ([], []), ([0, 1], [0, 1]), ([2], [2]), ([], []), ([], []), ([4, 5], [4, 5]), ([6], [6]), ([3, 7], [3, 7]), ([8, 8, 0, 1, 2, 3, 4, 5, 6, 7, 8], [8])])
def towncrierlaw21_AuditTells.B23 : List Nat := [0, 0, 3, 7, 0, 0, 48, 112, 255, 511]
theorem towncrierlaw21_AuditTells.tab23 : rtab .any (opsOf Try.f8 23) = towncrierlaw21_AuditTells.T23 := by kernel_rfl
theorem towncrierlaw21_AuditTells.bits23 : waitsOk towncrierlaw21_AuditTells.T23.2 towncrierlaw21_AuditTells.B23 = true := by kernel_rfl
set_option maxHeartbeats 8000000 in
set_option maxRecDepth 100000 in
theorem towncrierlaw21_AuditTells.calls (k : Nat) (A0 : Option Addr) (c0 : Nat) (l0 : List (SRes)) (a1 : Int) (A2 : Option Addr) (c2 : Nat) (l2 : List (SNote)) (a3 : Int) (P4_ : Nat → Prop) (A4 : Option Addr) (c4 : Nat) (l4 : List (SReq)) (A5 : Option Addr) (c5 : Nat) (l5 : List (SMatch)) (a6 : Int) (r : Bool) (w : World) (hr0 : Kd.C kRes w A0 l0.length l0) (hc0 : l0.length ≤ c0) (hr2 : Kd.C kNote w A2 l2.length l2) (hc2 : l2.length ≤ c2) (hs4 : Kd.V kReq 57 w w.heap.size (fun k_ => P4_ k_) (.slice A4 l4.length c4) l4) (hr5 : Kd.C kMatch w A5 l5.length l5) (hc5 : l5.length ≤ c5) (h : towncrierlaw21_AuditTells.f k l0 a1 l2 a3 l4 l5 a6 = some r) :
    Calls Try.prog 8 #[.slice A0 l0.length c0, .int .i64 a1, .slice A2 l2.length c2, .int .i64 a3, .slice A4 l4.length c4, .slice A5 l5.length c5, .int .i64 a6] w fun e w' => e = .returned (.bool r) ∧ Below w.heap.size w w' := by
  have hu52 := Try.underlying52
  have HR0 := Aside0.mk hr0
  have HC0 := Aside0.mk hc0
  clear hr0 hc0
  have HR2 := Aside0.mk hr2
  have HC2 := Aside0.mk hc2
  clear hr2 hc2
  have HO4 := Aside0.mk (show Kd.V kReq 57 w w.heap.size (fun k_ => (P4_ k_ ∨ w.heap.size ≤ k_)) (.slice A4 l4.length c4) l4 from Kd.V_mono hs4 (fun k_ hk => .inl hk))
  have HR5 := Aside0.mk hr5
  have HC5 := Aside0.mk hc5
  clear hr5 hc5
  have HB := Aside0.mk (Below.refl w.heap.size w)
  have H : ((towncrierlaw21_awake.f k).bind fun t278 => (if t278 = true then (if (l0.length : Int) > 40 then (towncrierlaw21_AuditTells.j0 k l0 a1 l2 a3 l4 l5 a6 t278 true) else (if (l2.length : Int) > 40 then (towncrierlaw21_AuditTells.j0 k l0 a1 l2 a3 l4 l5 a6 t278 true) else (if (l4.length : Int) > 40 then (towncrierlaw21_AuditTells.j0 k l0 a1 l2 a3 l4 l5 a6 t278 true) else (towncrierlaw21_AuditTells.j0 k l0 a1 l2 a3 l4 l5 a6 t278 (decide ((l5.length : Int) > 40)))))) else (towncrierlaw21_AuditTells.j0 k l0 a1 l2 a3 l4 l5 a6 t278 true))) = some r := h
  clear h
  replace H := Option.bind_eq_some_iff.mp H
  obtain ⟨t278, A80, H⟩ := H
  replace H : (if t278 = true then (if (l0.length : Int) > 40 then (towncrierlaw21_AuditTells.j0 k l0 a1 l2 a3 l4 l5 a6 t278 true) else (if (l2.length : Int) > 40 then (towncrierlaw21_AuditTells.j0 k l0 a1 l2 a3 l4 l5 a6 t278 true) else (if (l4.length : Int) > 40 then (towncrierlaw21_AuditTells.j0 k l0 a1 l2 a3 l4 l5 a6 t278 true) else (towncrierlaw21_AuditTells.j0 k l0 a1 l2 a3 l4 l5 a6 t278 (decide ((l5.length : Int) > 40)))))) else (towncrierlaw21_AuditTells.j0 k l0 a1 l2 a3 l4 l5 a6 t278 true)) = some r := H
  have A8 := Aside0.mk A80
  clear A80
  have HC9 := Aside0.mk H
  clear H
  go_enter Try.func8, Try.ntmps8
  go_upto_region 2 with (first | ((with_reducible refine gate_callee (f := 10) rfl ?_); refine goesL_ (some 27) rfl rfl Try.func10 (by kernel_rfl) rfl #[] rfl (by (try simp only [List.map_toArray, List.map_cons, List.map_nil]); first | done | rfl | (simp only [List.length_drop, List.length_take]; rfl)) ?_; (with_reducible refine (towncrierlaw21_awake.calls k  t278 _ A8.out).mono ?_); rintro e w10 ⟨rfl, hb⟩; refine ⟨_, rfl, ?_⟩; have n0_ := Aside0.mk (Kd.V_below (by (with_reducible repeat (first | apply Kd.V_alloc | apply Kd.V_drewN | apply Kd.V_drew)); exact HO4.out) hb); have n1_ := Aside0.mk (below_step (by repeat (first | (with_reducible first | exact HB.out | apply below_alloc | apply pw_below_drewN | apply below_drew1) | exact HB.out)) hb); clear HO4; clear HB; have HO4 := n0_; have HB := n1_; clear n0_ n1_; (try clear hb); (try clear hb2); (try clear hk); (try clear hi)))
  (try simp only [Act.put, List.setIfInBounds_toArray, List.set_cons_zero, List.set_cons_succ])
  go_cut [49] (fun v49 wc => ∃ (kq : Nat) (x49_8 : Bool), v49 = .bool x49_8 ∧ Aside0 (towncrierlaw21_AuditTells.j0 kq l0 a1 l2 a3 l4 l5 a6 t278 x49_8 = some r) ∧ Aside0 (kq ≤ k) ∧ Aside0 (Kd.V kReq 57 wc w.heap.size (fun k_ => (P4_ k_ ∨ w.heap.size ≤ k_)) (.slice A4 l4.length c4) l4) ∧ Aside0 (Below w.heap.size w wc))
  case first =>
    have H := HC9.out
    clear HC9
    by_cases c11 : t278 = true
    · subst c11
      have H1 : (if (l0.length : Int) > 40 then (towncrierlaw21_AuditTells.j0 k l0 a1 l2 a3 l4 l5 a6 true true) else (if (l2.length : Int) > 40 then (towncrierlaw21_AuditTells.j0 k l0 a1 l2 a3 l4 l5 a6 true true) else (if (l4.length : Int) > 40 then (towncrierlaw21_AuditTells.j0 k l0 a1 l2 a3 l4 l5 a6 true true) else (towncrierlaw21_AuditTells.j0 k l0 a1 l2 a3 l4 l5 a6 true (decide ((l5.length : Int) > 40)))))) = some r := by rw [if_pos rfl] at H; exact H
      clear H
      have H := H1
      clear H1
      by_cases c12 : (l0.length : Int) > 40
      · rw [if_pos c12] at H
        have c12b0 : decide (40 < (l0.length : Int)) = true := decide_eq_true c12
        have c12b1 : decide (40 < l0.length) = true := decide_eq_true (by omega)
        clear c12
        (first | rw [c12b0] | (simp only [i64_w, i32_w]; rw [c12b0]) | skip)
        have H' := Aside0.mk H
        clear H
        go_wp2
        go_meet
        case rel => exact ⟨_, (true), (by first | rfl | (simp; done) | (simp [*]; done)), H', ⟨by first | omega | exact Nat.le_refl _⟩, ⟨by (with_reducible repeat (first | apply Kd.V_alloc | apply Kd.V_drewN | apply Kd.V_drew)); exact HO4.out⟩, ⟨by repeat (first | (with_reducible first | exact HB.out | apply below_alloc | apply pw_below_drewN | apply below_drew1) | exact HB.out)⟩⟩
      · rw [if_neg c12] at H
        have c12b0 : decide (40 < (l0.length : Int)) = false := decide_eq_false c12
        have c12b1 : decide (40 < l0.length) = false := decide_eq_false (by omega)
        clear c12
        (first | rw [c12b0] | (simp only [i64_w, i32_w]; rw [c12b0]) | skip)
        by_cases c13 : (l2.length : Int) > 40
        · rw [if_pos c13] at H
          have c13b0 : decide (40 < (l2.length : Int)) = true := decide_eq_true c13
          have c13b1 : decide (40 < l2.length) = true := decide_eq_true (by omega)
          clear c13
          have H' := Aside0.mk H
          clear H
          go_wp2
          go_meet
          case rel => exact ⟨_, (true), (by first | rfl | (simp; done) | (simp [*]; done)), H', ⟨by first | omega | exact Nat.le_refl _⟩, ⟨by (with_reducible repeat (first | apply Kd.V_alloc | apply Kd.V_drewN | apply Kd.V_drew)); exact HO4.out⟩, ⟨by repeat (first | (with_reducible first | exact HB.out | apply below_alloc | apply pw_below_drewN | apply below_drew1) | exact HB.out)⟩⟩
        · rw [if_neg c13] at H
          have c13b0 : decide (40 < (l2.length : Int)) = false := decide_eq_false c13
          have c13b1 : decide (40 < l2.length) = false := decide_eq_false (by omega)
          clear c13
          by_cases c14 : (l4.length : Int) > 40
          · rw [if_pos c14] at H
            have c14b0 : decide (40 < (l4.length : Int)) = true := decide_eq_true c14
            have c14b1 : decide (40 < l4.length) = true := decide_eq_true (by omega)
            clear c14
            have H' := Aside0.mk H
            clear H
            go_wp2
            go_meet
            case rel => exact ⟨_, (true), (by first | rfl | (simp; done) | (simp [*]; done)), H', ⟨by first | omega | exact Nat.le_refl _⟩, ⟨by (with_reducible repeat (first | apply Kd.V_alloc | apply Kd.V_drewN | apply Kd.V_drew)); exact HO4.out⟩, ⟨by repeat (first | (with_reducible first | exact HB.out | apply below_alloc | apply pw_below_drewN | apply below_drew1) | exact HB.out)⟩⟩
          · rw [if_neg c14] at H
            have c14b0 : decide (40 < (l4.length : Int)) = false := decide_eq_false c14
            have c14b1 : decide (40 < l4.length) = false := decide_eq_false (by omega)
            clear c14
            have H' := Aside0.mk H
            clear H
            go_wp2
            go_meet
            case rel => exact ⟨_, (decide ((l5.length : Int) > 40)), (by first | rfl | (simp; done) | (simp [*]; done)), H', ⟨by first | omega | exact Nat.le_refl _⟩, ⟨by (with_reducible repeat (first | apply Kd.V_alloc | apply Kd.V_drewN | apply Kd.V_drew)); exact HO4.out⟩, ⟨by repeat (first | (with_reducible first | exact HB.out | apply below_alloc | apply pw_below_drewN | apply below_drew1) | exact HB.out)⟩⟩
    · replace c11 := Bool.eq_false_iff.mpr c11
      subst c11
      have H1 : (towncrierlaw21_AuditTells.j0 k l0 a1 l2 a3 l4 l5 a6 false true) = some r := by rw [if_neg (show ¬ (false = true) by decide)] at H; exact H
      clear H
      have H := H1
      clear H1
      have H' := Aside0.mk H
      clear H
      go_wp2
      go_meet
      case rel => exact ⟨_, (true), (by first | rfl | (simp; done) | (simp [*]; done)), H', ⟨by first | omega | exact Nat.le_refl _⟩, ⟨by (with_reducible repeat (first | apply Kd.V_alloc | apply Kd.V_drewN | apply Kd.V_drew)); exact HO4.out⟩, ⟨by repeat (first | (with_reducible first | exact HB.out | apply below_alloc | apply pw_below_drewN | apply below_drew1) | exact HB.out)⟩⟩
  case rest =>
    clear HC9
    try clear c1
    try clear c2
    try clear p2
    try clear c4
    try clear c5
    try clear c8
    try clear c10
    try clear c11
    try clear c12
    try clear c12b0
    try clear c12b1
    try clear c13
    try clear c13b0
    try clear c13b1
    try clear c14
    try clear c14b0
    try clear c14b1
    obtain ⟨kq, x49_8, rfl, HA, HJ8, HO_4, HB⟩ := hcut
    cases kq with
    | zero => exact absurd HA.out (by simp [towncrierlaw21_AuditTells.j0])
    | succ kj8 =>
      have H := HA.out
      clear HA
      simp only [towncrierlaw21_AuditTells.j0] at H
      by_cases c15 : x49_8 = true
      · subst c15
        have H1 : (some t278) = some r := by rw [if_pos rfl] at H; exact H
        clear H
        have H := H1
        clear H1
        obtain rfl := Option.some.inj H
        go_wp2
        go_ret
        exact ⟨by first | rfl | (simp [errW_none, errW_some] <;> rfl) | (simp [*, errW_none, errW_some] <;> rfl), by repeat (first | (with_reducible first | exact HB.out | apply below_alloc | apply pw_below_drewN | apply below_drew1) | exact HB.out)⟩
      · replace c15 := Bool.eq_false_iff.mpr c15
        subst c15
        have H1 : (towncrierlaw21_AuditTells.l0 kj8 l0 a1 l2 a3 l4 l5 a6 ([] : List (SEvent)) 0) = some r := by rw [if_neg (show ¬ (false = true) by decide)] at H; exact H
        clear H
        have H := H1
        clear H1
        have H' := Aside0.mk H
        clear H
        go_wp2
        go_loopg [16, 17] kj8 (fun kq v16 v17 w' => ∃ (x16_2 : List (SEvent)) (x17_2 : Int), v17 = .int .i64 x17_2 ∧ Aside0 (towncrierlaw21_AuditTells.l0 kq l0 a1 l2 a3 l4 l5 a6 x16_2 x17_2 = some r) ∧ Aside0 (kq ≤ kj8) ∧ Aside0 (Kd.V kReq 57 w' w.heap.size (fun k_ => (P4_ k_ ∨ w.heap.size ≤ k_) ∧ some k_ ≠ (v16 : Value).ownBlock) (.slice A4 l4.length c4) l4) ∧ Aside0 (Kd.N kEvent 52 w' w.heap.size (fun k_ => (P4_ k_ ∨ w.heap.size ≤ k_)) v16 x16_2) ∧ Aside0 (Below w.heap.size w w'))
        case atStart => exact ⟨(([] : List (SEvent))), (0), (by first | rfl | (simp; done) | (simp [*]; done)), H', ⟨Nat.le_refl _⟩, ⟨by (with_reducible repeat (first | apply Kd.V_alloc | apply Kd.V_drewN | apply Kd.V_drew)); exact Kd.V_mono HO_4.out (fun _ hk => ⟨hk, (by simp [Value.ownBlock])⟩)⟩, ⟨by first | exact Kd.S_nil _ _ _ _ _ | exact Kd.N_nil _ _ _ _ _ | exact Kd.V_nil _ _ _ _ _ | exact Kd.Q_nil _ _ _ _ _ | exact Kd.R_nil _ _ _ _ _⟩, ⟨by repeat (first | (with_reducible first | exact HB.out | apply below_alloc | apply pw_below_drewN | apply below_drew1) | exact HB.out)⟩⟩
        case round =>
          clear H'
          try clear c1
          try clear c2
          try clear p2
          try clear c4
          try clear c5
          try clear c8
          try clear c10
          try clear c11
          try clear c12
          try clear c12b0
          try clear c12b1
          try clear c13
          try clear c13b0
          try clear c13b1
          try clear c14
          try clear c14b0
          try clear c14b1
          try clear c15
          try clear p2
          obtain ⟨x16_2, x17_2, rfl, HA, HK2, HO_4, HO_16, HB⟩ := hrel
          cases gk with
          | zero => exact absurd HA.out (by simp [towncrierlaw21_AuditTells.l0])
          | succ k2 =>
            have H := HA.out
            clear HA
            simp only [towncrierlaw21_AuditTells.l0] at H
            by_cases c16 : x17_2 < (l4.length : Int)
            · rw [if_pos c16] at H
              have c16b0 : decide (x17_2 < (l4.length : Int)) = true := decide_eq_true c16
              clear c16
              by_cases c17 : 0 ≤ x17_2
              · rw [if_pos c17] at H
                have c17b0 : decide (0 ≤ x17_2) = true := decide_eq_true c17
                clear c17
                by_cases c18 : x16_2.length < 2932031007402
                · rw [if_pos c18] at H
                  have LMc18 := Aside0.mk c18
                  clear c18
                  obtain ⟨y280, hy280⟩ : ∃ y_ : List (SEvent), y_ = (x16_2 ++ [(⟨(rd_TReq l4 x17_2).f5.f0, (rd_TReq l4 x17_2).f5.f1, (rd_TReq l4 x17_2).f5.f2⟩ : SEvent)]) := ⟨_, rfl⟩
                  replace H : (towncrierlaw21_AuditTells.l0 k2 l0 a1 l2 a3 l4 l5 a6 y280 (wrap64 (x17_2 + 1))) = some r := by first | (rw [hy280]; with_reducible exact H) | (have H2_ := (Option.bind_some _ _).symm.trans H; rw [hy280]; with_reducible exact H2_) | (have H2_ := (Option.bind_some _ _).symm.trans H; with_reducible exact H2_) | with_reducible exact H | (rw [hy280]; exact H) | exact H
                  have Ny280 := Aside0.mk hy280
                  clear hy280
                  have H' := Aside0.mk H
                  clear H
                  have p279 : 0 ≤ (x17_2 : Int) := of_decide_eq_true (by first | (with_reducible assumption) | assumption)
                  have q279 : x17_2 < (l4.length : Int) := of_decide_eq_true (by first | (with_reducible assumption) | assumption)
                  obtain ⟨ad279, A279_6, c279_6, A279_9, c279_9, A279_10, c279_10, e279, hx279_0, hx279_1, hx279_2, hx279_3, hx279_4, hx279_5, hx279_6, hx279_7, hx279_8, hx279_9, hx279_10, hx279_11, hx279_12, hx279_13, hx279_14, hl279_6, hi279_6, hl279_9, hi279_9, hl279_10, hi279_10⟩ := at_TReq (Kd.V_reads' HO_4.out).2.2 x17_2 p279 q279
                  cases e279
                  obtain ⟨ce279, hce279, hMe279, hcc279⟩ := Kd.V_get HO_4.out zReq x17_2 p279 (by first | exact q279 | exact of_decide_eq_true (by first | (with_reducible assumption) | assumption) | (have e_ := (Kd.V_reads' HO_4.out).1; omega))
                  obtain ⟨ua279_6, uc279_6, ua279_9, uc279_9, ua279_10, uc279_10, rfl, ul279_6, ge279_6, ul279_9, ge279_9, ul279_10, ge279_10⟩ := kReq_openF hMe279
                  have hv279_6 := hcc279 6 _ rfl
                  rw [add_field _ _ 6 (by omega)] at hv279_6
                  replace hv279_6 := Option.some.inj (hv279_6.symm.trans hx279_6)
                  injection hv279_6 with hva_ hvn_ hvc_
                  rw [hva_] at ge279_6
                  rw [hvc_] at ul279_6
                  have HL279_6 := Aside0.mk (show Kd.V kField 92 _ w.heap.size _ _ ((rd_TReq l4 x17_2).f4.f2) from Kd.V_mk ul279_6 ge279_6)
                  clear hva_ hvn_ hvc_ ge279_6 ul279_6
                  have hv279_9 := hcc279 9 _ rfl
                  rw [add_field _ _ 9 (by omega)] at hv279_9
                  replace hv279_9 := Option.some.inj (hv279_9.symm.trans hx279_9)
                  injection hv279_9 with hva_ hvn_ hvc_
                  rw [hva_] at ge279_9
                  rw [hvc_] at ul279_9
                  have HL279_9 := Aside0.mk (show Kd.V kValue 74 _ w.heap.size _ _ ((rd_TReq l4 x17_2).f5.f2) from Kd.V_mk ul279_9 ge279_9)
                  clear hva_ hvn_ hvc_ ge279_9 ul279_9
                  have hv279_10 := hcc279 10 _ rfl
                  rw [add_field _ _ 10 (by omega)] at hv279_10
                  replace hv279_10 := Option.some.inj (hv279_10.symm.trans hx279_10)
                  injection hv279_10 with hva_ hvn_ hvc_
                  rw [hva_] at ge279_10
                  rw [hvc_] at ul279_10
                  have HL279_10 := Aside0.mk (show Kd.V kStep 95 _ w.heap.size _ _ ((rd_TReq l4 x17_2).f6.f0) from Kd.V_mk ul279_10 ge279_10)
                  clear hva_ hvn_ hvc_ ge279_10 ul279_10
                  clear hcc279 hce279
                  have HR279_6 := Aside0.mk hi279_6
                  have HC279_6 := Aside0.mk hl279_6
                  clear hi279_6 hl279_6
                  have HR279_9 := Aside0.mk hi279_9
                  have HC279_9 := Aside0.mk hl279_9
                  clear hi279_9 hl279_9
                  have HR279_10 := Aside0.mk hi279_10
                  have HC279_10 := Aside0.mk hl279_10
                  clear hi279_10 hl279_10
                  replace p279 := eq_true p279
                  replace q279 := eq_true q279
                  go_wp2_with (first | ((with_reducible refine gate_builtin (b := .append) (xs := #[.tmp 57, .tmp 63]) rfl ?_); (try (refine gate_guard (by rfl) ?_; dsimp only)); at_builtin; refine Kd.N_append kEvent (w0 := w) w.heap.size rfl (.tmp 57) (.tmp 63) 46 52 (.agg #[(.string ⟨#[]⟩), (.int .i64 0), (.slice none 0 0)]) 48 rfl Try.underlying46 infoEvent rfl (by decide) (by omega) u16 x16_2 (⟨(rd_TReq l4 x17_2).f5.f0, (rd_TReq l4 x17_2).f5.f1, (rd_TReq l4 x17_2).f5.f2⟩ : SEvent) [.string ((rd_TReq l4 x17_2).f5.f0), .int .i64 ((rd_TReq l4 x17_2).f5.f1), .slice A279_9 ((rd_TReq l4 x17_2).f5.f2).length c279_9] (fun k_ => (P4_ k_ ∨ w.heap.size ≤ k_)) (fun k_ => ((fun k_ => (P4_ k_ ∨ w.heap.size ≤ k_))) k_ ∧ some k_ ≠ (u16 : Value).ownBlock) rfl rfl ?aP (fun _ hk => hk) ?aF ?aO ?aB ?aS ?aL ?_; (case aP => exact (kEvent_mkF _ _ (⟨(rd_TReq l4 x17_2).f5.f0, (rd_TReq l4 x17_2).f5.f1, (rd_TReq l4 x17_2).f5.f2⟩ : SEvent) (Kd.V_reads' (Kd.V_mono (ok' := (fun k_ => ((fun k_ => (P4_ k_ ∨ w.heap.size ≤ k_))) k_ ∧ some k_ ≠ (u16 : Value).ownBlock)) (HL279_9.out) (fun k_ hk => ⟨hk.1, hk.2⟩))).2.1 (Kd.V_F (Kd.V_mono (ok' := (fun k_ => ((fun k_ => (P4_ k_ ∨ w.heap.size ≤ k_))) k_ ∧ some k_ ≠ (u16 : Value).ownBlock)) (HL279_9.out) (fun k_ hk => ⟨hk.1, hk.2⟩))))); (case aB => exact (by repeat (first | (with_reducible first | exact HB.out | apply below_alloc | apply pw_below_drewN | apply below_drew1) | exact HB.out))); (case aF => exact (fun k_ hk => (.inr (Nat.le_trans (below_size (by repeat (first | (with_reducible first | exact HB.out | apply below_alloc | apply pw_below_drewN | apply below_drew1) | exact HB.out))) hk)))); (case aO => exact (by (with_reducible repeat (first | apply Kd.N_alloc | apply Kd.N_drewN | apply Kd.N_drew)); exact HO_16.out)); (case aS => exact (below_size (by repeat (first | (with_reducible first | exact HB.out | apply below_alloc | apply pw_below_drewN | apply below_drew1) | exact HB.out)))); (case aL => have := LMc18.out; omega); intro v281 w19 ho hb hg hat; rw [← Ny280.out] at ho; have n0_ := Aside0.mk (Kd.V_afterv (ok := (fun k_ => (P4_ k_ ∨ w.heap.size ≤ k_))) (by (with_reducible repeat (first | apply Kd.V_alloc | apply Kd.V_drewN | apply Kd.V_drew)); exact HO_4.out) hg hat); have n1_ := Aside0.mk (Kd.V_afterv (ok := (fun k_ => (P4_ k_ ∨ w.heap.size ≤ k_))) (by (with_reducible repeat (first | apply Kd.V_alloc | apply Kd.V_drewN | apply Kd.V_drew)); exact HL279_6.out) hg hat); have n2_ := Aside0.mk (Kd.V_afterv (ok := (fun k_ => (P4_ k_ ∨ w.heap.size ≤ k_))) (by (with_reducible repeat (first | apply Kd.V_alloc | apply Kd.V_drewN | apply Kd.V_drew)); exact HL279_9.out) hg hat); have n3_ := Aside0.mk (Kd.V_afterv (ok := (fun k_ => (P4_ k_ ∨ w.heap.size ≤ k_))) (by (with_reducible repeat (first | apply Kd.V_alloc | apply Kd.V_drewN | apply Kd.V_drew)); exact HL279_10.out) hg hat); have n4_ := Aside0.mk (hb); have n5_ := Aside0.mk (ho); clear HO_4; clear HL279_6; clear HL279_9; clear HL279_10; clear HB; clear HO_16; have HO_4 := n0_; have HL279_6 := n1_; have HL279_9 := n2_; have HL279_10 := n3_; have HB := n4_; have HO282 := n5_; clear n0_ n1_ n2_ n3_ n4_ n5_; clear ho hb hg hat))
                  go_roundg k2
                  case measure => have := HJ8.out; have := HK2.out; omega
                  case rel => exact ⟨(y280), (wrap64 (x17_2 + 1)), (by first | rfl | (simp; done) | (simp [*]; done)), H', ⟨by have := HJ8.out; have := HK2.out; omega⟩, ⟨by (with_reducible repeat (first | apply Kd.V_alloc | apply Kd.V_drewN | apply Kd.V_drew)); exact HO_4.out⟩, ⟨by (with_reducible repeat (first | apply Kd.N_alloc | apply Kd.N_drewN | apply Kd.N_drew)); exact HO282.out⟩, ⟨by repeat (first | (with_reducible first | exact HB.out | apply below_alloc | apply pw_below_drewN | apply below_drew1) | exact HB.out)⟩⟩
                · rw [if_neg c18] at H
                  exact absurd H (by simp)
              · rw [if_neg c17] at H
                exact absurd H (by simp)
            · rw [if_neg c16] at H
              have c16b0 : decide (x17_2 < (l4.length : Int)) = false := decide_eq_false c16
              clear c16
              replace H := Option.bind_eq_some_iff.mp H
              obtain ⟨t283, A200, H⟩ := H
              replace H : (if t283 = true then ((audit_Notes.f l0 a1).bind fun t284 => ((towncrierref21_Notes.f k2 l0 a1).bind fun t287 => ((towncrierref21_Same.f k2 t284 t287).bind fun t290 => ((audit_Shift.f k2 l5 a6).bind fun t291 => ((towncrierref21_Shift.f l5 a6).bind fun t294 => ((towncrierref12_Same.f k2 t291 t294).bind fun t297 => ((towncrierref21_Line.f k2 l2 a3).bind fun t298 => ((towncrierref21_Right.f k2 l2 l5).bind fun t299 => ((audit_Log.f k2 l4 l0).bind fun t300 => ((towncrierref21_Log.f k2 l4 l0).bind fun t303 => (if (t300.length : Int) = (t303.length : Int) then (towncrierlaw21_AuditTells.l1 k2 l2 a3 l5 t290 t297 t298 t299 t300 t303 0) else (some false)))))))))))) else (some true)) = some r := H
              have A20 := Aside0.mk A200
              clear A200
              by_cases c21 : t283 = true
              · subst c21
                have H1 : ((audit_Notes.f l0 a1).bind fun t284 => ((towncrierref21_Notes.f k2 l0 a1).bind fun t287 => ((towncrierref21_Same.f k2 t284 t287).bind fun t290 => ((audit_Shift.f k2 l5 a6).bind fun t291 => ((towncrierref21_Shift.f l5 a6).bind fun t294 => ((towncrierref12_Same.f k2 t291 t294).bind fun t297 => ((towncrierref21_Line.f k2 l2 a3).bind fun t298 => ((towncrierref21_Right.f k2 l2 l5).bind fun t299 => ((audit_Log.f k2 l4 l0).bind fun t300 => ((towncrierref21_Log.f k2 l4 l0).bind fun t303 => (if (t300.length : Int) = (t303.length : Int) then (towncrierlaw21_AuditTells.l1 k2 l2 a3 l5 t290 t297 t298 t299 t300 t303 0) else (some false)))))))))))) = some r := by rw [if_pos rfl] at H; exact H
                clear H
                have H := H1
                clear H1
                replace H := Option.bind_eq_some_iff.mp H
                obtain ⟨t284, A220, H⟩ := H
                replace H : ((towncrierref21_Notes.f k2 l0 a1).bind fun t287 => ((towncrierref21_Same.f k2 t284 t287).bind fun t290 => ((audit_Shift.f k2 l5 a6).bind fun t291 => ((towncrierref21_Shift.f l5 a6).bind fun t294 => ((towncrierref12_Same.f k2 t291 t294).bind fun t297 => ((towncrierref21_Line.f k2 l2 a3).bind fun t298 => ((towncrierref21_Right.f k2 l2 l5).bind fun t299 => ((audit_Log.f k2 l4 l0).bind fun t300 => ((towncrierref21_Log.f k2 l4 l0).bind fun t303 => (if (t300.length : Int) = (t303.length : Int) then (towncrierlaw21_AuditTells.l1 k2 l2 a3 l5 t290 t297 t298 t299 t300 t303 0) else (some false))))))))))) = some r := H
                have A22 := Aside0.mk A220
                clear A220
                replace H := Option.bind_eq_some_iff.mp H
                obtain ⟨t287, A230, H⟩ := H
                replace H : ((towncrierref21_Same.f k2 t284 t287).bind fun t290 => ((audit_Shift.f k2 l5 a6).bind fun t291 => ((towncrierref21_Shift.f l5 a6).bind fun t294 => ((towncrierref12_Same.f k2 t291 t294).bind fun t297 => ((towncrierref21_Line.f k2 l2 a3).bind fun t298 => ((towncrierref21_Right.f k2 l2 l5).bind fun t299 => ((audit_Log.f k2 l4 l0).bind fun t300 => ((towncrierref21_Log.f k2 l4 l0).bind fun t303 => (if (t300.length : Int) = (t303.length : Int) then (towncrierlaw21_AuditTells.l1 k2 l2 a3 l5 t290 t297 t298 t299 t300 t303 0) else (some false)))))))))) = some r := H
                have A23 := Aside0.mk A230
                clear A230
                replace H := Option.bind_eq_some_iff.mp H
                obtain ⟨t290, A240, H⟩ := H
                replace H : ((audit_Shift.f k2 l5 a6).bind fun t291 => ((towncrierref21_Shift.f l5 a6).bind fun t294 => ((towncrierref12_Same.f k2 t291 t294).bind fun t297 => ((towncrierref21_Line.f k2 l2 a3).bind fun t298 => ((towncrierref21_Right.f k2 l2 l5).bind fun t299 => ((audit_Log.f k2 l4 l0).bind fun t300 => ((towncrierref21_Log.f k2 l4 l0).bind fun t303 => (if (t300.length : Int) = (t303.length : Int) then (towncrierlaw21_AuditTells.l1 k2 l2 a3 l5 t290 t297 t298 t299 t300 t303 0) else (some false))))))))) = some r := H
                have A24 := Aside0.mk A240
                clear A240
                replace H := Option.bind_eq_some_iff.mp H
                obtain ⟨t291, A250, H⟩ := H
                replace H : ((towncrierref21_Shift.f l5 a6).bind fun t294 => ((towncrierref12_Same.f k2 t291 t294).bind fun t297 => ((towncrierref21_Line.f k2 l2 a3).bind fun t298 => ((towncrierref21_Right.f k2 l2 l5).bind fun t299 => ((audit_Log.f k2 l4 l0).bind fun t300 => ((towncrierref21_Log.f k2 l4 l0).bind fun t303 => (if (t300.length : Int) = (t303.length : Int) then (towncrierlaw21_AuditTells.l1 k2 l2 a3 l5 t290 t297 t298 t299 t300 t303 0) else (some false)))))))) = some r := H
                have A25 := Aside0.mk A250
                clear A250
                replace H := Option.bind_eq_some_iff.mp H
                obtain ⟨t294, A260, H⟩ := H
                replace H : ((towncrierref12_Same.f k2 t291 t294).bind fun t297 => ((towncrierref21_Line.f k2 l2 a3).bind fun t298 => ((towncrierref21_Right.f k2 l2 l5).bind fun t299 => ((audit_Log.f k2 l4 l0).bind fun t300 => ((towncrierref21_Log.f k2 l4 l0).bind fun t303 => (if (t300.length : Int) = (t303.length : Int) then (towncrierlaw21_AuditTells.l1 k2 l2 a3 l5 t290 t297 t298 t299 t300 t303 0) else (some false))))))) = some r := H
                have A26 := Aside0.mk A260
                clear A260
                replace H := Option.bind_eq_some_iff.mp H
                obtain ⟨t297, A270, H⟩ := H
                replace H : ((towncrierref21_Line.f k2 l2 a3).bind fun t298 => ((towncrierref21_Right.f k2 l2 l5).bind fun t299 => ((audit_Log.f k2 l4 l0).bind fun t300 => ((towncrierref21_Log.f k2 l4 l0).bind fun t303 => (if (t300.length : Int) = (t303.length : Int) then (towncrierlaw21_AuditTells.l1 k2 l2 a3 l5 t290 t297 t298 t299 t300 t303 0) else (some false)))))) = some r := H
                have A27 := Aside0.mk A270
                clear A270
                replace H := Option.bind_eq_some_iff.mp H
                obtain ⟨t298, A280, H⟩ := H
                replace H : ((towncrierref21_Right.f k2 l2 l5).bind fun t299 => ((audit_Log.f k2 l4 l0).bind fun t300 => ((towncrierref21_Log.f k2 l4 l0).bind fun t303 => (if (t300.length : Int) = (t303.length : Int) then (towncrierlaw21_AuditTells.l1 k2 l2 a3 l5 t290 t297 t298 t299 t300 t303 0) else (some false))))) = some r := H
                have A28 := Aside0.mk A280
                clear A280
                replace H := Option.bind_eq_some_iff.mp H
                obtain ⟨t299, A290, H⟩ := H
                replace H : ((audit_Log.f k2 l4 l0).bind fun t300 => ((towncrierref21_Log.f k2 l4 l0).bind fun t303 => (if (t300.length : Int) = (t303.length : Int) then (towncrierlaw21_AuditTells.l1 k2 l2 a3 l5 t290 t297 t298 t299 t300 t303 0) else (some false)))) = some r := H
                have A29 := Aside0.mk A290
                clear A290
                replace H := Option.bind_eq_some_iff.mp H
                obtain ⟨t300, A300, H⟩ := H
                replace H : ((towncrierref21_Log.f k2 l4 l0).bind fun t303 => (if (t300.length : Int) = (t303.length : Int) then (towncrierlaw21_AuditTells.l1 k2 l2 a3 l5 t290 t297 t298 t299 t300 t303 0) else (some false))) = some r := H
                have A30 := Aside0.mk A300
                clear A300
                replace H := Option.bind_eq_some_iff.mp H
                obtain ⟨t303, A310, H⟩ := H
                replace H : (if (t300.length : Int) = (t303.length : Int) then (towncrierlaw21_AuditTells.l1 k2 l2 a3 l5 t290 t297 t298 t299 t300 t303 0) else (some false)) = some r := H
                have A31 := Aside0.mk A310
                clear A310
                by_cases c32 : (t300.length : Int) = (t303.length : Int)
                · rw [if_pos c32] at H
                  have c32b0 : ((t300.length : Int) == (t303.length : Int)) = true := beq_iff_eq.mpr c32
                  have c32b1 : ((t300.length : Int) != (t303.length : Int)) = false := bne_eq_false_iff_eq.mpr c32
                  have c32b2 : (t300.length == t303.length) = true := by first | simpa using c32 | (simp at c32 ⊢; omega)
                  clear c32
                  have H' := Aside0.mk H
                  clear H
                  obtain ⟨Ao33, co33, eo33⟩ := Kd.N_slice HO_16.out
                  subst eo33
                  go_wp2_with (first | ((with_reducible refine gate_callee (f := 17) rfl ?_); refine goesL_ (some 66) rfl rfl Try.func17 (by kernel_rfl) rfl #[.slice Ao33 x16_2.length co33, .int .i64 40] rfl (by (try simp only [List.map_toArray, List.map_cons, List.map_nil]); first | done | rfl | (simp only [List.length_drop, List.length_take]; rfl)) ?_; (with_reducible refine (towncrierlaw12_Log.calls k2 _ _ x16_2 40 true _ ?side1 ?side2 A20.out).mono ?_); (case side1 => repeat (first | exact (Kd.N_reads' HO_16.out).2.2 | (with_reducible refine Kd.C_alloc ?_ _) | (with_reducible refine Kd.C_drewN ?_ _) | (with_reducible refine Kd.C_drew ?_))); (case side2 => exact (Kd.N_reads' HO_16.out).2.1); rintro e w34 ⟨rfl, hb⟩; refine ⟨_, rfl, ?_⟩; have n0_ := Aside0.mk (Kd.V_below (by (with_reducible repeat (first | apply Kd.V_alloc | apply Kd.V_drewN | apply Kd.V_drew)); exact HO_4.out) hb); have n1_ := Aside0.mk (Kd.N_below (by (with_reducible repeat (first | apply Kd.N_alloc | apply Kd.N_drewN | apply Kd.N_drew)); exact HO_16.out) hb); have n2_ := Aside0.mk (below_step (by repeat (first | (with_reducible first | exact HB.out | apply below_alloc | apply pw_below_drewN | apply below_drew1) | exact HB.out)) hb); clear HO_4; clear HO_16; clear HB; have HO_4 := n0_; have HO_16 := n1_; have HB := n2_; clear n0_ n1_ n2_; (try clear hb); (try clear hb2); (try clear hk); (try clear hi)) | ((with_reducible refine gate_callee (f := 12) rfl ?_); refine goesL_ (some 71) rfl rfl Try.func12 (by kernel_rfl) rfl #[.slice A0 l0.length c0, .int .i64 a1] rfl (by (try simp only [List.map_toArray, List.map_cons, List.map_nil]); first | done | rfl | (simp only [List.length_drop, List.length_take]; rfl)) ?_; (with_reducible refine (audit_Notes.calls _ _ l0 a1 t284 _ ?side1 ?side2 A22.out).mono ?_); (case side1 => repeat (first | exact (Kd.C_below HR0.out HB.out) | (with_reducible refine Kd.C_alloc ?_ _) | (with_reducible refine Kd.C_drewN ?_ _) | (with_reducible refine Kd.C_drew ?_))); (case side2 => exact HC0.out); rintro e w35 ⟨v285, rfl, ho0, hb⟩; refine ⟨_, rfl, ?_⟩; have n0_ := Aside0.mk (Kd.V_elder' (by (with_reducible repeat (first | apply Kd.V_alloc | apply Kd.V_drewN | apply Kd.V_drew)); exact HO_4.out) (Kd.R_base ho0) hb); have n1_ := Aside0.mk (Kd.N_elder' (by (with_reducible repeat (first | apply Kd.N_alloc | apply Kd.N_drewN | apply Kd.N_drew)); exact HO_16.out) (Kd.R_base ho0) hb); have n2_ := Aside0.mk (Kd.R_lower (Kd.R_newM (M := fun k_ => (w.heap.size ≤ k_)) ho0 (below_size (by repeat (first | (with_reducible first | exact HB.out | apply below_alloc | apply pw_below_drewN | apply below_drew1) | exact HB.out))) (fun k_ h_ => h_)) (below_size (by repeat (first | (with_reducible first | exact HB.out | apply below_alloc | apply pw_below_drewN | apply below_drew1) | exact HB.out)))); have n3_ := Aside0.mk (below_step (by repeat (first | (with_reducible first | exact HB.out | apply below_alloc | apply pw_below_drewN | apply below_drew1) | exact HB.out)) hb); clear HO_4; clear HO_16; clear HB; have HO_4 := n0_; have HO_16 := n1_; have HO286 := n2_; have HB := n3_; clear n0_ n1_ n2_ n3_; (try clear hb); (try clear hb2); (try clear hk); (try clear hi); (try clear ho0)) | ((with_reducible refine gate_callee (f := 18) rfl ?_); refine goesL_ (some 74) rfl rfl Try.func18 (by kernel_rfl) rfl #[.slice A0 l0.length c0, .int .i64 a1] rfl (by (try simp only [List.map_toArray, List.map_cons, List.map_nil]); first | done | rfl | (simp only [List.length_drop, List.length_take]; rfl)) ?_; (with_reducible refine (towncrierref21_Notes.calls k2 _ _ l0 a1 t287 _ ?side1 ?side2 A23.out).mono ?_); (case side1 => repeat (first | exact (Kd.C_below HR0.out HB.out) | (with_reducible refine Kd.C_alloc ?_ _) | (with_reducible refine Kd.C_drewN ?_ _) | (with_reducible refine Kd.C_drew ?_))); (case side2 => exact HC0.out); rintro e w36 ⟨v288, rfl, ho0, hb⟩; refine ⟨_, rfl, ?_⟩; have n0_ := Aside0.mk (Kd.V_elder' (by (with_reducible repeat (first | apply Kd.V_alloc | apply Kd.V_drewN | apply Kd.V_drew)); exact HO_4.out) (Kd.R_base ho0) hb); have n1_ := Aside0.mk (Kd.N_elder' (by (with_reducible repeat (first | apply Kd.N_alloc | apply Kd.N_drewN | apply Kd.N_drew)); exact HO_16.out) (Kd.R_base ho0) hb); have n2_ := Aside0.mk (Kd.R_elder' (by (with_reducible repeat (first | apply Kd.R_alloc | apply Kd.R_drewN | apply Kd.R_drew)); exact HO286.out) (Kd.R_base ho0) hb); have n3_ := Aside0.mk (Kd.R_lower (Kd.R_new' (Kd.R_newM (M := fun k_ => (w.heap.size ≤ k_)) ho0 (below_size (by repeat (first | (with_reducible first | exact HB.out | apply below_alloc | apply pw_below_drewN | apply below_drew1) | exact HB.out))) (fun k_ h_ => h_)) (Kd.R_lt (by (with_reducible repeat (first | apply Kd.R_alloc | apply Kd.R_drewN | apply Kd.R_drew)); exact HO286.out))) (below_size (by repeat (first | (with_reducible first | exact HB.out | apply below_alloc | apply pw_below_drewN | apply below_drew1) | exact HB.out)))); have n4_ := Aside0.mk (below_step (by repeat (first | (with_reducible first | exact HB.out | apply below_alloc | apply pw_below_drewN | apply below_drew1) | exact HB.out)) hb); clear HO_4; clear HO_16; clear HO286; clear HB; have HO_4 := n0_; have HO_16 := n1_; have HO286 := n2_; have HO289 := n3_; have HB := n4_; clear n0_ n1_ n2_ n3_ n4_; (try clear hb); (try clear hb2); (try clear hk); (try clear hi); (try clear ho0); obtain ⟨Ao37, co37, eo37⟩ := Kd.R_slice HO286.out; subst eo37; obtain ⟨Ao38, co38, eo38⟩ := Kd.R_slice HO289.out; subst eo38) | ((with_reducible refine gate_callee (f := 13) rfl ?_); refine goesL_ (some 75) rfl rfl Try.func13 (by kernel_rfl) rfl #[.slice Ao37 t284.length co37, .slice Ao38 t287.length co38] rfl (by (try simp only [List.map_toArray, List.map_cons, List.map_nil]); first | done | rfl | (simp only [List.length_drop, List.length_take]; rfl)) ?_; (with_reducible refine (towncrierref21_Same.calls k2 _ _ t284 _ _ t287 t290 _ ?side1 ?side2 ?side3 ?side4 A24.out).mono ?_); (case side1 => repeat (first | exact (Kd.R_reads' HO286.out).2.2 | (with_reducible refine Kd.C_alloc ?_ _) | (with_reducible refine Kd.C_drewN ?_ _) | (with_reducible refine Kd.C_drew ?_))); (case side2 => exact (Kd.R_reads' HO286.out).2.1); (case side3 => repeat (first | exact (Kd.R_reads' HO289.out).2.2 | (with_reducible refine Kd.C_alloc ?_ _) | (with_reducible refine Kd.C_drewN ?_ _) | (with_reducible refine Kd.C_drew ?_))); (case side4 => exact (Kd.R_reads' HO289.out).2.1); rintro e w' ⟨rfl, ⟨nd, rfl⟩⟩; refine ⟨_, rfl, ?_⟩) | ((with_reducible refine gate_callee (f := 15) rfl ?_); refine goesL_ (some 78) rfl rfl Try.func15 (by kernel_rfl) rfl #[.slice A5 l5.length c5, .int .i64 a6] rfl (by (try simp only [List.map_toArray, List.map_cons, List.map_nil]); first | done | rfl | (simp only [List.length_drop, List.length_take]; rfl)) ?_; (with_reducible refine (audit_Shift.calls k2 _ _ l5 a6 t291 _ ?side1 ?side2 A25.out).mono ?_); (case side1 => repeat (first | exact (Kd.C_below HR5.out (by repeat (first | (with_reducible first | exact HB.out | apply below_alloc | apply pw_below_drewN | apply below_drew1) | exact HB.out))) | (with_reducible refine Kd.C_alloc ?_ _) | (with_reducible refine Kd.C_drewN ?_ _) | (with_reducible refine Kd.C_drew ?_))); (case side2 => exact HC5.out); rintro e w39 ⟨v292, rfl, ho0, hb⟩; refine ⟨_, rfl, ?_⟩; have n0_ := Aside0.mk (Kd.V_elder' (by (with_reducible repeat (first | apply Kd.V_alloc | apply Kd.V_drewN | apply Kd.V_drew)); exact HO_4.out) (Kd.R_base ho0) hb); have n1_ := Aside0.mk (Kd.N_elder' (by (with_reducible repeat (first | apply Kd.N_alloc | apply Kd.N_drewN | apply Kd.N_drew)); exact HO_16.out) (Kd.R_base ho0) hb); have n2_ := Aside0.mk (Kd.R_below (by (with_reducible repeat (first | apply Kd.R_alloc | apply Kd.R_drewN | apply Kd.R_drew)); exact HO286.out) hb); have n3_ := Aside0.mk (Kd.R_below (by (with_reducible repeat (first | apply Kd.R_alloc | apply Kd.R_drewN | apply Kd.R_drew)); exact HO289.out) hb); have n4_ := Aside0.mk (Kd.R_lower (Kd.R_newM (M := fun k_ => (w.heap.size ≤ k_)) ho0 (below_size (by repeat (first | (with_reducible first | exact HB.out | apply below_alloc | apply pw_below_drewN | apply below_drew1) | exact HB.out))) (fun k_ h_ => h_)) (below_size (by repeat (first | (with_reducible first | exact HB.out | apply below_alloc | apply pw_below_drewN | apply below_drew1) | exact HB.out)))); have n5_ := Aside0.mk (below_step (by repeat (first | (with_reducible first | exact HB.out | apply below_alloc | apply pw_below_drewN | apply below_drew1) | exact HB.out)) hb); clear HO_4; clear HO_16; clear HO286; clear HO289; clear HB; have HO_4 := n0_; have HO_16 := n1_; have HO286 := n2_; have HO289 := n3_; have HO293 := n4_; have HB := n5_; clear n0_ n1_ n2_ n3_ n4_ n5_; (try clear hb); (try clear hb2); (try clear hk); (try clear hi); (try clear ho0)) | ((with_reducible refine gate_callee (f := 19) rfl ?_); refine goesL_ (some 81) rfl rfl Try.func19 (by kernel_rfl) rfl #[.slice A5 l5.length c5, .int .i64 a6] rfl (by (try simp only [List.map_toArray, List.map_cons, List.map_nil]); first | done | rfl | (simp only [List.length_drop, List.length_take]; rfl)) ?_; (with_reducible refine (towncrierref21_Shift.calls _ _ l5 a6 t294 _ ?side1 ?side2 A26.out).mono ?_); (case side1 => repeat (first | exact (Kd.C_below HR5.out HB.out) | (with_reducible refine Kd.C_alloc ?_ _) | (with_reducible refine Kd.C_drewN ?_ _) | (with_reducible refine Kd.C_drew ?_))); (case side2 => exact HC5.out); rintro e w40 ⟨v295, rfl, ho0, hb⟩; refine ⟨_, rfl, ?_⟩; have n0_ := Aside0.mk (Kd.V_elder' (by (with_reducible repeat (first | apply Kd.V_alloc | apply Kd.V_drewN | apply Kd.V_drew)); exact HO_4.out) (Kd.R_base ho0) hb); have n1_ := Aside0.mk (Kd.N_elder' (by (with_reducible repeat (first | apply Kd.N_alloc | apply Kd.N_drewN | apply Kd.N_drew)); exact HO_16.out) (Kd.R_base ho0) hb); have n2_ := Aside0.mk (Kd.R_below (by (with_reducible repeat (first | apply Kd.R_alloc | apply Kd.R_drewN | apply Kd.R_drew)); exact HO286.out) hb); have n3_ := Aside0.mk (Kd.R_below (by (with_reducible repeat (first | apply Kd.R_alloc | apply Kd.R_drewN | apply Kd.R_drew)); exact HO289.out) hb); have n4_ := Aside0.mk (Kd.R_elder' (by (with_reducible repeat (first | apply Kd.R_alloc | apply Kd.R_drewN | apply Kd.R_drew)); exact HO293.out) (Kd.R_base ho0) hb); have n5_ := Aside0.mk (Kd.R_lower (Kd.R_new' (Kd.R_newM (M := fun k_ => (w.heap.size ≤ k_)) ho0 (below_size (by repeat (first | (with_reducible first | exact HB.out | apply below_alloc | apply pw_below_drewN | apply below_drew1) | exact HB.out))) (fun k_ h_ => h_)) (Kd.R_lt (by (with_reducible repeat (first | apply Kd.R_alloc | apply Kd.R_drewN | apply Kd.R_drew)); exact HO293.out))) (below_size (by repeat (first | (with_reducible first | exact HB.out | apply below_alloc | apply pw_below_drewN | apply below_drew1) | exact HB.out)))); have n6_ := Aside0.mk (below_step (by repeat (first | (with_reducible first | exact HB.out | apply below_alloc | apply pw_below_drewN | apply below_drew1) | exact HB.out)) hb); clear HO_4; clear HO_16; clear HO286; clear HO289; clear HO293; clear HB; have HO_4 := n0_; have HO_16 := n1_; have HO286 := n2_; have HO289 := n3_; have HO293 := n4_; have HO296 := n5_; have HB := n6_; clear n0_ n1_ n2_ n3_ n4_ n5_ n6_; (try clear hb); (try clear hb2); (try clear hk); (try clear hi); (try clear ho0); obtain ⟨Ao41, co41, eo41⟩ := Kd.R_slice HO293.out; subst eo41; obtain ⟨Ao42, co42, eo42⟩ := Kd.R_slice HO296.out; subst eo42) | ((with_reducible refine gate_callee (f := 14) rfl ?_); refine goesL_ (some 82) rfl rfl Try.func14 (by kernel_rfl) rfl #[.slice Ao41 t291.length co41, .slice Ao42 t294.length co42] rfl (by (try simp only [List.map_toArray, List.map_cons, List.map_nil]); first | done | rfl | (simp only [List.length_drop, List.length_take]; rfl)) ?_; (with_reducible refine (towncrierref12_Same.calls k2 _ _ t291 _ _ t294 t297 _ ?side1 ?side2 ?side3 ?side4 A27.out).mono ?_); (case side1 => repeat (first | exact (Kd.R_reads' HO293.out).2.2 | (with_reducible refine Kd.C_alloc ?_ _) | (with_reducible refine Kd.C_drewN ?_ _) | (with_reducible refine Kd.C_drew ?_))); (case side2 => exact (Kd.R_reads' HO293.out).2.1); (case side3 => repeat (first | exact (Kd.R_reads' HO296.out).2.2 | (with_reducible refine Kd.C_alloc ?_ _) | (with_reducible refine Kd.C_drewN ?_ _) | (with_reducible refine Kd.C_drew ?_))); (case side4 => exact (Kd.R_reads' HO296.out).2.1); rintro e w' ⟨rfl, ⟨nd, rfl⟩⟩; refine ⟨_, rfl, ?_⟩) | ((with_reducible refine gate_callee (f := 20) rfl ?_); refine goesL_ (some 85) rfl rfl Try.func20 (by kernel_rfl) rfl #[.slice A2 l2.length c2, .int .i64 a3] rfl (by (try simp only [List.map_toArray, List.map_cons, List.map_nil]); first | done | rfl | (simp only [List.length_drop, List.length_take]; rfl)) ?_; (with_reducible refine (towncrierref21_Line.calls k2 _ _ l2 a3 t298 _ ?side1 ?side2 A28.out).mono ?_); (case side1 => repeat (first | exact (Kd.C_below HR2.out (by repeat (first | (with_reducible first | exact HB.out | apply below_alloc | apply pw_below_drewN | apply below_drew1) | exact HB.out))) | (with_reducible refine Kd.C_alloc ?_ _) | (with_reducible refine Kd.C_drewN ?_ _) | (with_reducible refine Kd.C_drew ?_))); (case side2 => exact HC2.out); rintro e w' ⟨rfl, ⟨nd, rfl⟩⟩; refine ⟨_, rfl, ?_⟩) | ((with_reducible refine gate_callee (f := 21) rfl ?_); refine goesL_ (some 88) rfl rfl Try.func21 (by kernel_rfl) rfl #[.slice A2 l2.length c2, .slice A5 l5.length c5] rfl (by (try simp only [List.map_toArray, List.map_cons, List.map_nil]); first | done | rfl | (simp only [List.length_drop, List.length_take]; rfl)) ?_; (with_reducible refine (towncrierref21_Right.calls k2 _ _ l2 _ _ l5 t299 _ ?side1 ?side2 ?side3 ?side4 A29.out).mono ?_); (case side1 => repeat (first | exact (Kd.C_below HR2.out (by repeat (first | (with_reducible first | exact HB.out | apply below_alloc | apply pw_below_drewN | apply below_drew1) | exact HB.out))) | (with_reducible refine Kd.C_alloc ?_ _) | (with_reducible refine Kd.C_drewN ?_ _) | (with_reducible refine Kd.C_drew ?_))); (case side2 => exact HC2.out); (case side3 => repeat (first | exact (Kd.C_below HR5.out (by repeat (first | (with_reducible first | exact HB.out | apply below_alloc | apply pw_below_drewN | apply below_drew1) | exact HB.out))) | (with_reducible refine Kd.C_alloc ?_ _) | (with_reducible refine Kd.C_drewN ?_ _) | (with_reducible refine Kd.C_drew ?_))); (case side4 => exact HC5.out); rintro e w' ⟨rfl, ⟨nd, rfl⟩⟩; refine ⟨_, rfl, ?_⟩) | ((with_reducible refine gate_callee (f := 22) rfl ?_); refine goesL_ (some 91) rfl rfl Try.func22 (by kernel_rfl) rfl #[.slice A4 l4.length c4, .slice A0 l0.length c0] rfl (by (try simp only [List.map_toArray, List.map_cons, List.map_nil]); first | done | rfl | (simp only [List.length_drop, List.length_take]; rfl)) ?_; (with_reducible refine (audit_Log.calls k2 _ _ l4 _ _ l0 t300 _ ?side1 ?side2 ?side3 ?side4 A30.out).mono ?_); (case side1 => repeat (first | exact (Kd.V_reads' HO_4.out).2.2 | (with_reducible refine Kd.C_alloc ?_ _) | (with_reducible refine Kd.C_drewN ?_ _) | (with_reducible refine Kd.C_drew ?_))); (case side2 => exact (Kd.V_reads' HO_4.out).2.1); (case side3 => repeat (first | exact (Kd.C_below HR0.out (by repeat (first | (with_reducible first | exact HB.out | apply below_alloc | apply pw_below_drewN | apply below_drew1) | exact HB.out))) | (with_reducible refine Kd.C_alloc ?_ _) | (with_reducible refine Kd.C_drewN ?_ _) | (with_reducible refine Kd.C_drew ?_))); (case side4 => exact HC0.out); rintro e w43 ⟨v301, rfl, ho0, hb⟩; refine ⟨_, rfl, ?_⟩; have n0_ := Aside0.mk (Kd.V_elder' (by (with_reducible repeat (first | apply Kd.V_alloc | apply Kd.V_drewN | apply Kd.V_drew)); exact HO_4.out) (Kd.S_base ho0) hb); have n1_ := Aside0.mk (Kd.N_elder' (by (with_reducible repeat (first | apply Kd.N_alloc | apply Kd.N_drewN | apply Kd.N_drew)); exact HO_16.out) (Kd.S_base ho0) hb); have n2_ := Aside0.mk (Kd.R_below (by (with_reducible repeat (first | apply Kd.R_alloc | apply Kd.R_drewN | apply Kd.R_drew)); exact HO286.out) hb); have n3_ := Aside0.mk (Kd.R_below (by (with_reducible repeat (first | apply Kd.R_alloc | apply Kd.R_drewN | apply Kd.R_drew)); exact HO289.out) hb); have n4_ := Aside0.mk (Kd.R_below (by (with_reducible repeat (first | apply Kd.R_alloc | apply Kd.R_drewN | apply Kd.R_drew)); exact HO293.out) hb); have n5_ := Aside0.mk (Kd.R_below (by (with_reducible repeat (first | apply Kd.R_alloc | apply Kd.R_drewN | apply Kd.R_drew)); exact HO296.out) hb); have n6_ := Aside0.mk (Kd.N_lower (Kd.N_mono (ok' := fun k_ => (P4_ k_ ∨ w.heap.size ≤ k_) ∧ some k_ ≠ (.slice Ao33 x16_2.length co33 : Value).ownBlock ∧ some k_ ≠ (.slice Ao37 t284.length co37 : Value).ownBlock ∧ some k_ ≠ (.slice Ao38 t287.length co38 : Value).ownBlock ∧ some k_ ≠ (.slice Ao41 t291.length co41 : Value).ownBlock ∧ some k_ ≠ (.slice Ao42 t294.length co42 : Value).ownBlock) (Kd.S_N (Kd.S_bound ho0)) (fun k_ hk_ => ⟨(.inr (Nat.le_trans (below_size (by repeat (first | (with_reducible first | exact HB.out | apply below_alloc | apply pw_below_drewN | apply below_drew1) | exact HB.out))) hk_.2.1)), (Kd.fresh' (Kd.N_lt (by (with_reducible repeat (first | apply Kd.N_alloc | apply Kd.N_drewN | apply Kd.N_drew)); exact HO_16.out)) k_ hk_.2.1), (Kd.fresh' (Kd.R_lt (by (with_reducible repeat (first | apply Kd.R_alloc | apply Kd.R_drewN | apply Kd.R_drew)); exact HO286.out)) k_ hk_.2.1), (Kd.fresh' (Kd.R_lt (by (with_reducible repeat (first | apply Kd.R_alloc | apply Kd.R_drewN | apply Kd.R_drew)); exact HO289.out)) k_ hk_.2.1), (Kd.fresh' (Kd.R_lt (by (with_reducible repeat (first | apply Kd.R_alloc | apply Kd.R_drewN | apply Kd.R_drew)); exact HO293.out)) k_ hk_.2.1), (Kd.fresh' (Kd.R_lt (by (with_reducible repeat (first | apply Kd.R_alloc | apply Kd.R_drewN | apply Kd.R_drew)); exact HO296.out)) k_ hk_.2.1)⟩)) (below_size (by repeat (first | (with_reducible first | exact HB.out | apply below_alloc | apply pw_below_drewN | apply below_drew1) | exact HB.out)))); have n7_ := Aside0.mk (below_step (by repeat (first | (with_reducible first | exact HB.out | apply below_alloc | apply pw_below_drewN | apply below_drew1) | exact HB.out)) hb); clear HO_4; clear HO_16; clear HO286; clear HO289; clear HO293; clear HO296; clear HB; have HO_4 := n0_; have HO_16 := n1_; have HO286 := n2_; have HO289 := n3_; have HO293 := n4_; have HO296 := n5_; have HO302 := n6_; have HB := n7_; clear n0_ n1_ n2_ n3_ n4_ n5_ n6_ n7_; (try clear hb); (try clear hb2); (try clear hk); (try clear hi); (try clear ho0)) | ((with_reducible refine gate_callee (f := 23) rfl ?_); refine goesL_ (some 94) rfl rfl Try.func23 (by kernel_rfl) rfl #[.slice A4 l4.length c4, .slice A0 l0.length c0] rfl (by (try simp only [List.map_toArray, List.map_cons, List.map_nil]); first | done | rfl | (simp only [List.length_drop, List.length_take]; rfl)) ?_; (with_reducible refine (towncrierref21_Log.calls k2 (fun k_ => (((((((P4_ k_ ∨ w.heap.size ≤ k_) ∧ some k_ ≠ (.slice Ao33 x16_2.length co33 : Value).ownBlock) ∧ some k_ ≠ (.slice Ao37 t284.length co37 : Value).ownBlock) ∧ some k_ ≠ (.slice Ao38 t287.length co38 : Value).ownBlock) ∧ some k_ ≠ (.slice Ao41 t291.length co41 : Value).ownBlock) ∧ some k_ ≠ (.slice Ao42 t294.length co42 : Value).ownBlock) ∧ some k_ ≠ (v301 : Value).ownBlock)) _ _ l4 _ _ l0 t303 _ ?side1 ?side2 ?side3 A31.out).mono ?_); (case side1 => exact HO_4.out); (case side2 => repeat (first | exact (Kd.C_below HR0.out HB.out) | (with_reducible refine Kd.C_alloc ?_ _) | (with_reducible refine Kd.C_drewN ?_ _) | (with_reducible refine Kd.C_drew ?_))); (case side3 => exact HC0.out); rintro e w44 ⟨v304, rfl, ho0, hb⟩; refine ⟨_, rfl, ?_⟩; have n0_ := Aside0.mk (Kd.V_elder' (by (with_reducible repeat (first | apply Kd.V_alloc | apply Kd.V_drewN | apply Kd.V_drew)); exact HO_4.out) (Kd.N_base ho0) hb); have n1_ := Aside0.mk (Kd.N_elder' (by (with_reducible repeat (first | apply Kd.N_alloc | apply Kd.N_drewN | apply Kd.N_drew)); exact HO_16.out) (Kd.N_base ho0) hb); have n2_ := Aside0.mk (Kd.R_below (by (with_reducible repeat (first | apply Kd.R_alloc | apply Kd.R_drewN | apply Kd.R_drew)); exact HO286.out) hb); have n3_ := Aside0.mk (Kd.R_below (by (with_reducible repeat (first | apply Kd.R_alloc | apply Kd.R_drewN | apply Kd.R_drew)); exact HO289.out) hb); have n4_ := Aside0.mk (Kd.R_below (by (with_reducible repeat (first | apply Kd.R_alloc | apply Kd.R_drewN | apply Kd.R_drew)); exact HO293.out) hb); have n5_ := Aside0.mk (Kd.R_below (by (with_reducible repeat (first | apply Kd.R_alloc | apply Kd.R_drewN | apply Kd.R_drew)); exact HO296.out) hb); have n6_ := Aside0.mk (Kd.N_elder' (by (with_reducible repeat (first | apply Kd.N_alloc | apply Kd.N_drewN | apply Kd.N_drew)); exact HO302.out) (Kd.N_base ho0) hb); have n7_ := Aside0.mk (Kd.N_lower (Kd.N_mono (ok' := fun k_ => (P4_ k_ ∨ w.heap.size ≤ k_) ∧ some k_ ≠ (.slice Ao33 x16_2.length co33 : Value).ownBlock ∧ some k_ ≠ (.slice Ao37 t284.length co37 : Value).ownBlock ∧ some k_ ≠ (.slice Ao38 t287.length co38 : Value).ownBlock ∧ some k_ ≠ (.slice Ao41 t291.length co41 : Value).ownBlock ∧ some k_ ≠ (.slice Ao42 t294.length co42 : Value).ownBlock ∧ some k_ ≠ (v301 : Value).ownBlock) ho0 (fun k_ hk_ => ⟨Or.elim hk_ (fun hs_ => hs_.1.1.1.1.1.1) (fun hn_ => (.inr (Nat.le_trans (below_size (by repeat (first | (with_reducible first | exact HB.out | apply below_alloc | apply pw_below_drewN | apply below_drew1) | exact HB.out))) hn_))), Or.elim hk_ (fun hs_ => hs_.1.1.1.1.1.2) (fun hn_ => (Kd.fresh' (Kd.N_lt (by (with_reducible repeat (first | apply Kd.N_alloc | apply Kd.N_drewN | apply Kd.N_drew)); exact HO_16.out)) k_ hn_)), Or.elim hk_ (fun hs_ => hs_.1.1.1.1.2) (fun hn_ => (Kd.fresh' (Kd.R_lt (by (with_reducible repeat (first | apply Kd.R_alloc | apply Kd.R_drewN | apply Kd.R_drew)); exact HO286.out)) k_ hn_)), Or.elim hk_ (fun hs_ => hs_.1.1.1.2) (fun hn_ => (Kd.fresh' (Kd.R_lt (by (with_reducible repeat (first | apply Kd.R_alloc | apply Kd.R_drewN | apply Kd.R_drew)); exact HO289.out)) k_ hn_)), Or.elim hk_ (fun hs_ => hs_.1.1.2) (fun hn_ => (Kd.fresh' (Kd.R_lt (by (with_reducible repeat (first | apply Kd.R_alloc | apply Kd.R_drewN | apply Kd.R_drew)); exact HO293.out)) k_ hn_)), Or.elim hk_ (fun hs_ => hs_.1.2) (fun hn_ => (Kd.fresh' (Kd.R_lt (by (with_reducible repeat (first | apply Kd.R_alloc | apply Kd.R_drewN | apply Kd.R_drew)); exact HO296.out)) k_ hn_)), Or.elim hk_ (fun hs_ => hs_.2) (fun hn_ => (Kd.fresh' (Kd.N_lt (by (with_reducible repeat (first | apply Kd.N_alloc | apply Kd.N_drewN | apply Kd.N_drew)); exact HO302.out)) k_ hn_))⟩)) (below_size (by repeat (first | (with_reducible first | exact HB.out | apply below_alloc | apply pw_below_drewN | apply below_drew1) | exact HB.out)))); have n8_ := Aside0.mk (below_step (by repeat (first | (with_reducible first | exact HB.out | apply below_alloc | apply pw_below_drewN | apply below_drew1) | exact HB.out)) hb); clear HO_4; clear HO_16; clear HO286; clear HO289; clear HO293; clear HO296; clear HO302; clear HB; have HO_4 := n0_; have HO_16 := n1_; have HO286 := n2_; have HO289 := n3_; have HO293 := n4_; have HO296 := n5_; have HO302 := n6_; have HO305 := n7_; have HB := n8_; clear n0_ n1_ n2_ n3_ n4_ n5_ n6_ n7_ n8_; (try clear hb); (try clear hb2); (try clear hk); (try clear hi); (try clear ho0); obtain ⟨Ao45, co45, eo45⟩ := Kd.N_slice HO302.out; subst eo45; obtain ⟨Ao46, co46, eo46⟩ := Kd.N_slice HO305.out; subst eo46))
                  go_loopg [25] k2 (fun kq v25 w' => ∃ (x25_3 : Int), v25 = .int .i64 x25_3 ∧ Aside0 (towncrierlaw21_AuditTells.l1 kq l2 a3 l5 t290 t297 t298 t299 t300 t303 x25_3 = some r) ∧ Aside0 (kq ≤ k2) ∧ Aside0 (Kd.N kEvent 52 w' w.heap.size (fun k_ => (P4_ k_ ∨ w.heap.size ≤ k_) ∧ some k_ ≠ ((.slice Ao46 t303.length co46) : Value).ownBlock) (.slice Ao45 t300.length co45) t300) ∧ Aside0 (Kd.N kEvent 52 w' w.heap.size (fun k_ => (P4_ k_ ∨ w.heap.size ≤ k_) ∧ some k_ ≠ ((.slice Ao45 t300.length co45) : Value).ownBlock) (.slice Ao46 t303.length co46) t303) ∧ Aside0 (Below w.heap.size w w'))
                  case atStart => exact ⟨(0), (by first | rfl | (simp; done) | (simp [*]; done)), H', ⟨Nat.le_refl _⟩, ⟨by (with_reducible repeat (first | apply Kd.N_alloc | apply Kd.N_drewN | apply Kd.N_drew)); exact Kd.N_mono HO302.out (fun _ hk => ⟨hk.1.1, hk.2⟩)⟩, ⟨by (with_reducible repeat (first | apply Kd.N_alloc | apply Kd.N_drewN | apply Kd.N_drew)); exact Kd.N_mono HO305.out (fun _ hk => ⟨hk.1, hk.2.2.2.2.2.2⟩)⟩, ⟨by repeat (first | (with_reducible first | exact HB.out | apply below_alloc | apply pw_below_drewN | apply below_drew1) | exact HB.out)⟩⟩
                  case round =>
                    clear H'
                    try clear c1
                    try clear c2
                    try clear p2
                    try clear q2
                    try clear hx2
                    try clear c3
                    try clear c4
                    try clear c5
                    try clear p6
                    try clear c8
                    try clear c10
                    try clear c11
                    try clear c12
                    try clear c12b0
                    try clear c12b1
                    try clear c13
                    try clear c13b0
                    try clear c13b1
                    try clear c14
                    try clear c14b0
                    try clear c14b1
                    try clear c15
                    try clear c16
                    try clear c16b0
                    try clear c17
                    try clear c17b0
                    try clear c18
                    try clear c19
                    try clear c20
                    try clear c21
                    try clear c22
                    try clear c23
                    try clear c27
                    try clear p27
                    try clear q27
                    try clear hx27
                    try clear c32
                    try clear c32b0
                    try clear c32b1
                    try clear c32b2
                    try clear hx279_0
                    try clear hx279_1
                    try clear hx279_10
                    try clear hx279_11
                    try clear hx279_12
                    try clear hx279_13
                    try clear hx279_14
                    try clear hx279_2
                    try clear hx279_3
                    try clear hx279_4
                    try clear hx279_5
                    try clear hx279_6
                    try clear hx279_7
                    try clear hx279_8
                    try clear hx279_9
                    try clear p2
                    try clear p279
                    try clear q279
                    obtain ⟨x25_3, rfl, HA, HK3, HO_23, HO_24, HB⟩ := hrel
                    cases gk with
                    | zero => exact absurd HA.out (by simp [towncrierlaw21_AuditTells.l1])
                    | succ k3 =>
                      have H := HA.out
                      clear HA
                      simp only [towncrierlaw21_AuditTells.l1] at H
                      by_cases c47 : x25_3 < (t300.length : Int)
                      · rw [if_pos c47] at H
                        have c47b0 : decide (x25_3 < (t300.length : Int)) = true := decide_eq_true c47
                        clear c47
                        by_cases c48 : 0 ≤ x25_3
                        · rw [if_pos c48] at H
                          have c48b0 : decide (0 ≤ x25_3) = true := decide_eq_true c48
                          clear c48
                          by_cases c49 : x25_3 < (t303.length : Int)
                          · rw [if_pos c49] at H
                            have c49b0 : decide (x25_3 < (t303.length : Int)) = true := decide_eq_true c49
                            clear c49
                            replace H := Option.bind_eq_some_iff.mp H
                            obtain ⟨t308, A500, H⟩ := H
                            replace H : (if t308 = true then (towncrierlaw21_AuditTells.l1 k3 l2 a3 l5 t290 t297 t298 t299 t300 t303 (wrap64 (x25_3 + 1))) else (some false)) = some r := H
                            have A50 := Aside0.mk A500
                            clear A500
                            by_cases c51 : t308 = true
                            · subst c51
                              have H1 : (towncrierlaw21_AuditTells.l1 k3 l2 a3 l5 t290 t297 t298 t299 t300 t303 (wrap64 (x25_3 + 1))) = some r := by rw [if_pos rfl] at H; exact H
                              clear H
                              have H := H1
                              clear H1
                              have H' := Aside0.mk H
                              clear H
                              try go_wp2
                              have n0_ := Aside0.mk (Kd.N_drew HO_23.out)
                              have n1_ := Aside0.mk (Kd.N_drew HO_24.out)
                              have n2_ := Aside0.mk (below_drew1 HB.out)
                              clear HO_23
                              clear HO_24
                              clear HB
                              have HO_23 := n0_
                              have HO_24 := n1_
                              have HB := n2_
                              clear n0_ n1_ n2_
                              have p306 : 0 ≤ (x25_3 : Int) := of_decide_eq_true (by first | (with_reducible assumption) | assumption)
                              have q306 : x25_3 < (t300.length : Int) := of_decide_eq_true (by first | (with_reducible assumption) | assumption)
                              obtain ⟨ad306, A306_2, c306_2, e306, hx306_0, hx306_1, hx306_2, hl306_2, hi306_2⟩ := at_TEvent (Kd.N_reads' HO_23.out).2.2 x25_3 p306 q306
                              cases e306
                              obtain ⟨ce306, hce306, hMe306, hcc306⟩ := Kd.N_get HO_23.out zEvent x25_3 p306 (by first | exact q306 | exact of_decide_eq_true (by first | (with_reducible assumption) | assumption) | (have e_ := (Kd.N_reads' HO_23.out).1; omega))
                              obtain ⟨ua306_2, uc306_2, rfl, ul306_2, ge306_2⟩ := kEvent_openF hMe306
                              have hv306_2 := hcc306 2 _ rfl
                              rw [add_field _ _ 2 (by omega)] at hv306_2
                              replace hv306_2 := Option.some.inj (hv306_2.symm.trans hx306_2)
                              injection hv306_2 with hva_ hvn_ hvc_
                              rw [hva_] at ge306_2
                              rw [hvc_] at ul306_2
                              have HL306_2 := Aside0.mk (show Kd.V kValue 74 _ w.heap.size _ _ ((rd_TEvent t300 x25_3).f2) from Kd.V_mk ul306_2 ge306_2)
                              clear hva_ hvn_ hvc_ ge306_2 ul306_2
                              clear hcc306 hce306
                              have HR306_2 := Aside0.mk hi306_2
                              have HC306_2 := Aside0.mk hl306_2
                              clear hi306_2 hl306_2
                              replace p306 := eq_true p306
                              replace q306 := eq_true q306
                              have p307 : 0 ≤ (x25_3 : Int) := of_decide_eq_true (by first | (with_reducible assumption) | assumption)
                              have q307 : x25_3 < (t303.length : Int) := of_decide_eq_true (by first | (with_reducible assumption) | assumption)
                              obtain ⟨ad307, A307_2, c307_2, e307, hx307_0, hx307_1, hx307_2, hl307_2, hi307_2⟩ := at_TEvent (Kd.N_reads' HO_24.out).2.2 x25_3 p307 q307
                              cases e307
                              obtain ⟨ce307, hce307, hMe307, hcc307⟩ := Kd.N_get HO_24.out zEvent x25_3 p307 (by first | exact q307 | exact of_decide_eq_true (by first | (with_reducible assumption) | assumption) | (have e_ := (Kd.N_reads' HO_24.out).1; omega))
                              obtain ⟨ua307_2, uc307_2, rfl, ul307_2, ge307_2⟩ := kEvent_openF hMe307
                              have hv307_2 := hcc307 2 _ rfl
                              rw [add_field _ _ 2 (by omega)] at hv307_2
                              replace hv307_2 := Option.some.inj (hv307_2.symm.trans hx307_2)
                              injection hv307_2 with hva_ hvn_ hvc_
                              rw [hva_] at ge307_2
                              rw [hvc_] at ul307_2
                              have HL307_2 := Aside0.mk (show Kd.V kValue 74 _ w.heap.size _ _ ((rd_TEvent t303 x25_3).f2) from Kd.V_mk ul307_2 ge307_2)
                              clear hva_ hvn_ hvc_ ge307_2 ul307_2
                              clear hcc307 hce307
                              have HR307_2 := Aside0.mk hi307_2
                              have HC307_2 := Aside0.mk hl307_2
                              clear hi307_2 hl307_2
                              replace p307 := eq_true p307
                              replace q307 := eq_true q307
                              refine start_ (n := 10) (S := fun w' => w'.cell? (ad306.add ((x25_3).toNat * 3)) = some (.string ((rd_TEvent t300 x25_3).f0)) ∧ w'.cell? ⟨(ad306.add ((x25_3).toNat * 3)).block, (ad306.add ((x25_3).toNat * 3)).off + 1, none⟩ = some (.int .i64 ((rd_TEvent t300 x25_3).f1)) ∧ w'.cell? ⟨(ad306.add ((x25_3).toNat * 3)).block, (ad306.add ((x25_3).toNat * 3)).off + 2, none⟩ = some (.slice A306_2 ((rd_TEvent t300 x25_3).f2).length c306_2) ∧ w'.cell? (ad307.add ((x25_3).toNat * 3)) = some (.string ((rd_TEvent t303 x25_3).f0)) ∧ w'.cell? ⟨(ad307.add ((x25_3).toNat * 3)).block, (ad307.add ((x25_3).toNat * 3)).off + 1, none⟩ = some (.int .i64 ((rd_TEvent t303 x25_3).f1)) ∧ w'.cell? ⟨(ad307.add ((x25_3).toNat * 3)).block, (ad307.add ((x25_3).toNat * 3)).off + 2, none⟩ = some (.slice A307_2 ((rd_TEvent t303 x25_3).f2).length c307_2)) (ds := []) #[false, false, false, false, false, false, false, false, false, false] (by kernel_rfl) rfl rfl ⟨hx306_0, hx306_1, hx306_2, hx307_0, hx307_1, hx307_2⟩ (fun hHeld => ?_); refine with_tabW towncrierlaw21_AuditTells.tab23 towncrierlaw21_AuditTells.bits23 (fun HT_ HW_ => ?_)
                              generalize wr.drew = w52 at HO_23 HO_24 HB HL306_2 HL307_2 HR306_2 HR307_2 hx306_0 hx306_1 hx306_2 hx307_0 hx307_1 hx307_2 hHeld ⊢
                              refine pure_ (i := 0) (N := some 106) (v := ?_) (a' := ?_) #[true, false, false, false, false, false, false, false, false, false] rfl rfl (any_of HT_.out (by kernel_rfl)) (fun _ _ _ h => h) (Or.inl ⟨by rfl, ?_⟩) ?_ ?_
                              rotate_left
                              · intro w'
                                go_simp
                                with_reducible rfl
                              rotate_left
                              · simp only [Act.put, List.setIfInBounds_toArray, List.set_cons_zero, List.set_cons_succ, i64_w, i32_w]
                                rfl
                              refine pure_ (i := 1) (N := some 107) (v := ?_) (a' := ?_) #[true, true, false, false, false, false, false, false, false, false] rfl rfl (any_of HT_.out (by kernel_rfl)) (fun _ _ _ h => h) (Or.inl ⟨by rfl, ?_⟩) ?_ ?_
                              rotate_left
                              · intro w'
                                go_simp
                                with_reducible rfl
                              rotate_left
                              · simp only [Act.put, List.setIfInBounds_toArray, List.set_cons_zero, List.set_cons_succ, i64_w, i32_w]
                                rfl
                              refine pure_ (i := 2) (N := some 108) (v := ?_) (a' := ?_) #[true, true, true, false, false, false, false, false, false, false] rfl rfl (any_of HT_.out (by kernel_rfl)) (fun _ _ _ h => h) (Or.inl ⟨by rfl, ?_⟩) ?_ ?_
                              rotate_left
                              · intro w'
                                go_simp
                                with_reducible rfl
                              rotate_left
                              · simp only [Act.put, List.setIfInBounds_toArray, List.set_cons_zero, List.set_cons_succ, i64_w, i32_w]
                                rfl
                              refine pure_ (i := 4) (N := some 110) (v := ?_) (a' := ?_) #[true, true, true, false, true, false, false, false, false, false] rfl rfl (any_of HT_.out (by kernel_rfl)) (fun _ _ _ h => h) (Or.inl ⟨by rfl, ?_⟩) ?_ ?_
                              rotate_left
                              · intro w'
                                go_simp
                                with_reducible rfl
                              rotate_left
                              · simp only [Act.put, List.setIfInBounds_toArray, List.set_cons_zero, List.set_cons_succ, i64_w, i32_w]
                                rfl
                              refine pure_ (i := 5) (N := some 111) (v := ?_) (a' := ?_) #[true, true, true, false, true, true, false, false, false, false] rfl rfl (any_of HT_.out (by kernel_rfl)) (fun _ _ _ h => h) (Or.inl ⟨by rfl, ?_⟩) ?_ ?_
                              rotate_left
                              · intro w'
                                go_simp
                                with_reducible rfl
                              rotate_left
                              · simp only [Act.put, List.setIfInBounds_toArray, List.set_cons_zero, List.set_cons_succ, i64_w, i32_w]
                                rfl
                              refine pure_ (i := 6) (N := some 112) (v := ?_) (a' := ?_) #[true, true, true, false, true, true, true, false, false, false] rfl rfl (any_of HT_.out (by kernel_rfl)) (fun _ _ _ h => h) (Or.inl ⟨by rfl, ?_⟩) ?_ ?_
                              rotate_left
                              · intro w'
                                go_simp
                                with_reducible rfl
                              rotate_left
                              · simp only [Act.put, List.setIfInBounds_toArray, List.set_cons_zero, List.set_cons_succ, i64_w, i32_w]
                                rfl
                              refine take_ (i := 3) (N := some 109) (v := ?_) (a' := ?_) #[true, true, true, true, true, true, true, false, false, false] rfl rfl (take_ofW HT_.out HW_.out (by kernel_rfl)) (fun _ _ _ h => h) (Or.inl ⟨by rfl, ?_⟩) hHeld ?_ ?_
                              rotate_left
                              · rintro w' ⟨s0, s1, s2, s3, s4, s5⟩
                                go_simp
                                with_reducible rfl
                              rotate_left
                              · simp only [Act.put, List.setIfInBounds_toArray, List.set_cons_zero, List.set_cons_succ, i64_w, i32_w]
                                rfl
                              refine take_ (i := 7) (N := some 113) (v := ?_) (a' := ?_) #[true, true, true, true, true, true, true, true, false, false] rfl rfl (take_ofW HT_.out HW_.out (by kernel_rfl)) (fun _ _ _ h => h) (Or.inl ⟨by rfl, ?_⟩) hHeld ?_ ?_
                              rotate_left
                              · rintro w' ⟨s0, s1, s2, s3, s4, s5⟩
                                go_simp
                                with_reducible rfl
                              rotate_left
                              · simp only [Act.put, List.setIfInBounds_toArray, List.set_cons_zero, List.set_cons_succ, i64_w, i32_w]
                                rfl
                              refine one_ (i := 8) (N := some 114) #[true, true, true, true, true, true, true, true, true, false] rfl rfl (one_of HT_.out (by kernel_rfl)) (by decide) (fun K hK => ?_)
                              refine goes_ Try.func24 (by kernel_rfl) rfl #[.agg #[.string ((rd_TEvent t300 x25_3).f0), .int .i64 ((rd_TEvent t300 x25_3).f1), .slice A306_2 ((rd_TEvent t300 x25_3).f2).length c306_2], .agg #[.string ((rd_TEvent t303 x25_3).f0), .int .i64 ((rd_TEvent t303 x25_3).f1), .slice A307_2 ((rd_TEvent t303 x25_3).f2).length c307_2]] (by rfl) rfl rfl (by (try simp only [List.map_toArray, List.map_cons, List.map_nil]); first | done | rfl | (simp only [List.length_drop, List.length_take]; rfl)) ?_
                              with_reducible refine (towncrierref06_Same.calls k3 ((rd_TEvent t300 x25_3).f0) ((rd_TEvent t300 x25_3).f1) _ _ ((rd_TEvent t300 x25_3).f2) ((rd_TEvent t303 x25_3).f0) ((rd_TEvent t303 x25_3).f1) _ _ ((rd_TEvent t303 x25_3).f2) true _ ?side1 ?side2 ?side3 ?side4 A50.out).mono ?_
                              (case side1 => repeat (first | exact (by repeat (first | (with_reducible exact HR306_2.out) | (with_reducible refine Kd.C_alloc ?_ _) | (with_reducible refine Kd.C_drewN ?_ _) | (with_reducible refine Kd.C_drew ?_) | exact HR306_2.out)) | (with_reducible refine Kd.C_alloc ?_ _) | (with_reducible refine Kd.C_drewN ?_ _) | (with_reducible refine Kd.C_drew ?_)))
                              (case side2 => exact HC306_2.out)
                              (case side3 => repeat (first | exact (by repeat (first | (with_reducible exact HR307_2.out) | (with_reducible refine Kd.C_alloc ?_ _) | (with_reducible refine Kd.C_drewN ?_ _) | (with_reducible refine Kd.C_drew ?_) | exact HR307_2.out)) | (with_reducible refine Kd.C_alloc ?_ _) | (with_reducible refine Kd.C_drewN ?_ _) | (with_reducible refine Kd.C_drew ?_)))
                              (case side4 => exact HC307_2.out)
                              rintro e w53 ⟨rfl, hb⟩
                              have HS0_ := (hb.cell (World.block_lt_of_cell? _ _ (hHeld.1))).trans (hHeld.1)
                              have HS1_ := (hb.cell (World.block_lt_of_cell? _ _ (hHeld.2.1))).trans (hHeld.2.1)
                              have HS2_ := (hb.cell (World.block_lt_of_cell? _ _ (hHeld.2.2.1))).trans (hHeld.2.2.1)
                              have HS3_ := (hb.cell (World.block_lt_of_cell? _ _ (hHeld.2.2.2.1))).trans (hHeld.2.2.2.1)
                              have HS4_ := (hb.cell (World.block_lt_of_cell? _ _ (hHeld.2.2.2.2.1))).trans (hHeld.2.2.2.2.1)
                              have HS5_ := (hb.cell (World.block_lt_of_cell? _ _ (hHeld.2.2.2.2.2))).trans (hHeld.2.2.2.2.2)
                              refine ⟨_, rfl, ?_⟩
                              have n0_ := Aside0.mk (Kd.N_below (by (with_reducible repeat (first | apply Kd.N_alloc | apply Kd.N_drewN | apply Kd.N_drew)); exact HO_23.out) hb)
                              have n1_ := Aside0.mk (Kd.N_below (by (with_reducible repeat (first | apply Kd.N_alloc | apply Kd.N_drewN | apply Kd.N_drew)); exact HO_24.out) hb)
                              have n2_ := Aside0.mk (Kd.V_below (by (with_reducible repeat (first | apply Kd.V_alloc | apply Kd.V_drewN | apply Kd.V_drew)); exact HL306_2.out) hb)
                              have n3_ := Aside0.mk (Kd.V_below (by (with_reducible repeat (first | apply Kd.V_alloc | apply Kd.V_drewN | apply Kd.V_drew)); exact HL307_2.out) hb)
                              have n4_ := Aside0.mk (Kd.C_below (by repeat (first | (with_reducible exact HR306_2.out) | (with_reducible refine Kd.C_alloc ?_ _) | (with_reducible refine Kd.C_drewN ?_ _) | (with_reducible refine Kd.C_drew ?_) | exact HR306_2.out)) hb)
                              have n5_ := Aside0.mk (Kd.C_below (by repeat (first | (with_reducible exact HR307_2.out) | (with_reducible refine Kd.C_alloc ?_ _) | (with_reducible refine Kd.C_drewN ?_ _) | (with_reducible refine Kd.C_drew ?_) | exact HR307_2.out)) hb)
                              have n6_ := Aside0.mk (below_step (by repeat (first | (with_reducible first | exact HB.out | apply below_alloc | apply pw_below_drewN | apply below_drew1) | exact HB.out)) hb)
                              clear HO_23
                              clear HO_24
                              clear HL306_2
                              clear HL307_2
                              clear HR306_2
                              clear HR307_2
                              clear HB
                              have HO_23 := n0_
                              have HO_24 := n1_
                              have HL306_2 := n2_
                              have HL307_2 := n3_
                              have HR306_2 := n4_
                              have HR307_2 := n5_
                              have HB := n6_
                              clear n0_ n1_ n2_ n3_ n4_ n5_ n6_
                              (try clear hb)
                              (try clear hb2)
                              (try clear hk)
                              (try clear hi)
                              refine hK.out _ _ ⟨HS0_, HS1_, HS2_, HS3_, HS4_, HS5_⟩ (fun hHeld => ?_)
                              clear hK K
                              refine norm_ (a' := ?_) ?_ ?_
                              rotate_left
                              · show Act.put _ (some 114) _ = _
                                simp only [Act.put, List.setIfInBounds_toArray, List.set_cons_zero, List.set_cons_succ, i64_w, i32_w]
                                rfl
                              refine pure_ (i := 9) (N := some 26) (v := ?_) (a' := ?_) #[true, true, true, true, true, true, true, true, true, true] rfl rfl (any_of HT_.out (by kernel_rfl)) (fun _ _ _ h => h) (Or.inl ⟨by rfl, ?_⟩) ?_ ?_
                              rotate_left
                              · intro w'
                                go_simp
                                with_reducible rfl
                              rotate_left
                              · simp only [Act.put, List.setIfInBounds_toArray, List.set_cons_zero, List.set_cons_succ, i64_w, i32_w]
                                rfl
                              refine done_ (done_of HT_.out (by kernel_rfl)) ?_
                              try go_wp2
                              go_roundg k3
                              case measure => have := HJ8.out; have := HK2.out; have := HK3.out; omega
                              case rel => exact ⟨(wrap64 (x25_3 + 1)), (by first | rfl | (simp; done) | (simp [*]; done)), H', ⟨by have := HJ8.out; have := HK2.out; have := HK3.out; omega⟩, ⟨by (with_reducible repeat (first | apply Kd.N_alloc | apply Kd.N_drewN | apply Kd.N_drew)); exact HO_23.out⟩, ⟨by (with_reducible repeat (first | apply Kd.N_alloc | apply Kd.N_drewN | apply Kd.N_drew)); exact HO_24.out⟩, ⟨by repeat (first | (with_reducible first | exact HB.out | apply below_alloc | apply pw_below_drewN | apply below_drew1) | exact HB.out)⟩⟩
                            · replace c51 := Bool.eq_false_iff.mpr c51
                              subst c51
                              have H1 : (some false) = some r := by rw [if_neg (show ¬ (false = true) by decide)] at H; exact H
                              clear H
                              have H := H1
                              clear H1
                              obtain rfl := Option.some.inj H
                              try go_wp2
                              have n0_ := Aside0.mk (Kd.N_drew HO_23.out)
                              have n1_ := Aside0.mk (Kd.N_drew HO_24.out)
                              have n2_ := Aside0.mk (below_drew1 HB.out)
                              clear HO_23
                              clear HO_24
                              clear HB
                              have HO_23 := n0_
                              have HO_24 := n1_
                              have HB := n2_
                              clear n0_ n1_ n2_
                              have p306 : 0 ≤ (x25_3 : Int) := of_decide_eq_true (by first | (with_reducible assumption) | assumption)
                              have q306 : x25_3 < (t300.length : Int) := of_decide_eq_true (by first | (with_reducible assumption) | assumption)
                              obtain ⟨ad306, A306_2, c306_2, e306, hx306_0, hx306_1, hx306_2, hl306_2, hi306_2⟩ := at_TEvent (Kd.N_reads' HO_23.out).2.2 x25_3 p306 q306
                              cases e306
                              obtain ⟨ce306, hce306, hMe306, hcc306⟩ := Kd.N_get HO_23.out zEvent x25_3 p306 (by first | exact q306 | exact of_decide_eq_true (by first | (with_reducible assumption) | assumption) | (have e_ := (Kd.N_reads' HO_23.out).1; omega))
                              obtain ⟨ua306_2, uc306_2, rfl, ul306_2, ge306_2⟩ := kEvent_openF hMe306
                              have hv306_2 := hcc306 2 _ rfl
                              rw [add_field _ _ 2 (by omega)] at hv306_2
                              replace hv306_2 := Option.some.inj (hv306_2.symm.trans hx306_2)
                              injection hv306_2 with hva_ hvn_ hvc_
                              rw [hva_] at ge306_2
                              rw [hvc_] at ul306_2
                              have HL306_2 := Aside0.mk (show Kd.V kValue 74 _ w.heap.size _ _ ((rd_TEvent t300 x25_3).f2) from Kd.V_mk ul306_2 ge306_2)
                              clear hva_ hvn_ hvc_ ge306_2 ul306_2
                              clear hcc306 hce306
                              have HR306_2 := Aside0.mk hi306_2
                              have HC306_2 := Aside0.mk hl306_2
                              clear hi306_2 hl306_2
                              replace p306 := eq_true p306
                              replace q306 := eq_true q306
                              have p307 : 0 ≤ (x25_3 : Int) := of_decide_eq_true (by first | (with_reducible assumption) | assumption)
                              have q307 : x25_3 < (t303.length : Int) := of_decide_eq_true (by first | (with_reducible assumption) | assumption)
                              obtain ⟨ad307, A307_2, c307_2, e307, hx307_0, hx307_1, hx307_2, hl307_2, hi307_2⟩ := at_TEvent (Kd.N_reads' HO_24.out).2.2 x25_3 p307 q307
                              cases e307
                              obtain ⟨ce307, hce307, hMe307, hcc307⟩ := Kd.N_get HO_24.out zEvent x25_3 p307 (by first | exact q307 | exact of_decide_eq_true (by first | (with_reducible assumption) | assumption) | (have e_ := (Kd.N_reads' HO_24.out).1; omega))
                              obtain ⟨ua307_2, uc307_2, rfl, ul307_2, ge307_2⟩ := kEvent_openF hMe307
                              have hv307_2 := hcc307 2 _ rfl
                              rw [add_field _ _ 2 (by omega)] at hv307_2
                              replace hv307_2 := Option.some.inj (hv307_2.symm.trans hx307_2)
                              injection hv307_2 with hva_ hvn_ hvc_
                              rw [hva_] at ge307_2
                              rw [hvc_] at ul307_2
                              have HL307_2 := Aside0.mk (show Kd.V kValue 74 _ w.heap.size _ _ ((rd_TEvent t303 x25_3).f2) from Kd.V_mk ul307_2 ge307_2)
                              clear hva_ hvn_ hvc_ ge307_2 ul307_2
                              clear hcc307 hce307
                              have HR307_2 := Aside0.mk hi307_2
                              have HC307_2 := Aside0.mk hl307_2
                              clear hi307_2 hl307_2
                              replace p307 := eq_true p307
                              replace q307 := eq_true q307
                              refine start_ (n := 10) (S := fun w' => w'.cell? (ad306.add ((x25_3).toNat * 3)) = some (.string ((rd_TEvent t300 x25_3).f0)) ∧ w'.cell? ⟨(ad306.add ((x25_3).toNat * 3)).block, (ad306.add ((x25_3).toNat * 3)).off + 1, none⟩ = some (.int .i64 ((rd_TEvent t300 x25_3).f1)) ∧ w'.cell? ⟨(ad306.add ((x25_3).toNat * 3)).block, (ad306.add ((x25_3).toNat * 3)).off + 2, none⟩ = some (.slice A306_2 ((rd_TEvent t300 x25_3).f2).length c306_2) ∧ w'.cell? (ad307.add ((x25_3).toNat * 3)) = some (.string ((rd_TEvent t303 x25_3).f0)) ∧ w'.cell? ⟨(ad307.add ((x25_3).toNat * 3)).block, (ad307.add ((x25_3).toNat * 3)).off + 1, none⟩ = some (.int .i64 ((rd_TEvent t303 x25_3).f1)) ∧ w'.cell? ⟨(ad307.add ((x25_3).toNat * 3)).block, (ad307.add ((x25_3).toNat * 3)).off + 2, none⟩ = some (.slice A307_2 ((rd_TEvent t303 x25_3).f2).length c307_2)) (ds := []) #[false, false, false, false, false, false, false, false, false, false] (by kernel_rfl) rfl rfl ⟨hx306_0, hx306_1, hx306_2, hx307_0, hx307_1, hx307_2⟩ (fun hHeld => ?_); refine with_tabW towncrierlaw21_AuditTells.tab23 towncrierlaw21_AuditTells.bits23 (fun HT_ HW_ => ?_)
                              generalize wr.drew = w54 at HO_23 HO_24 HB HL306_2 HL307_2 HR306_2 HR307_2 hx306_0 hx306_1 hx306_2 hx307_0 hx307_1 hx307_2 hHeld ⊢
                              refine pure_ (i := 0) (N := some 106) (v := ?_) (a' := ?_) #[true, false, false, false, false, false, false, false, false, false] rfl rfl (any_of HT_.out (by kernel_rfl)) (fun _ _ _ h => h) (Or.inl ⟨by rfl, ?_⟩) ?_ ?_
                              rotate_left
                              · intro w'
                                go_simp
                                with_reducible rfl
                              rotate_left
                              · simp only [Act.put, List.setIfInBounds_toArray, List.set_cons_zero, List.set_cons_succ, i64_w, i32_w]
                                rfl
                              refine pure_ (i := 1) (N := some 107) (v := ?_) (a' := ?_) #[true, true, false, false, false, false, false, false, false, false] rfl rfl (any_of HT_.out (by kernel_rfl)) (fun _ _ _ h => h) (Or.inl ⟨by rfl, ?_⟩) ?_ ?_
                              rotate_left
                              · intro w'
                                go_simp
                                with_reducible rfl
                              rotate_left
                              · simp only [Act.put, List.setIfInBounds_toArray, List.set_cons_zero, List.set_cons_succ, i64_w, i32_w]
                                rfl
                              refine pure_ (i := 2) (N := some 108) (v := ?_) (a' := ?_) #[true, true, true, false, false, false, false, false, false, false] rfl rfl (any_of HT_.out (by kernel_rfl)) (fun _ _ _ h => h) (Or.inl ⟨by rfl, ?_⟩) ?_ ?_
                              rotate_left
                              · intro w'
                                go_simp
                                with_reducible rfl
                              rotate_left
                              · simp only [Act.put, List.setIfInBounds_toArray, List.set_cons_zero, List.set_cons_succ, i64_w, i32_w]
                                rfl
                              refine pure_ (i := 4) (N := some 110) (v := ?_) (a' := ?_) #[true, true, true, false, true, false, false, false, false, false] rfl rfl (any_of HT_.out (by kernel_rfl)) (fun _ _ _ h => h) (Or.inl ⟨by rfl, ?_⟩) ?_ ?_
                              rotate_left
                              · intro w'
                                go_simp
                                with_reducible rfl
                              rotate_left
                              · simp only [Act.put, List.setIfInBounds_toArray, List.set_cons_zero, List.set_cons_succ, i64_w, i32_w]
                                rfl
                              refine pure_ (i := 5) (N := some 111) (v := ?_) (a' := ?_) #[true, true, true, false, true, true, false, false, false, false] rfl rfl (any_of HT_.out (by kernel_rfl)) (fun _ _ _ h => h) (Or.inl ⟨by rfl, ?_⟩) ?_ ?_
                              rotate_left
                              · intro w'
                                go_simp
                                with_reducible rfl
                              rotate_left
                              · simp only [Act.put, List.setIfInBounds_toArray, List.set_cons_zero, List.set_cons_succ, i64_w, i32_w]
                                rfl
                              refine pure_ (i := 6) (N := some 112) (v := ?_) (a' := ?_) #[true, true, true, false, true, true, true, false, false, false] rfl rfl (any_of HT_.out (by kernel_rfl)) (fun _ _ _ h => h) (Or.inl ⟨by rfl, ?_⟩) ?_ ?_
                              rotate_left
                              · intro w'
                                go_simp
                                with_reducible rfl
                              rotate_left
                              · simp only [Act.put, List.setIfInBounds_toArray, List.set_cons_zero, List.set_cons_succ, i64_w, i32_w]
                                rfl
                              refine take_ (i := 3) (N := some 109) (v := ?_) (a' := ?_) #[true, true, true, true, true, true, true, false, false, false] rfl rfl (take_ofW HT_.out HW_.out (by kernel_rfl)) (fun _ _ _ h => h) (Or.inl ⟨by rfl, ?_⟩) hHeld ?_ ?_
                              rotate_left
                              · rintro w' ⟨s0, s1, s2, s3, s4, s5⟩
                                go_simp
                                with_reducible rfl
                              rotate_left
                              · simp only [Act.put, List.setIfInBounds_toArray, List.set_cons_zero, List.set_cons_succ, i64_w, i32_w]
                                rfl
                              refine take_ (i := 7) (N := some 113) (v := ?_) (a' := ?_) #[true, true, true, true, true, true, true, true, false, false] rfl rfl (take_ofW HT_.out HW_.out (by kernel_rfl)) (fun _ _ _ h => h) (Or.inl ⟨by rfl, ?_⟩) hHeld ?_ ?_
                              rotate_left
                              · rintro w' ⟨s0, s1, s2, s3, s4, s5⟩
                                go_simp
                                with_reducible rfl
                              rotate_left
                              · simp only [Act.put, List.setIfInBounds_toArray, List.set_cons_zero, List.set_cons_succ, i64_w, i32_w]
                                rfl
                              refine one_ (i := 8) (N := some 114) #[true, true, true, true, true, true, true, true, true, false] rfl rfl (one_of HT_.out (by kernel_rfl)) (by decide) (fun K hK => ?_)
                              refine goes_ Try.func24 (by kernel_rfl) rfl #[.agg #[.string ((rd_TEvent t300 x25_3).f0), .int .i64 ((rd_TEvent t300 x25_3).f1), .slice A306_2 ((rd_TEvent t300 x25_3).f2).length c306_2], .agg #[.string ((rd_TEvent t303 x25_3).f0), .int .i64 ((rd_TEvent t303 x25_3).f1), .slice A307_2 ((rd_TEvent t303 x25_3).f2).length c307_2]] (by rfl) rfl rfl (by (try simp only [List.map_toArray, List.map_cons, List.map_nil]); first | done | rfl | (simp only [List.length_drop, List.length_take]; rfl)) ?_
                              with_reducible refine (towncrierref06_Same.calls k3 ((rd_TEvent t300 x25_3).f0) ((rd_TEvent t300 x25_3).f1) _ _ ((rd_TEvent t300 x25_3).f2) ((rd_TEvent t303 x25_3).f0) ((rd_TEvent t303 x25_3).f1) _ _ ((rd_TEvent t303 x25_3).f2) false _ ?side1 ?side2 ?side3 ?side4 A50.out).mono ?_
                              (case side1 => repeat (first | exact (by repeat (first | (with_reducible exact HR306_2.out) | (with_reducible refine Kd.C_alloc ?_ _) | (with_reducible refine Kd.C_drewN ?_ _) | (with_reducible refine Kd.C_drew ?_) | exact HR306_2.out)) | (with_reducible refine Kd.C_alloc ?_ _) | (with_reducible refine Kd.C_drewN ?_ _) | (with_reducible refine Kd.C_drew ?_)))
                              (case side2 => exact HC306_2.out)
                              (case side3 => repeat (first | exact (by repeat (first | (with_reducible exact HR307_2.out) | (with_reducible refine Kd.C_alloc ?_ _) | (with_reducible refine Kd.C_drewN ?_ _) | (with_reducible refine Kd.C_drew ?_) | exact HR307_2.out)) | (with_reducible refine Kd.C_alloc ?_ _) | (with_reducible refine Kd.C_drewN ?_ _) | (with_reducible refine Kd.C_drew ?_)))
                              (case side4 => exact HC307_2.out)
                              rintro e w55 ⟨rfl, hb⟩
                              have HS0_ := (hb.cell (World.block_lt_of_cell? _ _ (hHeld.1))).trans (hHeld.1)
                              have HS1_ := (hb.cell (World.block_lt_of_cell? _ _ (hHeld.2.1))).trans (hHeld.2.1)
                              have HS2_ := (hb.cell (World.block_lt_of_cell? _ _ (hHeld.2.2.1))).trans (hHeld.2.2.1)
                              have HS3_ := (hb.cell (World.block_lt_of_cell? _ _ (hHeld.2.2.2.1))).trans (hHeld.2.2.2.1)
                              have HS4_ := (hb.cell (World.block_lt_of_cell? _ _ (hHeld.2.2.2.2.1))).trans (hHeld.2.2.2.2.1)
                              have HS5_ := (hb.cell (World.block_lt_of_cell? _ _ (hHeld.2.2.2.2.2))).trans (hHeld.2.2.2.2.2)
                              refine ⟨_, rfl, ?_⟩
                              have n0_ := Aside0.mk (Kd.N_below (by (with_reducible repeat (first | apply Kd.N_alloc | apply Kd.N_drewN | apply Kd.N_drew)); exact HO_23.out) hb)
                              have n1_ := Aside0.mk (Kd.N_below (by (with_reducible repeat (first | apply Kd.N_alloc | apply Kd.N_drewN | apply Kd.N_drew)); exact HO_24.out) hb)
                              have n2_ := Aside0.mk (Kd.V_below (by (with_reducible repeat (first | apply Kd.V_alloc | apply Kd.V_drewN | apply Kd.V_drew)); exact HL306_2.out) hb)
                              have n3_ := Aside0.mk (Kd.V_below (by (with_reducible repeat (first | apply Kd.V_alloc | apply Kd.V_drewN | apply Kd.V_drew)); exact HL307_2.out) hb)
                              have n4_ := Aside0.mk (Kd.C_below (by repeat (first | (with_reducible exact HR306_2.out) | (with_reducible refine Kd.C_alloc ?_ _) | (with_reducible refine Kd.C_drewN ?_ _) | (with_reducible refine Kd.C_drew ?_) | exact HR306_2.out)) hb)
                              have n5_ := Aside0.mk (Kd.C_below (by repeat (first | (with_reducible exact HR307_2.out) | (with_reducible refine Kd.C_alloc ?_ _) | (with_reducible refine Kd.C_drewN ?_ _) | (with_reducible refine Kd.C_drew ?_) | exact HR307_2.out)) hb)
                              have n6_ := Aside0.mk (below_step (by repeat (first | (with_reducible first | exact HB.out | apply below_alloc | apply pw_below_drewN | apply below_drew1) | exact HB.out)) hb)
                              clear HO_23
                              clear HO_24
                              clear HL306_2
                              clear HL307_2
                              clear HR306_2
                              clear HR307_2
                              clear HB
                              have HO_23 := n0_
                              have HO_24 := n1_
                              have HL306_2 := n2_
                              have HL307_2 := n3_
                              have HR306_2 := n4_
                              have HR307_2 := n5_
                              have HB := n6_
                              clear n0_ n1_ n2_ n3_ n4_ n5_ n6_
                              (try clear hb)
                              (try clear hb2)
                              (try clear hk)
                              (try clear hi)
                              refine hK.out _ _ ⟨HS0_, HS1_, HS2_, HS3_, HS4_, HS5_⟩ (fun hHeld => ?_)
                              clear hK K
                              refine norm_ (a' := ?_) ?_ ?_
                              rotate_left
                              · show Act.put _ (some 114) _ = _
                                simp only [Act.put, List.setIfInBounds_toArray, List.set_cons_zero, List.set_cons_succ, i64_w, i32_w]
                                rfl
                              refine pure_ (i := 9) (N := some 26) (v := ?_) (a' := ?_) #[true, true, true, true, true, true, true, true, true, true] rfl rfl (any_of HT_.out (by kernel_rfl)) (fun _ _ _ h => h) (Or.inl ⟨by rfl, ?_⟩) ?_ ?_
                              rotate_left
                              · intro w'
                                go_simp
                                with_reducible rfl
                              rotate_left
                              · simp only [Act.put, List.setIfInBounds_toArray, List.set_cons_zero, List.set_cons_succ, i64_w, i32_w]
                                rfl
                              refine done_ (done_of HT_.out (by kernel_rfl)) ?_
                              try go_wp2
                              go_ret
                              exact ⟨by first | rfl | (simp [errW_none, errW_some] <;> rfl) | (simp [*, errW_none, errW_some] <;> rfl), by repeat (first | (with_reducible first | exact HB.out | apply below_alloc | apply pw_below_drewN | apply below_drew1) | exact HB.out)⟩
                          · rw [if_neg c49] at H
                            exact absurd H (by simp)
                        · rw [if_neg c48] at H
                          exact absurd H (by simp)
                      · rw [if_neg c47] at H
                        have c47b0 : decide (x25_3 < (t300.length : Int)) = false := decide_eq_false c47
                        clear c47
                        by_cases c56 : t290 = true
                        · subst c56
                          have H1 : (if t297 = true then ((audit_Line.f l2 a3).bind fun t309 => (if (t309 == t298) = true then ((audit_Right.f l2 l5).bind fun t310 => (some (t310 == t299))) else (some false))) else (some false)) = some r := by rw [if_pos rfl] at H; exact H
                          clear H
                          have H := H1
                          clear H1
                          by_cases c57 : t297 = true
                          · subst c57
                            have H1 : ((audit_Line.f l2 a3).bind fun t309 => (if (t309 == t298) = true then ((audit_Right.f l2 l5).bind fun t310 => (some (t310 == t299))) else (some false))) = some r := by rw [if_pos rfl] at H; exact H
                            clear H
                            have H := H1
                            clear H1
                            replace H := Option.bind_eq_some_iff.mp H
                            obtain ⟨t309, A580, H⟩ := H
                            replace H : (if (t309 == t298) = true then ((audit_Right.f l2 l5).bind fun t310 => (some (t310 == t299))) else (some false)) = some r := H
                            have A58 := Aside0.mk A580
                            clear A580
                            by_cases c59 : (t309 == t298) = true
                            · rw [if_pos c59] at H
                              have c59b0 : (t309 == t298) = true := c59
                              (try (have c59b1 : decide (t309 = t298) = true := by simpa using c59))
                              (try (have c59b2 : (t309 == t298) = true := by simpa using c59))
                              clear c59
                              replace H := Option.bind_eq_some_iff.mp H
                              obtain ⟨t310, A600, H⟩ := H
                              replace H : (some (t310 == t299)) = some r := H
                              have A60 := Aside0.mk A600
                              clear A600
                              obtain rfl := Option.some.inj H
                              go_wp2_with (first | (go_at_call 11; (with_reducible refine (audit_Line.calls _ _ l2 a3 t309 _ ?side1 ?side2 A58.out).mono ?_); (case side1 => repeat (first | exact (Kd.C_below HR2.out HB.out) | (with_reducible refine Kd.C_alloc ?_ _) | (with_reducible refine Kd.C_drewN ?_ _) | (with_reducible refine Kd.C_drew ?_))); (case side2 => exact HC2.out); rintro e w61 ⟨rfl, hb⟩; have n0_ := Aside0.mk (Kd.N_below (by (with_reducible repeat (first | apply Kd.N_alloc | apply Kd.N_drewN | apply Kd.N_drew)); exact HO_23.out) hb); have n1_ := Aside0.mk (Kd.N_below (by (with_reducible repeat (first | apply Kd.N_alloc | apply Kd.N_drewN | apply Kd.N_drew)); exact HO_24.out) hb); have n2_ := Aside0.mk (below_step (by repeat (first | (with_reducible first | exact HB.out | apply below_alloc | apply pw_below_drewN | apply below_drew1) | exact HB.out)) hb); clear HO_23; clear HO_24; clear HB; have HO_23 := n0_; have HO_24 := n1_; have HB := n2_; clear n0_ n1_ n2_; (try clear hb); (try clear hb2); (try clear hk); (try clear hi)) | (go_at_call 16; (with_reducible refine (audit_Right.calls _ _ l2 _ _ l5 t310 _ ?side1 ?side2 ?side3 ?side4 A60.out).mono ?_); (case side1 => repeat (first | exact (Kd.C_below HR2.out HB.out) | (with_reducible refine Kd.C_alloc ?_ _) | (with_reducible refine Kd.C_drewN ?_ _) | (with_reducible refine Kd.C_drew ?_))); (case side2 => exact HC2.out); (case side3 => repeat (first | exact (Kd.C_below HR5.out HB.out) | (with_reducible refine Kd.C_alloc ?_ _) | (with_reducible refine Kd.C_drewN ?_ _) | (with_reducible refine Kd.C_drew ?_))); (case side4 => exact HC5.out); rintro e w62 ⟨rfl, hb⟩; have n0_ := Aside0.mk (Kd.N_below (by (with_reducible repeat (first | apply Kd.N_alloc | apply Kd.N_drewN | apply Kd.N_drew)); exact HO_23.out) hb); have n1_ := Aside0.mk (Kd.N_below (by (with_reducible repeat (first | apply Kd.N_alloc | apply Kd.N_drewN | apply Kd.N_drew)); exact HO_24.out) hb); have n2_ := Aside0.mk (below_step (by repeat (first | (with_reducible first | exact HB.out | apply below_alloc | apply pw_below_drewN | apply below_drew1) | exact HB.out)) hb); clear HO_23; clear HO_24; clear HB; have HO_23 := n0_; have HO_24 := n1_; have HB := n2_; clear n0_ n1_ n2_; (try clear hb); (try clear hb2); (try clear hk); (try clear hi)))
                              go_ret
                              exact ⟨by first | rfl | (simp [errW_none, errW_some] <;> rfl) | (simp [*, errW_none, errW_some] <;> rfl), by repeat (first | (with_reducible first | exact HB.out | apply below_alloc | apply pw_below_drewN | apply below_drew1) | exact HB.out)⟩
                            · rw [if_neg c59] at H
                              have c59b0 : (t309 == t298) = false := by simpa using c59
                              (try (have c59b1 : decide (t309 = t298) = false := by simpa using c59))
                              (try (have c59b2 : (t309 == t298) = false := by simpa using c59))
                              (try (have c59b3 : ¬ (t309 = t298) := by simpa using c59))
                              clear c59
                              obtain rfl := Option.some.inj H
                              go_wp2_with (first | (go_at_call 11; (with_reducible refine (audit_Line.calls _ _ l2 a3 t309 _ ?side1 ?side2 A58.out).mono ?_); (case side1 => repeat (first | exact (Kd.C_below HR2.out HB.out) | (with_reducible refine Kd.C_alloc ?_ _) | (with_reducible refine Kd.C_drewN ?_ _) | (with_reducible refine Kd.C_drew ?_))); (case side2 => exact HC2.out); rintro e w63 ⟨rfl, hb⟩; have n0_ := Aside0.mk (Kd.N_below (by (with_reducible repeat (first | apply Kd.N_alloc | apply Kd.N_drewN | apply Kd.N_drew)); exact HO_23.out) hb); have n1_ := Aside0.mk (Kd.N_below (by (with_reducible repeat (first | apply Kd.N_alloc | apply Kd.N_drewN | apply Kd.N_drew)); exact HO_24.out) hb); have n2_ := Aside0.mk (below_step (by repeat (first | (with_reducible first | exact HB.out | apply below_alloc | apply pw_below_drewN | apply below_drew1) | exact HB.out)) hb); clear HO_23; clear HO_24; clear HB; have HO_23 := n0_; have HO_24 := n1_; have HB := n2_; clear n0_ n1_ n2_; (try clear hb); (try clear hb2); (try clear hk); (try clear hi)))
                              go_ret
                              exact ⟨by first | rfl | (simp [errW_none, errW_some] <;> rfl) | (simp [*, errW_none, errW_some] <;> rfl), by repeat (first | (with_reducible first | exact HB.out | apply below_alloc | apply pw_below_drewN | apply below_drew1) | exact HB.out)⟩
                          · replace c57 := Bool.eq_false_iff.mpr c57
                            subst c57
                            have H1 : (some false) = some r := by rw [if_neg (show ¬ (false = true) by decide)] at H; exact H
                            clear H
                            have H := H1
                            clear H1
                            obtain rfl := Option.some.inj H
                            go_wp2
                            go_ret
                            exact ⟨by first | rfl | (simp [errW_none, errW_some] <;> rfl) | (simp [*, errW_none, errW_some] <;> rfl), by repeat (first | (with_reducible first | exact HB.out | apply below_alloc | apply pw_below_drewN | apply below_drew1) | exact HB.out)⟩
                        · replace c56 := Bool.eq_false_iff.mpr c56
                          subst c56
                          have H1 : (some false) = some r := by rw [if_neg (show ¬ (false = true) by decide)] at H; exact H
                          clear H
                          have H := H1
                          clear H1
                          obtain rfl := Option.some.inj H
                          go_wp2
                          go_ret
                          exact ⟨by first | rfl | (simp [errW_none, errW_some] <;> rfl) | (simp [*, errW_none, errW_some] <;> rfl), by repeat (first | (with_reducible first | exact HB.out | apply below_alloc | apply pw_below_drewN | apply below_drew1) | exact HB.out)⟩
                · rw [if_neg c32] at H
                  have c32b0 : ((t300.length : Int) == (t303.length : Int)) = false := beq_eq_false_iff_ne.mpr c32
                  have c32b1 : ((t300.length : Int) != (t303.length : Int)) = true := bne_iff_ne.mpr c32
                  have c32b2 : (t300.length == t303.length) = false := by first | simpa using c32 | (simp at c32 ⊢; omega)
                  obtain rfl := Option.some.inj H
                  obtain ⟨Ao64, co64, eo64⟩ := Kd.N_slice HO_16.out
                  subst eo64
                  go_wp2_with (first | ((with_reducible refine gate_callee (f := 17) rfl ?_); refine goesL_ (some 66) rfl rfl Try.func17 (by kernel_rfl) rfl #[.slice Ao64 x16_2.length co64, .int .i64 40] rfl (by (try simp only [List.map_toArray, List.map_cons, List.map_nil]); first | done | rfl | (simp only [List.length_drop, List.length_take]; rfl)) ?_; (with_reducible refine (towncrierlaw12_Log.calls k2 _ _ x16_2 40 true _ ?side1 ?side2 A20.out).mono ?_); (case side1 => repeat (first | exact (Kd.N_reads' HO_16.out).2.2 | (with_reducible refine Kd.C_alloc ?_ _) | (with_reducible refine Kd.C_drewN ?_ _) | (with_reducible refine Kd.C_drew ?_))); (case side2 => exact (Kd.N_reads' HO_16.out).2.1); rintro e w65 ⟨rfl, hb⟩; refine ⟨_, rfl, ?_⟩; have n0_ := Aside0.mk (Kd.V_below (by (with_reducible repeat (first | apply Kd.V_alloc | apply Kd.V_drewN | apply Kd.V_drew)); exact HO_4.out) hb); have n1_ := Aside0.mk (Kd.N_below (by (with_reducible repeat (first | apply Kd.N_alloc | apply Kd.N_drewN | apply Kd.N_drew)); exact HO_16.out) hb); have n2_ := Aside0.mk (below_step (by repeat (first | (with_reducible first | exact HB.out | apply below_alloc | apply pw_below_drewN | apply below_drew1) | exact HB.out)) hb); clear HO_4; clear HO_16; clear HB; have HO_4 := n0_; have HO_16 := n1_; have HB := n2_; clear n0_ n1_ n2_; (try clear hb); (try clear hb2); (try clear hk); (try clear hi)) | ((with_reducible refine gate_callee (f := 12) rfl ?_); refine goesL_ (some 71) rfl rfl Try.func12 (by kernel_rfl) rfl #[.slice A0 l0.length c0, .int .i64 a1] rfl (by (try simp only [List.map_toArray, List.map_cons, List.map_nil]); first | done | rfl | (simp only [List.length_drop, List.length_take]; rfl)) ?_; (with_reducible refine (audit_Notes.calls _ _ l0 a1 t284 _ ?side1 ?side2 A22.out).mono ?_); (case side1 => repeat (first | exact (Kd.C_below HR0.out HB.out) | (with_reducible refine Kd.C_alloc ?_ _) | (with_reducible refine Kd.C_drewN ?_ _) | (with_reducible refine Kd.C_drew ?_))); (case side2 => exact HC0.out); rintro e w66 ⟨v285, rfl, ho0, hb⟩; refine ⟨_, rfl, ?_⟩; have n0_ := Aside0.mk (Kd.V_elder' (by (with_reducible repeat (first | apply Kd.V_alloc | apply Kd.V_drewN | apply Kd.V_drew)); exact HO_4.out) (Kd.R_base ho0) hb); have n1_ := Aside0.mk (Kd.N_elder' (by (with_reducible repeat (first | apply Kd.N_alloc | apply Kd.N_drewN | apply Kd.N_drew)); exact HO_16.out) (Kd.R_base ho0) hb); have n2_ := Aside0.mk (Kd.R_lower (Kd.R_newM (M := fun k_ => (w.heap.size ≤ k_)) ho0 (below_size (by repeat (first | (with_reducible first | exact HB.out | apply below_alloc | apply pw_below_drewN | apply below_drew1) | exact HB.out))) (fun k_ h_ => h_)) (below_size (by repeat (first | (with_reducible first | exact HB.out | apply below_alloc | apply pw_below_drewN | apply below_drew1) | exact HB.out)))); have n3_ := Aside0.mk (below_step (by repeat (first | (with_reducible first | exact HB.out | apply below_alloc | apply pw_below_drewN | apply below_drew1) | exact HB.out)) hb); clear HO_4; clear HO_16; clear HB; have HO_4 := n0_; have HO_16 := n1_; have HO286 := n2_; have HB := n3_; clear n0_ n1_ n2_ n3_; (try clear hb); (try clear hb2); (try clear hk); (try clear hi); (try clear ho0)) | ((with_reducible refine gate_callee (f := 18) rfl ?_); refine goesL_ (some 74) rfl rfl Try.func18 (by kernel_rfl) rfl #[.slice A0 l0.length c0, .int .i64 a1] rfl (by (try simp only [List.map_toArray, List.map_cons, List.map_nil]); first | done | rfl | (simp only [List.length_drop, List.length_take]; rfl)) ?_; (with_reducible refine (towncrierref21_Notes.calls k2 _ _ l0 a1 t287 _ ?side1 ?side2 A23.out).mono ?_); (case side1 => repeat (first | exact (Kd.C_below HR0.out HB.out) | (with_reducible refine Kd.C_alloc ?_ _) | (with_reducible refine Kd.C_drewN ?_ _) | (with_reducible refine Kd.C_drew ?_))); (case side2 => exact HC0.out); rintro e w67 ⟨v288, rfl, ho0, hb⟩; refine ⟨_, rfl, ?_⟩; have n0_ := Aside0.mk (Kd.V_elder' (by (with_reducible repeat (first | apply Kd.V_alloc | apply Kd.V_drewN | apply Kd.V_drew)); exact HO_4.out) (Kd.R_base ho0) hb); have n1_ := Aside0.mk (Kd.N_elder' (by (with_reducible repeat (first | apply Kd.N_alloc | apply Kd.N_drewN | apply Kd.N_drew)); exact HO_16.out) (Kd.R_base ho0) hb); have n2_ := Aside0.mk (Kd.R_elder' (by (with_reducible repeat (first | apply Kd.R_alloc | apply Kd.R_drewN | apply Kd.R_drew)); exact HO286.out) (Kd.R_base ho0) hb); have n3_ := Aside0.mk (Kd.R_lower (Kd.R_new' (Kd.R_newM (M := fun k_ => (w.heap.size ≤ k_)) ho0 (below_size (by repeat (first | (with_reducible first | exact HB.out | apply below_alloc | apply pw_below_drewN | apply below_drew1) | exact HB.out))) (fun k_ h_ => h_)) (Kd.R_lt (by (with_reducible repeat (first | apply Kd.R_alloc | apply Kd.R_drewN | apply Kd.R_drew)); exact HO286.out))) (below_size (by repeat (first | (with_reducible first | exact HB.out | apply below_alloc | apply pw_below_drewN | apply below_drew1) | exact HB.out)))); have n4_ := Aside0.mk (below_step (by repeat (first | (with_reducible first | exact HB.out | apply below_alloc | apply pw_below_drewN | apply below_drew1) | exact HB.out)) hb); clear HO_4; clear HO_16; clear HO286; clear HB; have HO_4 := n0_; have HO_16 := n1_; have HO286 := n2_; have HO289 := n3_; have HB := n4_; clear n0_ n1_ n2_ n3_ n4_; (try clear hb); (try clear hb2); (try clear hk); (try clear hi); (try clear ho0); obtain ⟨Ao68, co68, eo68⟩ := Kd.R_slice HO286.out; subst eo68; obtain ⟨Ao69, co69, eo69⟩ := Kd.R_slice HO289.out; subst eo69) | ((with_reducible refine gate_callee (f := 13) rfl ?_); refine goesL_ (some 75) rfl rfl Try.func13 (by kernel_rfl) rfl #[.slice Ao68 t284.length co68, .slice Ao69 t287.length co69] rfl (by (try simp only [List.map_toArray, List.map_cons, List.map_nil]); first | done | rfl | (simp only [List.length_drop, List.length_take]; rfl)) ?_; (with_reducible refine (towncrierref21_Same.calls k2 _ _ t284 _ _ t287 t290 _ ?side1 ?side2 ?side3 ?side4 A24.out).mono ?_); (case side1 => repeat (first | exact (Kd.R_reads' HO286.out).2.2 | (with_reducible refine Kd.C_alloc ?_ _) | (with_reducible refine Kd.C_drewN ?_ _) | (with_reducible refine Kd.C_drew ?_))); (case side2 => exact (Kd.R_reads' HO286.out).2.1); (case side3 => repeat (first | exact (Kd.R_reads' HO289.out).2.2 | (with_reducible refine Kd.C_alloc ?_ _) | (with_reducible refine Kd.C_drewN ?_ _) | (with_reducible refine Kd.C_drew ?_))); (case side4 => exact (Kd.R_reads' HO289.out).2.1); rintro e w' ⟨rfl, ⟨nd, rfl⟩⟩; refine ⟨_, rfl, ?_⟩) | ((with_reducible refine gate_callee (f := 15) rfl ?_); refine goesL_ (some 78) rfl rfl Try.func15 (by kernel_rfl) rfl #[.slice A5 l5.length c5, .int .i64 a6] rfl (by (try simp only [List.map_toArray, List.map_cons, List.map_nil]); first | done | rfl | (simp only [List.length_drop, List.length_take]; rfl)) ?_; (with_reducible refine (audit_Shift.calls k2 _ _ l5 a6 t291 _ ?side1 ?side2 A25.out).mono ?_); (case side1 => repeat (first | exact (Kd.C_below HR5.out (by repeat (first | (with_reducible first | exact HB.out | apply below_alloc | apply pw_below_drewN | apply below_drew1) | exact HB.out))) | (with_reducible refine Kd.C_alloc ?_ _) | (with_reducible refine Kd.C_drewN ?_ _) | (with_reducible refine Kd.C_drew ?_))); (case side2 => exact HC5.out); rintro e w70 ⟨v292, rfl, ho0, hb⟩; refine ⟨_, rfl, ?_⟩; have n0_ := Aside0.mk (Kd.V_elder' (by (with_reducible repeat (first | apply Kd.V_alloc | apply Kd.V_drewN | apply Kd.V_drew)); exact HO_4.out) (Kd.R_base ho0) hb); have n1_ := Aside0.mk (Kd.N_elder' (by (with_reducible repeat (first | apply Kd.N_alloc | apply Kd.N_drewN | apply Kd.N_drew)); exact HO_16.out) (Kd.R_base ho0) hb); have n2_ := Aside0.mk (Kd.R_below (by (with_reducible repeat (first | apply Kd.R_alloc | apply Kd.R_drewN | apply Kd.R_drew)); exact HO286.out) hb); have n3_ := Aside0.mk (Kd.R_below (by (with_reducible repeat (first | apply Kd.R_alloc | apply Kd.R_drewN | apply Kd.R_drew)); exact HO289.out) hb); have n4_ := Aside0.mk (Kd.R_lower (Kd.R_newM (M := fun k_ => (w.heap.size ≤ k_)) ho0 (below_size (by repeat (first | (with_reducible first | exact HB.out | apply below_alloc | apply pw_below_drewN | apply below_drew1) | exact HB.out))) (fun k_ h_ => h_)) (below_size (by repeat (first | (with_reducible first | exact HB.out | apply below_alloc | apply pw_below_drewN | apply below_drew1) | exact HB.out)))); have n5_ := Aside0.mk (below_step (by repeat (first | (with_reducible first | exact HB.out | apply below_alloc | apply pw_below_drewN | apply below_drew1) | exact HB.out)) hb); clear HO_4; clear HO_16; clear HO286; clear HO289; clear HB; have HO_4 := n0_; have HO_16 := n1_; have HO286 := n2_; have HO289 := n3_; have HO293 := n4_; have HB := n5_; clear n0_ n1_ n2_ n3_ n4_ n5_; (try clear hb); (try clear hb2); (try clear hk); (try clear hi); (try clear ho0)) | ((with_reducible refine gate_callee (f := 19) rfl ?_); refine goesL_ (some 81) rfl rfl Try.func19 (by kernel_rfl) rfl #[.slice A5 l5.length c5, .int .i64 a6] rfl (by (try simp only [List.map_toArray, List.map_cons, List.map_nil]); first | done | rfl | (simp only [List.length_drop, List.length_take]; rfl)) ?_; (with_reducible refine (towncrierref21_Shift.calls _ _ l5 a6 t294 _ ?side1 ?side2 A26.out).mono ?_); (case side1 => repeat (first | exact (Kd.C_below HR5.out HB.out) | (with_reducible refine Kd.C_alloc ?_ _) | (with_reducible refine Kd.C_drewN ?_ _) | (with_reducible refine Kd.C_drew ?_))); (case side2 => exact HC5.out); rintro e w71 ⟨v295, rfl, ho0, hb⟩; refine ⟨_, rfl, ?_⟩; have n0_ := Aside0.mk (Kd.V_elder' (by (with_reducible repeat (first | apply Kd.V_alloc | apply Kd.V_drewN | apply Kd.V_drew)); exact HO_4.out) (Kd.R_base ho0) hb); have n1_ := Aside0.mk (Kd.N_elder' (by (with_reducible repeat (first | apply Kd.N_alloc | apply Kd.N_drewN | apply Kd.N_drew)); exact HO_16.out) (Kd.R_base ho0) hb); have n2_ := Aside0.mk (Kd.R_below (by (with_reducible repeat (first | apply Kd.R_alloc | apply Kd.R_drewN | apply Kd.R_drew)); exact HO286.out) hb); have n3_ := Aside0.mk (Kd.R_below (by (with_reducible repeat (first | apply Kd.R_alloc | apply Kd.R_drewN | apply Kd.R_drew)); exact HO289.out) hb); have n4_ := Aside0.mk (Kd.R_elder' (by (with_reducible repeat (first | apply Kd.R_alloc | apply Kd.R_drewN | apply Kd.R_drew)); exact HO293.out) (Kd.R_base ho0) hb); have n5_ := Aside0.mk (Kd.R_lower (Kd.R_new' (Kd.R_newM (M := fun k_ => (w.heap.size ≤ k_)) ho0 (below_size (by repeat (first | (with_reducible first | exact HB.out | apply below_alloc | apply pw_below_drewN | apply below_drew1) | exact HB.out))) (fun k_ h_ => h_)) (Kd.R_lt (by (with_reducible repeat (first | apply Kd.R_alloc | apply Kd.R_drewN | apply Kd.R_drew)); exact HO293.out))) (below_size (by repeat (first | (with_reducible first | exact HB.out | apply below_alloc | apply pw_below_drewN | apply below_drew1) | exact HB.out)))); have n6_ := Aside0.mk (below_step (by repeat (first | (with_reducible first | exact HB.out | apply below_alloc | apply pw_below_drewN | apply below_drew1) | exact HB.out)) hb); clear HO_4; clear HO_16; clear HO286; clear HO289; clear HO293; clear HB; have HO_4 := n0_; have HO_16 := n1_; have HO286 := n2_; have HO289 := n3_; have HO293 := n4_; have HO296 := n5_; have HB := n6_; clear n0_ n1_ n2_ n3_ n4_ n5_ n6_; (try clear hb); (try clear hb2); (try clear hk); (try clear hi); (try clear ho0); obtain ⟨Ao72, co72, eo72⟩ := Kd.R_slice HO293.out; subst eo72; obtain ⟨Ao73, co73, eo73⟩ := Kd.R_slice HO296.out; subst eo73) | ((with_reducible refine gate_callee (f := 14) rfl ?_); refine goesL_ (some 82) rfl rfl Try.func14 (by kernel_rfl) rfl #[.slice Ao72 t291.length co72, .slice Ao73 t294.length co73] rfl (by (try simp only [List.map_toArray, List.map_cons, List.map_nil]); first | done | rfl | (simp only [List.length_drop, List.length_take]; rfl)) ?_; (with_reducible refine (towncrierref12_Same.calls k2 _ _ t291 _ _ t294 t297 _ ?side1 ?side2 ?side3 ?side4 A27.out).mono ?_); (case side1 => repeat (first | exact (Kd.R_reads' HO293.out).2.2 | (with_reducible refine Kd.C_alloc ?_ _) | (with_reducible refine Kd.C_drewN ?_ _) | (with_reducible refine Kd.C_drew ?_))); (case side2 => exact (Kd.R_reads' HO293.out).2.1); (case side3 => repeat (first | exact (Kd.R_reads' HO296.out).2.2 | (with_reducible refine Kd.C_alloc ?_ _) | (with_reducible refine Kd.C_drewN ?_ _) | (with_reducible refine Kd.C_drew ?_))); (case side4 => exact (Kd.R_reads' HO296.out).2.1); rintro e w' ⟨rfl, ⟨nd, rfl⟩⟩; refine ⟨_, rfl, ?_⟩) | ((with_reducible refine gate_callee (f := 20) rfl ?_); refine goesL_ (some 85) rfl rfl Try.func20 (by kernel_rfl) rfl #[.slice A2 l2.length c2, .int .i64 a3] rfl (by (try simp only [List.map_toArray, List.map_cons, List.map_nil]); first | done | rfl | (simp only [List.length_drop, List.length_take]; rfl)) ?_; (with_reducible refine (towncrierref21_Line.calls k2 _ _ l2 a3 t298 _ ?side1 ?side2 A28.out).mono ?_); (case side1 => repeat (first | exact (Kd.C_below HR2.out (by repeat (first | (with_reducible first | exact HB.out | apply below_alloc | apply pw_below_drewN | apply below_drew1) | exact HB.out))) | (with_reducible refine Kd.C_alloc ?_ _) | (with_reducible refine Kd.C_drewN ?_ _) | (with_reducible refine Kd.C_drew ?_))); (case side2 => exact HC2.out); rintro e w' ⟨rfl, ⟨nd, rfl⟩⟩; refine ⟨_, rfl, ?_⟩) | ((with_reducible refine gate_callee (f := 21) rfl ?_); refine goesL_ (some 88) rfl rfl Try.func21 (by kernel_rfl) rfl #[.slice A2 l2.length c2, .slice A5 l5.length c5] rfl (by (try simp only [List.map_toArray, List.map_cons, List.map_nil]); first | done | rfl | (simp only [List.length_drop, List.length_take]; rfl)) ?_; (with_reducible refine (towncrierref21_Right.calls k2 _ _ l2 _ _ l5 t299 _ ?side1 ?side2 ?side3 ?side4 A29.out).mono ?_); (case side1 => repeat (first | exact (Kd.C_below HR2.out (by repeat (first | (with_reducible first | exact HB.out | apply below_alloc | apply pw_below_drewN | apply below_drew1) | exact HB.out))) | (with_reducible refine Kd.C_alloc ?_ _) | (with_reducible refine Kd.C_drewN ?_ _) | (with_reducible refine Kd.C_drew ?_))); (case side2 => exact HC2.out); (case side3 => repeat (first | exact (Kd.C_below HR5.out (by repeat (first | (with_reducible first | exact HB.out | apply below_alloc | apply pw_below_drewN | apply below_drew1) | exact HB.out))) | (with_reducible refine Kd.C_alloc ?_ _) | (with_reducible refine Kd.C_drewN ?_ _) | (with_reducible refine Kd.C_drew ?_))); (case side4 => exact HC5.out); rintro e w' ⟨rfl, ⟨nd, rfl⟩⟩; refine ⟨_, rfl, ?_⟩) | ((with_reducible refine gate_callee (f := 22) rfl ?_); refine goesL_ (some 91) rfl rfl Try.func22 (by kernel_rfl) rfl #[.slice A4 l4.length c4, .slice A0 l0.length c0] rfl (by (try simp only [List.map_toArray, List.map_cons, List.map_nil]); first | done | rfl | (simp only [List.length_drop, List.length_take]; rfl)) ?_; (with_reducible refine (audit_Log.calls k2 _ _ l4 _ _ l0 t300 _ ?side1 ?side2 ?side3 ?side4 A30.out).mono ?_); (case side1 => repeat (first | exact (Kd.V_reads' HO_4.out).2.2 | (with_reducible refine Kd.C_alloc ?_ _) | (with_reducible refine Kd.C_drewN ?_ _) | (with_reducible refine Kd.C_drew ?_))); (case side2 => exact (Kd.V_reads' HO_4.out).2.1); (case side3 => repeat (first | exact (Kd.C_below HR0.out (by repeat (first | (with_reducible first | exact HB.out | apply below_alloc | apply pw_below_drewN | apply below_drew1) | exact HB.out))) | (with_reducible refine Kd.C_alloc ?_ _) | (with_reducible refine Kd.C_drewN ?_ _) | (with_reducible refine Kd.C_drew ?_))); (case side4 => exact HC0.out); rintro e w74 ⟨v301, rfl, ho0, hb⟩; refine ⟨_, rfl, ?_⟩; have n0_ := Aside0.mk (Kd.V_elder' (by (with_reducible repeat (first | apply Kd.V_alloc | apply Kd.V_drewN | apply Kd.V_drew)); exact HO_4.out) (Kd.S_base ho0) hb); have n1_ := Aside0.mk (Kd.N_elder' (by (with_reducible repeat (first | apply Kd.N_alloc | apply Kd.N_drewN | apply Kd.N_drew)); exact HO_16.out) (Kd.S_base ho0) hb); have n2_ := Aside0.mk (Kd.R_below (by (with_reducible repeat (first | apply Kd.R_alloc | apply Kd.R_drewN | apply Kd.R_drew)); exact HO286.out) hb); have n3_ := Aside0.mk (Kd.R_below (by (with_reducible repeat (first | apply Kd.R_alloc | apply Kd.R_drewN | apply Kd.R_drew)); exact HO289.out) hb); have n4_ := Aside0.mk (Kd.R_below (by (with_reducible repeat (first | apply Kd.R_alloc | apply Kd.R_drewN | apply Kd.R_drew)); exact HO293.out) hb); have n5_ := Aside0.mk (Kd.R_below (by (with_reducible repeat (first | apply Kd.R_alloc | apply Kd.R_drewN | apply Kd.R_drew)); exact HO296.out) hb); have n6_ := Aside0.mk (Kd.N_lower (Kd.N_mono (ok' := fun k_ => (P4_ k_ ∨ w.heap.size ≤ k_) ∧ some k_ ≠ (.slice Ao64 x16_2.length co64 : Value).ownBlock ∧ some k_ ≠ (.slice Ao68 t284.length co68 : Value).ownBlock ∧ some k_ ≠ (.slice Ao69 t287.length co69 : Value).ownBlock ∧ some k_ ≠ (.slice Ao72 t291.length co72 : Value).ownBlock ∧ some k_ ≠ (.slice Ao73 t294.length co73 : Value).ownBlock) (Kd.S_N (Kd.S_bound ho0)) (fun k_ hk_ => ⟨(.inr (Nat.le_trans (below_size (by repeat (first | (with_reducible first | exact HB.out | apply below_alloc | apply pw_below_drewN | apply below_drew1) | exact HB.out))) hk_.2.1)), (Kd.fresh' (Kd.N_lt (by (with_reducible repeat (first | apply Kd.N_alloc | apply Kd.N_drewN | apply Kd.N_drew)); exact HO_16.out)) k_ hk_.2.1), (Kd.fresh' (Kd.R_lt (by (with_reducible repeat (first | apply Kd.R_alloc | apply Kd.R_drewN | apply Kd.R_drew)); exact HO286.out)) k_ hk_.2.1), (Kd.fresh' (Kd.R_lt (by (with_reducible repeat (first | apply Kd.R_alloc | apply Kd.R_drewN | apply Kd.R_drew)); exact HO289.out)) k_ hk_.2.1), (Kd.fresh' (Kd.R_lt (by (with_reducible repeat (first | apply Kd.R_alloc | apply Kd.R_drewN | apply Kd.R_drew)); exact HO293.out)) k_ hk_.2.1), (Kd.fresh' (Kd.R_lt (by (with_reducible repeat (first | apply Kd.R_alloc | apply Kd.R_drewN | apply Kd.R_drew)); exact HO296.out)) k_ hk_.2.1)⟩)) (below_size (by repeat (first | (with_reducible first | exact HB.out | apply below_alloc | apply pw_below_drewN | apply below_drew1) | exact HB.out)))); have n7_ := Aside0.mk (below_step (by repeat (first | (with_reducible first | exact HB.out | apply below_alloc | apply pw_below_drewN | apply below_drew1) | exact HB.out)) hb); clear HO_4; clear HO_16; clear HO286; clear HO289; clear HO293; clear HO296; clear HB; have HO_4 := n0_; have HO_16 := n1_; have HO286 := n2_; have HO289 := n3_; have HO293 := n4_; have HO296 := n5_; have HO302 := n6_; have HB := n7_; clear n0_ n1_ n2_ n3_ n4_ n5_ n6_ n7_; (try clear hb); (try clear hb2); (try clear hk); (try clear hi); (try clear ho0)) | ((with_reducible refine gate_callee (f := 23) rfl ?_); refine goesL_ (some 94) rfl rfl Try.func23 (by kernel_rfl) rfl #[.slice A4 l4.length c4, .slice A0 l0.length c0] rfl (by (try simp only [List.map_toArray, List.map_cons, List.map_nil]); first | done | rfl | (simp only [List.length_drop, List.length_take]; rfl)) ?_; (with_reducible refine (towncrierref21_Log.calls k2 (fun k_ => (((((((P4_ k_ ∨ w.heap.size ≤ k_) ∧ some k_ ≠ (.slice Ao64 x16_2.length co64 : Value).ownBlock) ∧ some k_ ≠ (.slice Ao68 t284.length co68 : Value).ownBlock) ∧ some k_ ≠ (.slice Ao69 t287.length co69 : Value).ownBlock) ∧ some k_ ≠ (.slice Ao72 t291.length co72 : Value).ownBlock) ∧ some k_ ≠ (.slice Ao73 t294.length co73 : Value).ownBlock) ∧ some k_ ≠ (v301 : Value).ownBlock)) _ _ l4 _ _ l0 t303 _ ?side1 ?side2 ?side3 A31.out).mono ?_); (case side1 => exact HO_4.out); (case side2 => repeat (first | exact (Kd.C_below HR0.out HB.out) | (with_reducible refine Kd.C_alloc ?_ _) | (with_reducible refine Kd.C_drewN ?_ _) | (with_reducible refine Kd.C_drew ?_))); (case side3 => exact HC0.out); rintro e w75 ⟨v304, rfl, ho0, hb⟩; refine ⟨_, rfl, ?_⟩; have n0_ := Aside0.mk (Kd.V_elder' (by (with_reducible repeat (first | apply Kd.V_alloc | apply Kd.V_drewN | apply Kd.V_drew)); exact HO_4.out) (Kd.N_base ho0) hb); have n1_ := Aside0.mk (Kd.N_elder' (by (with_reducible repeat (first | apply Kd.N_alloc | apply Kd.N_drewN | apply Kd.N_drew)); exact HO_16.out) (Kd.N_base ho0) hb); have n2_ := Aside0.mk (Kd.R_below (by (with_reducible repeat (first | apply Kd.R_alloc | apply Kd.R_drewN | apply Kd.R_drew)); exact HO286.out) hb); have n3_ := Aside0.mk (Kd.R_below (by (with_reducible repeat (first | apply Kd.R_alloc | apply Kd.R_drewN | apply Kd.R_drew)); exact HO289.out) hb); have n4_ := Aside0.mk (Kd.R_below (by (with_reducible repeat (first | apply Kd.R_alloc | apply Kd.R_drewN | apply Kd.R_drew)); exact HO293.out) hb); have n5_ := Aside0.mk (Kd.R_below (by (with_reducible repeat (first | apply Kd.R_alloc | apply Kd.R_drewN | apply Kd.R_drew)); exact HO296.out) hb); have n6_ := Aside0.mk (Kd.N_elder' (by (with_reducible repeat (first | apply Kd.N_alloc | apply Kd.N_drewN | apply Kd.N_drew)); exact HO302.out) (Kd.N_base ho0) hb); have n7_ := Aside0.mk (Kd.N_lower (Kd.N_mono (ok' := fun k_ => (P4_ k_ ∨ w.heap.size ≤ k_) ∧ some k_ ≠ (.slice Ao64 x16_2.length co64 : Value).ownBlock ∧ some k_ ≠ (.slice Ao68 t284.length co68 : Value).ownBlock ∧ some k_ ≠ (.slice Ao69 t287.length co69 : Value).ownBlock ∧ some k_ ≠ (.slice Ao72 t291.length co72 : Value).ownBlock ∧ some k_ ≠ (.slice Ao73 t294.length co73 : Value).ownBlock ∧ some k_ ≠ (v301 : Value).ownBlock) ho0 (fun k_ hk_ => ⟨Or.elim hk_ (fun hs_ => hs_.1.1.1.1.1.1) (fun hn_ => (.inr (Nat.le_trans (below_size (by repeat (first | (with_reducible first | exact HB.out | apply below_alloc | apply pw_below_drewN | apply below_drew1) | exact HB.out))) hn_))), Or.elim hk_ (fun hs_ => hs_.1.1.1.1.1.2) (fun hn_ => (Kd.fresh' (Kd.N_lt (by (with_reducible repeat (first | apply Kd.N_alloc | apply Kd.N_drewN | apply Kd.N_drew)); exact HO_16.out)) k_ hn_)), Or.elim hk_ (fun hs_ => hs_.1.1.1.1.2) (fun hn_ => (Kd.fresh' (Kd.R_lt (by (with_reducible repeat (first | apply Kd.R_alloc | apply Kd.R_drewN | apply Kd.R_drew)); exact HO286.out)) k_ hn_)), Or.elim hk_ (fun hs_ => hs_.1.1.1.2) (fun hn_ => (Kd.fresh' (Kd.R_lt (by (with_reducible repeat (first | apply Kd.R_alloc | apply Kd.R_drewN | apply Kd.R_drew)); exact HO289.out)) k_ hn_)), Or.elim hk_ (fun hs_ => hs_.1.1.2) (fun hn_ => (Kd.fresh' (Kd.R_lt (by (with_reducible repeat (first | apply Kd.R_alloc | apply Kd.R_drewN | apply Kd.R_drew)); exact HO293.out)) k_ hn_)), Or.elim hk_ (fun hs_ => hs_.1.2) (fun hn_ => (Kd.fresh' (Kd.R_lt (by (with_reducible repeat (first | apply Kd.R_alloc | apply Kd.R_drewN | apply Kd.R_drew)); exact HO296.out)) k_ hn_)), Or.elim hk_ (fun hs_ => hs_.2) (fun hn_ => (Kd.fresh' (Kd.N_lt (by (with_reducible repeat (first | apply Kd.N_alloc | apply Kd.N_drewN | apply Kd.N_drew)); exact HO302.out)) k_ hn_))⟩)) (below_size (by repeat (first | (with_reducible first | exact HB.out | apply below_alloc | apply pw_below_drewN | apply below_drew1) | exact HB.out)))); have n8_ := Aside0.mk (below_step (by repeat (first | (with_reducible first | exact HB.out | apply below_alloc | apply pw_below_drewN | apply below_drew1) | exact HB.out)) hb); clear HO_4; clear HO_16; clear HO286; clear HO289; clear HO293; clear HO296; clear HO302; clear HB; have HO_4 := n0_; have HO_16 := n1_; have HO286 := n2_; have HO289 := n3_; have HO293 := n4_; have HO296 := n5_; have HO302 := n6_; have HO305 := n7_; have HB := n8_; clear n0_ n1_ n2_ n3_ n4_ n5_ n6_ n7_ n8_; (try clear hb); (try clear hb2); (try clear hk); (try clear hi); (try clear ho0); obtain ⟨Ao76, co76, eo76⟩ := Kd.N_slice HO302.out; subst eo76; obtain ⟨Ao77, co77, eo77⟩ := Kd.N_slice HO305.out; subst eo77))
                  go_ret
                  exact ⟨by first | rfl | (simp [errW_none, errW_some] <;> rfl) | (simp [*, errW_none, errW_some] <;> rfl), by repeat (first | (with_reducible first | exact HB.out | apply below_alloc | apply pw_below_drewN | apply below_drew1) | exact HB.out)⟩
              · replace c21 := Bool.eq_false_iff.mpr c21
                subst c21
                have H1 : (some true) = some r := by rw [if_neg (show ¬ (false = true) by decide)] at H; exact H
                clear H
                have H := H1
                clear H1
                obtain rfl := Option.some.inj H
                obtain ⟨Ao78, co78, eo78⟩ := Kd.N_slice HO_16.out
                subst eo78
                go_wp2_with (first | ((with_reducible refine gate_callee (f := 17) rfl ?_); refine goesL_ (some 66) rfl rfl Try.func17 (by kernel_rfl) rfl #[.slice Ao78 x16_2.length co78, .int .i64 40] rfl (by (try simp only [List.map_toArray, List.map_cons, List.map_nil]); first | done | rfl | (simp only [List.length_drop, List.length_take]; rfl)) ?_; (with_reducible refine (towncrierlaw12_Log.calls k2 _ _ x16_2 40 false _ ?side1 ?side2 A20.out).mono ?_); (case side1 => repeat (first | exact (Kd.N_reads' HO_16.out).2.2 | (with_reducible refine Kd.C_alloc ?_ _) | (with_reducible refine Kd.C_drewN ?_ _) | (with_reducible refine Kd.C_drew ?_))); (case side2 => exact (Kd.N_reads' HO_16.out).2.1); rintro e w79 ⟨rfl, hb⟩; refine ⟨_, rfl, ?_⟩; have n0_ := Aside0.mk (Kd.V_below (by (with_reducible repeat (first | apply Kd.V_alloc | apply Kd.V_drewN | apply Kd.V_drew)); exact HO_4.out) hb); have n1_ := Aside0.mk (Kd.N_below (by (with_reducible repeat (first | apply Kd.N_alloc | apply Kd.N_drewN | apply Kd.N_drew)); exact HO_16.out) hb); have n2_ := Aside0.mk (below_step (by repeat (first | (with_reducible first | exact HB.out | apply below_alloc | apply pw_below_drewN | apply below_drew1) | exact HB.out)) hb); clear HO_4; clear HO_16; clear HB; have HO_4 := n0_; have HO_16 := n1_; have HB := n2_; clear n0_ n1_ n2_; (try clear hb); (try clear hb2); (try clear hk); (try clear hi)))
                go_ret
                exact ⟨by first | rfl | (simp [errW_none, errW_some] <;> rfl) | (simp [*, errW_none, errW_some] <;> rfl), by repeat (first | (with_reducible first | exact HB.out | apply below_alloc | apply pw_below_drewN | apply below_drew1) | exact HB.out)⟩

end Go.Proofs.Yteiaoanfdkgmoaa.P
