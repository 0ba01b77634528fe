/- The functions that the laws of this seat reach, as plain Lean functions, and for each the contract of its call: no condition but those that each theorem names. -/
import Derived.Test.YtbgdamlidohfhaaP0
import Derived.Test.YtbgdamlidohfhaaP5
import Derived.Test.YtbgdamlidohfhaaP7
import Derived.Test.YtbgdamlidohfhaaP8
import Derived.Test.YtbgdamlidohfhaaP10
import Derived.Test.YtbgdamlidohfhaaP11
import Derived.Test.YtbgdamlidohfhaaP13
namespace Go.Proofs.Ytbgdamlidohfhaa.P
open Go.RowKit Go.Proofs.YtbgdamlidohfhaaW.PrintWords Go.Proofs.YtbgdamlidohfhaaW.PrintLast Go.Proofs.YtbgdamlidohfhaaW.PrintMore
attribute [local go_sem] max2_int min2_int max_two min_two max_three min_three max_four min_four   -- for this text's walks alone
set_option linter.unusedVariables false
set_option linter.unusedSimpArgs false

/-! ### registry_Add: function 18 -/
mutual
def registry_Add.j0 : Nat → List (SSchema) → Bool → ByteArray → Int → List (SField) → Option ((List (SSchema)) × Int)
  | 0, _, _, _, _, _ => none
  | k + 1, x0, x17, x125000, x125001, x125002 => if x17 = true then (some (([] : List (SSchema)), 1)) else ((registry_at.f x0 x125000).bind fun t127 => (if t127 < 0 then (registry_Add.j1 k x0 t127 (x125001 != 1) x125000 x125001 x125002) else (registry_Add.j1 k x0 t127 false x125000 x125001 x125002)))
def registry_Add.j4 : Nat → List (SSchema) → Int → ByteArray → Int → List (SField) → Option ((List (SSchema)) × Int)
  | 0, _, _, _, _, _ => none
  | k + 1, x0, x6, x125000, x125001, x125002 => registry_Add.l0 k x6 ([] : List (SSchema)) x0 (x0.length : Int) 0 x125000 x125001 x125002
def registry_Add.l0 : Nat → Int → List (SSchema) → List (SSchema) → Int → Int → ByteArray → Int → List (SField) → Option ((List (SSchema)) × Int)
  | 0, _, _, _, _, _, _, _, _ => none
  | k + 1, x6, x7, x61, x62, x63, x125000, x125001, x125002 => if x63 < x62 then (if 0 ≤ x63 then (if x63 < (x61.length : Int) then ((registry_own.f ((rd_TSchema x61 x63).f0) ((rd_TSchema x61 x63).f1) ((rd_TSchema x61 x63).f2)).bind fun bt134 => (if x7.length < 2932031007402 then (registry_Add.l0 k x6 (x7 ++ [(⟨bt134.1, bt134.2.1, bt134.2.2⟩ : SSchema)]) x61 x62 (wrap64 (x63 + 1)) x125000 x125001 x125002) else (none))) else (none)) else (none)) else (if x6 < 0 then ((registry_own.f x125000 x125001 x125002).bind fun bt142 => (if x7.length < 2932031007402 then (some ((x7 ++ [(⟨bt142.1, bt142.2.1, bt142.2.2⟩ : SSchema)]), 0)) else (none))) else ((registry_own.f x125000 x125001 x125002).bind fun bt150 => (if 0 ≤ x6 then (if x6 < (x7.length : Int) then (some ((x7.set (x6 : Int).toNat (⟨bt150.1, bt150.2.1, bt150.2.2⟩ : SSchema)), 0)) else (none)) else (none))))
def registry_Add.j1 : Nat → List (SSchema) → Int → Bool → ByteArray → Int → List (SField) → Option ((List (SSchema)) × Int)
  | 0, _, _, _, _, _, _ => none
  | k + 1, x0, x6, x22, x125000, x125001, x125002 => if x22 = true then (some (([] : List (SSchema)), 5)) else (if x6 < 0 then (registry_Add.j2 k x0 x6 ((x0.length : Int) == 8) x125000 x125001 x125002) else (registry_Add.j2 k x0 x6 false x125000 x125001 x125002))
def registry_Add.j2 : Nat → List (SSchema) → Int → Bool → ByteArray → Int → List (SField) → Option ((List (SSchema)) × Int)
  | 0, _, _, _, _, _, _ => none
  | k + 1, x0, x6, x30, x125000, x125001, x125002 => if x30 = true then (some (([] : List (SSchema)), 7)) else (if x6 ≥ 0 then (if 0 ≤ x6 then (if x6 < (x0.length : Int) then ((schema_Same.f k ((rd_TSchema x0 x6).f0) ((rd_TSchema x0 x6).f1) ((rd_TSchema x0 x6).f2) x125000 x125001 x125002).bind fun t129 => (registry_Add.j3 k x0 x6 t129 x125000 x125001 x125002)) else (none)) else (none)) else (registry_Add.j3 k x0 x6 false x125000 x125001 x125002))
def registry_Add.j3 : Nat → List (SSchema) → Int → Bool → ByteArray → Int → List (SField) → Option ((List (SSchema)) × Int)
  | 0, _, _, _, _, _, _ => none
  | k + 1, x0, x6, x38, x125000, x125001, x125002 => if x38 = true then (some (([] : List (SSchema)), 4)) else (if x6 ≥ 0 then (if 0 ≤ x6 then (if x6 < (x0.length : Int) then ((schema_Fits.f k ((rd_TSchema x0 x6).f0) ((rd_TSchema x0 x6).f1) ((rd_TSchema x0 x6).f2) x125000 x125001 x125002).bind fun t131 => (if t131 = true then (registry_Add.j4 k x0 x6 x125000 x125001 x125002) else (some (([] : List (SSchema)), 5)))) else (none)) else (none)) else (registry_Add.j4 k x0 x6 x125000 x125001 x125002))
end
def registry_Add.f (k : Nat) (l0 : List (SSchema)) (a1_0 : ByteArray) (a1_1 : Int) (l1_2 : List (SField)) : Option ((List (SSchema)) × Int) := (registry_May.f k l0).bind fun t125 => (if t125 = true then ((schema_May.f a1_0 a1_1 l1_2).bind fun t126 => (registry_Add.j0 k l0 (!t126) a1_0 a1_1 l1_2)) else (registry_Add.j0 k l0 true a1_0 a1_1 l1_2))
theorem registry_Add.mono_l : ∀ k, (∀ y0 y1 y2 y3 y4, LeO (registry_Add.j0 k y0 y1 y2 y3 y4) (registry_Add.j0 (k + 1) y0 y1 y2 y3 y4)) ∧ (∀ y0 y1 y2 y3 y4, LeO (registry_Add.j4 k y0 y1 y2 y3 y4) (registry_Add.j4 (k + 1) y0 y1 y2 y3 y4)) ∧ (∀ y0 y1 y2 y3 y4 y5 y6 y7, LeO (registry_Add.l0 k y0 y1 y2 y3 y4 y5 y6 y7) (registry_Add.l0 (k + 1) y0 y1 y2 y3 y4 y5 y6 y7)) ∧ (∀ y0 y1 y2 y3 y4 y5, LeO (registry_Add.j1 k y0 y1 y2 y3 y4 y5) (registry_Add.j1 (k + 1) y0 y1 y2 y3 y4 y5)) ∧ (∀ y0 y1 y2 y3 y4 y5, LeO (registry_Add.j2 k y0 y1 y2 y3 y4 y5) (registry_Add.j2 (k + 1) y0 y1 y2 y3 y4 y5)) ∧ (∀ y0 y1 y2 y3 y4 y5, LeO (registry_Add.j3 k y0 y1 y2 y3 y4 y5) (registry_Add.j3 (k + 1) y0 y1 y2 y3 y4 y5))
  | 0 => ⟨fun _ _ _ _ _ r h => by simp [registry_Add.j0] at h, fun _ _ _ _ _ r h => by simp [registry_Add.j4] at h, fun _ _ _ _ _ _ _ _ r h => by simp [registry_Add.l0] at h, fun _ _ _ _ _ _ r h => by simp [registry_Add.j1] at h, fun _ _ _ _ _ _ r h => by simp [registry_Add.j2] at h, fun _ _ _ _ _ _ r h => by simp [registry_Add.j3] at h⟩
  | k + 1 => by
    obtain ⟨ih0, ih1, ih2, ih3, ih4, ih5⟩ := registry_Add.mono_l k
    refine ⟨?_, ?_, ?_, ?_, ?_, ?_⟩
    · intro y0 y1 y2 y3 y4
      unfold registry_Add.j0
      repeat' first
      | (with_reducible exact ih0 _ _ _ _ _)
      | (with_reducible exact ih1 _ _ _ _ _)
      | (with_reducible exact ih2 _ _ _ _ _ _ _ _)
      | (with_reducible exact ih3 _ _ _ _ _ _)
      | (with_reducible exact ih4 _ _ _ _ _ _)
      | (with_reducible exact ih5 _ _ _ _ _ _)
      | (with_reducible exact registry_May.mono _ _)
      | (with_reducible exact schema_Fits.mono _ _ _ _ _ _ _)
      | (with_reducible exact schema_Same.mono _ _ _ _ _ _ _)
      | (with_reducible exact LeO.refl _)
      | (with_reducible exact LeO.none _)
      | (with_reducible refine LeO.ite ?_ ?_)
      | (with_reducible refine LeO.bind ?_ (fun _ => ?_))
      | exact ih0 _ _ _ _ _
      | exact ih1 _ _ _ _ _
      | exact ih2 _ _ _ _ _ _ _ _
      | exact ih3 _ _ _ _ _ _
      | exact ih4 _ _ _ _ _ _
      | exact ih5 _ _ _ _ _ _
      | exact registry_May.mono _ _
      | exact schema_Fits.mono _ _ _ _ _ _ _
      | exact schema_Same.mono _ _ _ _ _ _ _
      | exact LeO.none _
      | refine LeO.ite ?_ ?_
      | refine LeO.bind ?_ (fun _ => ?_)
    · intro y0 y1 y2 y3 y4
      unfold registry_Add.j4
      repeat' first
      | (with_reducible exact ih0 _ _ _ _ _)
      | (with_reducible exact ih1 _ _ _ _ _)
      | (with_reducible exact ih2 _ _ _ _ _ _ _ _)
      | (with_reducible exact ih3 _ _ _ _ _ _)
      | (with_reducible exact ih4 _ _ _ _ _ _)
      | (with_reducible exact ih5 _ _ _ _ _ _)
      | (with_reducible exact registry_May.mono _ _)
      | (with_reducible exact schema_Fits.mono _ _ _ _ _ _ _)
      | (with_reducible exact schema_Same.mono _ _ _ _ _ _ _)
      | (with_reducible exact LeO.refl _)
      | (with_reducible exact LeO.none _)
      | (with_reducible refine LeO.ite ?_ ?_)
      | (with_reducible refine LeO.bind ?_ (fun _ => ?_))
      | exact ih0 _ _ _ _ _
      | exact ih1 _ _ _ _ _
      | exact ih2 _ _ _ _ _ _ _ _
      | exact ih3 _ _ _ _ _ _
      | exact ih4 _ _ _ _ _ _
      | exact ih5 _ _ _ _ _ _
      | exact registry_May.mono _ _
      | exact schema_Fits.mono _ _ _ _ _ _ _
      | exact schema_Same.mono _ _ _ _ _ _ _
      | exact LeO.none _
      | refine LeO.ite ?_ ?_
      | refine LeO.bind ?_ (fun _ => ?_)
    · intro y0 y1 y2 y3 y4 y5 y6 y7
      unfold registry_Add.l0
      repeat' first
      | (with_reducible exact ih0 _ _ _ _ _)
      | (with_reducible exact ih1 _ _ _ _ _)
      | (with_reducible exact ih2 _ _ _ _ _ _ _ _)
      | (with_reducible exact ih3 _ _ _ _ _ _)
      | (with_reducible exact ih4 _ _ _ _ _ _)
      | (with_reducible exact ih5 _ _ _ _ _ _)
      | (with_reducible exact registry_May.mono _ _)
      | (with_reducible exact schema_Fits.mono _ _ _ _ _ _ _)
      | (with_reducible exact schema_Same.mono _ _ _ _ _ _ _)
      | (with_reducible exact LeO.refl _)
      | (with_reducible exact LeO.none _)
      | (with_reducible refine LeO.ite ?_ ?_)
      | (with_reducible refine LeO.bind ?_ (fun _ => ?_))
      | exact ih0 _ _ _ _ _
      | exact ih1 _ _ _ _ _
      | exact ih2 _ _ _ _ _ _ _ _
      | exact ih3 _ _ _ _ _ _
      | exact ih4 _ _ _ _ _ _
      | exact ih5 _ _ _ _ _ _
      | exact registry_May.mono _ _
      | exact schema_Fits.mono _ _ _ _ _ _ _
      | exact schema_Same.mono _ _ _ _ _ _ _
      | exact LeO.none _
      | refine LeO.ite ?_ ?_
      | refine LeO.bind ?_ (fun _ => ?_)
    · intro y0 y1 y2 y3 y4 y5
      unfold registry_Add.j1
      repeat' first
      | (with_reducible exact ih0 _ _ _ _ _)
      | (with_reducible exact ih1 _ _ _ _ _)
      | (with_reducible exact ih2 _ _ _ _ _ _ _ _)
      | (with_reducible exact ih3 _ _ _ _ _ _)
      | (with_reducible exact ih4 _ _ _ _ _ _)
      | (with_reducible exact ih5 _ _ _ _ _ _)
      | (with_reducible exact registry_May.mono _ _)
      | (with_reducible exact schema_Fits.mono _ _ _ _ _ _ _)
      | (with_reducible exact schema_Same.mono _ _ _ _ _ _ _)
      | (with_reducible exact LeO.refl _)
      | (with_reducible exact LeO.none _)
      | (with_reducible refine LeO.ite ?_ ?_)
      | (with_reducible refine LeO.bind ?_ (fun _ => ?_))
      | exact ih0 _ _ _ _ _
      | exact ih1 _ _ _ _ _
      | exact ih2 _ _ _ _ _ _ _ _
      | exact ih3 _ _ _ _ _ _
      | exact ih4 _ _ _ _ _ _
      | exact ih5 _ _ _ _ _ _
      | exact registry_May.mono _ _
      | exact schema_Fits.mono _ _ _ _ _ _ _
      | exact schema_Same.mono _ _ _ _ _ _ _
      | exact LeO.none _
      | refine LeO.ite ?_ ?_
      | refine LeO.bind ?_ (fun _ => ?_)
    · intro y0 y1 y2 y3 y4 y5
      unfold registry_Add.j2
      repeat' first
      | (with_reducible exact ih0 _ _ _ _ _)
      | (with_reducible exact ih1 _ _ _ _ _)
      | (with_reducible exact ih2 _ _ _ _ _ _ _ _)
      | (with_reducible exact ih3 _ _ _ _ _ _)
      | (with_reducible exact ih4 _ _ _ _ _ _)
      | (with_reducible exact ih5 _ _ _ _ _ _)
      | (with_reducible exact registry_May.mono _ _)
      | (with_reducible exact schema_Fits.mono _ _ _ _ _ _ _)
      | (with_reducible exact schema_Same.mono _ _ _ _ _ _ _)
      | (with_reducible exact LeO.refl _)
      | (with_reducible exact LeO.none _)
      | (with_reducible refine LeO.ite ?_ ?_)
      | (with_reducible refine LeO.bind ?_ (fun _ => ?_))
      | exact ih0 _ _ _ _ _
      | exact ih1 _ _ _ _ _
      | exact ih2 _ _ _ _ _ _ _ _
      | exact ih3 _ _ _ _ _ _
      | exact ih4 _ _ _ _ _ _
      | exact ih5 _ _ _ _ _ _
      | exact registry_May.mono _ _
      | exact schema_Fits.mono _ _ _ _ _ _ _
      | exact schema_Same.mono _ _ _ _ _ _ _
      | exact LeO.none _
      | refine LeO.ite ?_ ?_
      | refine LeO.bind ?_ (fun _ => ?_)
    · intro y0 y1 y2 y3 y4 y5
      unfold registry_Add.j3
      repeat' first
      | (with_reducible exact ih0 _ _ _ _ _)
      | (with_reducible exact ih1 _ _ _ _ _)
      | (with_reducible exact ih2 _ _ _ _ _ _ _ _)
      | (with_reducible exact ih3 _ _ _ _ _ _)
      | (with_reducible exact ih4 _ _ _ _ _ _)
      | (with_reducible exact ih5 _ _ _ _ _ _)
      | (with_reducible exact registry_May.mono _ _)
      | (with_reducible exact schema_Fits.mono _ _ _ _ _ _ _)
      | (with_reducible exact schema_Same.mono _ _ _ _ _ _ _)
      | (with_reducible exact LeO.refl _)
      | (with_reducible exact LeO.none _)
      | (with_reducible refine LeO.ite ?_ ?_)
      | (with_reducible refine LeO.bind ?_ (fun _ => ?_))
      | exact ih0 _ _ _ _ _
      | exact ih1 _ _ _ _ _
      | exact ih2 _ _ _ _ _ _ _ _
      | exact ih3 _ _ _ _ _ _
      | exact ih4 _ _ _ _ _ _
      | exact ih5 _ _ _ _ _ _
      | exact registry_May.mono _ _
      | exact schema_Fits.mono _ _ _ _ _ _ _
      | exact schema_Same.mono _ _ _ _ _ _ _
      | exact LeO.none _
      | refine LeO.ite ?_ ?_
      | refine LeO.bind ?_ (fun _ => ?_)
theorem registry_Add.mono : ∀ a0 a1 a2 a3 k, LeO (registry_Add.f k a0 a1 a2 a3) (registry_Add.f (k + 1) a0 a1 a2 a3) := by
  intro a0 a1 a2 a3 k
  obtain ⟨ih0, ih1, ih2, ih3, ih4, ih5⟩ := registry_Add.mono_l k
  unfold registry_Add.f
  repeat' first
      | (with_reducible exact ih0 _ _ _ _ _)
      | (with_reducible exact ih1 _ _ _ _ _)
      | (with_reducible exact ih2 _ _ _ _ _ _ _ _)
      | (with_reducible exact ih3 _ _ _ _ _ _)
      | (with_reducible exact ih4 _ _ _ _ _ _)
      | (with_reducible exact ih5 _ _ _ _ _ _)
      | (with_reducible exact registry_May.mono _ _)
      | (with_reducible exact schema_Fits.mono _ _ _ _ _ _ _)
      | (with_reducible exact schema_Same.mono _ _ _ _ _ _ _)
      | (with_reducible exact LeO.refl _)
      | (with_reducible exact LeO.none _)
      | (with_reducible refine LeO.ite ?_ ?_)
      | (with_reducible refine LeO.bind ?_ (fun _ => ?_))
      | exact ih0 _ _ _ _ _
      | exact ih1 _ _ _ _ _
      | exact ih2 _ _ _ _ _ _ _ _
      | exact ih3 _ _ _ _ _ _
      | exact ih4 _ _ _ _ _ _
      | exact ih5 _ _ _ _ _ _
      | exact registry_May.mono _ _
      | exact schema_Fits.mono _ _ _ _ _ _ _
      | exact schema_Same.mono _ _ _ _ _ _ _
      | exact LeO.none _
      | refine LeO.ite ?_ ?_
      | refine LeO.bind ?_ (fun _ => ?_)
def registry_Add.T8 : Bool × List (List Nat × List Nat) := (true, [([], []), ([0], [0]), ([1], [1]), ([2], [2]), ([2], [2]), ([3, 4, 2], [2, 3, 4]), ([5, 2], [2, 5]), ([2], [2]), ([6, 7, 2, 2], [2, 6, 7]), ([2, 8], [2, 8]), ([9, 8], [9])])
def registry_Add.B8 : List Nat := [0, 1, 3, 7, 7, 31, 63, 7, 255, 511, 1023]
theorem registry_Add.tab8 : rtab .any (opsOf Try.f18 8) = registry_Add.T8 := by kernel_rfl
theorem registry_Add.bits8 : waitsOk registry_Add.T8.2 registry_Add.B8 = true := by kernel_rfl
def registry_Add.T10 : Bool × List (List Nat × List Nat) := (true, [([], []), ([0], [0]), ([1], [1]), ([2], [2]), ([2], [2]), ([3, 4, 2], [2, 3, 4]), ([5, 2], [2, 5]), ([2], [2]), ([6, 7, 2, 2], [2, 6, 7]), ([8, 2], [2, 8]), ([2, 9], [2, 9]), ([10, 8], [10])])
def registry_Add.B10 : List Nat := [0, 1, 3, 7, 7, 31, 63, 7, 255, 511, 1023, 2047]
theorem registry_Add.tab10 : rtab .any (opsOf Try.f18 10) = registry_Add.T10 := by kernel_rfl
theorem registry_Add.bits10 : waitsOk registry_Add.T10.2 registry_Add.B10 = true := by kernel_rfl
set_option maxHeartbeats 8000000 in
set_option maxRecDepth 100000 in
theorem registry_Add.calls (k : Nat) (A0 : Option Addr) (c0 : Nat) (l0 : List (SSchema)) (a1_0 : ByteArray) (a1_1 : Int) (A1_2 : Option Addr) (c1_2 : Nat) (l1_2 : List (SField)) (r1 : List (SSchema)) (r2 : Int) (w : World) (hr0 : Kd.C kSchema w A0 l0.length l0) (hc0 : l0.length ≤ c0) (hr1_2 : Kd.C kField w A1_2 l1_2.length l1_2) (hc1_2 : l1_2.length ≤ c1_2) (h : registry_Add.f k l0 a1_0 a1_1 l1_2 = some (r1, r2)) :
    Calls Try.prog 18 #[.slice A0 l0.length c0, .agg #[.string a1_0, .int .i64 a1_1, .slice A1_2 l1_2.length c1_2]] w fun e w' => ∃ v0_ : Value, e = .returned (.tuple #[v0_, .int .i64 r2]) ∧ Kd.S kSchema 25 w' w.heap.size (fun _ => True) v0_ r1 ∧ Below w.heap.size w w' := by
  have hu25 := Try.underlying25
  have HR0 := Aside0.mk hr0
  have HC0 := Aside0.mk hc0
  clear hr0 hc0
  have HR1_2 := Aside0.mk hr1_2
  have HC1_2 := Aside0.mk hc1_2
  clear hr1_2 hc1_2
  have HB := Aside0.mk (Below.refl w.heap.size w)
  have H : ((registry_May.f k l0).bind fun t125 => (if t125 = true then ((schema_May.f a1_0 a1_1 l1_2).bind fun t126 => (registry_Add.j0 k l0 (!t126) a1_0 a1_1 l1_2)) else (registry_Add.j0 k l0 true a1_0 a1_1 l1_2))) = some (r1, r2) := h
  clear h
  have HC3 := Aside0.mk H
  clear H
  go_enter Try.func18, Try.ntmps18
  go_upto_region 1 with (first | ((with_reducible refine gate_dst (N := 3) rfl ?_); (try (refine gate_guard (by rfl) ?_; dsimp only)); refine box_event ?hg (N := 3) ?hd (cs := #[.string a1_0, .int .i64 a1_1, .slice A1_2 l1_2.length c1_2]) (t := 25) ?hr ?_; (case hd => rfl); (case hg => rfl); (case hr => first | (go_simp; done) | (go_simp; rfl)); intro gb124 hg w4 hbox hb; have n0_ := Aside0.mk (below_step (by repeat (first | (with_reducible first | exact HB.out | apply below_alloc | apply pw_below_drewN | apply below_drew1) | exact HB.out)) hb); have n1_ := Aside0.mk (hbox); have n2_ := Aside0.mk ((by rw [hg]; exact (below_size (by repeat (first | (with_reducible first | exact HB.out | apply below_alloc | apply pw_below_drewN | apply below_drew1) | exact HB.out))) : w.heap.size ≤ gb124)); have n3_ := Aside0.mk ((by rw [hg]; exact (below_size (by repeat (first | (with_reducible first | exact HB.out | apply below_alloc | apply pw_below_drewN | apply below_drew1) | exact HB.out))) : w.heap.size ≤ gb124)); clear HB; have HB := n0_; have BK124 := n1_; have GW124 := n2_; have GE124 := n3_; clear n0_ n1_ n2_ n3_; clear hb hbox hg))
  (try simp only [Act.put, List.setIfInBounds_toArray, List.set_cons_zero, List.set_cons_succ])
  go_cut [17] (fun v17 wc => ∃ (kq : Nat) (x17_2 : Bool), v17 = .bool x17_2 ∧ Aside0 (registry_Add.j0 kq l0 x17_2 a1_0 a1_1 l1_2 = some (r1, r2)) ∧ Aside0 (kq ≤ k) ∧ Aside0 (wc.heap[gb124]? = some (.cells #[.string a1_0, .int .i64 a1_1, (.slice A1_2 l1_2.length c1_2)] 25 (0, 0))) ∧ Aside0 (Below w.heap.size w wc))
  case first =>
    have H := HC3.out
    clear HC3
    replace H := Option.bind_eq_some_iff.mp H
    obtain ⟨t125, A50, H⟩ := H
    replace H : (if t125 = true then ((schema_May.f a1_0 a1_1 l1_2).bind fun t126 => (registry_Add.j0 k l0 (!t126) a1_0 a1_1 l1_2)) else (registry_Add.j0 k l0 true a1_0 a1_1 l1_2)) = some (r1, r2) := H
    have A5 := Aside0.mk A50
    clear A50
    by_cases c6 : t125 = true
    · subst c6
      have H1 : ((schema_May.f a1_0 a1_1 l1_2).bind fun t126 => (registry_Add.j0 k l0 (!t126) a1_0 a1_1 l1_2)) = some (r1, r2) := by rw [if_pos rfl] at H; exact H
      clear H
      have H := H1
      clear H1
      replace H := Option.bind_eq_some_iff.mp H
      obtain ⟨t126, A70, H⟩ := H
      replace H : (registry_Add.j0 k l0 (!t126) a1_0 a1_1 l1_2) = some (r1, r2) := H
      have A7 := Aside0.mk A70
      clear A70
      have H' := Aside0.mk H
      clear H
      go_wp2_with (first | ((with_reducible refine gate_callee (f := 25) rfl ?_); refine goesL_ (some 11) rfl rfl Try.func25 (by kernel_rfl) rfl #[.slice A0 l0.length c0] rfl (by (try simp only [List.map_toArray, List.map_cons, List.map_nil]); first | done | rfl | (simp only [List.length_drop, List.length_take]; rfl)) ?_; (with_reducible refine (registry_May.calls k _ _ l0 true _ ?side1 ?side2 A5.out).mono ?_); (case side1 => repeat (first | exact (Kd.C_below HR0.out HB.out) | (with_reducible refine Kd.C_alloc ?_ _) | (with_reducible refine Kd.C_drewN ?_ _) | (with_reducible refine Kd.C_drew ?_))); (case side2 => exact HC0.out); rintro e w8 ⟨rfl, hb⟩; refine ⟨_, rfl, ?_⟩; have n0_ := Aside0.mk (blk_below (g := gb124) (o := .cells #[.string a1_0, .int .i64 a1_1, .slice A1_2 l1_2.length c1_2] 25 (0, 0)) (by (with_reducible repeat (first | refine blk_drewN ?_ _ | refine blk_drew ?_ | refine blk_alloc ?_ _)); exact BK124.out) hb); have n1_ := Aside0.mk (below_step (by repeat (first | (with_reducible first | exact HB.out | apply below_alloc | apply pw_below_drewN | apply below_drew1 | refine below_set ?_ GE124.out) | exact HB.out)) hb); clear BK124; clear HB; have BK124 := n0_; have HB := n1_; clear n0_ n1_; (try clear hb); (try clear hb2); (try clear hk); (try clear hi); have hcz9_0 : w8.cell? ⟨gb124, 0, none⟩ = some (.string a1_0) := (blk_cell BK124.out 0).trans rfl; have hcz9_1 : w8.cell? ⟨gb124, 1, none⟩ = some (.int .i64 a1_1) := (blk_cell BK124.out 1).trans rfl; have hcz9_2 : w8.cell? ⟨gb124, 2, none⟩ = some (.slice A1_2 l1_2.length c1_2) := (blk_cell BK124.out 2).trans rfl; have hfz9_0 := blk_frozen BK124.out 0; have hfz9_1 := blk_frozen BK124.out 1; have hfz9_2 := blk_frozen BK124.out 2) | (go_at_call 28; (with_reducible refine (schema_May.calls a1_0 a1_1 _ _ l1_2 t126 _ ?side1 ?side2 A7.out).mono ?_); (case side1 => repeat (first | exact (Kd.C_below HR1_2.out HB.out) | (with_reducible refine Kd.C_alloc ?_ _) | (with_reducible refine Kd.C_drewN ?_ _) | (with_reducible refine Kd.C_drew ?_))); (case side2 => exact HC1_2.out); rintro e w10 ⟨rfl, hb⟩; have n0_ := Aside0.mk (blk_below (g := gb124) (o := .cells #[.string a1_0, .int .i64 a1_1, .slice A1_2 l1_2.length c1_2] 25 (0, 0)) (by (with_reducible repeat (first | refine blk_drewN ?_ _ | refine blk_drew ?_ | refine blk_alloc ?_ _)); exact BK124.out) hb); have n1_ := Aside0.mk (below_step (by repeat (first | (with_reducible first | exact HB.out | apply below_alloc | apply pw_below_drewN | apply below_drew1 | refine below_set ?_ GE124.out) | exact HB.out)) hb); clear BK124; clear HB; have BK124 := n0_; have HB := n1_; clear n0_ n1_; (try clear hb); (try clear hb2); (try clear hk); (try clear hi)))
      go_meet
      case rel => exact ⟨_, (!t126), (by first | rfl | (simp; done) | (simp [*]; done)), H', ⟨by first | omega | exact Nat.le_refl _⟩, ⟨by (with_reducible repeat (first | refine blk_drewN ?_ _ | refine blk_drew ?_ | refine blk_alloc ?_ _)); exact BK124.out⟩, ⟨by repeat (first | (with_reducible first | exact HB.out | apply below_alloc | apply pw_below_drewN | apply below_drew1 | refine below_set ?_ GE124.out) | exact HB.out)⟩⟩
    · replace c6 := Bool.eq_false_iff.mpr c6
      subst c6
      have H1 : (registry_Add.j0 k l0 true a1_0 a1_1 l1_2) = some (r1, r2) := by rw [if_neg (show ¬ (false = true) by decide)] at H; exact H
      clear H
      have H := H1
      clear H1
      have H' := Aside0.mk H
      clear H
      go_wp2_with (first | ((with_reducible refine gate_callee (f := 25) rfl ?_); refine goesL_ (some 11) rfl rfl Try.func25 (by kernel_rfl) rfl #[.slice A0 l0.length c0] rfl (by (try simp only [List.map_toArray, List.map_cons, List.map_nil]); first | done | rfl | (simp only [List.length_drop, List.length_take]; rfl)) ?_; (with_reducible refine (registry_May.calls k _ _ l0 false _ ?side1 ?side2 A5.out).mono ?_); (case side1 => repeat (first | exact (Kd.C_below HR0.out HB.out) | (with_reducible refine Kd.C_alloc ?_ _) | (with_reducible refine Kd.C_drewN ?_ _) | (with_reducible refine Kd.C_drew ?_))); (case side2 => exact HC0.out); rintro e w11 ⟨rfl, hb⟩; refine ⟨_, rfl, ?_⟩; have n0_ := Aside0.mk (blk_below (g := gb124) (o := .cells #[.string a1_0, .int .i64 a1_1, .slice A1_2 l1_2.length c1_2] 25 (0, 0)) (by (with_reducible repeat (first | refine blk_drewN ?_ _ | refine blk_drew ?_ | refine blk_alloc ?_ _)); exact BK124.out) hb); have n1_ := Aside0.mk (below_step (by repeat (first | (with_reducible first | exact HB.out | apply below_alloc | apply pw_below_drewN | apply below_drew1 | refine below_set ?_ GE124.out) | exact HB.out)) hb); clear BK124; clear HB; have BK124 := n0_; have HB := n1_; clear n0_ n1_; (try clear hb); (try clear hb2); (try clear hk); (try clear hi)))
      go_meet
      case rel => exact ⟨_, (true), (by first | rfl | (simp; done) | (simp [*]; done)), H', ⟨by first | omega | exact Nat.le_refl _⟩, ⟨by (with_reducible repeat (first | refine blk_drewN ?_ _ | refine blk_drew ?_ | refine blk_alloc ?_ _)); exact BK124.out⟩, ⟨by repeat (first | (with_reducible first | exact HB.out | apply below_alloc | apply pw_below_drewN | apply below_drew1 | refine below_set ?_ GE124.out) | exact HB.out)⟩⟩
  case rest =>
    clear HC3
    try clear c1
    try clear c2
    try clear p2
    try clear c6
    try clear hcz9_0
    try clear hcz9_1
    try clear hcz9_2
    try clear hfz9_0
    try clear hfz9_1
    try clear hfz9_2
    obtain ⟨kq, x17_2, rfl, HA, HJ2, BK124, HB⟩ := hcut
    cases kq with
    | zero => exact absurd HA.out (by simp [registry_Add.j0])
    | succ kj2 =>
      have H := HA.out
      clear HA
      simp only [registry_Add.j0] at H
      by_cases c12 : x17_2 = true
      · subst c12
        have H1 : (some (([] : List (SSchema)), 1)) = some (r1, r2) := by rw [if_pos rfl] at H; exact H
        clear H
        have H := H1
        clear H1
        simp only [Option.some.injEq, Prod.mk.injEq] at H
        obtain ⟨rfl, rfl⟩ := H
        go_wp2
        go_ret2
        exact ⟨_, by first | rfl | (simp [errW_none, errW_some] <;> rfl) | (simp [*, errW_none, errW_some] <;> rfl), by first | exact Kd.S_nil _ _ _ _ _ | exact Kd.N_nil _ _ _ _ _ | exact Kd.V_nil _ _ _ _ _ | exact Kd.Q_nil _ _ _ _ _ | exact Kd.R_nil _ _ _ _ _, by repeat (first | (with_reducible first | exact HB.out | apply below_alloc | apply pw_below_drewN | apply below_drew1 | refine below_set ?_ GE124.out) | exact HB.out)⟩
      · replace c12 := Bool.eq_false_iff.mpr c12
        subst c12
        have H1 : ((registry_at.f l0 a1_0).bind fun t127 => (if t127 < 0 then (registry_Add.j1 kj2 l0 t127 (a1_1 != 1) a1_0 a1_1 l1_2) else (registry_Add.j1 kj2 l0 t127 false a1_0 a1_1 l1_2))) = some (r1, r2) := by rw [if_neg (show ¬ (false = true) by decide)] at H; exact H
        clear H
        have H := H1
        clear H1
        replace H := Option.bind_eq_some_iff.mp H
        obtain ⟨t127, A130, H⟩ := H
        replace H : (if t127 < 0 then (registry_Add.j1 kj2 l0 t127 (a1_1 != 1) a1_0 a1_1 l1_2) else (registry_Add.j1 kj2 l0 t127 false a1_0 a1_1 l1_2)) = some (r1, r2) := H
        have A13 := Aside0.mk A130
        clear A130
        have HC14 := Aside0.mk H
        clear H
        have hcz15_0 : wc.cell? ⟨gb124, 0, none⟩ = some (.string a1_0) := (blk_cell BK124.out 0).trans rfl
        have hcz15_1 : wc.cell? ⟨gb124, 1, none⟩ = some (.int .i64 a1_1) := (blk_cell BK124.out 1).trans rfl
        have hcz15_2 : wc.cell? ⟨gb124, 2, none⟩ = some (.slice A1_2 l1_2.length c1_2) := (blk_cell BK124.out 2).trans rfl
        have hfz15_0 := blk_frozen BK124.out 0
        have hfz15_1 := blk_frozen BK124.out 1
        have hfz15_2 := blk_frozen BK124.out 2
        go_upto_block 0 with (first | ((with_reducible refine gate_callee (f := 39) rfl ?_); refine goesL_ (some 21) rfl rfl Try.func39 (by kernel_rfl) rfl #[.slice A0 l0.length c0, .string a1_0] rfl (by (try simp only [List.map_toArray, List.map_cons, List.map_nil]); first | done | rfl | (simp only [List.length_drop, List.length_take]; rfl)) ?_; (with_reducible refine (registry_at.calls _ _ l0 a1_0 t127 _ ?side1 ?side2 A13.out).mono ?_); (case side1 => repeat (first | exact (Kd.C_below HR0.out HB.out) | (with_reducible refine Kd.C_alloc ?_ _) | (with_reducible refine Kd.C_drewN ?_ _) | (with_reducible refine Kd.C_drew ?_))); (case side2 => exact HC0.out); rintro e w16 ⟨rfl, hb⟩; refine ⟨_, rfl, ?_⟩; have n0_ := Aside0.mk (blk_below (g := gb124) (o := .cells #[.string a1_0, .int .i64 a1_1, .slice A1_2 l1_2.length c1_2] 25 (0, 0)) (by (with_reducible repeat (first | refine blk_drewN ?_ _ | refine blk_drew ?_ | refine blk_alloc ?_ _)); exact BK124.out) hb); have n1_ := Aside0.mk (below_step (by repeat (first | (with_reducible first | exact HB.out | apply below_alloc | apply pw_below_drewN | apply below_drew1 | refine below_set ?_ GE124.out) | exact HB.out)) hb); clear BK124; clear HB; have BK124 := n0_; have HB := n1_; clear n0_ n1_; (try clear hb); (try clear hb2); (try clear hk); (try clear hi)))
        (try simp only [Act.put, List.setIfInBounds_toArray, List.set_cons_zero, List.set_cons_succ])
        go_cut [] (fun wc => ∃ (kq : Nat), Aside0 (registry_Add.j4 kq l0 t127 a1_0 a1_1 l1_2 = some (r1, r2)) ∧ Aside0 (kq ≤ kj2) ∧ Aside0 (wc.heap[gb124]? = some (.cells #[.string a1_0, .int .i64 a1_1, (.slice A1_2 l1_2.length c1_2)] 25 (0, 0))) ∧ Aside0 (Below w.heap.size w wc))
        case first =>
          have H := HC14.out
          clear HC14
          have HC17 := Aside0.mk H
          clear H
          go_upto_region 4 with (fail)
          go_cut [22] (fun v22 wc => ∃ (kq : Nat) (x22_16 : Bool), v22 = .bool x22_16 ∧ Aside0 (registry_Add.j1 kq l0 t127 x22_16 a1_0 a1_1 l1_2 = some (r1, r2)) ∧ Aside0 (kq ≤ kj2) ∧ Aside0 (wc.heap[gb124]? = some (.cells #[.string a1_0, .int .i64 a1_1, (.slice A1_2 l1_2.length c1_2)] 25 (0, 0))) ∧ Aside0 (Below w.heap.size w wc))
          case first =>
            have H := HC17.out
            clear HC17
            by_cases c18 : t127 < 0
            · rw [if_pos c18] at H
              have c18b0 : decide (t127 < 0) = true := decide_eq_true c18
              clear c18
              (first | rw [c18b0] | (simp only [i64_w, i32_w]; rw [c18b0]) | skip)
              have H' := Aside0.mk H
              clear H
              have hcz19_0 : w16.cell? ⟨gb124, 0, none⟩ = some (.string a1_0) := (blk_cell BK124.out 0).trans rfl
              have hcz19_1 : w16.cell? ⟨gb124, 1, none⟩ = some (.int .i64 a1_1) := (blk_cell BK124.out 1).trans rfl
              have hcz19_2 : w16.cell? ⟨gb124, 2, none⟩ = some (.slice A1_2 l1_2.length c1_2) := (blk_cell BK124.out 2).trans rfl
              have hfz19_0 := blk_frozen BK124.out 0
              have hfz19_1 := blk_frozen BK124.out 1
              have hfz19_2 := blk_frozen BK124.out 2
              go_wp2
              go_meet
              case rel => exact ⟨_, ((a1_1 != 1)), (by first | rfl | (simp; done) | (simp [*]; done)), H', ⟨by have := HJ2.out; first | omega | exact Nat.le_refl _⟩, ⟨by (with_reducible repeat (first | refine blk_drewN ?_ _ | refine blk_drew ?_ | refine blk_alloc ?_ _)); exact BK124.out⟩, ⟨by repeat (first | (with_reducible first | exact HB.out | apply below_alloc | apply pw_below_drewN | apply below_drew1 | refine below_set ?_ GE124.out) | exact HB.out)⟩⟩
            · rw [if_neg c18] at H
              have c18b0 : decide (t127 < 0) = false := decide_eq_false c18
              clear c18
              (first | rw [c18b0] | (simp only [i64_w, i32_w]; rw [c18b0]) | skip)
              have H' := Aside0.mk H
              clear H
              go_wp2
              go_meet
              case rel => exact ⟨_, (false), (by first | rfl | (simp; done) | (simp [*]; done)), H', ⟨by have := HJ2.out; first | omega | exact Nat.le_refl _⟩, ⟨by (with_reducible repeat (first | refine blk_drewN ?_ _ | refine blk_drew ?_ | refine blk_alloc ?_ _)); exact BK124.out⟩, ⟨by repeat (first | (with_reducible first | exact HB.out | apply below_alloc | apply pw_below_drewN | apply below_drew1 | refine below_set ?_ GE124.out) | exact HB.out)⟩⟩
          case rest =>
            clear HC17
            try clear c1
            try clear c2
            try clear p2
            try clear c3
            try clear c6
            try clear c12
            try clear c18
            try clear c18b0
            try clear hcz15_0
            try clear hcz15_1
            try clear hcz15_2
            try clear hcz19_0
            try clear hcz19_1
            try clear hcz19_2
            try clear hcz9_0
            try clear hcz9_1
            try clear hcz9_2
            try clear hfz15_0
            try clear hfz15_1
            try clear hfz15_2
            try clear hfz19_0
            try clear hfz19_1
            try clear hfz19_2
            try clear hfz9_0
            try clear hfz9_1
            try clear hfz9_2
            try clear p2
            obtain ⟨kq, x22_16, rfl, HA, HJ16, BK124, HB⟩ := hcut
            cases kq with
            | zero => exact absurd HA.out (by simp [registry_Add.j1])
            | succ kj16 =>
              have H := HA.out
              clear HA
              simp only [registry_Add.j1] at H
              by_cases c20 : x22_16 = true
              · subst c20
                have H1 : (some (([] : List (SSchema)), 5)) = some (r1, r2) := by rw [if_pos rfl] at H; exact H
                clear H
                have H := H1
                clear H1
                simp only [Option.some.injEq, Prod.mk.injEq] at H
                obtain ⟨rfl, rfl⟩ := H
                go_wp2
                go_ret2
                exact ⟨_, by first | rfl | (simp [errW_none, errW_some] <;> rfl) | (simp [*, errW_none, errW_some] <;> rfl), by first | exact Kd.S_nil _ _ _ _ _ | exact Kd.N_nil _ _ _ _ _ | exact Kd.V_nil _ _ _ _ _ | exact Kd.Q_nil _ _ _ _ _ | exact Kd.R_nil _ _ _ _ _, by repeat (first | (with_reducible first | exact HB.out | apply below_alloc | apply pw_below_drewN | apply below_drew1 | refine below_set ?_ GE124.out) | exact HB.out)⟩
              · replace c20 := Bool.eq_false_iff.mpr c20
                subst c20
                have H1 : (if t127 < 0 then (registry_Add.j2 kj16 l0 t127 ((l0.length : Int) == 8) a1_0 a1_1 l1_2) else (registry_Add.j2 kj16 l0 t127 false a1_0 a1_1 l1_2)) = some (r1, r2) := by rw [if_neg (show ¬ (false = true) by decide)] at H; exact H
                clear H
                have H := H1
                clear H1
                have HC21 := Aside0.mk H
                clear H
                go_upto_region 6 with (fail)
                go_cut [30] (fun v30 wc => ∃ (kq : Nat) (x30_20 : Bool), v30 = .bool x30_20 ∧ Aside0 (registry_Add.j2 kq l0 t127 x30_20 a1_0 a1_1 l1_2 = some (r1, r2)) ∧ Aside0 (kq ≤ kj16) ∧ Aside0 (wc.heap[gb124]? = some (.cells #[.string a1_0, .int .i64 a1_1, (.slice A1_2 l1_2.length c1_2)] 25 (0, 0))) ∧ Aside0 (Below w.heap.size w wc))
                case first =>
                  have H := HC21.out
                  clear HC21
                  by_cases c22 : t127 < 0
                  · rw [if_pos c22] at H
                    have c22b0 : decide (t127 < 0) = true := decide_eq_true c22
                    clear c22
                    (first | rw [c22b0] | (simp only [i64_w, i32_w]; rw [c22b0]) | skip)
                    have H' := Aside0.mk H
                    clear H
                    go_wp2
                    go_meet
                    case rel => exact ⟨_, (((l0.length : Int) == 8)), (by first | rfl | (simp; done) | (simp [*]; done)), H', ⟨by have := HJ2.out; have := HJ16.out; first | omega | exact Nat.le_refl _⟩, ⟨by (with_reducible repeat (first | refine blk_drewN ?_ _ | refine blk_drew ?_ | refine blk_alloc ?_ _)); exact BK124.out⟩, ⟨by repeat (first | (with_reducible first | exact HB.out | apply below_alloc | apply pw_below_drewN | apply below_drew1 | refine below_set ?_ GE124.out) | exact HB.out)⟩⟩
                  · rw [if_neg c22] at H
                    have c22b0 : decide (t127 < 0) = false := decide_eq_false c22
                    clear c22
                    (first | rw [c22b0] | (simp only [i64_w, i32_w]; rw [c22b0]) | skip)
                    have H' := Aside0.mk H
                    clear H
                    go_wp2
                    go_meet
                    case rel => exact ⟨_, (false), (by first | rfl | (simp; done) | (simp [*]; done)), H', ⟨by have := HJ2.out; have := HJ16.out; first | omega | exact Nat.le_refl _⟩, ⟨by (with_reducible repeat (first | refine blk_drewN ?_ _ | refine blk_drew ?_ | refine blk_alloc ?_ _)); exact BK124.out⟩, ⟨by repeat (first | (with_reducible first | exact HB.out | apply below_alloc | apply pw_below_drewN | apply below_drew1 | refine below_set ?_ GE124.out) | exact HB.out)⟩⟩
                case rest =>
                  clear HC21
                  try clear c1
                  try clear c2
                  try clear p2
                  try clear c3
                  try clear c6
                  try clear c12
                  try clear c18
                  try clear c18b0
                  try clear c20
                  try clear c22
                  try clear c22b0
                  try clear hcz15_0
                  try clear hcz15_1
                  try clear hcz15_2
                  try clear hcz19_0
                  try clear hcz19_1
                  try clear hcz19_2
                  try clear hcz9_0
                  try clear hcz9_1
                  try clear hcz9_2
                  try clear hfz15_0
                  try clear hfz15_1
                  try clear hfz15_2
                  try clear hfz19_0
                  try clear hfz19_1
                  try clear hfz19_2
                  try clear hfz9_0
                  try clear hfz9_1
                  try clear hfz9_2
                  try clear p2
                  obtain ⟨kq, x30_20, rfl, HA, HJ20, BK124, HB⟩ := hcut
                  cases kq with
                  | zero => exact absurd HA.out (by simp [registry_Add.j2])
                  | succ kj20 =>
                    have H := HA.out
                    clear HA
                    simp only [registry_Add.j2] at H
                    by_cases c23 : x30_20 = true
                    · subst c23
                      have H1 : (some (([] : List (SSchema)), 7)) = some (r1, r2) := by rw [if_pos rfl] at H; exact H
                      clear H
                      have H := H1
                      clear H1
                      simp only [Option.some.injEq, Prod.mk.injEq] at H
                      obtain ⟨rfl, rfl⟩ := H
                      go_wp2
                      go_ret2
                      exact ⟨_, by first | rfl | (simp [errW_none, errW_some] <;> rfl) | (simp [*, errW_none, errW_some] <;> rfl), by first | exact Kd.S_nil _ _ _ _ _ | exact Kd.N_nil _ _ _ _ _ | exact Kd.V_nil _ _ _ _ _ | exact Kd.Q_nil _ _ _ _ _ | exact Kd.R_nil _ _ _ _ _, by repeat (first | (with_reducible first | exact HB.out | apply below_alloc | apply pw_below_drewN | apply below_drew1 | refine below_set ?_ GE124.out) | exact HB.out)⟩
                    · replace c23 := Bool.eq_false_iff.mpr c23
                      subst c23
                      have H1 : (if t127 ≥ 0 then (if 0 ≤ t127 then (if t127 < (l0.length : Int) then ((schema_Same.f kj20 ((rd_TSchema l0 t127).f0) ((rd_TSchema l0 t127).f1) ((rd_TSchema l0 t127).f2) a1_0 a1_1 l1_2).bind fun t129 => (registry_Add.j3 kj20 l0 t127 t129 a1_0 a1_1 l1_2)) else (none)) else (none)) else (registry_Add.j3 kj20 l0 t127 false a1_0 a1_1 l1_2)) = some (r1, r2) := by rw [if_neg (show ¬ (false = true) by decide)] at H; exact H
                      clear H
                      have H := H1
                      clear H1
                      have HC24 := Aside0.mk H
                      clear H
                      go_upto_region 8 with (fail)
                      go_cut [38] (fun v38 wc => ∃ (kq : Nat) (x38_23 : Bool), v38 = .bool x38_23 ∧ Aside0 (registry_Add.j3 kq l0 t127 x38_23 a1_0 a1_1 l1_2 = some (r1, r2)) ∧ Aside0 (kq ≤ kj20) ∧ Aside0 (wc.heap[gb124]? = some (.cells #[.string a1_0, .int .i64 a1_1, (.slice A1_2 l1_2.length c1_2)] 25 (0, 0))) ∧ Aside0 (Below w.heap.size w wc))
                      case first =>
                        have H := HC24.out
                        clear HC24
                        by_cases c25 : t127 ≥ 0
                        · rw [if_pos c25] at H
                          have c25b0 : decide (0 ≤ t127) = true := decide_eq_true c25
                          clear c25
                          (first | rw [c25b0] | (simp only [i64_w, i32_w]; rw [c25b0]) | skip)
                          by_cases c26 : 0 ≤ t127
                          · rw [if_pos c26] at H
                            have c26b0 : decide (0 ≤ t127) = true := decide_eq_true c26
                            clear c26
                            by_cases c27 : t127 < (l0.length : Int)
                            · rw [if_pos c27] at H
                              have c27b0 : decide (t127 < (l0.length : Int)) = true := decide_eq_true c27
                              clear c27
                              replace H := Option.bind_eq_some_iff.mp H
                              obtain ⟨t129, A280, H⟩ := H
                              replace H : (registry_Add.j3 kj20 l0 t127 t129 a1_0 a1_1 l1_2) = some (r1, r2) := H
                              have A28 := Aside0.mk A280
                              clear A280
                              have H' := Aside0.mk H
                              clear H
                              try go_wp2
                              have n0_ := Aside0.mk (blk_drew BK124.out)
                              have n1_ := Aside0.mk (below_drew1 HB.out)
                              clear BK124
                              clear HB
                              have BK124 := n0_
                              have HB := n1_
                              clear n0_ n1_
                              have p128 : 0 ≤ (t127 : Int) := of_decide_eq_true (by first | (with_reducible assumption) | assumption)
                              have q128 : t127 < (l0.length : Int) := of_decide_eq_true (by first | (with_reducible assumption) | assumption)
                              obtain ⟨ad128, A128_2, c128_2, e128, hx128_0, hx128_1, hx128_2, hl128_2, hi128_2⟩ := at_TSchema HR0.out t127 p128 q128
                              have hw128_2 := hx128_2
                              have hw128_1 := hx128_1
                              have hw128_0 := hx128_0
                              cases e128
                              replace hx128_0 := (HB.out.cell (World.block_lt_of_cell? w _ hx128_0)).trans hx128_0
                              replace hx128_1 := (HB.out.cell (World.block_lt_of_cell? w _ hx128_1)).trans hx128_1
                              replace hx128_2 := (HB.out.cell (World.block_lt_of_cell? w _ hx128_2)).trans hx128_2
                              have HR128_2 := Aside0.mk hi128_2
                              have HC128_2 := Aside0.mk hl128_2
                              clear hi128_2 hl128_2
                              replace p128 := eq_true p128
                              replace q128 := eq_true q128
                              refine start_ (n := 11) (S := fun w' => w'.cell? ⟨gb124, 0, none⟩ = some (.string a1_0) ∧ w'.cell? ⟨gb124, 1, none⟩ = some (.int .i64 a1_1) ∧ w'.cell? ⟨gb124, 2, none⟩ = some (.slice A1_2 l1_2.length c1_2) ∧ w'.cell? (ad128.add ((t127).toNat * 3)) = some (.string ((rd_TSchema l0 t127).f0)) ∧ w'.cell? ⟨(ad128.add ((t127).toNat * 3)).block, (ad128.add ((t127).toNat * 3)).off + 1, none⟩ = some (.int .i64 ((rd_TSchema l0 t127).f1)) ∧ w'.cell? ⟨(ad128.add ((t127).toNat * 3)).block, (ad128.add ((t127).toNat * 3)).off + 2, none⟩ = some (.slice A128_2 ((rd_TSchema l0 t127).f2).length c128_2)) (ds := []) #[false, false, false, false, false, false, false, false, false, false, false] (by kernel_rfl) rfl rfl ⟨(blk_cell BK124.out 0).trans rfl, (blk_cell BK124.out 1).trans rfl, (blk_cell BK124.out 2).trans rfl, ((HB.out.cell (World.block_lt_of_cell? w _ hw128_0)).trans hw128_0), ((HB.out.cell (World.block_lt_of_cell? w _ hw128_1)).trans hw128_1), ((HB.out.cell (World.block_lt_of_cell? w _ hw128_2)).trans hw128_2)⟩ (fun hHeld => ?_); refine with_tabW registry_Add.tab8 registry_Add.bits8 (fun HT_ HW_ => ?_)
                              generalize wc.drew = w29 at BK124 HB HR128_2 hx128_0 hx128_1 hx128_2 hHeld ⊢
                              refine pure_ (i := 0) (N := some 39) (v := ?_) (a' := ?_) #[true, false, false, false, false, false, false, false, false, false, false] rfl rfl (any_of HT_.out (by kernel_rfl)) (fun _ _ _ h => h) (Or.inl ⟨by rfl, ?_⟩) ?_ ?_
                              rotate_left
                              · intro w'
                                go_simp
                                with_reducible rfl
                              rotate_left
                              · simp only [Act.put, List.setIfInBounds_toArray, List.set_cons_zero, List.set_cons_succ, i64_w, i32_w]
                                rfl
                              refine pure_ (i := 1) (N := some 40) (v := ?_) (a' := ?_) #[true, true, false, false, false, false, false, false, false, false, false] rfl rfl (any_of HT_.out (by kernel_rfl)) (fun _ _ _ h => h) (Or.inl ⟨by rfl, ?_⟩) ?_ ?_
                              rotate_left
                              · intro w'
                                go_simp
                                with_reducible rfl
                              rotate_left
                              · simp only [Act.put, List.setIfInBounds_toArray, List.set_cons_zero, List.set_cons_succ, i64_w, i32_w]
                                rfl
                              refine pure_ (i := 2) (N := some 41) (v := ?_) (a' := ?_) #[true, true, true, false, false, false, false, false, false, false, false] rfl rfl (any_of HT_.out (by kernel_rfl)) (fun _ _ _ h => h) (Or.inl ⟨by rfl, ?_⟩) ?_ ?_
                              rotate_left
                              · intro w'
                                go_simp
                                with_reducible rfl
                              rotate_left
                              · simp only [Act.put, List.setIfInBounds_toArray, List.set_cons_zero, List.set_cons_succ, i64_w, i32_w]
                                rfl
                              refine pure_ (i := 3) (N := some 42) (v := ?_) (a' := ?_) #[true, true, true, true, false, false, false, false, false, false, false] rfl rfl (any_of HT_.out (by kernel_rfl)) (fun _ _ _ h => h) (Or.inl ⟨by rfl, ?_⟩) ?_ ?_
                              rotate_left
                              · intro w'
                                go_simp
                                with_reducible rfl
                              rotate_left
                              · simp only [Act.put, List.setIfInBounds_toArray, List.set_cons_zero, List.set_cons_succ, i64_w, i32_w]
                                rfl
                              refine pure_ (i := 4) (N := some 43) (v := ?_) (a' := ?_) #[true, true, true, true, true, false, false, false, false, false, false] rfl rfl (any_of HT_.out (by kernel_rfl)) (fun _ _ _ h => h) (Or.inl ⟨by rfl, ?_⟩) ?_ ?_
                              rotate_left
                              · intro w'
                                go_simp
                                with_reducible rfl
                              rotate_left
                              · simp only [Act.put, List.setIfInBounds_toArray, List.set_cons_zero, List.set_cons_succ, i64_w, i32_w]
                                rfl
                              refine pure_ (i := 5) (N := some 44) (v := ?_) (a' := ?_) #[true, true, true, true, true, true, false, false, false, false, false] rfl rfl (any_of HT_.out (by kernel_rfl)) (fun _ _ _ h => h) (Or.inl ⟨by rfl, ?_⟩) ?_ ?_
                              rotate_left
                              · intro w'
                                go_simp
                                with_reducible rfl
                              rotate_left
                              · simp only [Act.put, List.setIfInBounds_toArray, List.set_cons_zero, List.set_cons_succ, i64_w, i32_w]
                                rfl
                              refine take_ (i := 6) (N := some 45) (v := ?_) (a' := ?_) #[true, true, true, true, true, true, true, false, false, false, false] rfl rfl (take_ofW HT_.out HW_.out (by kernel_rfl)) (fun _ _ _ h => h) (Or.inl ⟨by rfl, ?_⟩) hHeld ?_ ?_
                              rotate_left
                              · rintro w' ⟨s0, s1, s2, s3, s4, s5⟩
                                go_simp
                                with_reducible rfl
                              rotate_left
                              · simp only [Act.put, List.setIfInBounds_toArray, List.set_cons_zero, List.set_cons_succ, i64_w, i32_w]
                                rfl
                              refine take_ (i := 7) (N := some 46) (v := ?_) (a' := ?_) #[true, true, true, true, true, true, true, true, false, false, false] rfl rfl (take_ofW HT_.out HW_.out (by kernel_rfl)) (fun _ _ _ h => h) (Or.inl ⟨by rfl, ?_⟩) hHeld ?_ ?_
                              rotate_left
                              · rintro w' ⟨s0, s1, s2, s3, s4, s5⟩
                                go_simp
                                with_reducible rfl
                              rotate_left
                              · simp only [Act.put, List.setIfInBounds_toArray, List.set_cons_zero, List.set_cons_succ, i64_w, i32_w]
                                rfl
                              refine one_ (i := 8) (N := some 47) #[true, true, true, true, true, true, true, true, true, false, false] rfl rfl (one_of HT_.out (by kernel_rfl)) (by decide) (fun K hK => ?_)
                              refine goes_ Try.func27 (by kernel_rfl) rfl #[.agg #[.string ((rd_TSchema l0 t127).f0), .int .i64 ((rd_TSchema l0 t127).f1), .slice A128_2 ((rd_TSchema l0 t127).f2).length c128_2], .agg #[.string a1_0, .int .i64 a1_1, .slice A1_2 l1_2.length c1_2]] (by rfl) rfl rfl (by (try simp only [List.map_toArray, List.map_cons, List.map_nil]); first | done | rfl | (simp only [List.length_drop, List.length_take]; rfl)) ?_
                              with_reducible refine (schema_Same.calls kj20 ((rd_TSchema l0 t127).f0) ((rd_TSchema l0 t127).f1) _ _ ((rd_TSchema l0 t127).f2) a1_0 a1_1 _ _ l1_2 t129 _ ?side1 ?side2 ?side3 ?side4 A28.out).mono ?_
                              (case side1 => repeat (first | exact (Kd.C_below HR128_2.out HB.out) | (with_reducible refine Kd.C_alloc ?_ _) | (with_reducible refine Kd.C_drewN ?_ _) | (with_reducible refine Kd.C_drew ?_)))
                              (case side2 => exact HC128_2.out)
                              (case side3 => repeat (first | exact (Kd.C_below HR1_2.out HB.out) | (with_reducible refine Kd.C_alloc ?_ _) | (with_reducible refine Kd.C_drewN ?_ _) | (with_reducible refine Kd.C_drew ?_)))
                              (case side4 => exact HC1_2.out)
                              rintro e w30 ⟨rfl, hb⟩
                              refine ⟨_, rfl, ?_⟩
                              have n0_ := Aside0.mk (blk_below (g := gb124) (o := .cells #[.string a1_0, .int .i64 a1_1, .slice A1_2 l1_2.length c1_2] 25 (0, 0)) (by (with_reducible repeat (first | refine blk_drewN ?_ _ | refine blk_drew ?_ | refine blk_alloc ?_ _)); exact BK124.out) hb)
                              have n1_ := Aside0.mk (below_step (by repeat (first | (with_reducible first | exact HB.out | apply below_alloc | apply pw_below_drewN | apply below_drew1 | refine below_set ?_ GE124.out) | exact HB.out)) hb)
                              clear BK124
                              clear HB
                              have BK124 := n0_
                              have HB := n1_
                              clear n0_ n1_
                              (try clear hb)
                              (try clear hb2)
                              (try clear hk)
                              (try clear hi)
                              refine hK.out _ _ ⟨(blk_cell BK124.out 0).trans rfl, (blk_cell BK124.out 1).trans rfl, (blk_cell BK124.out 2).trans rfl, ((HB.out.cell (World.block_lt_of_cell? w _ hw128_0)).trans hw128_0), ((HB.out.cell (World.block_lt_of_cell? w _ hw128_1)).trans hw128_1), ((HB.out.cell (World.block_lt_of_cell? w _ hw128_2)).trans hw128_2)⟩ (fun hHeld => ?_)
                              clear hK K
                              refine norm_ (a' := ?_) ?_ ?_
                              rotate_left
                              · show Act.put _ (some 47) _ = _
                                simp only [Act.put, List.setIfInBounds_toArray, List.set_cons_zero, List.set_cons_succ, i64_w, i32_w]
                                rfl
                              refine pure_ (i := 9) (N := some 48) (v := ?_) (a' := ?_) #[true, true, true, true, true, true, true, true, true, true, false] rfl rfl (any_of HT_.out (by kernel_rfl)) (fun _ _ _ h => h) (Or.inl ⟨by rfl, ?_⟩) ?_ ?_
                              rotate_left
                              · intro w'
                                go_simp
                                with_reducible rfl
                              rotate_left
                              · simp only [Act.put, List.setIfInBounds_toArray, List.set_cons_zero, List.set_cons_succ, i64_w, i32_w]
                                rfl
                              refine pure_ (i := 10) (N := some 38) (v := ?_) (a' := ?_) #[true, true, true, true, true, true, true, true, true, true, true] rfl rfl (any_of HT_.out (by kernel_rfl)) (fun _ _ _ h => h) (Or.inl ⟨by rfl, ?_⟩) ?_ ?_
                              rotate_left
                              · intro w'
                                go_simp
                                with_reducible rfl
                              rotate_left
                              · simp only [Act.put, List.setIfInBounds_toArray, List.set_cons_zero, List.set_cons_succ, i64_w, i32_w]
                                rfl
                              refine done_ (done_of HT_.out (by kernel_rfl)) ?_
                              try go_wp2
                              go_meet
                              case rel => exact ⟨_, (t129), (by first | rfl | (simp; done) | (simp [*]; done)), H', ⟨by have := HJ2.out; have := HJ16.out; have := HJ20.out; first | omega | exact Nat.le_refl _⟩, ⟨by (with_reducible repeat (first | refine blk_drewN ?_ _ | refine blk_drew ?_ | refine blk_alloc ?_ _)); exact BK124.out⟩, ⟨by repeat (first | (with_reducible first | exact HB.out | apply below_alloc | apply pw_below_drewN | apply below_drew1 | refine below_set ?_ GE124.out) | exact HB.out)⟩⟩
                            · rw [if_neg c27] at H
                              exact absurd H (by simp)
                          · rw [if_neg c26] at H
                            exact absurd H (by simp)
                        · rw [if_neg c25] at H
                          have c25b0 : decide (0 ≤ t127) = false := decide_eq_false c25
                          clear c25
                          (first | rw [c25b0] | (simp only [i64_w, i32_w]; rw [c25b0]) | skip)
                          have H' := Aside0.mk H
                          clear H
                          try go_wp2
                          have n0_ := Aside0.mk (blk_drew BK124.out)
                          have n1_ := Aside0.mk (below_drew1 HB.out)
                          clear BK124
                          clear HB
                          have BK124 := n0_
                          have HB := n1_
                          clear n0_ n1_
                          refine start_ (n := 11) (S := fun w' => True) (ds := []) #[false, false, false, false, false, false, false, false, false, false, false] (by kernel_rfl) rfl rfl trivial (fun hHeld => ?_); refine with_tabW registry_Add.tab8 registry_Add.bits8 (fun HT_ HW_ => ?_)
                          generalize wc.drew = w31 at BK124 HB hHeld ⊢
                          refine pure_ (i := 0) (N := some 39) (v := ?_) (a' := ?_) #[true, false, false, false, false, false, false, false, false, false, false] rfl rfl (any_of HT_.out (by kernel_rfl)) (fun _ _ _ h => h) (Or.inl ⟨by rfl, ?_⟩) ?_ ?_
                          rotate_left
                          · intro w'
                            go_simp
                            with_reducible rfl
                          rotate_left
                          · simp only [Act.put, List.setIfInBounds_toArray, List.set_cons_zero, List.set_cons_succ, i64_w, i32_w]
                            rfl
                          refine pure_ (i := 1) (N := some 40) (v := ?_) (a' := ?_) #[true, true, false, false, false, false, false, false, false, false, false] rfl rfl (any_of HT_.out (by kernel_rfl)) (fun _ _ _ h => h) (Or.inl ⟨by rfl, ?_⟩) ?_ ?_
                          rotate_left
                          · intro w'
                            go_simp
                            with_reducible rfl
                          rotate_left
                          · simp only [Act.put, List.setIfInBounds_toArray, List.set_cons_zero, List.set_cons_succ, i64_w, i32_w]
                            rfl
                          refine pure_ (i := 2) (N := some 41) (v := ?_) (a' := ?_) #[true, true, true, false, false, false, false, false, false, false, false] rfl rfl (any_of HT_.out (by kernel_rfl)) (fun _ _ _ h => h) (Or.inl ⟨by rfl, ?_⟩) ?_ ?_
                          rotate_left
                          · intro w'
                            go_simp
                            with_reducible rfl
                          rotate_left
                          · simp only [Act.put, List.setIfInBounds_toArray, List.set_cons_zero, List.set_cons_succ, i64_w, i32_w]
                            rfl
                          refine pure_ (i := 3) (N := some 42) (v := undef) (a' := ?_) #[true, true, true, true, false, false, false, false, false, false, false] rfl rfl (any_of HT_.out (by kernel_rfl)) (fun _ _ _ h => h) (Or.inr ⟨by rfl, rfl⟩) ?_ ?_
                          rotate_left
                          · simp only [Act.put, List.setIfInBounds_toArray, List.set_cons_zero, List.set_cons_succ, i64_w, i32_w]
                            rfl
                          refine pure_ (i := 4) (N := some 43) (v := undef) (a' := ?_) #[true, true, true, true, true, false, false, false, false, false, false] rfl rfl (any_of HT_.out (by kernel_rfl)) (fun _ _ _ h => h) (Or.inr ⟨by rfl, rfl⟩) ?_ ?_
                          rotate_left
                          · simp only [Act.put, List.setIfInBounds_toArray, List.set_cons_zero, List.set_cons_succ, i64_w, i32_w]
                            rfl
                          refine pure_ (i := 5) (N := some 44) (v := undef) (a' := ?_) #[true, true, true, true, true, true, false, false, false, false, false] rfl rfl (any_of HT_.out (by kernel_rfl)) (fun _ _ _ h => h) (Or.inr ⟨by rfl, rfl⟩) ?_ ?_
                          rotate_left
                          · simp only [Act.put, List.setIfInBounds_toArray, List.set_cons_zero, List.set_cons_succ, i64_w, i32_w]
                            rfl
                          refine pure_ (i := 6) (N := some 45) (v := undef) (a' := ?_) #[true, true, true, true, true, true, true, false, false, false, false] rfl rfl (any_of HT_.out (by kernel_rfl)) (fun _ _ _ h => h) (Or.inr ⟨by rfl, rfl⟩) ?_ ?_
                          rotate_left
                          · simp only [Act.put, List.setIfInBounds_toArray, List.set_cons_zero, List.set_cons_succ, i64_w, i32_w]
                            rfl
                          refine pure_ (i := 7) (N := some 46) (v := undef) (a' := ?_) #[true, true, true, true, true, true, true, true, false, false, false] rfl rfl (any_of HT_.out (by kernel_rfl)) (fun _ _ _ h => h) (Or.inr ⟨by rfl, rfl⟩) ?_ ?_
                          rotate_left
                          · simp only [Act.put, List.setIfInBounds_toArray, List.set_cons_zero, List.set_cons_succ, i64_w, i32_w]
                            rfl
                          refine pure_ (i := 8) (N := some 47) (v := undef) (a' := ?_) #[true, true, true, true, true, true, true, true, true, false, false] rfl rfl (any_of HT_.out (by kernel_rfl)) (fun _ _ _ h => h) (Or.inr ⟨by rfl, rfl⟩) ?_ ?_
                          rotate_left
                          · simp only [Act.put, List.setIfInBounds_toArray, List.set_cons_zero, List.set_cons_succ, i64_w, i32_w]
                            rfl
                          refine pure_ (i := 9) (N := some 48) (v := ?_) (a' := ?_) #[true, true, true, true, true, true, true, true, true, true, false] rfl rfl (any_of HT_.out (by kernel_rfl)) (fun _ _ _ h => h) (Or.inl ⟨by rfl, ?_⟩) ?_ ?_
                          rotate_left
                          · intro w'
                            go_simp
                            with_reducible rfl
                          rotate_left
                          · simp only [Act.put, List.setIfInBounds_toArray, List.set_cons_zero, List.set_cons_succ, i64_w, i32_w]
                            rfl
                          refine pure_ (i := 10) (N := some 38) (v := ?_) (a' := ?_) #[true, true, true, true, true, true, true, true, true, true, true] rfl rfl (any_of HT_.out (by kernel_rfl)) (fun _ _ _ h => h) (Or.inl ⟨by rfl, ?_⟩) ?_ ?_
                          rotate_left
                          · intro w'
                            go_simp
                            with_reducible rfl
                          rotate_left
                          · simp only [Act.put, List.setIfInBounds_toArray, List.set_cons_zero, List.set_cons_succ, i64_w, i32_w]
                            rfl
                          refine done_ (done_of HT_.out (by kernel_rfl)) ?_
                          try go_wp2
                          go_meet
                          case rel => exact ⟨_, (false), (by first | rfl | (simp; done) | (simp [*]; done)), H', ⟨by have := HJ2.out; have := HJ16.out; have := HJ20.out; first | omega | exact Nat.le_refl _⟩, ⟨by (with_reducible repeat (first | refine blk_drewN ?_ _ | refine blk_drew ?_ | refine blk_alloc ?_ _)); exact BK124.out⟩, ⟨by repeat (first | (with_reducible first | exact HB.out | apply below_alloc | apply pw_below_drewN | apply below_drew1 | refine below_set ?_ GE124.out) | exact HB.out)⟩⟩
                      case rest =>
                        clear HC24
                        try clear c1
                        try clear p1
                        try clear q1
                        try clear hx1
                        try clear c2
                        try clear p2
                        try clear c3
                        try clear c6
                        try clear c12
                        try clear p12
                        try clear q12
                        try clear hx12
                        try clear c18
                        try clear c18b0
                        try clear c20
                        try clear c22
                        try clear c22b0
                        try clear c23
                        try clear c25
                        try clear c25b0
                        try clear c26
                        try clear c26b0
                        try clear c27
                        try clear c27b0
                        try clear hcz15_0
                        try clear hcz15_1
                        try clear hcz15_2
                        try clear hcz19_0
                        try clear hcz19_1
                        try clear hcz19_2
                        try clear hcz9_0
                        try clear hcz9_1
                        try clear hcz9_2
                        try clear hfz15_0
                        try clear hfz15_1
                        try clear hfz15_2
                        try clear hfz19_0
                        try clear hfz19_1
                        try clear hfz19_2
                        try clear hfz9_0
                        try clear hfz9_1
                        try clear hfz9_2
                        try clear hx128_0
                        try clear hx128_1
                        try clear hx128_2
                        try clear p128
                        try clear p2
                        try clear q128
                        obtain ⟨kq, x38_23, rfl, HA, HJ23, BK124, HB⟩ := hcut
                        cases kq with
                        | zero => exact absurd HA.out (by simp [registry_Add.j3])
                        | succ kj23 =>
                          have H := HA.out
                          clear HA
                          simp only [registry_Add.j3] at H
                          by_cases c32 : x38_23 = true
                          · subst c32
                            have H1 : (some (([] : List (SSchema)), 4)) = some (r1, r2) := by rw [if_pos rfl] at H; exact H
                            clear H
                            have H := H1
                            clear H1
                            simp only [Option.some.injEq, Prod.mk.injEq] at H
                            obtain ⟨rfl, rfl⟩ := H
                            go_wp2
                            go_ret2
                            exact ⟨_, by first | rfl | (simp [errW_none, errW_some] <;> rfl) | (simp [*, errW_none, errW_some] <;> rfl), by first | exact Kd.S_nil _ _ _ _ _ | exact Kd.N_nil _ _ _ _ _ | exact Kd.V_nil _ _ _ _ _ | exact Kd.Q_nil _ _ _ _ _ | exact Kd.R_nil _ _ _ _ _, by repeat (first | (with_reducible first | exact HB.out | apply below_alloc | apply pw_below_drewN | apply below_drew1 | refine below_set ?_ GE124.out) | exact HB.out)⟩
                          · replace c32 := Bool.eq_false_iff.mpr c32
                            subst c32
                            have H1 : (if t127 ≥ 0 then (if 0 ≤ t127 then (if t127 < (l0.length : Int) then ((schema_Fits.f kj23 ((rd_TSchema l0 t127).f0) ((rd_TSchema l0 t127).f1) ((rd_TSchema l0 t127).f2) a1_0 a1_1 l1_2).bind fun t131 => (if t131 = true then (registry_Add.j4 kj23 l0 t127 a1_0 a1_1 l1_2) else (some (([] : List (SSchema)), 5)))) else (none)) else (none)) else (registry_Add.j4 kj23 l0 t127 a1_0 a1_1 l1_2)) = some (r1, r2) := by rw [if_neg (show ¬ (false = true) by decide)] at H; exact H
                            clear H
                            have H := H1
                            clear H1
                            by_cases c33 : t127 ≥ 0
                            · rw [if_pos c33] at H
                              have c33b0 : decide (0 ≤ t127) = true := decide_eq_true c33
                              clear c33
                              by_cases c34 : 0 ≤ t127
                              · rw [if_pos c34] at H
                                have c34b0 : decide (0 ≤ t127) = true := decide_eq_true c34
                                clear c34
                                by_cases c35 : t127 < (l0.length : Int)
                                · rw [if_pos c35] at H
                                  have c35b0 : decide (t127 < (l0.length : Int)) = true := decide_eq_true c35
                                  clear c35
                                  replace H := Option.bind_eq_some_iff.mp H
                                  obtain ⟨t131, A360, H⟩ := H
                                  replace H : (if t131 = true then (registry_Add.j4 kj23 l0 t127 a1_0 a1_1 l1_2) else (some (([] : List (SSchema)), 5))) = some (r1, r2) := H
                                  have A36 := Aside0.mk A360
                                  clear A360
                                  by_cases c37 : t131 = true
                                  · subst c37
                                    have H1 : (registry_Add.j4 kj23 l0 t127 a1_0 a1_1 l1_2) = some (r1, r2) := by rw [if_pos rfl] at H; exact H
                                    clear H
                                    have H := H1
                                    clear H1
                                    have H' := Aside0.mk H
                                    clear H
                                    try go_wp2
                                    have n0_ := Aside0.mk (blk_drew BK124.out)
                                    have n1_ := Aside0.mk (below_drew1 HB.out)
                                    clear BK124
                                    clear HB
                                    have BK124 := n0_
                                    have HB := n1_
                                    clear n0_ n1_
                                    have p130 : 0 ≤ (t127 : Int) := of_decide_eq_true (by first | (with_reducible assumption) | assumption)
                                    have q130 : t127 < (l0.length : Int) := of_decide_eq_true (by first | (with_reducible assumption) | assumption)
                                    obtain ⟨ad130, A130_2, c130_2, e130, hx130_0, hx130_1, hx130_2, hl130_2, hi130_2⟩ := at_TSchema HR0.out t127 p130 q130
                                    have hw130_2 := hx130_2
                                    have hw130_1 := hx130_1
                                    have hw130_0 := hx130_0
                                    cases e130
                                    replace hx130_0 := (HB.out.cell (World.block_lt_of_cell? w _ hx130_0)).trans hx130_0
                                    replace hx130_1 := (HB.out.cell (World.block_lt_of_cell? w _ hx130_1)).trans hx130_1
                                    replace hx130_2 := (HB.out.cell (World.block_lt_of_cell? w _ hx130_2)).trans hx130_2
                                    have HR130_2 := Aside0.mk hi130_2
                                    have HC130_2 := Aside0.mk hl130_2
                                    clear hi130_2 hl130_2
                                    replace p130 := eq_true p130
                                    replace q130 := eq_true q130
                                    refine start_ (n := 12) (S := fun w' => w'.cell? ⟨gb124, 0, none⟩ = some (.string a1_0) ∧ w'.cell? ⟨gb124, 1, none⟩ = some (.int .i64 a1_1) ∧ w'.cell? ⟨gb124, 2, none⟩ = some (.slice A1_2 l1_2.length c1_2) ∧ w'.cell? (ad130.add ((t127).toNat * 3)) = some (.string ((rd_TSchema l0 t127).f0)) ∧ w'.cell? ⟨(ad130.add ((t127).toNat * 3)).block, (ad130.add ((t127).toNat * 3)).off + 1, none⟩ = some (.int .i64 ((rd_TSchema l0 t127).f1)) ∧ w'.cell? ⟨(ad130.add ((t127).toNat * 3)).block, (ad130.add ((t127).toNat * 3)).off + 2, none⟩ = some (.slice A130_2 ((rd_TSchema l0 t127).f2).length c130_2)) (ds := []) #[false, false, false, false, false, false, false, false, false, false, false, false] (by kernel_rfl) rfl rfl ⟨(blk_cell BK124.out 0).trans rfl, (blk_cell BK124.out 1).trans rfl, (blk_cell BK124.out 2).trans rfl, ((HB.out.cell (World.block_lt_of_cell? w _ hw130_0)).trans hw130_0), ((HB.out.cell (World.block_lt_of_cell? w _ hw130_1)).trans hw130_1), ((HB.out.cell (World.block_lt_of_cell? w _ hw130_2)).trans hw130_2)⟩ (fun hHeld => ?_); refine with_tabW registry_Add.tab10 registry_Add.bits10 (fun HT_ HW_ => ?_)
                                    generalize wc.drew = w38 at BK124 HB HR130_2 hx130_0 hx130_1 hx130_2 hHeld ⊢
                                    refine pure_ (i := 0) (N := some 50) (v := ?_) (a' := ?_) #[true, false, false, false, false, false, false, false, false, false, false, false] rfl rfl (any_of HT_.out (by kernel_rfl)) (fun _ _ _ h => h) (Or.inl ⟨by rfl, ?_⟩) ?_ ?_
                                    rotate_left
                                    · intro w'
                                      go_simp
                                      with_reducible rfl
                                    rotate_left
                                    · simp only [Act.put, List.setIfInBounds_toArray, List.set_cons_zero, List.set_cons_succ, i64_w, i32_w]
                                      rfl
                                    refine pure_ (i := 1) (N := some 51) (v := ?_) (a' := ?_) #[true, true, false, false, false, false, false, false, false, false, false, false] rfl rfl (any_of HT_.out (by kernel_rfl)) (fun _ _ _ h => h) (Or.inl ⟨by rfl, ?_⟩) ?_ ?_
                                    rotate_left
                                    · intro w'
                                      go_simp
                                      with_reducible rfl
                                    rotate_left
                                    · simp only [Act.put, List.setIfInBounds_toArray, List.set_cons_zero, List.set_cons_succ, i64_w, i32_w]
                                      rfl
                                    refine pure_ (i := 2) (N := some 52) (v := ?_) (a' := ?_) #[true, true, true, false, false, false, false, false, false, false, false, false] rfl rfl (any_of HT_.out (by kernel_rfl)) (fun _ _ _ h => h) (Or.inl ⟨by rfl, ?_⟩) ?_ ?_
                                    rotate_left
                                    · intro w'
                                      go_simp
                                      with_reducible rfl
                                    rotate_left
                                    · simp only [Act.put, List.setIfInBounds_toArray, List.set_cons_zero, List.set_cons_succ, i64_w, i32_w]
                                      rfl
                                    refine pure_ (i := 3) (N := some 53) (v := ?_) (a' := ?_) #[true, true, true, true, false, false, false, false, false, false, false, false] rfl rfl (any_of HT_.out (by kernel_rfl)) (fun _ _ _ h => h) (Or.inl ⟨by rfl, ?_⟩) ?_ ?_
                                    rotate_left
                                    · intro w'
                                      go_simp
                                      with_reducible rfl
                                    rotate_left
                                    · simp only [Act.put, List.setIfInBounds_toArray, List.set_cons_zero, List.set_cons_succ, i64_w, i32_w]
                                      rfl
                                    refine pure_ (i := 4) (N := some 54) (v := ?_) (a' := ?_) #[true, true, true, true, true, false, false, false, false, false, false, false] rfl rfl (any_of HT_.out (by kernel_rfl)) (fun _ _ _ h => h) (Or.inl ⟨by rfl, ?_⟩) ?_ ?_
                                    rotate_left
                                    · intro w'
                                      go_simp
                                      with_reducible rfl
                                    rotate_left
                                    · simp only [Act.put, List.setIfInBounds_toArray, List.set_cons_zero, List.set_cons_succ, i64_w, i32_w]
                                      rfl
                                    refine pure_ (i := 5) (N := some 55) (v := ?_) (a' := ?_) #[true, true, true, true, true, true, false, false, false, false, false, false] rfl rfl (any_of HT_.out (by kernel_rfl)) (fun _ _ _ h => h) (Or.inl ⟨by rfl, ?_⟩) ?_ ?_
                                    rotate_left
                                    · intro w'
                                      go_simp
                                      with_reducible rfl
                                    rotate_left
                                    · simp only [Act.put, List.setIfInBounds_toArray, List.set_cons_zero, List.set_cons_succ, i64_w, i32_w]
                                      rfl
                                    refine take_ (i := 6) (N := some 56) (v := ?_) (a' := ?_) #[true, true, true, true, true, true, true, false, false, false, false, false] rfl rfl (take_ofW HT_.out HW_.out (by kernel_rfl)) (fun _ _ _ h => h) (Or.inl ⟨by rfl, ?_⟩) hHeld ?_ ?_
                                    rotate_left
                                    · rintro w' ⟨s0, s1, s2, s3, s4, s5⟩
                                      go_simp
                                      with_reducible rfl
                                    rotate_left
                                    · simp only [Act.put, List.setIfInBounds_toArray, List.set_cons_zero, List.set_cons_succ, i64_w, i32_w]
                                      rfl
                                    refine take_ (i := 7) (N := some 57) (v := ?_) (a' := ?_) #[true, true, true, true, true, true, true, true, false, false, false, false] rfl rfl (take_ofW HT_.out HW_.out (by kernel_rfl)) (fun _ _ _ h => h) (Or.inl ⟨by rfl, ?_⟩) hHeld ?_ ?_
                                    rotate_left
                                    · rintro w' ⟨s0, s1, s2, s3, s4, s5⟩
                                      go_simp
                                      with_reducible rfl
                                    rotate_left
                                    · simp only [Act.put, List.setIfInBounds_toArray, List.set_cons_zero, List.set_cons_succ, i64_w, i32_w]
                                      rfl
                                    refine one_ (i := 8) (N := some 58) #[true, true, true, true, true, true, true, true, true, false, false, false] rfl rfl (one_of HT_.out (by kernel_rfl)) (by decide) (fun K hK => ?_)
                                    refine goes_ Try.func38 (by kernel_rfl) rfl #[.agg #[.string ((rd_TSchema l0 t127).f0), .int .i64 ((rd_TSchema l0 t127).f1), .slice A130_2 ((rd_TSchema l0 t127).f2).length c130_2], .agg #[.string a1_0, .int .i64 a1_1, .slice A1_2 l1_2.length c1_2]] (by rfl) rfl rfl (by (try simp only [List.map_toArray, List.map_cons, List.map_nil]); first | done | rfl | (simp only [List.length_drop, List.length_take]; rfl)) ?_
                                    with_reducible refine (schema_Fits.calls kj23 ((rd_TSchema l0 t127).f0) ((rd_TSchema l0 t127).f1) _ _ ((rd_TSchema l0 t127).f2) a1_0 a1_1 _ _ l1_2 true _ ?side1 ?side2 ?side3 ?side4 A36.out).mono ?_
                                    (case side1 => repeat (first | exact (Kd.C_below HR130_2.out HB.out) | (with_reducible refine Kd.C_alloc ?_ _) | (with_reducible refine Kd.C_drewN ?_ _) | (with_reducible refine Kd.C_drew ?_)))
                                    (case side2 => exact HC130_2.out)
                                    (case side3 => repeat (first | exact (Kd.C_below HR1_2.out HB.out) | (with_reducible refine Kd.C_alloc ?_ _) | (with_reducible refine Kd.C_drewN ?_ _) | (with_reducible refine Kd.C_drew ?_)))
                                    (case side4 => exact HC1_2.out)
                                    rintro e w39 ⟨rfl, hb⟩
                                    refine ⟨_, rfl, ?_⟩
                                    have n0_ := Aside0.mk (blk_below (g := gb124) (o := .cells #[.string a1_0, .int .i64 a1_1, .slice A1_2 l1_2.length c1_2] 25 (0, 0)) (by (with_reducible repeat (first | refine blk_drewN ?_ _ | refine blk_drew ?_ | refine blk_alloc ?_ _)); exact BK124.out) hb)
                                    have n1_ := Aside0.mk (below_step (by repeat (first | (with_reducible first | exact HB.out | apply below_alloc | apply pw_below_drewN | apply below_drew1 | refine below_set ?_ GE124.out) | exact HB.out)) hb)
                                    clear BK124
                                    clear HB
                                    have BK124 := n0_
                                    have HB := n1_
                                    clear n0_ n1_
                                    (try clear hb)
                                    (try clear hb2)
                                    (try clear hk)
                                    (try clear hi)
                                    refine hK.out _ _ ⟨(blk_cell BK124.out 0).trans rfl, (blk_cell BK124.out 1).trans rfl, (blk_cell BK124.out 2).trans rfl, ((HB.out.cell (World.block_lt_of_cell? w _ hw130_0)).trans hw130_0), ((HB.out.cell (World.block_lt_of_cell? w _ hw130_1)).trans hw130_1), ((HB.out.cell (World.block_lt_of_cell? w _ hw130_2)).trans hw130_2)⟩ (fun hHeld => ?_)
                                    clear hK K
                                    refine norm_ (a' := ?_) ?_ ?_
                                    rotate_left
                                    · show Act.put _ (some 58) _ = _
                                      simp only [Act.put, List.setIfInBounds_toArray, List.set_cons_zero, List.set_cons_succ, i64_w, i32_w]
                                      rfl
                                    refine pure_ (i := 9) (N := some 59) (v := ?_) (a' := ?_) #[true, true, true, true, true, true, true, true, true, true, false, false] rfl rfl (any_of HT_.out (by kernel_rfl)) (fun _ _ _ h => h) (Or.inl ⟨by rfl, ?_⟩) ?_ ?_
                                    rotate_left
                                    · intro w'
                                      go_simp
                                      with_reducible rfl
                                    rotate_left
                                    · simp only [Act.put, List.setIfInBounds_toArray, List.set_cons_zero, List.set_cons_succ, i64_w, i32_w]
                                      rfl
                                    refine pure_ (i := 10) (N := some 60) (v := ?_) (a' := ?_) #[true, true, true, true, true, true, true, true, true, true, true, false] rfl rfl (any_of HT_.out (by kernel_rfl)) (fun _ _ _ h => h) (Or.inl ⟨by rfl, ?_⟩) ?_ ?_
                                    rotate_left
                                    · intro w'
                                      go_simp
                                      with_reducible rfl
                                    rotate_left
                                    · simp only [Act.put, List.setIfInBounds_toArray, List.set_cons_zero, List.set_cons_succ, i64_w, i32_w]
                                      rfl
                                    refine pure_ (i := 11) (N := some 49) (v := ?_) (a' := ?_) #[true, true, true, true, true, true, true, true, true, true, true, true] rfl rfl (any_of HT_.out (by kernel_rfl)) (fun _ _ _ h => h) (Or.inl ⟨by rfl, ?_⟩) ?_ ?_
                                    rotate_left
                                    · intro w'
                                      go_simp
                                      with_reducible rfl
                                    rotate_left
                                    · simp only [Act.put, List.setIfInBounds_toArray, List.set_cons_zero, List.set_cons_succ, i64_w, i32_w]
                                      rfl
                                    refine done_ (done_of HT_.out (by kernel_rfl)) ?_
                                    try go_wp2
                                    go_meet
                                    case rel => exact ⟨_, H', ⟨by have := HJ2.out; have := HJ16.out; have := HJ20.out; have := HJ23.out; first | omega | exact Nat.le_refl _⟩, ⟨by (with_reducible repeat (first | refine blk_drewN ?_ _ | refine blk_drew ?_ | refine blk_alloc ?_ _)); exact BK124.out⟩, ⟨by repeat (first | (with_reducible first | exact HB.out | apply below_alloc | apply pw_below_drewN | apply below_drew1 | refine below_set ?_ GE124.out) | exact HB.out)⟩⟩
                                  · replace c37 := Bool.eq_false_iff.mpr c37
                                    subst c37
                                    have H1 : (some (([] : List (SSchema)), 5)) = some (r1, r2) := by rw [if_neg (show ¬ (false = true) by decide)] at H; exact H
                                    clear H
                                    have H := H1
                                    clear H1
                                    simp only [Option.some.injEq, Prod.mk.injEq] at H
                                    obtain ⟨rfl, rfl⟩ := H
                                    try go_wp2
                                    have n0_ := Aside0.mk (blk_drew BK124.out)
                                    have n1_ := Aside0.mk (below_drew1 HB.out)
                                    clear BK124
                                    clear HB
                                    have BK124 := n0_
                                    have HB := n1_
                                    clear n0_ n1_
                                    have p130 : 0 ≤ (t127 : Int) := of_decide_eq_true (by first | (with_reducible assumption) | assumption)
                                    have q130 : t127 < (l0.length : Int) := of_decide_eq_true (by first | (with_reducible assumption) | assumption)
                                    obtain ⟨ad130, A130_2, c130_2, e130, hx130_0, hx130_1, hx130_2, hl130_2, hi130_2⟩ := at_TSchema HR0.out t127 p130 q130
                                    have hw130_2 := hx130_2
                                    have hw130_1 := hx130_1
                                    have hw130_0 := hx130_0
                                    cases e130
                                    replace hx130_0 := (HB.out.cell (World.block_lt_of_cell? w _ hx130_0)).trans hx130_0
                                    replace hx130_1 := (HB.out.cell (World.block_lt_of_cell? w _ hx130_1)).trans hx130_1
                                    replace hx130_2 := (HB.out.cell (World.block_lt_of_cell? w _ hx130_2)).trans hx130_2
                                    have HR130_2 := Aside0.mk hi130_2
                                    have HC130_2 := Aside0.mk hl130_2
                                    clear hi130_2 hl130_2
                                    replace p130 := eq_true p130
                                    replace q130 := eq_true q130
                                    refine start_ (n := 12) (S := fun w' => w'.cell? ⟨gb124, 0, none⟩ = some (.string a1_0) ∧ w'.cell? ⟨gb124, 1, none⟩ = some (.int .i64 a1_1) ∧ w'.cell? ⟨gb124, 2, none⟩ = some (.slice A1_2 l1_2.length c1_2) ∧ w'.cell? (ad130.add ((t127).toNat * 3)) = some (.string ((rd_TSchema l0 t127).f0)) ∧ w'.cell? ⟨(ad130.add ((t127).toNat * 3)).block, (ad130.add ((t127).toNat * 3)).off + 1, none⟩ = some (.int .i64 ((rd_TSchema l0 t127).f1)) ∧ w'.cell? ⟨(ad130.add ((t127).toNat * 3)).block, (ad130.add ((t127).toNat * 3)).off + 2, none⟩ = some (.slice A130_2 ((rd_TSchema l0 t127).f2).length c130_2)) (ds := []) #[false, false, false, false, false, false, false, false, false, false, false, false] (by kernel_rfl) rfl rfl ⟨(blk_cell BK124.out 0).trans rfl, (blk_cell BK124.out 1).trans rfl, (blk_cell BK124.out 2).trans rfl, ((HB.out.cell (World.block_lt_of_cell? w _ hw130_0)).trans hw130_0), ((HB.out.cell (World.block_lt_of_cell? w _ hw130_1)).trans hw130_1), ((HB.out.cell (World.block_lt_of_cell? w _ hw130_2)).trans hw130_2)⟩ (fun hHeld => ?_); refine with_tabW registry_Add.tab10 registry_Add.bits10 (fun HT_ HW_ => ?_)
                                    generalize wc.drew = w40 at BK124 HB HR130_2 hx130_0 hx130_1 hx130_2 hHeld ⊢
                                    refine pure_ (i := 0) (N := some 50) (v := ?_) (a' := ?_) #[true, false, false, false, false, false, false, false, false, false, false, false] rfl rfl (any_of HT_.out (by kernel_rfl)) (fun _ _ _ h => h) (Or.inl ⟨by rfl, ?_⟩) ?_ ?_
                                    rotate_left
                                    · intro w'
                                      go_simp
                                      with_reducible rfl
                                    rotate_left
                                    · simp only [Act.put, List.setIfInBounds_toArray, List.set_cons_zero, List.set_cons_succ, i64_w, i32_w]
                                      rfl
                                    refine pure_ (i := 1) (N := some 51) (v := ?_) (a' := ?_) #[true, true, false, false, false, false, false, false, false, false, false, false] rfl rfl (any_of HT_.out (by kernel_rfl)) (fun _ _ _ h => h) (Or.inl ⟨by rfl, ?_⟩) ?_ ?_
                                    rotate_left
                                    · intro w'
                                      go_simp
                                      with_reducible rfl
                                    rotate_left
                                    · simp only [Act.put, List.setIfInBounds_toArray, List.set_cons_zero, List.set_cons_succ, i64_w, i32_w]
                                      rfl
                                    refine pure_ (i := 2) (N := some 52) (v := ?_) (a' := ?_) #[true, true, true, false, false, false, false, false, false, false, false, false] rfl rfl (any_of HT_.out (by kernel_rfl)) (fun _ _ _ h => h) (Or.inl ⟨by rfl, ?_⟩) ?_ ?_
                                    rotate_left
                                    · intro w'
                                      go_simp
                                      with_reducible rfl
                                    rotate_left
                                    · simp only [Act.put, List.setIfInBounds_toArray, List.set_cons_zero, List.set_cons_succ, i64_w, i32_w]
                                      rfl
                                    refine pure_ (i := 3) (N := some 53) (v := ?_) (a' := ?_) #[true, true, true, true, false, false, false, false, false, false, false, false] rfl rfl (any_of HT_.out (by kernel_rfl)) (fun _ _ _ h => h) (Or.inl ⟨by rfl, ?_⟩) ?_ ?_
                                    rotate_left
                                    · intro w'
                                      go_simp
                                      with_reducible rfl
                                    rotate_left
                                    · simp only [Act.put, List.setIfInBounds_toArray, List.set_cons_zero, List.set_cons_succ, i64_w, i32_w]
                                      rfl
                                    refine pure_ (i := 4) (N := some 54) (v := ?_) (a' := ?_) #[true, true, true, true, true, false, false, false, false, false, false, false] rfl rfl (any_of HT_.out (by kernel_rfl)) (fun _ _ _ h => h) (Or.inl ⟨by rfl, ?_⟩) ?_ ?_
                                    rotate_left
                                    · intro w'
                                      go_simp
                                      with_reducible rfl
                                    rotate_left
                                    · simp only [Act.put, List.setIfInBounds_toArray, List.set_cons_zero, List.set_cons_succ, i64_w, i32_w]
                                      rfl
                                    refine pure_ (i := 5) (N := some 55) (v := ?_) (a' := ?_) #[true, true, true, true, true, true, false, false, false, false, false, false] rfl rfl (any_of HT_.out (by kernel_rfl)) (fun _ _ _ h => h) (Or.inl ⟨by rfl, ?_⟩) ?_ ?_
                                    rotate_left
                                    · intro w'
                                      go_simp
                                      with_reducible rfl
                                    rotate_left
                                    · simp only [Act.put, List.setIfInBounds_toArray, List.set_cons_zero, List.set_cons_succ, i64_w, i32_w]
                                      rfl
                                    refine take_ (i := 6) (N := some 56) (v := ?_) (a' := ?_) #[true, true, true, true, true, true, true, false, false, false, false, false] rfl rfl (take_ofW HT_.out HW_.out (by kernel_rfl)) (fun _ _ _ h => h) (Or.inl ⟨by rfl, ?_⟩) hHeld ?_ ?_
                                    rotate_left
                                    · rintro w' ⟨s0, s1, s2, s3, s4, s5⟩
                                      go_simp
                                      with_reducible rfl
                                    rotate_left
                                    · simp only [Act.put, List.setIfInBounds_toArray, List.set_cons_zero, List.set_cons_succ, i64_w, i32_w]
                                      rfl
                                    refine take_ (i := 7) (N := some 57) (v := ?_) (a' := ?_) #[true, true, true, true, true, true, true, true, false, false, false, false] rfl rfl (take_ofW HT_.out HW_.out (by kernel_rfl)) (fun _ _ _ h => h) (Or.inl ⟨by rfl, ?_⟩) hHeld ?_ ?_
                                    rotate_left
                                    · rintro w' ⟨s0, s1, s2, s3, s4, s5⟩
                                      go_simp
                                      with_reducible rfl
                                    rotate_left
                                    · simp only [Act.put, List.setIfInBounds_toArray, List.set_cons_zero, List.set_cons_succ, i64_w, i32_w]
                                      rfl
                                    refine one_ (i := 8) (N := some 58) #[true, true, true, true, true, true, true, true, true, false, false, false] rfl rfl (one_of HT_.out (by kernel_rfl)) (by decide) (fun K hK => ?_)
                                    refine goes_ Try.func38 (by kernel_rfl) rfl #[.agg #[.string ((rd_TSchema l0 t127).f0), .int .i64 ((rd_TSchema l0 t127).f1), .slice A130_2 ((rd_TSchema l0 t127).f2).length c130_2], .agg #[.string a1_0, .int .i64 a1_1, .slice A1_2 l1_2.length c1_2]] (by rfl) rfl rfl (by (try simp only [List.map_toArray, List.map_cons, List.map_nil]); first | done | rfl | (simp only [List.length_drop, List.length_take]; rfl)) ?_
                                    with_reducible refine (schema_Fits.calls kj23 ((rd_TSchema l0 t127).f0) ((rd_TSchema l0 t127).f1) _ _ ((rd_TSchema l0 t127).f2) a1_0 a1_1 _ _ l1_2 false _ ?side1 ?side2 ?side3 ?side4 A36.out).mono ?_
                                    (case side1 => repeat (first | exact (Kd.C_below HR130_2.out HB.out) | (with_reducible refine Kd.C_alloc ?_ _) | (with_reducible refine Kd.C_drewN ?_ _) | (with_reducible refine Kd.C_drew ?_)))
                                    (case side2 => exact HC130_2.out)
                                    (case side3 => repeat (first | exact (Kd.C_below HR1_2.out HB.out) | (with_reducible refine Kd.C_alloc ?_ _) | (with_reducible refine Kd.C_drewN ?_ _) | (with_reducible refine Kd.C_drew ?_)))
                                    (case side4 => exact HC1_2.out)
                                    rintro e w41 ⟨rfl, hb⟩
                                    refine ⟨_, rfl, ?_⟩
                                    have n0_ := Aside0.mk (blk_below (g := gb124) (o := .cells #[.string a1_0, .int .i64 a1_1, .slice A1_2 l1_2.length c1_2] 25 (0, 0)) (by (with_reducible repeat (first | refine blk_drewN ?_ _ | refine blk_drew ?_ | refine blk_alloc ?_ _)); exact BK124.out) hb)
                                    have n1_ := Aside0.mk (below_step (by repeat (first | (with_reducible first | exact HB.out | apply below_alloc | apply pw_below_drewN | apply below_drew1 | refine below_set ?_ GE124.out) | exact HB.out)) hb)
                                    clear BK124
                                    clear HB
                                    have BK124 := n0_
                                    have HB := n1_
                                    clear n0_ n1_
                                    (try clear hb)
                                    (try clear hb2)
                                    (try clear hk)
                                    (try clear hi)
                                    refine hK.out _ _ ⟨(blk_cell BK124.out 0).trans rfl, (blk_cell BK124.out 1).trans rfl, (blk_cell BK124.out 2).trans rfl, ((HB.out.cell (World.block_lt_of_cell? w _ hw130_0)).trans hw130_0), ((HB.out.cell (World.block_lt_of_cell? w _ hw130_1)).trans hw130_1), ((HB.out.cell (World.block_lt_of_cell? w _ hw130_2)).trans hw130_2)⟩ (fun hHeld => ?_)
                                    clear hK K
                                    refine norm_ (a' := ?_) ?_ ?_
                                    rotate_left
                                    · show Act.put _ (some 58) _ = _
                                      simp only [Act.put, List.setIfInBounds_toArray, List.set_cons_zero, List.set_cons_succ, i64_w, i32_w]
                                      rfl
                                    refine pure_ (i := 9) (N := some 59) (v := ?_) (a' := ?_) #[true, true, true, true, true, true, true, true, true, true, false, false] rfl rfl (any_of HT_.out (by kernel_rfl)) (fun _ _ _ h => h) (Or.inl ⟨by rfl, ?_⟩) ?_ ?_
                                    rotate_left
                                    · intro w'
                                      go_simp
                                      with_reducible rfl
                                    rotate_left
                                    · simp only [Act.put, List.setIfInBounds_toArray, List.set_cons_zero, List.set_cons_succ, i64_w, i32_w]
                                      rfl
                                    refine pure_ (i := 10) (N := some 60) (v := ?_) (a' := ?_) #[true, true, true, true, true, true, true, true, true, true, true, false] rfl rfl (any_of HT_.out (by kernel_rfl)) (fun _ _ _ h => h) (Or.inl ⟨by rfl, ?_⟩) ?_ ?_
                                    rotate_left
                                    · intro w'
                                      go_simp
                                      with_reducible rfl
                                    rotate_left
                                    · simp only [Act.put, List.setIfInBounds_toArray, List.set_cons_zero, List.set_cons_succ, i64_w, i32_w]
                                      rfl
                                    refine pure_ (i := 11) (N := some 49) (v := ?_) (a' := ?_) #[true, true, true, true, true, true, true, true, true, true, true, true] rfl rfl (any_of HT_.out (by kernel_rfl)) (fun _ _ _ h => h) (Or.inl ⟨by rfl, ?_⟩) ?_ ?_
                                    rotate_left
                                    · intro w'
                                      go_simp
                                      with_reducible rfl
                                    rotate_left
                                    · simp only [Act.put, List.setIfInBounds_toArray, List.set_cons_zero, List.set_cons_succ, i64_w, i32_w]
                                      rfl
                                    refine done_ (done_of HT_.out (by kernel_rfl)) ?_
                                    try go_wp2
                                    go_ret2
                                    exact ⟨_, by first | rfl | (simp [errW_none, errW_some] <;> rfl) | (simp [*, errW_none, errW_some] <;> rfl), by first | exact Kd.S_nil _ _ _ _ _ | exact Kd.N_nil _ _ _ _ _ | exact Kd.V_nil _ _ _ _ _ | exact Kd.Q_nil _ _ _ _ _ | exact Kd.R_nil _ _ _ _ _, by repeat (first | (with_reducible first | exact HB.out | apply below_alloc | apply pw_below_drewN | apply below_drew1 | refine below_set ?_ GE124.out) | exact HB.out)⟩
                                · rw [if_neg c35] at H
                                  exact absurd H (by simp)
                              · rw [if_neg c34] at H
                                exact absurd H (by simp)
                            · rw [if_neg c33] at H
                              have c33b0 : decide (0 ≤ t127) = false := decide_eq_false c33
                              clear c33
                              have H' := Aside0.mk H
                              clear H
                              try go_wp2
                              have n0_ := Aside0.mk (blk_drew BK124.out)
                              have n1_ := Aside0.mk (below_drew1 HB.out)
                              clear BK124
                              clear HB
                              have BK124 := n0_
                              have HB := n1_
                              clear n0_ n1_
                              refine start_ (n := 12) (S := fun w' => True) (ds := []) #[false, false, false, false, false, false, false, false, false, false, false, false] (by kernel_rfl) rfl rfl trivial (fun hHeld => ?_); refine with_tabW registry_Add.tab10 registry_Add.bits10 (fun HT_ HW_ => ?_)
                              generalize wc.drew = w42 at BK124 HB hHeld ⊢
                              refine pure_ (i := 0) (N := some 50) (v := ?_) (a' := ?_) #[true, false, false, false, false, false, false, false, false, false, false, false] rfl rfl (any_of HT_.out (by kernel_rfl)) (fun _ _ _ h => h) (Or.inl ⟨by rfl, ?_⟩) ?_ ?_
                              rotate_left
                              · intro w'
                                go_simp
                                with_reducible rfl
                              rotate_left
                              · simp only [Act.put, List.setIfInBounds_toArray, List.set_cons_zero, List.set_cons_succ, i64_w, i32_w]
                                rfl
                              refine pure_ (i := 1) (N := some 51) (v := ?_) (a' := ?_) #[true, true, false, false, false, false, false, false, false, false, false, false] rfl rfl (any_of HT_.out (by kernel_rfl)) (fun _ _ _ h => h) (Or.inl ⟨by rfl, ?_⟩) ?_ ?_
                              rotate_left
                              · intro w'
                                go_simp
                                with_reducible rfl
                              rotate_left
                              · simp only [Act.put, List.setIfInBounds_toArray, List.set_cons_zero, List.set_cons_succ, i64_w, i32_w]
                                rfl
                              refine pure_ (i := 2) (N := some 52) (v := ?_) (a' := ?_) #[true, true, true, false, false, false, false, false, false, false, false, false] rfl rfl (any_of HT_.out (by kernel_rfl)) (fun _ _ _ h => h) (Or.inl ⟨by rfl, ?_⟩) ?_ ?_
                              rotate_left
                              · intro w'
                                go_simp
                                with_reducible rfl
                              rotate_left
                              · simp only [Act.put, List.setIfInBounds_toArray, List.set_cons_zero, List.set_cons_succ, i64_w, i32_w]
                                rfl
                              refine pure_ (i := 3) (N := some 53) (v := undef) (a' := ?_) #[true, true, true, true, false, false, false, false, false, false, false, false] rfl rfl (any_of HT_.out (by kernel_rfl)) (fun _ _ _ h => h) (Or.inr ⟨by rfl, rfl⟩) ?_ ?_
                              rotate_left
                              · simp only [Act.put, List.setIfInBounds_toArray, List.set_cons_zero, List.set_cons_succ, i64_w, i32_w]
                                rfl
                              refine pure_ (i := 4) (N := some 54) (v := undef) (a' := ?_) #[true, true, true, true, true, false, false, false, false, false, false, false] rfl rfl (any_of HT_.out (by kernel_rfl)) (fun _ _ _ h => h) (Or.inr ⟨by rfl, rfl⟩) ?_ ?_
                              rotate_left
                              · simp only [Act.put, List.setIfInBounds_toArray, List.set_cons_zero, List.set_cons_succ, i64_w, i32_w]
                                rfl
                              refine pure_ (i := 5) (N := some 55) (v := undef) (a' := ?_) #[true, true, true, true, true, true, false, false, false, false, false, false] rfl rfl (any_of HT_.out (by kernel_rfl)) (fun _ _ _ h => h) (Or.inr ⟨by rfl, rfl⟩) ?_ ?_
                              rotate_left
                              · simp only [Act.put, List.setIfInBounds_toArray, List.set_cons_zero, List.set_cons_succ, i64_w, i32_w]
                                rfl
                              refine pure_ (i := 6) (N := some 56) (v := undef) (a' := ?_) #[true, true, true, true, true, true, true, false, false, false, false, false] rfl rfl (any_of HT_.out (by kernel_rfl)) (fun _ _ _ h => h) (Or.inr ⟨by rfl, rfl⟩) ?_ ?_
                              rotate_left
                              · simp only [Act.put, List.setIfInBounds_toArray, List.set_cons_zero, List.set_cons_succ, i64_w, i32_w]
                                rfl
                              refine pure_ (i := 7) (N := some 57) (v := undef) (a' := ?_) #[true, true, true, true, true, true, true, true, false, false, false, false] rfl rfl (any_of HT_.out (by kernel_rfl)) (fun _ _ _ h => h) (Or.inr ⟨by rfl, rfl⟩) ?_ ?_
                              rotate_left
                              · simp only [Act.put, List.setIfInBounds_toArray, List.set_cons_zero, List.set_cons_succ, i64_w, i32_w]
                                rfl
                              refine pure_ (i := 8) (N := some 58) (v := undef) (a' := ?_) #[true, true, true, true, true, true, true, true, true, false, false, false] rfl rfl (any_of HT_.out (by kernel_rfl)) (fun _ _ _ h => h) (Or.inr ⟨by rfl, rfl⟩) ?_ ?_
                              rotate_left
                              · simp only [Act.put, List.setIfInBounds_toArray, List.set_cons_zero, List.set_cons_succ, i64_w, i32_w]
                                rfl
                              refine pure_ (i := 9) (N := some 59) (v := undef) (a' := ?_) #[true, true, true, true, true, true, true, true, true, true, false, false] rfl rfl (any_of HT_.out (by kernel_rfl)) (fun _ _ _ h => h) (Or.inr ⟨by rfl, rfl⟩) ?_ ?_
                              rotate_left
                              · simp only [Act.put, List.setIfInBounds_toArray, List.set_cons_zero, List.set_cons_succ, i64_w, i32_w]
                                rfl
                              refine pure_ (i := 10) (N := some 60) (v := ?_) (a' := ?_) #[true, true, true, true, true, true, true, true, true, true, true, false] rfl rfl (any_of HT_.out (by kernel_rfl)) (fun _ _ _ h => h) (Or.inl ⟨by rfl, ?_⟩) ?_ ?_
                              rotate_left
                              · intro w'
                                go_simp
                                with_reducible rfl
                              rotate_left
                              · simp only [Act.put, List.setIfInBounds_toArray, List.set_cons_zero, List.set_cons_succ, i64_w, i32_w]
                                rfl
                              refine pure_ (i := 11) (N := some 49) (v := ?_) (a' := ?_) #[true, true, true, true, true, true, true, true, true, true, true, true] rfl rfl (any_of HT_.out (by kernel_rfl)) (fun _ _ _ h => h) (Or.inl ⟨by rfl, ?_⟩) ?_ ?_
                              rotate_left
                              · intro w'
                                go_simp
                                with_reducible rfl
                              rotate_left
                              · simp only [Act.put, List.setIfInBounds_toArray, List.set_cons_zero, List.set_cons_succ, i64_w, i32_w]
                                rfl
                              refine done_ (done_of HT_.out (by kernel_rfl)) ?_
                              try go_wp2
                              go_meet
                              case rel => exact ⟨_, H', ⟨by have := HJ2.out; have := HJ16.out; have := HJ20.out; have := HJ23.out; first | omega | exact Nat.le_refl _⟩, ⟨by (with_reducible repeat (first | refine blk_drewN ?_ _ | refine blk_drew ?_ | refine blk_alloc ?_ _)); exact BK124.out⟩, ⟨by repeat (first | (with_reducible first | exact HB.out | apply below_alloc | apply pw_below_drewN | apply below_drew1 | refine below_set ?_ GE124.out) | exact HB.out)⟩⟩
        case rest =>
          clear HC14
          try clear c1
          try clear p1
          try clear q1
          try clear hx1
          try clear c2
          try clear p2
          try clear c3
          try clear c6
          try clear c12
          try clear p12
          try clear q12
          try clear hx12
          try clear c13
          try clear p13
          try clear q13
          try clear hx13
          try clear c18
          try clear c18b0
          try clear c20
          try clear c22
          try clear c22b0
          try clear c23
          try clear c25
          try clear c25b0
          try clear c26
          try clear c26b0
          try clear c27
          try clear c27b0
          try clear c32
          try clear c33
          try clear c33b0
          try clear c34
          try clear c34b0
          try clear c35
          try clear c35b0
          try clear c37
          try clear c38
          try clear hcz15_0
          try clear hcz15_1
          try clear hcz15_2
          try clear hcz19_0
          try clear hcz19_1
          try clear hcz19_2
          try clear hcz9_0
          try clear hcz9_1
          try clear hcz9_2
          try clear hfz15_0
          try clear hfz15_1
          try clear hfz15_2
          try clear hfz19_0
          try clear hfz19_1
          try clear hfz19_2
          try clear hfz9_0
          try clear hfz9_1
          try clear hfz9_2
          try clear hx128_0
          try clear hx128_1
          try clear hx128_2
          try clear hx130_0
          try clear hx130_1
          try clear hx130_2
          try clear p1
          try clear p12
          try clear p128
          try clear p130
          try clear p2
          try clear q1
          try clear q12
          try clear q128
          try clear q130
          obtain ⟨kq, HA, HJ13, BK124, HB⟩ := hcut
          cases kq with
          | zero => exact absurd HA.out (by simp [registry_Add.j4])
          | succ kj13 =>
            have H := HA.out
            clear HA
            simp only [registry_Add.j4] at H
            have H' := Aside0.mk H
            clear H
            go_wp2
            go_loopg [7, 63] kj13 (fun kq v7 v63 w' => ∃ (x7_3 : List (SSchema)) (x63_3 : Int), v63 = .int .i64 x63_3 ∧ Aside0 (registry_Add.l0 kq t127 x7_3 l0 (l0.length : Int) x63_3 a1_0 a1_1 l1_2 = some (r1, r2)) ∧ Aside0 (kq ≤ kj13) ∧ Aside0 (Kd.S kSchema 25 w' w.heap.size (fun k_ => k_ ≠ gb124) v7 x7_3) ∧ Aside0 (w'.heap[gb124]? = some (.cells #[.string a1_0, .int .i64 a1_1, (.slice A1_2 l1_2.length c1_2)] 25 (0, 0))) ∧ Aside0 (Below w.heap.size w w'))
            case atStart => exact ⟨(([] : List (SSchema))), (0), (by first | rfl | (simp; done) | (simp [*]; done)), H', ⟨Nat.le_refl _⟩, ⟨by first | exact Kd.S_nil _ _ _ _ _ | exact Kd.N_nil _ _ _ _ _ | exact Kd.V_nil _ _ _ _ _ | exact Kd.Q_nil _ _ _ _ _ | exact Kd.R_nil _ _ _ _ _⟩, ⟨by (with_reducible repeat (first | refine blk_drewN ?_ _ | refine blk_drew ?_ | refine blk_alloc ?_ _)); exact BK124.out⟩, ⟨by repeat (first | (with_reducible first | exact HB.out | apply below_alloc | apply pw_below_drewN | apply below_drew1 | refine below_set ?_ GE124.out) | exact HB.out)⟩⟩
            case round =>
              clear H'
              try clear c1
              try clear p1
              try clear q1
              try clear hx1
              try clear c2
              try clear p2
              try clear c3
              try clear c6
              try clear c12
              try clear p12
              try clear q12
              try clear hx12
              try clear c13
              try clear p13
              try clear q13
              try clear hx13
              try clear c18
              try clear c18b0
              try clear c20
              try clear c22
              try clear c22b0
              try clear c23
              try clear c25
              try clear c25b0
              try clear c26
              try clear c26b0
              try clear c27
              try clear c27b0
              try clear c32
              try clear c33
              try clear c33b0
              try clear c34
              try clear c34b0
              try clear c35
              try clear c35b0
              try clear c37
              try clear c38
              try clear hcz15_0
              try clear hcz15_1
              try clear hcz15_2
              try clear hcz19_0
              try clear hcz19_1
              try clear hcz19_2
              try clear hcz9_0
              try clear hcz9_1
              try clear hcz9_2
              try clear hfz15_0
              try clear hfz15_1
              try clear hfz15_2
              try clear hfz19_0
              try clear hfz19_1
              try clear hfz19_2
              try clear hfz9_0
              try clear hfz9_1
              try clear hfz9_2
              try clear hx128_0
              try clear hx128_1
              try clear hx128_2
              try clear hx130_0
              try clear hx130_1
              try clear hx130_2
              try clear p1
              try clear p12
              try clear p128
              try clear p13
              try clear p130
              try clear p2
              try clear q1
              try clear q12
              try clear q128
              try clear q13
              try clear q130
              obtain ⟨x7_3, x63_3, rfl, HA, HK3, HO_7, BK124, HB⟩ := hrel
              cases gk with
              | zero => exact absurd HA.out (by simp [registry_Add.l0])
              | succ k3 =>
                have H := HA.out
                clear HA
                simp only [registry_Add.l0] at H
                by_cases c43 : x63_3 < (l0.length : Int)
                · rw [if_pos c43] at H
                  have c43b0 : decide (x63_3 < (l0.length : Int)) = true := decide_eq_true c43
                  clear c43
                  by_cases c44 : 0 ≤ x63_3
                  · rw [if_pos c44] at H
                    have c44b0 : decide (0 ≤ x63_3) = true := decide_eq_true c44
                    clear c44
                    by_cases c45 : x63_3 < (l0.length : Int)
                    · rw [if_pos c45] at H
                      have c45b0 : decide (x63_3 < (l0.length : Int)) = true := decide_eq_true c45
                      clear c45
                      replace H := Option.bind_eq_some_iff.mp H
                      obtain ⟨⟨t134, t135, t136⟩, A460, H⟩ := H
                      replace H : (if x7_3.length < 2932031007402 then (registry_Add.l0 k3 t127 (x7_3 ++ [(⟨t134, t135, t136⟩ : SSchema)]) l0 (l0.length : Int) (wrap64 (x63_3 + 1)) a1_0 a1_1 l1_2) else (none)) = some (r1, r2) := H
                      have A46 := Aside0.mk A460
                      clear A460
                      by_cases c47 : x7_3.length < 2932031007402
                      · rw [if_pos c47] at H
                        have LMc47 := Aside0.mk c47
                        clear c47
                        obtain ⟨y139, hy139⟩ : ∃ y_ : List (SSchema), y_ = (x7_3 ++ [(⟨t134, t135, t136⟩ : SSchema)]) := ⟨_, rfl⟩
                        replace H : (registry_Add.l0 k3 t127 y139 l0 (l0.length : Int) (wrap64 (x63_3 + 1)) a1_0 a1_1 l1_2) = some (r1, r2) := by first | (rw [hy139]; with_reducible exact H) | (have H2_ := (Option.bind_some _ _).symm.trans H; rw [hy139]; with_reducible exact H2_) | (have H2_ := (Option.bind_some _ _).symm.trans H; with_reducible exact H2_) | with_reducible exact H | (rw [hy139]; exact H) | exact H
                        have Ny139 := Aside0.mk hy139
                        clear hy139
                        have H' := Aside0.mk H
                        clear H
                        have p132 : 0 ≤ (x63_3 : Int) := of_decide_eq_true (by first | (with_reducible assumption) | assumption)
                        have q132 : x63_3 < (l0.length : Int) := of_decide_eq_true (by first | (with_reducible assumption) | assumption)
                        obtain ⟨ad132, A132_2, c132_2, e132, hx132_0, hx132_1, hx132_2, hl132_2, hi132_2⟩ := at_TSchema HR0.out x63_3 p132 q132
                        cases e132
                        replace hx132_0 := (HB.out.cell (World.block_lt_of_cell? w _ hx132_0)).trans hx132_0
                        replace hx132_1 := (HB.out.cell (World.block_lt_of_cell? w _ hx132_1)).trans hx132_1
                        replace hx132_2 := (HB.out.cell (World.block_lt_of_cell? w _ hx132_2)).trans hx132_2
                        have HR132_2 := Aside0.mk hi132_2
                        have HC132_2 := Aside0.mk hl132_2
                        clear hi132_2 hl132_2
                        replace p132 := eq_true p132
                        replace q132 := eq_true q132
                        go_wp2_with (first | ((with_reducible refine gate_dst (N := 9) rfl ?_); (try (refine gate_guard (by rfl) ?_; dsimp only)); refine box_event ?hg (N := 9) ?hd (cs := #[.string (⟨#[]⟩ : ByteArray), .int .i64 0, .slice none 0 0]) (t := 25) ?hr ?_; (case hd => rfl); (case hg => rfl); (case hr => first | (go_simp; done) | (go_simp; rfl)); intro gb133 hg w48 hbox hb; have n0_ := Aside0.mk (Kd.S_below (Kd.S_elderB (by (with_reducible repeat (first | apply Kd.S_alloc | apply Kd.S_drewN | apply Kd.S_drew)); exact HO_7.out) gb133 (Nat.le_of_eq hg.symm)) hb); have n1_ := Aside0.mk (blk_below (g := gb124) (o := .cells #[.string a1_0, .int .i64 a1_1, .slice A1_2 l1_2.length c1_2] 25 (0, 0)) (by (with_reducible repeat (first | refine blk_drewN ?_ _ | refine blk_drew ?_ | refine blk_alloc ?_ _)); exact BK124.out) hb); have n2_ := Aside0.mk (below_step (by repeat (first | (with_reducible first | exact HB.out | apply below_alloc | apply pw_below_drewN | apply below_drew1 | refine below_set ?_ GE124.out) | exact HB.out)) hb); have n3_ := Aside0.mk (hbox); have n4_ := Aside0.mk ((by rw [hg]; exact (below_size (by repeat (first | (with_reducible first | exact HB.out | apply below_alloc | apply pw_below_drewN | apply below_drew1 | refine below_set ?_ GE124.out) | exact HB.out))) : w.heap.size ≤ gb133)); have n5_ := Aside0.mk ((by rw [hg]; exact (below_size (by repeat (first | (with_reducible first | exact HB.out | apply below_alloc | apply pw_below_drewN | apply below_drew1 | refine below_set ?_ GE124.out) | exact HB.out))) : w.heap.size ≤ gb133)); have n6_ := Aside0.mk ((by rw [hg]; exact Nat.ne_of_lt (blk_lt (g := gb124) (o := .cells #[.string a1_0, .int .i64 a1_1, .slice A1_2 l1_2.length c1_2] 25 (0, 0)) (by (with_reducible repeat (first | refine blk_drewN ?_ _ | refine blk_drew ?_ | refine blk_alloc ?_ _)); exact BK124.out)) : gb124 ≠ gb133)); have n7_ := Aside0.mk ((by rw [hg]; exact Nat.ne_of_gt (blk_lt (g := gb124) (o := .cells #[.string a1_0, .int .i64 a1_1, .slice A1_2 l1_2.length c1_2] 25 (0, 0)) (by (with_reducible repeat (first | refine blk_drewN ?_ _ | refine blk_drew ?_ | refine blk_alloc ?_ _)); exact BK124.out)) : gb133 ≠ gb124)); clear HO_7; clear BK124; clear HB; have HO_7 := n0_; have BK124 := n1_; have HB := n2_; have BK133 := n3_; have GW133 := n4_; have GE133 := n5_; have NB124_133 := n6_; have NB133_124 := n7_; clear n0_ n1_ n2_ n3_ n4_ n5_ n6_ n7_; clear hb hbox hg; have hnb49 := NB133_124.out; have hnc49 := NB124_133.out; have hcz50_0 : w48.cell? ⟨gb133, 0, none⟩ = some (.string (⟨#[]⟩ : ByteArray)) := (blk_cell BK133.out 0).trans rfl; have hcz50_1 : w48.cell? ⟨gb133, 1, none⟩ = some (.int .i64 0) := (blk_cell BK133.out 1).trans rfl; have hcz50_2 : w48.cell? ⟨gb133, 2, none⟩ = some (.slice none 0 0) := (blk_cell BK133.out 2).trans rfl; have hfz50_0 := blk_frozen BK133.out 0; have hfz50_1 := blk_frozen BK133.out 1; have hfz50_2 := blk_frozen BK133.out 2) | ((with_reducible refine gate_callee (f := 40) rfl ?_); refine goesL_ (some 69) rfl rfl Try.func40 (by kernel_rfl) rfl #[.agg #[.string ((rd_TSchema l0 x63_3).f0), .int .i64 ((rd_TSchema l0 x63_3).f1), .slice A132_2 ((rd_TSchema l0 x63_3).f2).length c132_2]] rfl (by (try simp only [List.map_toArray, List.map_cons, List.map_nil]); first | done | rfl | (simp only [List.length_drop, List.length_take]; rfl)) ?_; (with_reducible refine (registry_own.calls ((rd_TSchema l0 x63_3).f0) ((rd_TSchema l0 x63_3).f1) _ _ ((rd_TSchema l0 x63_3).f2) t134 t135 t136 _ ?side1 ?side2 A46.out).mono ?_); (case side1 => exact Kd.C_below HR132_2.out (by repeat (first | (with_reducible first | exact HB.out | apply below_alloc | apply pw_below_drewN | apply below_drew1 | refine below_set ?_ GE124.out | refine below_set ?_ GE133.out) | exact HB.out))); (case side2 => exact HC132_2.out); rintro e w51 ⟨v137, rfl, ho0, hb⟩; refine ⟨_, rfl, ?_⟩; have n0_ := Aside0.mk (Kd.S_elder' (by (with_reducible repeat (first | apply Kd.S_alloc | apply Kd.S_drewN | apply Kd.S_drew)); exact (Kd.S_mono (Kd.S_far (p := ⟨gb133, 2, none⟩) (Kd.S_far (p := ⟨gb133, 1, none⟩) (Kd.S_far (p := ⟨gb133, 0, none⟩) (Kd.S_mono HO_7.out (fun k_ hk => (⟨hk, hk.2⟩ : _ ∧ k_ ≠ gb133))) (fun _ hk => hk.2) (.string ((rd_TSchema l0 x63_3).f0))) (fun _ hk => hk.2) (.int .i64 ((rd_TSchema l0 x63_3).f1))) (fun _ hk => hk.2) (.slice A132_2 ((rd_TSchema l0 x63_3).f2).length c132_2)) (fun _ h_ => h_.1))) (Kd.R_base ho0) hb); have n1_ := Aside0.mk (Kd.R_lower ho0 (below_size (by repeat (first | (with_reducible first | exact HB.out | apply below_alloc | apply pw_below_drewN | apply below_drew1 | refine below_set ?_ GE124.out | refine below_set ?_ GE133.out) | exact HB.out)))); have n2_ := Aside0.mk (blk_below (g := gb124) (o := .cells #[.string a1_0, .int .i64 a1_1, .slice A1_2 l1_2.length c1_2] 25 (0, 0)) (by (with_reducible repeat (first | refine blk_drewN ?_ _ | refine blk_drew ?_ | refine blk_alloc ?_ _)); refine blk_far ?_ NB124_133.out _; (with_reducible repeat (first | refine blk_drewN ?_ _ | refine blk_drew ?_ | refine blk_alloc ?_ _)); refine blk_far ?_ NB124_133.out _; (with_reducible repeat (first | refine blk_drewN ?_ _ | refine blk_drew ?_ | refine blk_alloc ?_ _)); refine blk_far ?_ NB124_133.out _; (with_reducible repeat (first | refine blk_drewN ?_ _ | refine blk_drew ?_ | refine blk_alloc ?_ _)); exact BK124.out) hb); have n3_ := Aside0.mk (blk_below (g := gb133) (o := .cells #[.string ((rd_TSchema l0 x63_3).f0), .int .i64 ((rd_TSchema l0 x63_3).f1), .slice A132_2 ((rd_TSchema l0 x63_3).f2).length c132_2] 25 (0, 0)) (by (with_reducible repeat (first | refine blk_drewN ?_ _ | refine blk_drew ?_ | refine blk_alloc ?_ _)); refine blk_put (cs := #[.string ((rd_TSchema l0 x63_3).f0), .int .i64 ((rd_TSchema l0 x63_3).f1), .slice none 0 0]) ?_ 2 _ rfl; (with_reducible repeat (first | refine blk_drewN ?_ _ | refine blk_drew ?_ | refine blk_alloc ?_ _)); refine blk_put (cs := #[.string ((rd_TSchema l0 x63_3).f0), .int .i64 0, .slice none 0 0]) ?_ 1 _ rfl; (with_reducible repeat (first | refine blk_drewN ?_ _ | refine blk_drew ?_ | refine blk_alloc ?_ _)); refine blk_put (cs := #[.string (⟨#[]⟩ : ByteArray), .int .i64 0, .slice none 0 0]) ?_ 0 _ rfl; (with_reducible repeat (first | refine blk_drewN ?_ _ | refine blk_drew ?_ | refine blk_alloc ?_ _)); exact BK133.out) hb); have n4_ := Aside0.mk (below_step (by repeat (first | (with_reducible first | exact HB.out | apply below_alloc | apply pw_below_drewN | apply below_drew1 | refine below_set ?_ GE124.out | refine below_set ?_ GE133.out) | exact HB.out)) hb); clear HO_7; clear BK124; clear BK133; clear HB; have HO_7 := n0_; have HO138 := n1_; have BK124 := n2_; have BK133 := n3_; have HB := n4_; clear n0_ n1_ n2_ n3_ n4_; (try clear hb); (try clear hb2); (try clear hk); (try clear hi); (try clear ho0); obtain ⟨Ao53, co53, eo53⟩ := Kd.R_slice HO138.out; subst eo53) | ((with_reducible refine gate_builtin (b := .append) (xs := #[.tmp 67, .tmp 70]) rfl ?_); (try (refine gate_guard (by rfl) ?_; dsimp only)); at_builtin; refine Kd.S_append kSchema (w0 := w) w.heap.size rfl (.tmp 67) (.tmp 70) 22 25 (.agg #[(.string ⟨#[]⟩), (.int .i64 0), (.slice none 0 0)]) 48 rfl Try.underlying22 infoSchema rfl (by decide) (by omega) u7 x7_3 (⟨t134, t135, t136⟩ : SSchema) [.string t134, .int .i64 t135, .slice Ao53 t136.length co53] (fun k_ => k_ ≠ gb124 ∧ k_ ≠ gb133) (fun k_ => some k_ = (.slice Ao53 t136.length co53 : Value).ownBlock) rfl rfl ?aP (fun k_ hk_ => ((Kd.R_mono (ok' := fun k_ => ((fun k_ => k_ ≠ gb124 ∧ k_ ≠ gb133)) k_ ∧ some k_ ≠ (u7 : Value).ownBlock) (Kd.R_types (Kd.R_types (Kd.R_apart' (HO138.out) (Kd.S_typed HO_7.out) (by decide)) BK124.out (by decide)) BK133.out (by decide)) (fun k_ hk => ⟨⟨hk.1.2, hk.2⟩, hk.1.1.2⟩))).1 k_ hk_.symm) ?aF ?aO ?aB ?aS ?aL ?_; (case aP => exact kSchema_mkM _ _ _ (⟨t134, t135, t136⟩ : SSchema) (Kd.R_mono (Kd.R_tight rfl (Kd.R_mono (ok' := fun k_ => ((fun k_ => k_ ≠ gb124 ∧ k_ ≠ gb133)) k_ ∧ some k_ ≠ (u7 : Value).ownBlock) (Kd.R_types (Kd.R_types (Kd.R_apart' (HO138.out) (Kd.S_typed HO_7.out) (by decide)) BK124.out (by decide)) BK133.out (by decide)) (fun k_ hk => ⟨⟨hk.1.2, hk.2⟩, hk.1.1.2⟩))) (fun _ h_ => h_))); (case aB => exact (by repeat (first | (with_reducible first | exact HB.out | apply below_alloc | apply pw_below_drewN | apply below_drew1 | refine below_set ?_ GE124.out | refine below_set ?_ GE133.out) | exact HB.out))); (case aF => exact (fun k_ hk => ⟨Kd.freshB (g := gb124) (o := .cells #[.string a1_0, .int .i64 a1_1, .slice A1_2 l1_2.length c1_2] 25 (0, 0)) (by (with_reducible repeat (first | refine blk_drewN ?_ _ | refine blk_drew ?_ | refine blk_alloc ?_ _)); exact BK124.out) k_ hk, Kd.freshB (g := gb133) (o := .cells #[.string ((rd_TSchema l0 x63_3).f0), .int .i64 ((rd_TSchema l0 x63_3).f1), .slice A132_2 ((rd_TSchema l0 x63_3).f2).length c132_2] 25 (0, 0)) (by (with_reducible repeat (first | refine blk_drewN ?_ _ | refine blk_drew ?_ | refine blk_alloc ?_ _)); exact BK133.out) k_ hk⟩)); (case aO => exact (by (with_reducible repeat (first | apply Kd.S_alloc | apply Kd.S_drewN | apply Kd.S_drew)); exact Kd.S_mono HO_7.out (fun k_ hk => ⟨⟨hk.1.1, hk.1.2⟩, fun e_ => hk.2 e_⟩))); (case aS => exact (below_size (by repeat (first | (with_reducible first | exact HB.out | apply below_alloc | apply pw_below_drewN | apply below_drew1 | refine below_set ?_ GE124.out | refine below_set ?_ GE133.out) | exact HB.out)))); (case aL => have := LMc47.out; omega); intro v140 w52 ho hb hg hat; rw [← Ny139.out] at ho; have n0_ := Aside0.mk (blk_grown (g := gb124) (o := .cells #[.string a1_0, .int .i64 a1_1, .slice A1_2 l1_2.length c1_2] 25 (0, 0)) (by (with_reducible repeat (first | refine blk_drewN ?_ _ | refine blk_drew ?_ | refine blk_alloc ?_ _)); exact BK124.out) hg (Kd.S_away HO_7.out (fun _ hk => hk.1.1))); have n1_ := Aside0.mk (blk_grown (g := gb133) (o := .cells #[.string ((rd_TSchema l0 x63_3).f0), .int .i64 ((rd_TSchema l0 x63_3).f1), .slice A132_2 ((rd_TSchema l0 x63_3).f2).length c132_2] 25 (0, 0)) (by (with_reducible repeat (first | refine blk_drewN ?_ _ | refine blk_drew ?_ | refine blk_alloc ?_ _)); exact BK133.out) hg (Kd.S_away HO_7.out (fun _ hk => hk.1.2))); have n2_ := Aside0.mk (hb); have n3_ := Aside0.mk (ho); clear BK124; clear BK133; clear HB; clear HO_7; clear HO138; have BK124 := n0_; have BK133 := n1_; have HB := n2_; have HO141 := n3_; clear n0_ n1_ n2_ n3_; clear ho hb hg hat))
                        go_roundg k3
                        case measure => have := HJ2.out; have := HJ13.out; have := HK3.out; omega
                        case rel => exact ⟨(y139), (wrap64 (x63_3 + 1)), (by first | rfl | (simp; done) | (simp [*]; done)), H', ⟨by have := HJ2.out; have := HJ13.out; have := HK3.out; omega⟩, ⟨by (with_reducible repeat (first | apply Kd.S_alloc | apply Kd.S_drewN | apply Kd.S_drew)); exact Kd.S_mono HO141.out (fun _ hk => hk.1)⟩, ⟨by (with_reducible repeat (first | refine blk_drewN ?_ _ | refine blk_drew ?_ | refine blk_alloc ?_ _)); exact BK124.out⟩, ⟨by repeat (first | (with_reducible first | exact HB.out | apply below_alloc | apply pw_below_drewN | apply below_drew1 | refine below_set ?_ GE124.out | refine below_set ?_ GE133.out) | exact HB.out)⟩⟩
                      · rw [if_neg c47] at H
                        exact absurd H (by simp)
                    · rw [if_neg c45] at H
                      exact absurd H (by simp)
                  · rw [if_neg c44] at H
                    exact absurd H (by simp)
                · rw [if_neg c43] at H
                  have c43b0 : decide (x63_3 < (l0.length : Int)) = false := decide_eq_false c43
                  clear c43
                  by_cases c54 : t127 < 0
                  · rw [if_pos c54] at H
                    have c54b0 : decide (t127 < 0) = true := decide_eq_true c54
                    clear c54
                    replace H := Option.bind_eq_some_iff.mp H
                    obtain ⟨⟨t142, t143, t144⟩, A550, H⟩ := H
                    replace H : (if x7_3.length < 2932031007402 then (some ((x7_3 ++ [(⟨t142, t143, t144⟩ : SSchema)]), 0)) else (none)) = some (r1, r2) := H
                    have A55 := Aside0.mk A550
                    clear A550
                    by_cases c56 : x7_3.length < 2932031007402
                    · rw [if_pos c56] at H
                      have LMc56 := Aside0.mk c56
                      clear c56
                      obtain ⟨y147, hy147⟩ : ∃ y_ : List (SSchema), y_ = (x7_3 ++ [(⟨t142, t143, t144⟩ : SSchema)]) := ⟨_, rfl⟩
                      replace H : (some (y147, 0)) = some (r1, r2) := by first | (rw [hy147]; with_reducible exact H) | (have H2_ := (Option.bind_some _ _).symm.trans H; rw [hy147]; with_reducible exact H2_) | (have H2_ := (Option.bind_some _ _).symm.trans H; with_reducible exact H2_) | with_reducible exact H | (rw [hy147]; exact H) | exact H
                      have Ny147 := Aside0.mk hy147
                      clear hy147
                      simp only [Option.some.injEq, Prod.mk.injEq] at H
                      obtain ⟨rfl, rfl⟩ := H
                      have hcz57_0 : wr.cell? ⟨gb124, 0, none⟩ = some (.string a1_0) := (blk_cell BK124.out 0).trans rfl
                      have hcz57_1 : wr.cell? ⟨gb124, 1, none⟩ = some (.int .i64 a1_1) := (blk_cell BK124.out 1).trans rfl
                      have hcz57_2 : wr.cell? ⟨gb124, 2, none⟩ = some (.slice A1_2 l1_2.length c1_2) := (blk_cell BK124.out 2).trans rfl
                      have hfz57_0 := blk_frozen BK124.out 0
                      have hfz57_1 := blk_frozen BK124.out 1
                      have hfz57_2 := blk_frozen BK124.out 2
                      go_wp2_with (first | ((with_reducible refine gate_callee (f := 40) rfl ?_); refine goesL_ (some 77) rfl rfl Try.func40 (by kernel_rfl) rfl #[.agg #[.string a1_0, .int .i64 a1_1, .slice A1_2 l1_2.length c1_2]] rfl (by (try simp only [List.map_toArray, List.map_cons, List.map_nil]); first | done | rfl | (simp only [List.length_drop, List.length_take]; rfl)) ?_; (with_reducible refine (registry_own.calls a1_0 a1_1 _ _ l1_2 t142 t143 t144 _ ?side1 ?side2 A55.out).mono ?_); (case side1 => repeat (first | exact (Kd.C_below HR1_2.out HB.out) | (with_reducible refine Kd.C_alloc ?_ _) | (with_reducible refine Kd.C_drewN ?_ _) | (with_reducible refine Kd.C_drew ?_))); (case side2 => exact HC1_2.out); rintro e w58 ⟨v145, rfl, ho0, hb⟩; refine ⟨_, rfl, ?_⟩; have n0_ := Aside0.mk (Kd.S_elder' (by (with_reducible repeat (first | apply Kd.S_alloc | apply Kd.S_drewN | apply Kd.S_drew)); exact HO_7.out) (Kd.R_base ho0) hb); have n1_ := Aside0.mk (Kd.R_lower ho0 (below_size (by repeat (first | (with_reducible first | exact HB.out | apply below_alloc | apply pw_below_drewN | apply below_drew1 | refine below_set ?_ GE124.out) | exact HB.out)))); have n2_ := Aside0.mk (blk_below (g := gb124) (o := .cells #[.string a1_0, .int .i64 a1_1, .slice A1_2 l1_2.length c1_2] 25 (0, 0)) (by (with_reducible repeat (first | refine blk_drewN ?_ _ | refine blk_drew ?_ | refine blk_alloc ?_ _)); exact BK124.out) hb); have n3_ := Aside0.mk (below_step (by repeat (first | (with_reducible first | exact HB.out | apply below_alloc | apply pw_below_drewN | apply below_drew1 | refine below_set ?_ GE124.out) | exact HB.out)) hb); clear HO_7; clear BK124; clear HB; have HO_7 := n0_; have HO146 := n1_; have BK124 := n2_; have HB := n3_; clear n0_ n1_ n2_ n3_; (try clear hb); (try clear hb2); (try clear hk); (try clear hi); (try clear ho0); obtain ⟨Ao60, co60, eo60⟩ := Kd.R_slice HO146.out; subst eo60) | ((with_reducible refine gate_builtin (b := .append) (xs := #[.tmp 75, .tmp 78]) rfl ?_); (try (refine gate_guard (by rfl) ?_; dsimp only)); at_builtin; refine Kd.S_append kSchema (w0 := w) w.heap.size rfl (.tmp 75) (.tmp 78) 22 25 (.agg #[(.string ⟨#[]⟩), (.int .i64 0), (.slice none 0 0)]) 48 rfl Try.underlying22 infoSchema rfl (by decide) (by omega) u7 x7_3 (⟨t142, t143, t144⟩ : SSchema) [.string t142, .int .i64 t143, .slice Ao60 t144.length co60] (fun k_ => k_ ≠ gb124) (fun k_ => some k_ = (.slice Ao60 t144.length co60 : Value).ownBlock) rfl rfl ?aP (fun k_ hk_ => ((Kd.R_mono (ok' := fun k_ => ((fun k_ => k_ ≠ gb124)) k_ ∧ some k_ ≠ (u7 : Value).ownBlock) (Kd.R_types (Kd.R_apart' (HO146.out) (Kd.S_typed HO_7.out) (by decide)) BK124.out (by decide)) (fun k_ hk => ⟨hk.2, hk.1.2⟩))).1 k_ hk_.symm) ?aF ?aO ?aB ?aS ?aL ?_; (case aP => exact kSchema_mkM _ _ _ (⟨t142, t143, t144⟩ : SSchema) (Kd.R_mono (Kd.R_tight rfl (Kd.R_mono (ok' := fun k_ => ((fun k_ => k_ ≠ gb124)) k_ ∧ some k_ ≠ (u7 : Value).ownBlock) (Kd.R_types (Kd.R_apart' (HO146.out) (Kd.S_typed HO_7.out) (by decide)) BK124.out (by decide)) (fun k_ hk => ⟨hk.2, hk.1.2⟩))) (fun _ h_ => h_))); (case aB => exact (by repeat (first | (with_reducible first | exact HB.out | apply below_alloc | apply pw_below_drewN | apply below_drew1 | refine below_set ?_ GE124.out) | exact HB.out))); (case aF => exact (fun k_ hk => Kd.freshB (g := gb124) (o := .cells #[.string a1_0, .int .i64 a1_1, .slice A1_2 l1_2.length c1_2] 25 (0, 0)) (by (with_reducible repeat (first | refine blk_drewN ?_ _ | refine blk_drew ?_ | refine blk_alloc ?_ _)); exact BK124.out) k_ hk)); (case aO => exact (by (with_reducible repeat (first | apply Kd.S_alloc | apply Kd.S_drewN | apply Kd.S_drew)); exact Kd.S_mono HO_7.out (fun k_ hk => ⟨hk.1, fun e_ => hk.2 e_⟩))); (case aS => exact (below_size (by repeat (first | (with_reducible first | exact HB.out | apply below_alloc | apply pw_below_drewN | apply below_drew1 | refine below_set ?_ GE124.out) | exact HB.out)))); (case aL => have := LMc56.out; omega); intro v148 w59 ho hb hg hat; rw [← Ny147.out] at ho; have n0_ := Aside0.mk (blk_grown (g := gb124) (o := .cells #[.string a1_0, .int .i64 a1_1, .slice A1_2 l1_2.length c1_2] 25 (0, 0)) (by (with_reducible repeat (first | refine blk_drewN ?_ _ | refine blk_drew ?_ | refine blk_alloc ?_ _)); exact BK124.out) hg (Kd.S_away HO_7.out (fun _ hk => hk.1))); have n1_ := Aside0.mk (hb); have n2_ := Aside0.mk (ho); clear BK124; clear HB; clear HO_7; clear HO146; have BK124 := n0_; have HB := n1_; have HO149 := n2_; clear n0_ n1_ n2_; clear ho hb hg hat))
                      go_ret2
                      exact ⟨_, by first | rfl | (simp [errW_none, errW_some] <;> rfl) | (simp [*, errW_none, errW_some] <;> rfl), by (with_reducible repeat (first | apply Kd.S_alloc | apply Kd.S_drewN | apply Kd.S_drew)); exact Kd.S_mono HO149.out (fun _ hk => trivial), by repeat (first | (with_reducible first | exact HB.out | apply below_alloc | apply pw_below_drewN | apply below_drew1 | refine below_set ?_ GE124.out) | exact HB.out)⟩
                    · rw [if_neg c56] at H
                      exact absurd H (by simp)
                  · rw [if_neg c54] at H
                    have c54b0 : decide (t127 < 0) = false := decide_eq_false c54
                    clear c54
                    replace H := Option.bind_eq_some_iff.mp H
                    obtain ⟨⟨t150, t151, t152⟩, A610, H⟩ := H
                    replace H : (if 0 ≤ t127 then (if t127 < (x7_3.length : Int) then (some ((x7_3.set (t127 : Int).toNat (⟨t150, t151, t152⟩ : SSchema)), 0)) else (none)) else (none)) = some (r1, r2) := H
                    have A61 := Aside0.mk A610
                    clear A610
                    by_cases c62 : 0 ≤ t127
                    · rw [if_pos c62] at H
                      have c62b0 : decide (0 ≤ t127) = true := decide_eq_true c62
                      clear c62
                      by_cases c63 : t127 < (x7_3.length : Int)
                      · rw [if_pos c63] at H
                        have c63b0 : decide (t127 < (x7_3.length : Int)) = true := decide_eq_true c63
                        clear c63
                        obtain ⟨y155, hy155⟩ : ∃ y_ : List (SSchema), y_ = (x7_3.set (t127 : Int).toNat (⟨t150, t151, t152⟩ : SSchema)) := ⟨_, rfl⟩
                        replace H : (some (y155, 0)) = some (r1, r2) := by first | (rw [hy155]; with_reducible exact H) | (have H2_ := (Option.bind_some _ _).symm.trans H; rw [hy155]; with_reducible exact H2_) | (have H2_ := (Option.bind_some _ _).symm.trans H; with_reducible exact H2_) | with_reducible exact H | (rw [hy155]; exact H) | exact H
                        have Ny155 := Aside0.mk hy155
                        clear hy155
                        simp only [Option.some.injEq, Prod.mk.injEq] at H
                        obtain ⟨rfl, rfl⟩ := H
                        have hcz65_0 : wr.cell? ⟨gb124, 0, none⟩ = some (.string a1_0) := (blk_cell BK124.out 0).trans rfl
                        have hcz65_1 : wr.cell? ⟨gb124, 1, none⟩ = some (.int .i64 a1_1) := (blk_cell BK124.out 1).trans rfl
                        have hcz65_2 : wr.cell? ⟨gb124, 2, none⟩ = some (.slice A1_2 l1_2.length c1_2) := (blk_cell BK124.out 2).trans rfl
                        have hfz65_0 := blk_frozen BK124.out 0
                        have hfz65_1 := blk_frozen BK124.out 1
                        have hfz65_2 := blk_frozen BK124.out 2
                        go_wp2_with (first | ((with_reducible refine gate_callee (f := 40) rfl ?_); refine goesL_ (some 83) rfl rfl Try.func40 (by kernel_rfl) rfl #[.agg #[.string a1_0, .int .i64 a1_1, .slice A1_2 l1_2.length c1_2]] rfl (by (try simp only [List.map_toArray, List.map_cons, List.map_nil]); first | done | rfl | (simp only [List.length_drop, List.length_take]; rfl)) ?_; (with_reducible refine (registry_own.calls a1_0 a1_1 _ _ l1_2 t150 t151 t152 _ ?side1 ?side2 A61.out).mono ?_); (case side1 => repeat (first | exact (Kd.C_below HR1_2.out HB.out) | (with_reducible refine Kd.C_alloc ?_ _) | (with_reducible refine Kd.C_drewN ?_ _) | (with_reducible refine Kd.C_drew ?_))); (case side2 => exact HC1_2.out); rintro e w66 ⟨v153, rfl, ho0, hb⟩; refine ⟨_, rfl, ?_⟩; have n0_ := Aside0.mk (Kd.S_elder' (by (with_reducible repeat (first | apply Kd.S_alloc | apply Kd.S_drewN | apply Kd.S_drew)); exact HO_7.out) (Kd.R_base ho0) hb); have n1_ := Aside0.mk (Kd.R_lower ho0 (below_size (by repeat (first | (with_reducible first | exact HB.out | apply below_alloc | apply pw_below_drewN | apply below_drew1 | refine below_set ?_ GE124.out) | exact HB.out)))); have n2_ := Aside0.mk (blk_below (g := gb124) (o := .cells #[.string a1_0, .int .i64 a1_1, .slice A1_2 l1_2.length c1_2] 25 (0, 0)) (by (with_reducible repeat (first | refine blk_drewN ?_ _ | refine blk_drew ?_ | refine blk_alloc ?_ _)); exact BK124.out) hb); have n3_ := Aside0.mk (below_step (by repeat (first | (with_reducible first | exact HB.out | apply below_alloc | apply pw_below_drewN | apply below_drew1 | refine below_set ?_ GE124.out) | exact HB.out)) hb); clear HO_7; clear BK124; clear HB; have HO_7 := n0_; have HO154 := n1_; have BK124 := n2_; have HB := n3_; clear n0_ n1_ n2_ n3_; (try clear hb); (try clear hb2); (try clear hk); (try clear hi); (try clear ho0); have p64 : 0 ≤ (t127 : Int) := of_decide_eq_true (by first | (with_reducible assumption) | assumption); have q64 : (t127 : Int) < ((x7_3.length : Int) : Int) := of_decide_eq_true (by first | (with_reducible assumption) | assumption); obtain ⟨go64, co64, eo64, gb64, gl64, cl64, HG64⟩ := Kd.S_form HO_7.out (by omega); (first | cases eo64 | (injection eo64 with ea_ en_ ec_; (first | subst ea_ | (injection ea_ with ea_; subst ea_)); subst ec_; clear en_)); have GB64 := Aside0.mk gb64; have GG64 := Aside0.mk HG64; clear gb64 gl64 HG64; obtain ⟨_, ce64, hcl64, hM64, hcc64, hfr64, _, _⟩ := Kd.S_elem HO_7.out zSchema (t127 : Int) p64 q64; obtain ⟨ve64_2, rfl, ge64_2⟩ := kSchema_openM hM64; have hx64_0 : w66.cell? ⟨go64, (t127 : Int).toNat * 3, none⟩ = some (.string ((rd_TSchema x7_3 t127).f0)) := hcc64 0 _ rfl; have hx64_1 : w66.cell? ⟨go64, (t127 : Int).toNat * 3 + 1, none⟩ = some (.int .i64 ((rd_TSchema x7_3 t127).f1)) := hcc64 1 _ rfl; have hx64_2 : w66.cell? ⟨go64, (t127 : Int).toNat * 3 + 2, none⟩ = some (ve64_2) := hcc64 2 _ rfl; have hf64_0 : w66.frozen? ⟨go64, (t127 : Int).toNat * 3, none⟩ = false := hfr64 0; have hf64_1 : w66.frozen? ⟨go64, (t127 : Int).toNat * 3 + 1, none⟩ = false := hfr64 1; have hf64_2 : w66.frozen? ⟨go64, (t127 : Int).toNat * 3 + 2, none⟩ = false := hfr64 2; clear hcl64 hcc64 hfr64 hM64; replace p64 := eq_true p64; replace q64 := eq_true q64; have HX67 := Aside0.mk (show Kd.S kSchema 25 w66 w.heap.size (fun k_ => ((fun k_ => k_ ≠ gb124)) k_ ∧ ¬ ((fun k_ => some k_ = (v153 : Value).ownBlock)) k_) (.slice (some ⟨go64, 0, none⟩) x7_3.length co64) x7_3 from (by (with_reducible repeat (first | apply Kd.S_alloc | apply Kd.S_drewN | apply Kd.S_drew)); exact Kd.S_mono HO_7.out (fun k_ hk => ⟨hk.1, fun e_ => hk.2 e_⟩))); obtain ⟨oki67, ce67, hcl67, hM67, hcc67, hfr67, hoki67, hH67⟩ := Kd.S_elem HX67.out zSchema (t127 : Int) (of_decide_eq_true (by first | (with_reducible assumption) | assumption)) (by have h_ : (t127 : Int) < ((x7_3.length : Int) : Int) := of_decide_eq_true (by first | (with_reducible assumption) | assumption); first | exact h_ | (have e_ := (Kd.S_reads' HO_7.out).1; omega) | simpa using h_); obtain ⟨ve67_2, rfl, ge67_2⟩ := kSchema_openM hM67; have HP67 := Kd.S_seg hH67 (of_decide_eq_true (by first | (with_reducible assumption) | assumption)) (by have h_ : (t127 : Int) < ((x7_3.length : Int) : Int) := of_decide_eq_true (by first | (with_reducible assumption) | assumption); first | exact h_ | (have e_ := (Kd.S_reads' HO_7.out).1; omega) | simpa using h_) (seg := [.string t150, .int .i64 t151, v153]) (j := 0) (show 3 ≤ 3 from by decide) (x' := (⟨t150, t151, t152⟩ : SSchema)) (kSchema_mkM _ _ _ (⟨t150, t151, t152⟩ : SSchema) (Kd.R_mono (Kd.R_tight rfl (Kd.R_mono (ok' := fun k_ => ((fun k_ => k_ ≠ gb124)) k_ ∧ k_ ≠ go64) (Kd.R_types (Kd.R_apart' (HO154.out) (Kd.S_typed HO_7.out) (by decide)) BK124.out (by decide)) (fun k_ hk => ⟨hk.2, fun e_ => (hk.1.2) (by rw [e_]; rfl)⟩))) (fun _ h_ => Or.inr (h_)))) (fun _ hk => hk) (fun k_ hk_ => ((Kd.R_mono (ok' := fun k_ => ((fun k_ => k_ ≠ gb124)) k_ ∧ k_ ≠ go64) (Kd.R_types (Kd.R_apart' (HO154.out) (Kd.S_typed HO_7.out) (by decide)) BK124.out (by decide)) (fun k_ hk => ⟨hk.2, fun e_ => (hk.1.2) (by rw [e_]; rfl)⟩))).1 k_ hk_.symm); have hx67_0 := hcc67 0 _ rfl; (try simp only [show (kSchema).sz = 3 from rfl, Nat.mul_one, Nat.add_zero] at hx67_0); have hf67_0 := hfr67 0; (try simp only [show (kSchema).sz = 3 from rfl, Nat.mul_one, Nat.add_zero] at hf67_0); have hx67_1 := hcc67 1 _ rfl; (try simp only [show (kSchema).sz = 3 from rfl, Nat.mul_one, Nat.add_zero] at hx67_1); have hf67_1 := hfr67 1; (try simp only [show (kSchema).sz = 3 from rfl, Nat.mul_one, Nat.add_zero] at hf67_1); have hx67_2 := hcc67 2 _ rfl; (try simp only [show (kSchema).sz = 3 from rfl, Nat.mul_one, Nat.add_zero] at hx67_2); have hf67_2 := hfr67 2; (try simp only [show (kSchema).sz = 3 from rfl, Nat.mul_one, Nat.add_zero] at hf67_2); clear hcl67 hcc67 hfr67 hM67 hoki67 hH67) | ((with_reducible refine gate_store (t := 25) (p := 84) rfl ?_); refine store_event (t := 25) (p := 84) (v := ?vo_w68) (w1 := (((w66.setCell ⟨go64, (t127 : Int).toNat * 3, none⟩ (.string t150)).setCell ⟨go64, (t127 : Int).toNat * 3 + 1, none⟩ (.int .i64 t151)).setCell ⟨go64, (t127 : Int).toNat * 3 + 2, none⟩ (v153))) ?hg ?ho ?hn ?hr ?_; (case ho => rfl); (case hg => rfl); (case hn => rfl); (case hr => first | (go_simp; done) | (go_simp; rfl) | (obtain ⟨A_0, c_0, hz_0⟩ := Kd.R_slice HO154.out; subst hz_0; first | (go_simp; done) | (go_simp; rfl))); intro w68 hw; have hg : w66.grownBy w68 (some go64) := (by rw [hw]; exact HP67.2); have hp_ : Kd.S kSchema 25 w68 w.heap.size (fun k_ => k_ ≠ gb124) (.slice (some ⟨go64, 0, none⟩) x7_3.length co64) y155 := (by rw [hw, Ny155.out]; exact HP67.1); clear HP67; have n0_ := Aside0.mk (hp_); have n1_ := Aside0.mk (blk_grown (g := gb124) (o := .cells #[.string a1_0, .int .i64 a1_1, .slice A1_2 l1_2.length c1_2] 25 (0, 0)) (by (with_reducible repeat (first | refine blk_drewN ?_ _ | refine blk_drew ?_ | refine blk_alloc ?_ _)); exact BK124.out) hg (Kd.S_away HO_7.out (fun _ hk => hk.1))); have n2_ := Aside0.mk ((by rw [hw]; exact below_set (below_set (below_set (HB.out) GB64.out) GB64.out) GB64.out : Below w.heap.size w w68)); clear HO_7; clear BK124; clear HB; clear HO154; have HO_7 := n0_; have BK124 := n1_; have HB := n2_; clear n0_ n1_ n2_; clear hg hw hp_))
                        go_ret2
                        exact ⟨_, by first | rfl | (simp [errW_none, errW_some] <;> rfl) | (simp [*, errW_none, errW_some] <;> rfl), by (with_reducible repeat (first | apply Kd.S_alloc | apply Kd.S_drewN | apply Kd.S_drew)); exact Kd.S_mono HO_7.out (fun _ hk => trivial), by repeat (first | (with_reducible first | exact HB.out | apply below_alloc | apply pw_below_drewN | apply below_drew1 | refine below_set ?_ GE124.out) | exact HB.out)⟩
                      · rw [if_neg c63] at H
                        exact absurd H (by simp)
                    · rw [if_neg c62] at H
                      exact absurd H (by simp)

end Go.Proofs.Ytbgdamlidohfhaa.P
