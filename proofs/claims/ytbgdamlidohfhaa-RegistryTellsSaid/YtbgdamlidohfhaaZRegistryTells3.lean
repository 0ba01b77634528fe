/- The contracts of the functions that RegistryTells reaches, the plain facts about them, and its walk (part 3): no condition but those that each theorem names. -/
import Derived.Test.YtbgdamlidohfhaaZRegistryTells2
set_option linter.unusedVariables false
set_option linter.unusedSimpArgs false
namespace Go.Proofs.Ytbgdamlidohfhaa.P
open Go.RowKit Go.Proofs.YtbgdamlidohfhaaW.PrintWords Go.Proofs.YtbgdamlidohfhaaW.PrintLast Go.Proofs.YtbgdamlidohfhaaW.PrintMore
attribute [local go_sem] max2_int min2_int max_two min_two max_three min_three max_four min_four   -- for this text's walks alone
set_option linter.unusedVariables false
set_option linter.unusedSimpArgs false

/-! ### registry_Add: function 18 -/
mutual
def registry_Add.j0 : Nat → List (SSchema) → Bool → ByteArray → Int → List (SField) → Option ((List (SSchema)) × Int)
  | 0, _, _, _, _, _ => none
  | k + 1, x0, x17, x125000, x125001, x125002 => if x17 = true then (some (([] : List (SSchema)), 1)) else ((registry_at.f x0 x125000).bind fun t127 => (if t127 < 0 then (registry_Add.j1 k x0 t127 (x125001 != 1) x125000 x125001 x125002) else (registry_Add.j1 k x0 t127 false x125000 x125001 x125002)))
def registry_Add.j4 : Nat → List (SSchema) → Int → ByteArray → Int → List (SField) → Option ((List (SSchema)) × Int)
  | 0, _, _, _, _, _ => none
  | k + 1, x0, x6, x125000, x125001, x125002 => registry_Add.l0 k x6 ([] : List (SSchema)) x0 (x0.length : Int) 0 x125000 x125001 x125002
def registry_Add.l0 : Nat → Int → List (SSchema) → List (SSchema) → Int → Int → ByteArray → Int → List (SField) → Option ((List (SSchema)) × Int)
  | 0, _, _, _, _, _, _, _, _ => none
  | k + 1, x6, x7, x61, x62, x63, x125000, x125001, x125002 => if x63 < x62 then (if 0 ≤ x63 then (if x63 < (x61.length : Int) then ((registry_own.f ((rd_TSchema x61 x63).f0) ((rd_TSchema x61 x63).f1) ((rd_TSchema x61 x63).f2)).bind fun bt134 => (if x7.length < 2932031007402 then (registry_Add.l0 k x6 (x7 ++ [(⟨bt134.1, bt134.2.1, bt134.2.2⟩ : SSchema)]) x61 x62 (wrap64 (x63 + 1)) x125000 x125001 x125002) else (none))) else (none)) else (none)) else (if x6 < 0 then ((registry_own.f x125000 x125001 x125002).bind fun bt142 => (if x7.length < 2932031007402 then (some ((x7 ++ [(⟨bt142.1, bt142.2.1, bt142.2.2⟩ : SSchema)]), 0)) else (none))) else ((registry_own.f x125000 x125001 x125002).bind fun bt150 => (if 0 ≤ x6 then (if x6 < (x7.length : Int) then (some ((x7.set (x6 : Int).toNat (⟨bt150.1, bt150.2.1, bt150.2.2⟩ : SSchema)), 0)) else (none)) else (none))))
def registry_Add.j1 : Nat → List (SSchema) → Int → Bool → ByteArray → Int → List (SField) → Option ((List (SSchema)) × Int)
  | 0, _, _, _, _, _, _ => none
  | k + 1, x0, x6, x22, x125000, x125001, x125002 => if x22 = true then (some (([] : List (SSchema)), 5)) else (if x6 < 0 then (registry_Add.j2 k x0 x6 ((x0.length : Int) == 8) x125000 x125001 x125002) else (registry_Add.j2 k x0 x6 false x125000 x125001 x125002))
def registry_Add.j2 : Nat → List (SSchema) → Int → Bool → ByteArray → Int → List (SField) → Option ((List (SSchema)) × Int)
  | 0, _, _, _, _, _, _ => none
  | k + 1, x0, x6, x30, x125000, x125001, x125002 => if x30 = true then (some (([] : List (SSchema)), 7)) else (if x6 ≥ 0 then (if 0 ≤ x6 then (if x6 < (x0.length : Int) then ((schema_Same.f k ((rd_TSchema x0 x6).f0) ((rd_TSchema x0 x6).f1) ((rd_TSchema x0 x6).f2) x125000 x125001 x125002).bind fun t129 => (registry_Add.j3 k x0 x6 t129 x125000 x125001 x125002)) else (none)) else (none)) else (registry_Add.j3 k x0 x6 false x125000 x125001 x125002))
def registry_Add.j3 : Nat → List (SSchema) → Int → Bool → ByteArray → Int → List (SField) → Option ((List (SSchema)) × Int)
  | 0, _, _, _, _, _, _ => none
  | k + 1, x0, x6, x38, x125000, x125001, x125002 => if x38 = true then (some (([] : List (SSchema)), 4)) else (if x6 ≥ 0 then (if 0 ≤ x6 then (if x6 < (x0.length : Int) then ((schema_Fits.f k ((rd_TSchema x0 x6).f0) ((rd_TSchema x0 x6).f1) ((rd_TSchema x0 x6).f2) x125000 x125001 x125002).bind fun t131 => (if t131 = true then (registry_Add.j4 k x0 x6 x125000 x125001 x125002) else (some (([] : List (SSchema)), 5)))) else (none)) else (none)) else (registry_Add.j4 k x0 x6 x125000 x125001 x125002))
end
def registry_Add.f (k : Nat) (l0 : List (SSchema)) (a1_0 : ByteArray) (a1_1 : Int) (l1_2 : List (SField)) : Option ((List (SSchema)) × Int) := (registry_May.f k l0).bind fun t125 => (if t125 = true then ((schema_May.f a1_0 a1_1 l1_2).bind fun t126 => (registry_Add.j0 k l0 (!t126) a1_0 a1_1 l1_2)) else (registry_Add.j0 k l0 true a1_0 a1_1 l1_2))
theorem registry_Add.mono_l : ∀ k, (∀ y0 y1 y2 y3 y4, LeO (registry_Add.j0 k y0 y1 y2 y3 y4) (registry_Add.j0 (k + 1) y0 y1 y2 y3 y4)) ∧ (∀ y0 y1 y2 y3 y4, LeO (registry_Add.j4 k y0 y1 y2 y3 y4) (registry_Add.j4 (k + 1) y0 y1 y2 y3 y4)) ∧ (∀ y0 y1 y2 y3 y4 y5 y6 y7, LeO (registry_Add.l0 k y0 y1 y2 y3 y4 y5 y6 y7) (registry_Add.l0 (k + 1) y0 y1 y2 y3 y4 y5 y6 y7)) ∧ (∀ y0 y1 y2 y3 y4 y5, LeO (registry_Add.j1 k y0 y1 y2 y3 y4 y5) (registry_Add.j1 (k + 1) y0 y1 y2 y3 y4 y5)) ∧ (∀ y0 y1 y2 y3 y4 y5, LeO (registry_Add.j2 k y0 y1 y2 y3 y4 y5) (registry_Add.j2 (k + 1) y0 y1 y2 y3 y4 y5)) ∧ (∀ y0 y1 y2 y3 y4 y5, LeO (registry_Add.j3 k y0 y1 y2 y3 y4 y5) (registry_Add.j3 (k + 1) y0 y1 y2 y3 y4 y5))
  | 0 => ⟨fun _ _ _ _ _ r h => by simp [registry_Add.j0] at h, fun _ _ _ _ _ r h => by simp [registry_Add.j4] at h, fun _ _ _ _ _ _ _ _ r h => by simp [registry_Add.l0] at h, fun _ _ _ _ _ _ r h => by simp [registry_Add.j1] at h, fun _ _ _ _ _ _ r h => by simp [registry_Add.j2] at h, fun _ _ _ _ _ _ r h => by simp [registry_Add.j3] at h⟩
  | k + 1 => by
    obtain ⟨ih0, ih1, ih2, ih3, ih4, ih5⟩ := registry_Add.mono_l k
    refine ⟨?_, ?_, ?_, ?_, ?_, ?_⟩
    · intro y0 y1 y2 y3 y4
      unfold registry_Add.j0
      repeat' first
      | (with_reducible exact ih0 _ _ _ _ _)
      | (with_reducible exact ih1 _ _ _ _ _)
      | (with_reducible exact ih2 _ _ _ _ _ _ _ _)
      | (with_reducible exact ih3 _ _ _ _ _ _)
      | (with_reducible exact ih4 _ _ _ _ _ _)
      | (with_reducible exact ih5 _ _ _ _ _ _)
      | (with_reducible exact registry_May.mono _ _)
      | (with_reducible exact schema_Fits.mono _ _ _ _ _ _ _)
      | (with_reducible exact schema_Same.mono _ _ _ _ _ _ _)
      | (with_reducible exact LeO.refl _)
      | (with_reducible exact LeO.none _)
      | (with_reducible refine LeO.ite ?_ ?_)
      | (with_reducible refine LeO.bind ?_ (fun _ => ?_))
      | exact ih0 _ _ _ _ _
      | exact ih1 _ _ _ _ _
      | exact ih2 _ _ _ _ _ _ _ _
      | exact ih3 _ _ _ _ _ _
      | exact ih4 _ _ _ _ _ _
      | exact ih5 _ _ _ _ _ _
      | exact registry_May.mono _ _
      | exact schema_Fits.mono _ _ _ _ _ _ _
      | exact schema_Same.mono _ _ _ _ _ _ _
      | exact LeO.none _
      | refine LeO.ite ?_ ?_
      | refine LeO.bind ?_ (fun _ => ?_)
    · intro y0 y1 y2 y3 y4
      unfold registry_Add.j4
      repeat' first
      | (with_reducible exact ih0 _ _ _ _ _)
      | (with_reducible exact ih1 _ _ _ _ _)
      | (with_reducible exact ih2 _ _ _ _ _ _ _ _)
      | (with_reducible exact ih3 _ _ _ _ _ _)
      | (with_reducible exact ih4 _ _ _ _ _ _)
      | (with_reducible exact ih5 _ _ _ _ _ _)
      | (with_reducible exact registry_May.mono _ _)
      | (with_reducible exact schema_Fits.mono _ _ _ _ _ _ _)
      | (with_reducible exact schema_Same.mono _ _ _ _ _ _ _)
      | (with_reducible exact LeO.refl _)
      | (with_reducible exact LeO.none _)
      | (with_reducible refine LeO.ite ?_ ?_)
      | (with_reducible refine LeO.bind ?_ (fun _ => ?_))
      | exact ih0 _ _ _ _ _
      | exact ih1 _ _ _ _ _
      | exact ih2 _ _ _ _ _ _ _ _
      | exact ih3 _ _ _ _ _ _
      | exact ih4 _ _ _ _ _ _
      | exact ih5 _ _ _ _ _ _
      | exact registry_May.mono _ _
      | exact schema_Fits.mono _ _ _ _ _ _ _
      | exact schema_Same.mono _ _ _ _ _ _ _
      | exact LeO.none _
      | refine LeO.ite ?_ ?_
      | refine LeO.bind ?_ (fun _ => ?_)
    · intro y0 y1 y2 y3 y4 y5 y6 y7
      unfold registry_Add.l0
      repeat' first
      | (with_reducible exact ih0 _ _ _ _ _)
      | (with_reducible exact ih1 _ _ _ _ _)
      | (with_reducible exact ih2 _ _ _ _ _ _ _ _)
      | (with_reducible exact ih3 _ _ _ _ _ _)
      | (with_reducible exact ih4 _ _ _ _ _ _)
      | (with_reducible exact ih5 _ _ _ _ _ _)
      | (with_reducible exact registry_May.mono _ _)
      | (with_reducible exact schema_Fits.mono _ _ _ _ _ _ _)
      | (with_reducible exact schema_Same.mono _ _ _ _ _ _ _)
      | (with_reducible exact LeO.refl _)
      | (with_reducible exact LeO.none _)
      | (with_reducible refine LeO.ite ?_ ?_)
      | (with_reducible refine LeO.bind ?_ (fun _ => ?_))
      | exact ih0 _ _ _ _ _
      | exact ih1 _ _ _ _ _
      | exact ih2 _ _ _ _ _ _ _ _
      | exact ih3 _ _ _ _ _ _
      | exact ih4 _ _ _ _ _ _
      | exact ih5 _ _ _ _ _ _
      | exact registry_May.mono _ _
      | exact schema_Fits.mono _ _ _ _ _ _ _
      | exact schema_Same.mono _ _ _ _ _ _ _
      | exact LeO.none _
      | refine LeO.ite ?_ ?_
      | refine LeO.bind ?_ (fun _ => ?_)
    · intro y0 y1 y2 y3 y4 y5
      unfold registry_Add.j1
      repeat' first
      | (with_reducible exact ih0 _ _ _ _ _)
      | (with_reducible exact ih1 _ _ _ _ _)
      | (with_reducible exact ih2 _ _ _ _ _ _ _ _)
      | (with_reducible exact ih3 _ _ _ _ _ _)
      | (with_reducible exact ih4 _ _ _ _ _ _)
      | (with_reducible exact ih5 _ _ _ _ _ _)
      | (with_reducible exact registry_May.mono _ _)
      | (with_reducible exact schema_Fits.mono _ _ _ _ _ _ _)
      | (with_reducible exact schema_Same.mono _ _ _ _ _ _ _)
      | (with_reducible exact LeO.refl _)
      | (with_reducible exact LeO.none _)
      | (with_reducible refine LeO.ite ?_ ?_)
      | (with_reducible refine LeO.bind ?_ (fun _ => ?_))
      | exact ih0 _ _ _ _ _
      | exact ih1 _ _ _ _ _
      | exact ih2 _ _ _ _ _ _ _ _
      | exact ih3 _ _ _ _ _ _
      | exact ih4 _ _ _ _ _ _
      | exact ih5 _ _ _ _ _ _
      | exact registry_May.mono _ _
      | exact schema_Fits.mono _ _ _ _ _ _ _
      | exact schema_Same.mono _ _ _ _ _ _ _
      | exact LeO.none _
      | refine LeO.ite ?_ ?_
      | refine LeO.bind ?_ (fun _ => ?_)
    · intro y0 y1 y2 y3 y4 y5
      unfold registry_Add.j2
      repeat' first
      | (with_reducible exact ih0 _ _ _ _ _)
      | (with_reducible exact ih1 _ _ _ _ _)
      | (with_reducible exact ih2 _ _ _ _ _ _ _ _)
      | (with_reducible exact ih3 _ _ _ _ _ _)
      | (with_reducible exact ih4 _ _ _ _ _ _)
      | (with_reducible exact ih5 _ _ _ _ _ _)
      | (with_reducible exact registry_May.mono _ _)
      | (with_reducible exact schema_Fits.mono _ _ _ _ _ _ _)
      | (with_reducible exact schema_Same.mono _ _ _ _ _ _ _)
      | (with_reducible exact LeO.refl _)
      | (with_reducible exact LeO.none _)
      | (with_reducible refine LeO.ite ?_ ?_)
      | (with_reducible refine LeO.bind ?_ (fun _ => ?_))
      | exact ih0 _ _ _ _ _
      | exact ih1 _ _ _ _ _
      | exact ih2 _ _ _ _ _ _ _ _
      | exact ih3 _ _ _ _ _ _
      | exact ih4 _ _ _ _ _ _
      | exact ih5 _ _ _ _ _ _
      | exact registry_May.mono _ _
      | exact schema_Fits.mono _ _ _ _ _ _ _
      | exact schema_Same.mono _ _ _ _ _ _ _
      | exact LeO.none _
      | refine LeO.ite ?_ ?_
      | refine LeO.bind ?_ (fun _ => ?_)
    · intro y0 y1 y2 y3 y4 y5
      unfold registry_Add.j3
      repeat' first
      | (with_reducible exact ih0 _ _ _ _ _)
      | (with_reducible exact ih1 _ _ _ _ _)
      | (with_reducible exact ih2 _ _ _ _ _ _ _ _)
      | (with_reducible exact ih3 _ _ _ _ _ _)
      | (with_reducible exact ih4 _ _ _ _ _ _)
      | (with_reducible exact ih5 _ _ _ _ _ _)
      | (with_reducible exact registry_May.mono _ _)
      | (with_reducible exact schema_Fits.mono _ _ _ _ _ _ _)
      | (with_reducible exact schema_Same.mono _ _ _ _ _ _ _)
      | (with_reducible exact LeO.refl _)
      | (with_reducible exact LeO.none _)
      | (with_reducible refine LeO.ite ?_ ?_)
      | (with_reducible refine LeO.bind ?_ (fun _ => ?_))
      | exact ih0 _ _ _ _ _
      | exact ih1 _ _ _ _ _
      | exact ih2 _ _ _ _ _ _ _ _
      | exact ih3 _ _ _ _ _ _
      | exact ih4 _ _ _ _ _ _
      | exact ih5 _ _ _ _ _ _
      | exact registry_May.mono _ _
      | exact schema_Fits.mono _ _ _ _ _ _ _
      | exact schema_Same.mono _ _ _ _ _ _ _
      | exact LeO.none _
      | refine LeO.ite ?_ ?_
      | refine LeO.bind ?_ (fun _ => ?_)
theorem registry_Add.mono : ∀ a0 a1 a2 a3 k, LeO (registry_Add.f k a0 a1 a2 a3) (registry_Add.f (k + 1) a0 a1 a2 a3) := by
  intro a0 a1 a2 a3 k
  obtain ⟨ih0, ih1, ih2, ih3, ih4, ih5⟩ := registry_Add.mono_l k
  unfold registry_Add.f
  repeat' first
      | (with_reducible exact ih0 _ _ _ _ _)
      | (with_reducible exact ih1 _ _ _ _ _)
      | (with_reducible exact ih2 _ _ _ _ _ _ _ _)
      | (with_reducible exact ih3 _ _ _ _ _ _)
      | (with_reducible exact ih4 _ _ _ _ _ _)
      | (with_reducible exact ih5 _ _ _ _ _ _)
      | (with_reducible exact registry_May.mono _ _)
      | (with_reducible exact schema_Fits.mono _ _ _ _ _ _ _)
      | (with_reducible exact schema_Same.mono _ _ _ _ _ _ _)
      | (with_reducible exact LeO.refl _)
      | (with_reducible exact LeO.none _)
      | (with_reducible refine LeO.ite ?_ ?_)
      | (with_reducible refine LeO.bind ?_ (fun _ => ?_))
      | exact ih0 _ _ _ _ _
      | exact ih1 _ _ _ _ _
      | exact ih2 _ _ _ _ _ _ _ _
      | exact ih3 _ _ _ _ _ _
      | exact ih4 _ _ _ _ _ _
      | exact ih5 _ _ _ _ _ _
      | exact registry_May.mono _ _
      | exact schema_Fits.mono _ _ _ _ _ _ _
      | exact schema_Same.mono _ _ _ _ _ _ _
      | exact LeO.none _
      | refine LeO.ite ?_ ?_
      | refine LeO.bind ?_ (fun _ => ?_)
def registry_Add.T8 : Bool × List (List Nat × List Nat) := (true, [([], []), ([0], [0]), ([1], [1]), ([2], [2]), ([2], [2]), ([3, 4, 2], [2, 3, 4]), ([5, 2], [2, 5]), ([2], [2]), ([6, 7, 2, 2], [2, 6, 7]), ([2, 8], [2, 8]), ([9, 8], [9])])
def registry_Add.B8 : List Nat := [0, 1, 3, 7, 7, 31, 63, 7, 255, 511, 1023]
theorem registry_Add.tab8 : rtab .any (opsOf Try.f18 8) = registry_Add.T8 := by kernel_rfl
theorem registry_Add.bits8 : waitsOk registry_Add.T8.2 registry_Add.B8 = true := by kernel_rfl
def registry_Add.T10 : Bool × List (List Nat × List Nat) := (true, [([], []), ([0], [0]), ([1], [1]), ([2], [2]), ([2], [2]), ([3, 4, 2], [2, 3, 4]), ([5, 2], [2, 5]), ([2], [2]), ([6, 7, 2, 2], [2, 6, 7]), ([8, 2], [2, 8]), ([2, 9], [2, 9]), ([10, 8], [10])])
def registry_Add.B10 : List Nat := [0, 1, 3, 7, 7, 31, 63, 7, 255, 511, 1023, 2047]
theorem registry_Add.tab10 : rtab .any (opsOf Try.f18 10) = registry_Add.T10 := by kernel_rfl
theorem registry_Add.bits10 : waitsOk registry_Add.T10.2 registry_Add.B10 = true := by kernel_rfl
set_option maxHeartbeats 8000000 in
set_option maxRecDepth 100000 in
theorem registry_Add.calls (k : Nat) (A0 : Option Addr) (c0 : Nat) (l0 : List (SSchema)) (a1_0 : ByteArray) (a1_1 : Int) (A1_2 : Option Addr) (c1_2 : Nat) (l1_2 : List (SField)) (r1 : List (SSchema)) (r2 : Int) (w : World) (hr0 : Kd.C kSchema w A0 l0.length l0) (hc0 : l0.length ≤ c0) (hr1_2 : Kd.C kField w A1_2 l1_2.length l1_2) (hc1_2 : l1_2.length ≤ c1_2) (h : registry_Add.f k l0 a1_0 a1_1 l1_2 = some (r1, r2)) :
    Calls Try.prog 18 #[.slice A0 l0.length c0, .agg #[.string a1_0, .int .i64 a1_1, .slice A1_2 l1_2.length c1_2]] w fun e w' => ∃ v0_ : Value, e = .returned (.tuple #[v0_, .int .i64 r2]) ∧ Kd.S kSchema 25 w' w.heap.size (fun _ => True) v0_ r1 ∧ Below w.heap.size w w' := by
  have hu25 := Try.underlying25
  have HR0 := Aside0.mk hr0
  have HC0 := Aside0.mk hc0
  clear hr0 hc0
  have HR1_2 := Aside0.mk hr1_2
  have HC1_2 := Aside0.mk hc1_2
  clear hr1_2 hc1_2
  have HB := Aside0.mk (Below.refl w.heap.size w)
  have H : ((registry_May.f k l0).bind fun t125 => (if t125 = true then ((schema_May.f a1_0 a1_1 l1_2).bind fun t126 => (registry_Add.j0 k l0 (!t126) a1_0 a1_1 l1_2)) else (registry_Add.j0 k l0 true a1_0 a1_1 l1_2))) = some (r1, r2) := h
  clear h
  have HC3 := Aside0.mk H
  clear H
  go_enter Try.func18, Try.ntmps18
  go_upto_region 1 with (first | ((with_reducible refine gate_dst (N := 3) rfl ?_); (try (refine gate_guard (by rfl) ?_; dsimp only)); refine box_event ?hg (N := 3) ?hd (cs := #[.string a1_0, .int .i64 a1_1, .slice A1_2 l1_2.length c1_2]) (t := 25) ?hr ?_; (case hd => rfl); (case hg => rfl); (case hr => first | (go_simp; done) | (go_simp; rfl)); intro gb124 hg w4 hbox hb; have n0_ := Aside0.mk (below_step (by repeat (first | (with_reducible first | exact HB.out | apply below_alloc | apply pw_below_drewN | apply below_drew1) | exact HB.out)) hb); have n1_ := Aside0.mk (hbox); have n2_ := Aside0.mk ((by rw [hg]; exact (below_size (by repeat (first | (with_reducible first | exact HB.out | apply below_alloc | apply pw_below_drewN | apply below_drew1) | exact HB.out))) : w.heap.size ≤ gb124)); have n3_ := Aside0.mk ((by rw [hg]; exact (below_size (by repeat (first | (with_reducible first | exact HB.out | apply below_alloc | apply pw_below_drewN | apply below_drew1) | exact HB.out))) : w.heap.size ≤ gb124)); clear HB; have HB := n0_; have BK124 := n1_; have GW124 := n2_; have GE124 := n3_; clear n0_ n1_ n2_ n3_; clear hb hbox hg))
  (try simp only [Act.put, List.setIfInBounds_toArray, List.set_cons_zero, List.set_cons_succ])
  go_cut [17] (fun v17 wc => ∃ (kq : Nat) (x17_2 : Bool), v17 = .bool x17_2 ∧ Aside0 (registry_Add.j0 kq l0 x17_2 a1_0 a1_1 l1_2 = some (r1, r2)) ∧ Aside0 (kq ≤ k) ∧ Aside0 (wc.heap[gb124]? = some (.cells #[.string a1_0, .int .i64 a1_1, (.slice A1_2 l1_2.length c1_2)] 25 (0, 0))) ∧ Aside0 (Below w.heap.size w wc))
  case first =>
    have H := HC3.out
    clear HC3
    replace H := Option.bind_eq_some_iff.mp H
    obtain ⟨t125, A50, H⟩ := H
    replace H : (if t125 = true then ((schema_May.f a1_0 a1_1 l1_2).bind fun t126 => (registry_Add.j0 k l0 (!t126) a1_0 a1_1 l1_2)) else (registry_Add.j0 k l0 true a1_0 a1_1 l1_2)) = some (r1, r2) := H
    have A5 := Aside0.mk A50
    clear A50
    by_cases c6 : t125 = true
    · subst c6
      have H1 : ((schema_May.f a1_0 a1_1 l1_2).bind fun t126 => (registry_Add.j0 k l0 (!t126) a1_0 a1_1 l1_2)) = some (r1, r2) := by rw [if_pos rfl] at H; exact H
      clear H
      have H := H1
      clear H1
      replace H := Option.bind_eq_some_iff.mp H
      obtain ⟨t126, A70, H⟩ := H
      replace H : (registry_Add.j0 k l0 (!t126) a1_0 a1_1 l1_2) = some (r1, r2) := H
      have A7 := Aside0.mk A70
      clear A70
      have H' := Aside0.mk H
      clear H
      go_wp2_with (first | ((with_reducible refine gate_callee (f := 25) rfl ?_); refine goesL_ (some 11) rfl rfl Try.func25 (by kernel_rfl) rfl #[.slice A0 l0.length c0] rfl (by (try simp only [List.map_toArray, List.map_cons, List.map_nil]); first | done | rfl | (simp only [List.length_drop, List.length_take]; rfl)) ?_; (with_reducible refine (registry_May.calls k _ _ l0 true _ ?side1 ?side2 A5.out).mono ?_); (case side1 => repeat (first | exact (Kd.C_below HR0.out HB.out) | (with_reducible refine Kd.C_alloc ?_ _) | (with_reducible refine Kd.C_drewN ?_ _) | (with_reducible refine Kd.C_drew ?_))); (case side2 => exact HC0.out); rintro e w8 ⟨rfl, hb⟩; refine ⟨_, rfl, ?_⟩; have n0_ := Aside0.mk (blk_below (g := gb124) (o := .cells #[.string a1_0, .int .i64 a1_1, .slice A1_2 l1_2.length c1_2] 25 (0, 0)) (by (with_reducible repeat (first | refine blk_drewN ?_ _ | refine blk_drew ?_ | refine blk_alloc ?_ _)); exact BK124.out) hb); have n1_ := Aside0.mk (below_step (by repeat (first | (with_reducible first | exact HB.out | apply below_alloc | apply pw_below_drewN | apply below_drew1 | refine below_set ?_ GE124.out) | exact HB.out)) hb); clear BK124; clear HB; have BK124 := n0_; have HB := n1_; clear n0_ n1_; (try clear hb); (try clear hb2); (try clear hk); (try clear hi); have hcz9_0 : w8.cell? ⟨gb124, 0, none⟩ = some (.string a1_0) := (blk_cell BK124.out 0).trans rfl; have hcz9_1 : w8.cell? ⟨gb124, 1, none⟩ = some (.int .i64 a1_1) := (blk_cell BK124.out 1).trans rfl; have hcz9_2 : w8.cell? ⟨gb124, 2, none⟩ = some (.slice A1_2 l1_2.length c1_2) := (blk_cell BK124.out 2).trans rfl; have hfz9_0 := blk_frozen BK124.out 0; have hfz9_1 := blk_frozen BK124.out 1; have hfz9_2 := blk_frozen BK124.out 2) | (go_at_call 28; (with_reducible refine (schema_May.calls a1_0 a1_1 _ _ l1_2 t126 _ ?side1 ?side2 A7.out).mono ?_); (case side1 => repeat (first | exact (Kd.C_below HR1_2.out HB.out) | (with_reducible refine Kd.C_alloc ?_ _) | (with_reducible refine Kd.C_drewN ?_ _) | (with_reducible refine Kd.C_drew ?_))); (case side2 => exact HC1_2.out); rintro e w10 ⟨rfl, hb⟩; have n0_ := Aside0.mk (blk_below (g := gb124) (o := .cells #[.string a1_0, .int .i64 a1_1, .slice A1_2 l1_2.length c1_2] 25 (0, 0)) (by (with_reducible repeat (first | refine blk_drewN ?_ _ | refine blk_drew ?_ | refine blk_alloc ?_ _)); exact BK124.out) hb); have n1_ := Aside0.mk (below_step (by repeat (first | (with_reducible first | exact HB.out | apply below_alloc | apply pw_below_drewN | apply below_drew1 | refine below_set ?_ GE124.out) | exact HB.out)) hb); clear BK124; clear HB; have BK124 := n0_; have HB := n1_; clear n0_ n1_; (try clear hb); (try clear hb2); (try clear hk); (try clear hi)))
      go_meet
      case rel => exact ⟨_, (!t126), (by first | rfl | (simp; done) | (simp [*]; done)), H', ⟨by first | omega | exact Nat.le_refl _⟩, ⟨by (with_reducible repeat (first | refine blk_drewN ?_ _ | refine blk_drew ?_ | refine blk_alloc ?_ _)); exact BK124.out⟩, ⟨by repeat (first | (with_reducible first | exact HB.out | apply below_alloc | apply pw_below_drewN | apply below_drew1 | refine below_set ?_ GE124.out) | exact HB.out)⟩⟩
    · replace c6 := Bool.eq_false_iff.mpr c6
      subst c6
      have H1 : (registry_Add.j0 k l0 true a1_0 a1_1 l1_2) = some (r1, r2) := by rw [if_neg (show ¬ (false = true) by decide)] at H; exact H
      clear H
      have H := H1
      clear H1
      have H' := Aside0.mk H
      clear H
      go_wp2_with (first | ((with_reducible refine gate_callee (f := 25) rfl ?_); refine goesL_ (some 11) rfl rfl Try.func25 (by kernel_rfl) rfl #[.slice A0 l0.length c0] rfl (by (try simp only [List.map_toArray, List.map_cons, List.map_nil]); first | done | rfl | (simp only [List.length_drop, List.length_take]; rfl)) ?_; (with_reducible refine (registry_May.calls k _ _ l0 false _ ?side1 ?side2 A5.out).mono ?_); (case side1 => repeat (first | exact (Kd.C_below HR0.out HB.out) | (with_reducible refine Kd.C_alloc ?_ _) | (with_reducible refine Kd.C_drewN ?_ _) | (with_reducible refine Kd.C_drew ?_))); (case side2 => exact HC0.out); rintro e w11 ⟨rfl, hb⟩; refine ⟨_, rfl, ?_⟩; have n0_ := Aside0.mk (blk_below (g := gb124) (o := .cells #[.string a1_0, .int .i64 a1_1, .slice A1_2 l1_2.length c1_2] 25 (0, 0)) (by (with_reducible repeat (first | refine blk_drewN ?_ _ | refine blk_drew ?_ | refine blk_alloc ?_ _)); exact BK124.out) hb); have n1_ := Aside0.mk (below_step (by repeat (first | (with_reducible first | exact HB.out | apply below_alloc | apply pw_below_drewN | apply below_drew1 | refine below_set ?_ GE124.out) | exact HB.out)) hb); clear BK124; clear HB; have BK124 := n0_; have HB := n1_; clear n0_ n1_; (try clear hb); (try clear hb2); (try clear hk); (try clear hi)))
      go_meet
      case rel => exact ⟨_, (true), (by first | rfl | (simp; done) | (simp [*]; done)), H', ⟨by first | omega | exact Nat.le_refl _⟩, ⟨by (with_reducible repeat (first | refine blk_drewN ?_ _ | refine blk_drew ?_ | refine blk_alloc ?_ _)); exact BK124.out⟩, ⟨by repeat (first | (with_reducible first | exact HB.out | apply below_alloc | apply pw_below_drewN | apply below_drew1 | refine below_set ?_ GE124.out) | exact HB.out)⟩⟩
  case rest =>
    clear HC3
    try clear c1
    try clear c2
    try clear p2
    try clear c6
    try clear hcz9_0
    try clear hcz9_1
    try clear hcz9_2
    try clear hfz9_0
    try clear hfz9_1
    try clear hfz9_2
    obtain ⟨kq, x17_2, rfl, HA, HJ2, BK124, HB⟩ := hcut
    cases kq with
    | zero => exact absurd HA.out (by simp [registry_Add.j0])
    | succ kj2 =>
      have H := HA.out
      clear HA
      simp only [registry_Add.j0] at H
      by_cases c12 : x17_2 = true
      · subst c12
        have H1 : (some (([] : List (SSchema)), 1)) = some (r1, r2) := by rw [if_pos rfl] at H; exact H
        clear H
        have H := H1
        clear H1
        simp only [Option.some.injEq, Prod.mk.injEq] at H
        obtain ⟨rfl, rfl⟩ := H
        go_wp2
        go_ret2
        exact ⟨_, by first | rfl | (simp [errW_none, errW_some] <;> rfl) | (simp [*, errW_none, errW_some] <;> rfl), by first | exact Kd.S_nil _ _ _ _ _ | exact Kd.N_nil _ _ _ _ _ | exact Kd.V_nil _ _ _ _ _ | exact Kd.Q_nil _ _ _ _ _ | exact Kd.R_nil _ _ _ _ _, by repeat (first | (with_reducible first | exact HB.out | apply below_alloc | apply pw_below_drewN | apply below_drew1 | refine below_set ?_ GE124.out) | exact HB.out)⟩
      · replace c12 := Bool.eq_false_iff.mpr c12
        subst c12
        have H1 : ((registry_at.f l0 a1_0).bind fun t127 => (if t127 < 0 then (registry_Add.j1 kj2 l0 t127 (a1_1 != 1) a1_0 a1_1 l1_2) else (registry_Add.j1 kj2 l0 t127 false a1_0 a1_1 l1_2))) = some (r1, r2) := by rw [if_neg (show ¬ (false = true) by decide)] at H; exact H
        clear H
        have H := H1
        clear H1
        replace H := Option.bind_eq_some_iff.mp H
        obtain ⟨t127, A130, H⟩ := H
        replace H : (if t127 < 0 then (registry_Add.j1 kj2 l0 t127 (a1_1 != 1) a1_0 a1_1 l1_2) else (registry_Add.j1 kj2 l0 t127 false a1_0 a1_1 l1_2)) = some (r1, r2) := H
        have A13 := Aside0.mk A130
        clear A130
        have HC14 := Aside0.mk H
        clear H
        have hcz15_0 : wc.cell? ⟨gb124, 0, none⟩ = some (.string a1_0) := (blk_cell BK124.out 0).trans rfl
        have hcz15_1 : wc.cell? ⟨gb124, 1, none⟩ = some (.int .i64 a1_1) := (blk_cell BK124.out 1).trans rfl
        have hcz15_2 : wc.cell? ⟨gb124, 2, none⟩ = some (.slice A1_2 l1_2.length c1_2) := (blk_cell BK124.out 2).trans rfl
        have hfz15_0 := blk_frozen BK124.out 0
        have hfz15_1 := blk_frozen BK124.out 1
        have hfz15_2 := blk_frozen BK124.out 2
        go_upto_block 0 with (first | ((with_reducible refine gate_callee (f := 39) rfl ?_); refine goesL_ (some 21) rfl rfl Try.func39 (by kernel_rfl) rfl #[.slice A0 l0.length c0, .string a1_0] rfl (by (try simp only [List.map_toArray, List.map_cons, List.map_nil]); first | done | rfl | (simp only [List.length_drop, List.length_take]; rfl)) ?_; (with_reducible refine (registry_at.calls _ _ l0 a1_0 t127 _ ?side1 ?side2 A13.out).mono ?_); (case side1 => repeat (first | exact (Kd.C_below HR0.out HB.out) | (with_reducible refine Kd.C_alloc ?_ _) | (with_reducible refine Kd.C_drewN ?_ _) | (with_reducible refine Kd.C_drew ?_))); (case side2 => exact HC0.out); rintro e w16 ⟨rfl, hb⟩; refine ⟨_, rfl, ?_⟩; have n0_ := Aside0.mk (blk_below (g := gb124) (o := .cells #[.string a1_0, .int .i64 a1_1, .slice A1_2 l1_2.length c1_2] 25 (0, 0)) (by (with_reducible repeat (first | refine blk_drewN ?_ _ | refine blk_drew ?_ | refine blk_alloc ?_ _)); exact BK124.out) hb); have n1_ := Aside0.mk (below_step (by repeat (first | (with_reducible first | exact HB.out | apply below_alloc | apply pw_below_drewN | apply below_drew1 | refine below_set ?_ GE124.out) | exact HB.out)) hb); clear BK124; clear HB; have BK124 := n0_; have HB := n1_; clear n0_ n1_; (try clear hb); (try clear hb2); (try clear hk); (try clear hi)))
        (try simp only [Act.put, List.setIfInBounds_toArray, List.set_cons_zero, List.set_cons_succ])
        go_cut [] (fun wc => ∃ (kq : Nat), Aside0 (registry_Add.j4 kq l0 t127 a1_0 a1_1 l1_2 = some (r1, r2)) ∧ Aside0 (kq ≤ kj2) ∧ Aside0 (wc.heap[gb124]? = some (.cells #[.string a1_0, .int .i64 a1_1, (.slice A1_2 l1_2.length c1_2)] 25 (0, 0))) ∧ Aside0 (Below w.heap.size w wc))
        case first =>
          have H := HC14.out
          clear HC14
          have HC17 := Aside0.mk H
          clear H
          go_upto_region 4 with (fail)
          go_cut [22] (fun v22 wc => ∃ (kq : Nat) (x22_16 : Bool), v22 = .bool x22_16 ∧ Aside0 (registry_Add.j1 kq l0 t127 x22_16 a1_0 a1_1 l1_2 = some (r1, r2)) ∧ Aside0 (kq ≤ kj2) ∧ Aside0 (wc.heap[gb124]? = some (.cells #[.string a1_0, .int .i64 a1_1, (.slice A1_2 l1_2.length c1_2)] 25 (0, 0))) ∧ Aside0 (Below w.heap.size w wc))
          case first =>
            have H := HC17.out
            clear HC17
            by_cases c18 : t127 < 0
            · rw [if_pos c18] at H
              have c18b0 : decide (t127 < 0) = true := decide_eq_true c18
              clear c18
              (first | rw [c18b0] | (simp only [i64_w, i32_w]; rw [c18b0]) | skip)
              have H' := Aside0.mk H
              clear H
              have hcz19_0 : w16.cell? ⟨gb124, 0, none⟩ = some (.string a1_0) := (blk_cell BK124.out 0).trans rfl
              have hcz19_1 : w16.cell? ⟨gb124, 1, none⟩ = some (.int .i64 a1_1) := (blk_cell BK124.out 1).trans rfl
              have hcz19_2 : w16.cell? ⟨gb124, 2, none⟩ = some (.slice A1_2 l1_2.length c1_2) := (blk_cell BK124.out 2).trans rfl
              have hfz19_0 := blk_frozen BK124.out 0
              have hfz19_1 := blk_frozen BK124.out 1
              have hfz19_2 := blk_frozen BK124.out 2
              go_wp2
              go_meet
              case rel => exact ⟨_, ((a1_1 != 1)), (by first | rfl | (simp; done) | (simp [*]; done)), H', ⟨by have := HJ2.out; first | omega | exact Nat.le_refl _⟩, ⟨by (with_reducible repeat (first | refine blk_drewN ?_ _ | refine blk_drew ?_ | refine blk_alloc ?_ _)); exact BK124.out⟩, ⟨by repeat (first | (with_reducible first | exact HB.out | apply below_alloc | apply pw_below_drewN | apply below_drew1 | refine below_set ?_ GE124.out) | exact HB.out)⟩⟩
            · rw [if_neg c18] at H
              have c18b0 : decide (t127 < 0) = false := decide_eq_false c18
              clear c18
              (first | rw [c18b0] | (simp only [i64_w, i32_w]; rw [c18b0]) | skip)
              have H' := Aside0.mk H
              clear H
              go_wp2
              go_meet
              case rel => exact ⟨_, (false), (by first | rfl | (simp; done) | (simp [*]; done)), H', ⟨by have := HJ2.out; first | omega | exact Nat.le_refl _⟩, ⟨by (with_reducible repeat (first | refine blk_drewN ?_ _ | refine blk_drew ?_ | refine blk_alloc ?_ _)); exact BK124.out⟩, ⟨by repeat (first | (with_reducible first | exact HB.out | apply below_alloc | apply pw_below_drewN | apply below_drew1 | refine below_set ?_ GE124.out) | exact HB.out)⟩⟩
          case rest =>
            clear HC17
            try clear c1
            try clear c2
            try clear p2
            try clear c3
            try clear c6
            try clear c12
            try clear c18
            try clear c18b0
            try clear hcz15_0
            try clear hcz15_1
            try clear hcz15_2
            try clear hcz19_0
            try clear hcz19_1
            try clear hcz19_2
            try clear hcz9_0
            try clear hcz9_1
            try clear hcz9_2
            try clear hfz15_0
            try clear hfz15_1
            try clear hfz15_2
            try clear hfz19_0
            try clear hfz19_1
            try clear hfz19_2
            try clear hfz9_0
            try clear hfz9_1
            try clear hfz9_2
            try clear p2
            obtain ⟨kq, x22_16, rfl, HA, HJ16, BK124, HB⟩ := hcut
            cases kq with
            | zero => exact absurd HA.out (by simp [registry_Add.j1])
            | succ kj16 =>
              have H := HA.out
              clear HA
              simp only [registry_Add.j1] at H
              by_cases c20 : x22_16 = true
              · subst c20
                have H1 : (some (([] : List (SSchema)), 5)) = some (r1, r2) := by rw [if_pos rfl] at H; exact H
                clear H
                have H := H1
                clear H1
                simp only [Option.some.injEq, Prod.mk.injEq] at H
                obtain ⟨rfl, rfl⟩ := H
                go_wp2
                go_ret2
                exact ⟨_, by first | rfl | (simp [errW_none, errW_some] <;> rfl) | (simp [*, errW_none, errW_some] <;> rfl), by first | exact Kd.S_nil _ _ _ _ _ | exact Kd.N_nil _ _ _ _ _ | exact Kd.V_nil _ _ _ _ _ | exact Kd.Q_nil _ _ _ _ _ | exact Kd.R_nil _ _ _ _ _, by repeat (first | (with_reducible first | exact HB.out | apply below_alloc | apply pw_below_drewN | apply below_drew1 | refine below_set ?_ GE124.out) | exact HB.out)⟩
              · replace c20 := Bool.eq_false_iff.mpr c20
                subst c20
                have H1 : (if t127 < 0 then (registry_Add.j2 kj16 l0 t127 ((l0.length : Int) == 8) a1_0 a1_1 l1_2) else (registry_Add.j2 kj16 l0 t127 false a1_0 a1_1 l1_2)) = some (r1, r2) := by rw [if_neg (show ¬ (false = true) by decide)] at H; exact H
                clear H
                have H := H1
                clear H1
                have HC21 := Aside0.mk H
                clear H
                go_upto_region 6 with (fail)
                go_cut [30] (fun v30 wc => ∃ (kq : Nat) (x30_20 : Bool), v30 = .bool x30_20 ∧ Aside0 (registry_Add.j2 kq l0 t127 x30_20 a1_0 a1_1 l1_2 = some (r1, r2)) ∧ Aside0 (kq ≤ kj16) ∧ Aside0 (wc.heap[gb124]? = some (.cells #[.string a1_0, .int .i64 a1_1, (.slice A1_2 l1_2.length c1_2)] 25 (0, 0))) ∧ Aside0 (Below w.heap.size w wc))
                case first =>
                  have H := HC21.out
                  clear HC21
                  by_cases c22 : t127 < 0
                  · rw [if_pos c22] at H
                    have c22b0 : decide (t127 < 0) = true := decide_eq_true c22
                    clear c22
                    (first | rw [c22b0] | (simp only [i64_w, i32_w]; rw [c22b0]) | skip)
                    have H' := Aside0.mk H
                    clear H
                    go_wp2
                    go_meet
                    case rel => exact ⟨_, (((l0.length : Int) == 8)), (by first | rfl | (simp; done) | (simp [*]; done)), H', ⟨by have := HJ2.out; have := HJ16.out; first | omega | exact Nat.le_refl _⟩, ⟨by (with_reducible repeat (first | refine blk_drewN ?_ _ | refine blk_drew ?_ | refine blk_alloc ?_ _)); exact BK124.out⟩, ⟨by repeat (first | (with_reducible first | exact HB.out | apply below_alloc | apply pw_below_drewN | apply below_drew1 | refine below_set ?_ GE124.out) | exact HB.out)⟩⟩
                  · rw [if_neg c22] at H
                    have c22b0 : decide (t127 < 0) = false := decide_eq_false c22
                    clear c22
                    (first | rw [c22b0] | (simp only [i64_w, i32_w]; rw [c22b0]) | skip)
                    have H' := Aside0.mk H
                    clear H
                    go_wp2
                    go_meet
                    case rel => exact ⟨_, (false), (by first | rfl | (simp; done) | (simp [*]; done)), H', ⟨by have := HJ2.out; have := HJ16.out; first | omega | exact Nat.le_refl _⟩, ⟨by (with_reducible repeat (first | refine blk_drewN ?_ _ | refine blk_drew ?_ | refine blk_alloc ?_ _)); exact BK124.out⟩, ⟨by repeat (first | (with_reducible first | exact HB.out | apply below_alloc | apply pw_below_drewN | apply below_drew1 | refine below_set ?_ GE124.out) | exact HB.out)⟩⟩
                case rest =>
                  clear HC21
                  try clear c1
                  try clear c2
                  try clear p2
                  try clear c3
                  try clear c6
                  try clear c12
                  try clear c18
                  try clear c18b0
                  try clear c20
                  try clear c22
                  try clear c22b0
                  try clear hcz15_0
                  try clear hcz15_1
                  try clear hcz15_2
                  try clear hcz19_0
                  try clear hcz19_1
                  try clear hcz19_2
                  try clear hcz9_0
                  try clear hcz9_1
                  try clear hcz9_2
                  try clear hfz15_0
                  try clear hfz15_1
                  try clear hfz15_2
                  try clear hfz19_0
                  try clear hfz19_1
                  try clear hfz19_2
                  try clear hfz9_0
                  try clear hfz9_1
                  try clear hfz9_2
                  try clear p2
                  obtain ⟨kq, x30_20, rfl, HA, HJ20, BK124, HB⟩ := hcut
                  cases kq with
                  | zero => exact absurd HA.out (by simp [registry_Add.j2])
                  | succ kj20 =>
                    have H := HA.out
                    clear HA
                    simp only [registry_Add.j2] at H
                    by_cases c23 : x30_20 = true
                    · subst c23
                      have H1 : (some (([] : List (SSchema)), 7)) = some (r1, r2) := by rw [if_pos rfl] at H; exact H
                      clear H
                      have H := H1
                      clear H1
                      simp only [Option.some.injEq, Prod.mk.injEq] at H
                      obtain ⟨rfl, rfl⟩ := H
                      go_wp2
                      go_ret2
                      exact ⟨_, by first | rfl | (simp [errW_none, errW_some] <;> rfl) | (simp [*, errW_none, errW_some] <;> rfl), by first | exact Kd.S_nil _ _ _ _ _ | exact Kd.N_nil _ _ _ _ _ | exact Kd.V_nil _ _ _ _ _ | exact Kd.Q_nil _ _ _ _ _ | exact Kd.R_nil _ _ _ _ _, by repeat (first | (with_reducible first | exact HB.out | apply below_alloc | apply pw_below_drewN | apply below_drew1 | refine below_set ?_ GE124.out) | exact HB.out)⟩
                    · replace c23 := Bool.eq_false_iff.mpr c23
                      subst c23
                      have H1 : (if t127 ≥ 0 then (if 0 ≤ t127 then (if t127 < (l0.length : Int) then ((schema_Same.f kj20 ((rd_TSchema l0 t127).f0) ((rd_TSchema l0 t127).f1) ((rd_TSchema l0 t127).f2) a1_0 a1_1 l1_2).bind fun t129 => (registry_Add.j3 kj20 l0 t127 t129 a1_0 a1_1 l1_2)) else (none)) else (none)) else (registry_Add.j3 kj20 l0 t127 false a1_0 a1_1 l1_2)) = some (r1, r2) := by rw [if_neg (show ¬ (false = true) by decide)] at H; exact H
                      clear H
                      have H := H1
                      clear H1
                      have HC24 := Aside0.mk H
                      clear H
                      go_upto_region 8 with (fail)
                      go_cut [38] (fun v38 wc => ∃ (kq : Nat) (x38_23 : Bool), v38 = .bool x38_23 ∧ Aside0 (registry_Add.j3 kq l0 t127 x38_23 a1_0 a1_1 l1_2 = some (r1, r2)) ∧ Aside0 (kq ≤ kj20) ∧ Aside0 (wc.heap[gb124]? = some (.cells #[.string a1_0, .int .i64 a1_1, (.slice A1_2 l1_2.length c1_2)] 25 (0, 0))) ∧ Aside0 (Below w.heap.size w wc))
                      case first =>
                        have H := HC24.out
                        clear HC24
                        by_cases c25 : t127 ≥ 0
                        · rw [if_pos c25] at H
                          have c25b0 : decide (0 ≤ t127) = true := decide_eq_true c25
                          clear c25
                          (first | rw [c25b0] | (simp only [i64_w, i32_w]; rw [c25b0]) | skip)
                          by_cases c26 : 0 ≤ t127
                          · rw [if_pos c26] at H
                            have c26b0 : decide (0 ≤ t127) = true := decide_eq_true c26
                            clear c26
                            by_cases c27 : t127 < (l0.length : Int)
                            · rw [if_pos c27] at H
                              have c27b0 : decide (t127 < (l0.length : Int)) = true := decide_eq_true c27
                              clear c27
                              replace H := Option.bind_eq_some_iff.mp H
                              obtain ⟨t129, A280, H⟩ := H
                              replace H : (registry_Add.j3 kj20 l0 t127 t129 a1_0 a1_1 l1_2) = some (r1, r2) := H
                              have A28 := Aside0.mk A280
                              clear A280
                              have H' := Aside0.mk H
                              clear H
                              try go_wp2
                              have n0_ := Aside0.mk (blk_drew BK124.out)
                              have n1_ := Aside0.mk (below_drew1 HB.out)
                              clear BK124
                              clear HB
                              have BK124 := n0_
                              have HB := n1_
                              clear n0_ n1_
                              have p128 : 0 ≤ (t127 : Int) := of_decide_eq_true (by first | (with_reducible assumption) | assumption)
                              have q128 : t127 < (l0.length : Int) := of_decide_eq_true (by first | (with_reducible assumption) | assumption)
                              obtain ⟨ad128, A128_2, c128_2, e128, hx128_0, hx128_1, hx128_2, hl128_2, hi128_2⟩ := at_TSchema HR0.out t127 p128 q128
                              have hw128_2 := hx128_2
                              have hw128_1 := hx128_1
                              have hw128_0 := hx128_0
                              cases e128
                              replace hx128_0 := (HB.out.cell (World.block_lt_of_cell? w _ hx128_0)).trans hx128_0
                              replace hx128_1 := (HB.out.cell (World.block_lt_of_cell? w _ hx128_1)).trans hx128_1
                              replace hx128_2 := (HB.out.cell (World.block_lt_of_cell? w _ hx128_2)).trans hx128_2
                              have HR128_2 := Aside0.mk hi128_2
                              have HC128_2 := Aside0.mk hl128_2
                              clear hi128_2 hl128_2
                              replace p128 := eq_true p128
                              replace q128 := eq_true q128
                              refine start_ (n := 11) (S := fun w' => w'.cell? ⟨gb124, 0, none⟩ = some (.string a1_0) ∧ w'.cell? ⟨gb124, 1, none⟩ = some (.int .i64 a1_1) ∧ w'.cell? ⟨gb124, 2, none⟩ = some (.slice A1_2 l1_2.length c1_2) ∧ w'.cell? (ad128.add ((t127).toNat * 3)) = some (.string ((rd_TSchema l0 t127).f0)) ∧ w'.cell? ⟨(ad128.add ((t127).toNat * 3)).block, (ad128.add ((t127).toNat * 3)).off + 1, none⟩ = some (.int .i64 ((rd_TSchema l0 t127).f1)) ∧ w'.cell? ⟨(ad128.add ((t127).toNat * 3)).block, (ad128.add ((t127).toNat * 3)).off + 2, none⟩ = some (.slice A128_2 ((rd_TSchema l0 t127).f2).length c128_2)) (ds := []) #[false, false, false, false, false, false, false, false, false, false, false] (by kernel_rfl) rfl rfl ⟨(blk_cell BK124.out 0).trans rfl, (blk_cell BK124.out 1).trans rfl, (blk_cell BK124.out 2).trans rfl, ((HB.out.cell (World.block_lt_of_cell? w _ hw128_0)).trans hw128_0), ((HB.out.cell (World.block_lt_of_cell? w _ hw128_1)).trans hw128_1), ((HB.out.cell (World.block_lt_of_cell? w _ hw128_2)).trans hw128_2)⟩ (fun hHeld => ?_); refine with_tabW registry_Add.tab8 registry_Add.bits8 (fun HT_ HW_ => ?_)
                              generalize wc.drew = w29 at BK124 HB HR128_2 hx128_0 hx128_1 hx128_2 hHeld ⊢
                              refine pure_ (i := 0) (N := some 39) (v := ?_) (a' := ?_) #[true, false, false, false, false, false, false, false, false, false, false] rfl rfl (any_of HT_.out (by kernel_rfl)) (fun _ _ _ h => h) (Or.inl ⟨by rfl, ?_⟩) ?_ ?_
                              rotate_left
                              · intro w'
                                go_simp
                                with_reducible rfl
                              rotate_left
                              · simp only [Act.put, List.setIfInBounds_toArray, List.set_cons_zero, List.set_cons_succ, i64_w, i32_w]
                                rfl
                              refine pure_ (i := 1) (N := some 40) (v := ?_) (a' := ?_) #[true, true, false, false, false, false, false, false, false, false, false] rfl rfl (any_of HT_.out (by kernel_rfl)) (fun _ _ _ h => h) (Or.inl ⟨by rfl, ?_⟩) ?_ ?_
                              rotate_left
                              · intro w'
                                go_simp
                                with_reducible rfl
                              rotate_left
                              · simp only [Act.put, List.setIfInBounds_toArray, List.set_cons_zero, List.set_cons_succ, i64_w, i32_w]
                                rfl
                              refine pure_ (i := 2) (N := some 41) (v := ?_) (a' := ?_) #[true, true, true, false, false, false, false, false, false, false, false] rfl rfl (any_of HT_.out (by kernel_rfl)) (fun _ _ _ h => h) (Or.inl ⟨by rfl, ?_⟩) ?_ ?_
                              rotate_left
                              · intro w'
                                go_simp
                                with_reducible rfl
                              rotate_left
                              · simp only [Act.put, List.setIfInBounds_toArray, List.set_cons_zero, List.set_cons_succ, i64_w, i32_w]
                                rfl
                              refine pure_ (i := 3) (N := some 42) (v := ?_) (a' := ?_) #[true, true, true, true, false, false, false, false, false, false, false] rfl rfl (any_of HT_.out (by kernel_rfl)) (fun _ _ _ h => h) (Or.inl ⟨by rfl, ?_⟩) ?_ ?_
                              rotate_left
                              · intro w'
                                go_simp
                                with_reducible rfl
                              rotate_left
                              · simp only [Act.put, List.setIfInBounds_toArray, List.set_cons_zero, List.set_cons_succ, i64_w, i32_w]
                                rfl
                              refine pure_ (i := 4) (N := some 43) (v := ?_) (a' := ?_) #[true, true, true, true, true, false, false, false, false, false, false] rfl rfl (any_of HT_.out (by kernel_rfl)) (fun _ _ _ h => h) (Or.inl ⟨by rfl, ?_⟩) ?_ ?_
                              rotate_left
                              · intro w'
                                go_simp
                                with_reducible rfl
                              rotate_left
                              · simp only [Act.put, List.setIfInBounds_toArray, List.set_cons_zero, List.set_cons_succ, i64_w, i32_w]
                                rfl
                              refine pure_ (i := 5) (N := some 44) (v := ?_) (a' := ?_) #[true, true, true, true, true, true, false, false, false, false, false] rfl rfl (any_of HT_.out (by kernel_rfl)) (fun _ _ _ h => h) (Or.inl ⟨by rfl, ?_⟩) ?_ ?_
                              rotate_left
                              · intro w'
                                go_simp
                                with_reducible rfl
                              rotate_left
                              · simp only [Act.put, List.setIfInBounds_toArray, List.set_cons_zero, List.set_cons_succ, i64_w, i32_w]
                                rfl
                              refine take_ (i := 6) (N := some 45) (v := ?_) (a' := ?_) #[true, true, true, true, true, true, true, false, false, false, false] rfl rfl (take_ofW HT_.out HW_.out (by kernel_rfl)) (fun _ _ _ h => h) (Or.inl ⟨by rfl, ?_⟩) hHeld ?_ ?_
                              rotate_left
                              · rintro w' ⟨s0, s1, s2, s3, s4, s5⟩
                                go_simp
                                with_reducible rfl
                              rotate_left
                              · simp only [Act.put, List.setIfInBounds_toArray, List.set_cons_zero, List.set_cons_succ, i64_w, i32_w]
                                rfl
                              refine take_ (i := 7) (N := some 46) (v := ?_) (a' := ?_) #[true, true, true, true, true, true, true, true, false, false, false] rfl rfl (take_ofW HT_.out HW_.out (by kernel_rfl)) (fun _ _ _ h => h) (Or.inl ⟨by rfl, ?_⟩) hHeld ?_ ?_
                              rotate_left
                              · rintro w' ⟨s0, s1, s2, s3, s4, s5⟩
                                go_simp
                                with_reducible rfl
                              rotate_left
                              · simp only [Act.put, List.setIfInBounds_toArray, List.set_cons_zero, List.set_cons_succ, i64_w, i32_w]
                                rfl
                              refine one_ (i := 8) (N := some 47) #[true, true, true, true, true, true, true, true, true, false, false] rfl rfl (one_of HT_.out (by kernel_rfl)) (by decide) (fun K hK => ?_)
                              refine goes_ Try.func27 (by kernel_rfl) rfl #[.agg #[.string ((rd_TSchema l0 t127).f0), .int .i64 ((rd_TSchema l0 t127).f1), .slice A128_2 ((rd_TSchema l0 t127).f2).length c128_2], .agg #[.string a1_0, .int .i64 a1_1, .slice A1_2 l1_2.length c1_2]] (by rfl) rfl rfl (by (try simp only [List.map_toArray, List.map_cons, List.map_nil]); first | done | rfl | (simp only [List.length_drop, List.length_take]; rfl)) ?_
                              with_reducible refine (schema_Same.calls kj20 ((rd_TSchema l0 t127).f0) ((rd_TSchema l0 t127).f1) _ _ ((rd_TSchema l0 t127).f2) a1_0 a1_1 _ _ l1_2 t129 _ ?side1 ?side2 ?side3 ?side4 A28.out).mono ?_
                              (case side1 => repeat (first | exact (Kd.C_below HR128_2.out HB.out) | (with_reducible refine Kd.C_alloc ?_ _) | (with_reducible refine Kd.C_drewN ?_ _) | (with_reducible refine Kd.C_drew ?_)))
                              (case side2 => exact HC128_2.out)
                              (case side3 => repeat (first | exact (Kd.C_below HR1_2.out HB.out) | (with_reducible refine Kd.C_alloc ?_ _) | (with_reducible refine Kd.C_drewN ?_ _) | (with_reducible refine Kd.C_drew ?_)))
                              (case side4 => exact HC1_2.out)
                              rintro e w30 ⟨rfl, hb⟩
                              refine ⟨_, rfl, ?_⟩
                              have n0_ := Aside0.mk (blk_below (g := gb124) (o := .cells #[.string a1_0, .int .i64 a1_1, .slice A1_2 l1_2.length c1_2] 25 (0, 0)) (by (with_reducible repeat (first | refine blk_drewN ?_ _ | refine blk_drew ?_ | refine blk_alloc ?_ _)); exact BK124.out) hb)
                              have n1_ := Aside0.mk (below_step (by repeat (first | (with_reducible first | exact HB.out | apply below_alloc | apply pw_below_drewN | apply below_drew1 | refine below_set ?_ GE124.out) | exact HB.out)) hb)
                              clear BK124
                              clear HB
                              have BK124 := n0_
                              have HB := n1_
                              clear n0_ n1_
                              (try clear hb)
                              (try clear hb2)
                              (try clear hk)
                              (try clear hi)
                              refine hK.out _ _ ⟨(blk_cell BK124.out 0).trans rfl, (blk_cell BK124.out 1).trans rfl, (blk_cell BK124.out 2).trans rfl, ((HB.out.cell (World.block_lt_of_cell? w _ hw128_0)).trans hw128_0), ((HB.out.cell (World.block_lt_of_cell? w _ hw128_1)).trans hw128_1), ((HB.out.cell (World.block_lt_of_cell? w _ hw128_2)).trans hw128_2)⟩ (fun hHeld => ?_)
                              clear hK K
                              refine norm_ (a' := ?_) ?_ ?_
                              rotate_left
                              · show Act.put _ (some 47) _ = _
                                simp only [Act.put, List.setIfInBounds_toArray, List.set_cons_zero, List.set_cons_succ, i64_w, i32_w]
                                rfl
                              refine pure_ (i := 9) (N := some 48) (v := ?_) (a' := ?_) #[true, true, true, true, true, true, true, true, true, true, false] rfl rfl (any_of HT_.out (by kernel_rfl)) (fun _ _ _ h => h) (Or.inl ⟨by rfl, ?_⟩) ?_ ?_
                              rotate_left
                              · intro w'
                                go_simp
                                with_reducible rfl
                              rotate_left
                              · simp only [Act.put, List.setIfInBounds_toArray, List.set_cons_zero, List.set_cons_succ, i64_w, i32_w]
                                rfl
                              refine pure_ (i := 10) (N := some 38) (v := ?_) (a' := ?_) #[true, true, true, true, true, true, true, true, true, true, true] rfl rfl (any_of HT_.out (by kernel_rfl)) (fun _ _ _ h => h) (Or.inl ⟨by rfl, ?_⟩) ?_ ?_
                              rotate_left
                              · intro w'
                                go_simp
                                with_reducible rfl
                              rotate_left
                              · simp only [Act.put, List.setIfInBounds_toArray, List.set_cons_zero, List.set_cons_succ, i64_w, i32_w]
                                rfl
                              refine done_ (done_of HT_.out (by kernel_rfl)) ?_
                              try go_wp2
                              go_meet
                              case rel => exact ⟨_, (t129), (by first | rfl | (simp; done) | (simp [*]; done)), H', ⟨by have := HJ2.out; have := HJ16.out; have := HJ20.out; first | omega | exact Nat.le_refl _⟩, ⟨by (with_reducible repeat (first | refine blk_drewN ?_ _ | refine blk_drew ?_ | refine blk_alloc ?_ _)); exact BK124.out⟩, ⟨by repeat (first | (with_reducible first | exact HB.out | apply below_alloc | apply pw_below_drewN | apply below_drew1 | refine below_set ?_ GE124.out) | exact HB.out)⟩⟩
                            · rw [if_neg c27] at H
                              exact absurd H (by simp)
                          · rw [if_neg c26] at H
                            exact absurd H (by simp)
                        · rw [if_neg c25] at H
                          have c25b0 : decide (0 ≤ t127) = false := decide_eq_false c25
                          clear c25
                          (first | rw [c25b0] | (simp only [i64_w, i32_w]; rw [c25b0]) | skip)
                          have H' := Aside0.mk H
                          clear H
                          try go_wp2
                          have n0_ := Aside0.mk (blk_drew BK124.out)
                          have n1_ := Aside0.mk (below_drew1 HB.out)
                          clear BK124
                          clear HB
                          have BK124 := n0_
                          have HB := n1_
                          clear n0_ n1_
                          refine start_ (n := 11) (S := fun w' => True) (ds := []) #[false, false, false, false, false, false, false, false, false, false, false] (by kernel_rfl) rfl rfl trivial (fun hHeld => ?_); refine with_tabW registry_Add.tab8 registry_Add.bits8 (fun HT_ HW_ => ?_)
                          generalize wc.drew = w31 at BK124 HB hHeld ⊢
                          refine pure_ (i := 0) (N := some 39) (v := ?_) (a' := ?_) #[true, false, false, false, false, false, false, false, false, false, false] rfl rfl (any_of HT_.out (by kernel_rfl)) (fun _ _ _ h => h) (Or.inl ⟨by rfl, ?_⟩) ?_ ?_
                          rotate_left
                          · intro w'
                            go_simp
                            with_reducible rfl
                          rotate_left
                          · simp only [Act.put, List.setIfInBounds_toArray, List.set_cons_zero, List.set_cons_succ, i64_w, i32_w]
                            rfl
                          refine pure_ (i := 1) (N := some 40) (v := ?_) (a' := ?_) #[true, true, false, false, false, false, false, false, false, false, false] rfl rfl (any_of HT_.out (by kernel_rfl)) (fun _ _ _ h => h) (Or.inl ⟨by rfl, ?_⟩) ?_ ?_
                          rotate_left
                          · intro w'
                            go_simp
                            with_reducible rfl
                          rotate_left
                          · simp only [Act.put, List.setIfInBounds_toArray, List.set_cons_zero, List.set_cons_succ, i64_w, i32_w]
                            rfl
                          refine pure_ (i := 2) (N := some 41) (v := ?_) (a' := ?_) #[true, true, true, false, false, false, false, false, false, false, false] rfl rfl (any_of HT_.out (by kernel_rfl)) (fun _ _ _ h => h) (Or.inl ⟨by rfl, ?_⟩) ?_ ?_
                          rotate_left
                          · intro w'
                            go_simp
                            with_reducible rfl
                          rotate_left
                          · simp only [Act.put, List.setIfInBounds_toArray, List.set_cons_zero, List.set_cons_succ, i64_w, i32_w]
                            rfl
                          refine pure_ (i := 3) (N := some 42) (v := undef) (a' := ?_) #[true, true, true, true, false, false, false, false, false, false, false] rfl rfl (any_of HT_.out (by kernel_rfl)) (fun _ _ _ h => h) (Or.inr ⟨by rfl, rfl⟩) ?_ ?_
                          rotate_left
                          · simp only [Act.put, List.setIfInBounds_toArray, List.set_cons_zero, List.set_cons_succ, i64_w, i32_w]
                            rfl
                          refine pure_ (i := 4) (N := some 43) (v := undef) (a' := ?_) #[true, true, true, true, true, false, false, false, false, false, false] rfl rfl (any_of HT_.out (by kernel_rfl)) (fun _ _ _ h => h) (Or.inr ⟨by rfl, rfl⟩) ?_ ?_
                          rotate_left
                          · simp only [Act.put, List.setIfInBounds_toArray, List.set_cons_zero, List.set_cons_succ, i64_w, i32_w]
                            rfl
                          refine pure_ (i := 5) (N := some 44) (v := undef) (a' := ?_) #[true, true, true, true, true, true, false, false, false, false, false] rfl rfl (any_of HT_.out (by kernel_rfl)) (fun _ _ _ h => h) (Or.inr ⟨by rfl, rfl⟩) ?_ ?_
                          rotate_left
                          · simp only [Act.put, List.setIfInBounds_toArray, List.set_cons_zero, List.set_cons_succ, i64_w, i32_w]
                            rfl
                          refine pure_ (i := 6) (N := some 45) (v := undef) (a' := ?_) #[true, true, true, true, true, true, true, false, false, false, false] rfl rfl (any_of HT_.out (by kernel_rfl)) (fun _ _ _ h => h) (Or.inr ⟨by rfl, rfl⟩) ?_ ?_
                          rotate_left
                          · simp only [Act.put, List.setIfInBounds_toArray, List.set_cons_zero, List.set_cons_succ, i64_w, i32_w]
                            rfl
                          refine pure_ (i := 7) (N := some 46) (v := undef) (a' := ?_) #[true, true, true, true, true, true, true, true, false, false, false] rfl rfl (any_of HT_.out (by kernel_rfl)) (fun _ _ _ h => h) (Or.inr ⟨by rfl, rfl⟩) ?_ ?_
                          rotate_left
                          · simp only [Act.put, List.setIfInBounds_toArray, List.set_cons_zero, List.set_cons_succ, i64_w, i32_w]
                            rfl
                          refine pure_ (i := 8) (N := some 47) (v := undef) (a' := ?_) #[true, true, true, true, true, true, true, true, true, false, false] rfl rfl (any_of HT_.out (by kernel_rfl)) (fun _ _ _ h => h) (Or.inr ⟨by rfl, rfl⟩) ?_ ?_
                          rotate_left
                          · simp only [Act.put, List.setIfInBounds_toArray, List.set_cons_zero, List.set_cons_succ, i64_w, i32_w]
                            rfl
                          refine pure_ (i := 9) (N := some 48) (v := ?_) (a' := ?_) #[true, true, true, true, true, true, true, true, true, true, false] rfl rfl (any_of HT_.out (by kernel_rfl)) (fun _ _ _ h => h) (Or.inl ⟨by rfl, ?_⟩) ?_ ?_
                          rotate_left
                          · intro w'
                            go_simp
                            with_reducible rfl
                          rotate_left
                          · simp only [Act.put, List.setIfInBounds_toArray, List.set_cons_zero, List.set_cons_succ, i64_w, i32_w]
                            rfl
                          refine pure_ (i := 10) (N := some 38) (v := ?_) (a' := ?_) #[true, true, true, true, true, true, true, true, true, true, true] rfl rfl (any_of HT_.out (by kernel_rfl)) (fun _ _ _ h => h) (Or.inl ⟨by rfl, ?_⟩) ?_ ?_
                          rotate_left
                          · intro w'
                            go_simp
                            with_reducible rfl
                          rotate_left
                          · simp only [Act.put, List.setIfInBounds_toArray, List.set_cons_zero, List.set_cons_succ, i64_w, i32_w]
                            rfl
                          refine done_ (done_of HT_.out (by kernel_rfl)) ?_
                          try go_wp2
                          go_meet
                          case rel => exact ⟨_, (false), (by first | rfl | (simp; done) | (simp [*]; done)), H', ⟨by have := HJ2.out; have := HJ16.out; have := HJ20.out; first | omega | exact Nat.le_refl _⟩, ⟨by (with_reducible repeat (first | refine blk_drewN ?_ _ | refine blk_drew ?_ | refine blk_alloc ?_ _)); exact BK124.out⟩, ⟨by repeat (first | (with_reducible first | exact HB.out | apply below_alloc | apply pw_below_drewN | apply below_drew1 | refine below_set ?_ GE124.out) | exact HB.out)⟩⟩
                      case rest =>
                        clear HC24
                        try clear c1
                        try clear p1
                        try clear q1
                        try clear hx1
                        try clear c2
                        try clear p2
                        try clear c3
                        try clear c6
                        try clear c12
                        try clear p12
                        try clear q12
                        try clear hx12
                        try clear c18
                        try clear c18b0
                        try clear c20
                        try clear c22
                        try clear c22b0
                        try clear c23
                        try clear c25
                        try clear c25b0
                        try clear c26
                        try clear c26b0
                        try clear c27
                        try clear c27b0
                        try clear hcz15_0
                        try clear hcz15_1
                        try clear hcz15_2
                        try clear hcz19_0
                        try clear hcz19_1
                        try clear hcz19_2
                        try clear hcz9_0
                        try clear hcz9_1
                        try clear hcz9_2
                        try clear hfz15_0
                        try clear hfz15_1
                        try clear hfz15_2
                        try clear hfz19_0
                        try clear hfz19_1
                        try clear hfz19_2
                        try clear hfz9_0
                        try clear hfz9_1
                        try clear hfz9_2
                        try clear hx128_0
                        try clear hx128_1
                        try clear hx128_2
                        try clear p128
                        try clear p2
                        try clear q128
                        obtain ⟨kq, x38_23, rfl, HA, HJ23, BK124, HB⟩ := hcut
                        cases kq with
                        | zero => exact absurd HA.out (by simp [registry_Add.j3])
                        | succ kj23 =>
                          have H := HA.out
                          clear HA
                          simp only [registry_Add.j3] at H
                          by_cases c32 : x38_23 = true
                          · subst c32
                            have H1 : (some (([] : List (SSchema)), 4)) = some (r1, r2) := by rw [if_pos rfl] at H; exact H
                            clear H
                            have H := H1
                            clear H1
                            simp only [Option.some.injEq, Prod.mk.injEq] at H
                            obtain ⟨rfl, rfl⟩ := H
                            go_wp2
                            go_ret2
                            exact ⟨_, by first | rfl | (simp [errW_none, errW_some] <;> rfl) | (simp [*, errW_none, errW_some] <;> rfl), by first | exact Kd.S_nil _ _ _ _ _ | exact Kd.N_nil _ _ _ _ _ | exact Kd.V_nil _ _ _ _ _ | exact Kd.Q_nil _ _ _ _ _ | exact Kd.R_nil _ _ _ _ _, by repeat (first | (with_reducible first | exact HB.out | apply below_alloc | apply pw_below_drewN | apply below_drew1 | refine below_set ?_ GE124.out) | exact HB.out)⟩
                          · replace c32 := Bool.eq_false_iff.mpr c32
                            subst c32
                            have H1 : (if t127 ≥ 0 then (if 0 ≤ t127 then (if t127 < (l0.length : Int) then ((schema_Fits.f kj23 ((rd_TSchema l0 t127).f0) ((rd_TSchema l0 t127).f1) ((rd_TSchema l0 t127).f2) a1_0 a1_1 l1_2).bind fun t131 => (if t131 = true then (registry_Add.j4 kj23 l0 t127 a1_0 a1_1 l1_2) else (some (([] : List (SSchema)), 5)))) else (none)) else (none)) else (registry_Add.j4 kj23 l0 t127 a1_0 a1_1 l1_2)) = some (r1, r2) := by rw [if_neg (show ¬ (false = true) by decide)] at H; exact H
                            clear H
                            have H := H1
                            clear H1
                            by_cases c33 : t127 ≥ 0
                            · rw [if_pos c33] at H
                              have c33b0 : decide (0 ≤ t127) = true := decide_eq_true c33
                              clear c33
                              by_cases c34 : 0 ≤ t127
                              · rw [if_pos c34] at H
                                have c34b0 : decide (0 ≤ t127) = true := decide_eq_true c34
                                clear c34
                                by_cases c35 : t127 < (l0.length : Int)
                                · rw [if_pos c35] at H
                                  have c35b0 : decide (t127 < (l0.length : Int)) = true := decide_eq_true c35
                                  clear c35
                                  replace H := Option.bind_eq_some_iff.mp H
                                  obtain ⟨t131, A360, H⟩ := H
                                  replace H : (if t131 = true then (registry_Add.j4 kj23 l0 t127 a1_0 a1_1 l1_2) else (some (([] : List (SSchema)), 5))) = some (r1, r2) := H
                                  have A36 := Aside0.mk A360
                                  clear A360
                                  by_cases c37 : t131 = true
                                  · subst c37
                                    have H1 : (registry_Add.j4 kj23 l0 t127 a1_0 a1_1 l1_2) = some (r1, r2) := by rw [if_pos rfl] at H; exact H
                                    clear H
                                    have H := H1
                                    clear H1
                                    have H' := Aside0.mk H
                                    clear H
                                    try go_wp2
                                    have n0_ := Aside0.mk (blk_drew BK124.out)
                                    have n1_ := Aside0.mk (below_drew1 HB.out)
                                    clear BK124
                                    clear HB
                                    have BK124 := n0_
                                    have HB := n1_
                                    clear n0_ n1_
                                    have p130 : 0 ≤ (t127 : Int) := of_decide_eq_true (by first | (with_reducible assumption) | assumption)
                                    have q130 : t127 < (l0.length : Int) := of_decide_eq_true (by first | (with_reducible assumption) | assumption)
                                    obtain ⟨ad130, A130_2, c130_2, e130, hx130_0, hx130_1, hx130_2, hl130_2, hi130_2⟩ := at_TSchema HR0.out t127 p130 q130
                                    have hw130_2 := hx130_2
                                    have hw130_1 := hx130_1
                                    have hw130_0 := hx130_0
                                    cases e130
                                    replace hx130_0 := (HB.out.cell (World.block_lt_of_cell? w _ hx130_0)).trans hx130_0
                                    replace hx130_1 := (HB.out.cell (World.block_lt_of_cell? w _ hx130_1)).trans hx130_1
                                    replace hx130_2 := (HB.out.cell (World.block_lt_of_cell? w _ hx130_2)).trans hx130_2
                                    have HR130_2 := Aside0.mk hi130_2
                                    have HC130_2 := Aside0.mk hl130_2
                                    clear hi130_2 hl130_2
                                    replace p130 := eq_true p130
                                    replace q130 := eq_true q130
                                    refine start_ (n := 12) (S := fun w' => w'.cell? ⟨gb124, 0, none⟩ = some (.string a1_0) ∧ w'.cell? ⟨gb124, 1, none⟩ = some (.int .i64 a1_1) ∧ w'.cell? ⟨gb124, 2, none⟩ = some (.slice A1_2 l1_2.length c1_2) ∧ w'.cell? (ad130.add ((t127).toNat * 3)) = some (.string ((rd_TSchema l0 t127).f0)) ∧ w'.cell? ⟨(ad130.add ((t127).toNat * 3)).block, (ad130.add ((t127).toNat * 3)).off + 1, none⟩ = some (.int .i64 ((rd_TSchema l0 t127).f1)) ∧ w'.cell? ⟨(ad130.add ((t127).toNat * 3)).block, (ad130.add ((t127).toNat * 3)).off + 2, none⟩ = some (.slice A130_2 ((rd_TSchema l0 t127).f2).length c130_2)) (ds := []) #[false, false, false, false, false, false, false, false, false, false, false, false] (by kernel_rfl) rfl rfl ⟨(blk_cell BK124.out 0).trans rfl, (blk_cell BK124.out 1).trans rfl, (blk_cell BK124.out 2).trans rfl, ((HB.out.cell (World.block_lt_of_cell? w _ hw130_0)).trans hw130_0), ((HB.out.cell (World.block_lt_of_cell? w _ hw130_1)).trans hw130_1), ((HB.out.cell (World.block_lt_of_cell? w _ hw130_2)).trans hw130_2)⟩ (fun hHeld => ?_); refine with_tabW registry_Add.tab10 registry_Add.bits10 (fun HT_ HW_ => ?_)
                                    generalize wc.drew = w38 at BK124 HB HR130_2 hx130_0 hx130_1 hx130_2 hHeld ⊢
                                    refine pure_ (i := 0) (N := some 50) (v := ?_) (a' := ?_) #[true, false, false, false, false, false, false, false, false, false, false, false] rfl rfl (any_of HT_.out (by kernel_rfl)) (fun _ _ _ h => h) (Or.inl ⟨by rfl, ?_⟩) ?_ ?_
                                    rotate_left
                                    · intro w'
                                      go_simp
                                      with_reducible rfl
                                    rotate_left
                                    · simp only [Act.put, List.setIfInBounds_toArray, List.set_cons_zero, List.set_cons_succ, i64_w, i32_w]
                                      rfl
                                    refine pure_ (i := 1) (N := some 51) (v := ?_) (a' := ?_) #[true, true, false, false, false, false, false, false, false, false, false, false] rfl rfl (any_of HT_.out (by kernel_rfl)) (fun _ _ _ h => h) (Or.inl ⟨by rfl, ?_⟩) ?_ ?_
                                    rotate_left
                                    · intro w'
                                      go_simp
                                      with_reducible rfl
                                    rotate_left
                                    · simp only [Act.put, List.setIfInBounds_toArray, List.set_cons_zero, List.set_cons_succ, i64_w, i32_w]
                                      rfl
                                    refine pure_ (i := 2) (N := some 52) (v := ?_) (a' := ?_) #[true, true, true, false, false, false, false, false, false, false, false, false] rfl rfl (any_of HT_.out (by kernel_rfl)) (fun _ _ _ h => h) (Or.inl ⟨by rfl, ?_⟩) ?_ ?_
                                    rotate_left
                                    · intro w'
                                      go_simp
                                      with_reducible rfl
                                    rotate_left
                                    · simp only [Act.put, List.setIfInBounds_toArray, List.set_cons_zero, List.set_cons_succ, i64_w, i32_w]
                                      rfl
                                    refine pure_ (i := 3) (N := some 53) (v := ?_) (a' := ?_) #[true, true, true, true, false, false, false, false, false, false, false, false] rfl rfl (any_of HT_.out (by kernel_rfl)) (fun _ _ _ h => h) (Or.inl ⟨by rfl, ?_⟩) ?_ ?_
                                    rotate_left
                                    · intro w'
                                      go_simp
                                      with_reducible rfl
                                    rotate_left
                                    · simp only [Act.put, List.setIfInBounds_toArray, List.set_cons_zero, List.set_cons_succ, i64_w, i32_w]
                                      rfl
                                    refine pure_ (i := 4) (N := some 54) (v := ?_) (a' := ?_) #[true, true, true, true, true, false, false, false, false, false, false, false] rfl rfl (any_of HT_.out (by kernel_rfl)) (fun _ _ _ h => h) (Or.inl ⟨by rfl, ?_⟩) ?_ ?_
                                    rotate_left
                                    · intro w'
                                      go_simp
                                      with_reducible rfl
                                    rotate_left
                                    · simp only [Act.put, List.setIfInBounds_toArray, List.set_cons_zero, List.set_cons_succ, i64_w, i32_w]
                                      rfl
                                    refine pure_ (i := 5) (N := some 55) (v := ?_) (a' := ?_) #[true, true, true, true, true, true, false, false, false, false, false, false] rfl rfl (any_of HT_.out (by kernel_rfl)) (fun _ _ _ h => h) (Or.inl ⟨by rfl, ?_⟩) ?_ ?_
                                    rotate_left
                                    · intro w'
                                      go_simp
                                      with_reducible rfl
                                    rotate_left
                                    · simp only [Act.put, List.setIfInBounds_toArray, List.set_cons_zero, List.set_cons_succ, i64_w, i32_w]
                                      rfl
                                    refine take_ (i := 6) (N := some 56) (v := ?_) (a' := ?_) #[true, true, true, true, true, true, true, false, false, false, false, false] rfl rfl (take_ofW HT_.out HW_.out (by kernel_rfl)) (fun _ _ _ h => h) (Or.inl ⟨by rfl, ?_⟩) hHeld ?_ ?_
                                    rotate_left
                                    · rintro w' ⟨s0, s1, s2, s3, s4, s5⟩
                                      go_simp
                                      with_reducible rfl
                                    rotate_left
                                    · simp only [Act.put, List.setIfInBounds_toArray, List.set_cons_zero, List.set_cons_succ, i64_w, i32_w]
                                      rfl
                                    refine take_ (i := 7) (N := some 57) (v := ?_) (a' := ?_) #[true, true, true, true, true, true, true, true, false, false, false, false] rfl rfl (take_ofW HT_.out HW_.out (by kernel_rfl)) (fun _ _ _ h => h) (Or.inl ⟨by rfl, ?_⟩) hHeld ?_ ?_
                                    rotate_left
                                    · rintro w' ⟨s0, s1, s2, s3, s4, s5⟩
                                      go_simp
                                      with_reducible rfl
                                    rotate_left
                                    · simp only [Act.put, List.setIfInBounds_toArray, List.set_cons_zero, List.set_cons_succ, i64_w, i32_w]
                                      rfl
                                    refine one_ (i := 8) (N := some 58) #[true, true, true, true, true, true, true, true, true, false, false, false] rfl rfl (one_of HT_.out (by kernel_rfl)) (by decide) (fun K hK => ?_)
                                    refine goes_ Try.func38 (by kernel_rfl) rfl #[.agg #[.string ((rd_TSchema l0 t127).f0), .int .i64 ((rd_TSchema l0 t127).f1), .slice A130_2 ((rd_TSchema l0 t127).f2).length c130_2], .agg #[.string a1_0, .int .i64 a1_1, .slice A1_2 l1_2.length c1_2]] (by rfl) rfl rfl (by (try simp only [List.map_toArray, List.map_cons, List.map_nil]); first | done | rfl | (simp only [List.length_drop, List.length_take]; rfl)) ?_
                                    with_reducible refine (schema_Fits.calls kj23 ((rd_TSchema l0 t127).f0) ((rd_TSchema l0 t127).f1) _ _ ((rd_TSchema l0 t127).f2) a1_0 a1_1 _ _ l1_2 true _ ?side1 ?side2 ?side3 ?side4 A36.out).mono ?_
                                    (case side1 => repeat (first | exact (Kd.C_below HR130_2.out HB.out) | (with_reducible refine Kd.C_alloc ?_ _) | (with_reducible refine Kd.C_drewN ?_ _) | (with_reducible refine Kd.C_drew ?_)))
                                    (case side2 => exact HC130_2.out)
                                    (case side3 => repeat (first | exact (Kd.C_below HR1_2.out HB.out) | (with_reducible refine Kd.C_alloc ?_ _) | (with_reducible refine Kd.C_drewN ?_ _) | (with_reducible refine Kd.C_drew ?_)))
                                    (case side4 => exact HC1_2.out)
                                    rintro e w39 ⟨rfl, hb⟩
                                    refine ⟨_, rfl, ?_⟩
                                    have n0_ := Aside0.mk (blk_below (g := gb124) (o := .cells #[.string a1_0, .int .i64 a1_1, .slice A1_2 l1_2.length c1_2] 25 (0, 0)) (by (with_reducible repeat (first | refine blk_drewN ?_ _ | refine blk_drew ?_ | refine blk_alloc ?_ _)); exact BK124.out) hb)
                                    have n1_ := Aside0.mk (below_step (by repeat (first | (with_reducible first | exact HB.out | apply below_alloc | apply pw_below_drewN | apply below_drew1 | refine below_set ?_ GE124.out) | exact HB.out)) hb)
                                    clear BK124
                                    clear HB
                                    have BK124 := n0_
                                    have HB := n1_
                                    clear n0_ n1_
                                    (try clear hb)
                                    (try clear hb2)
                                    (try clear hk)
                                    (try clear hi)
                                    refine hK.out _ _ ⟨(blk_cell BK124.out 0).trans rfl, (blk_cell BK124.out 1).trans rfl, (blk_cell BK124.out 2).trans rfl, ((HB.out.cell (World.block_lt_of_cell? w _ hw130_0)).trans hw130_0), ((HB.out.cell (World.block_lt_of_cell? w _ hw130_1)).trans hw130_1), ((HB.out.cell (World.block_lt_of_cell? w _ hw130_2)).trans hw130_2)⟩ (fun hHeld => ?_)
                                    clear hK K
                                    refine norm_ (a' := ?_) ?_ ?_
                                    rotate_left
                                    · show Act.put _ (some 58) _ = _
                                      simp only [Act.put, List.setIfInBounds_toArray, List.set_cons_zero, List.set_cons_succ, i64_w, i32_w]
                                      rfl
                                    refine pure_ (i := 9) (N := some 59) (v := ?_) (a' := ?_) #[true, true, true, true, true, true, true, true, true, true, false, false] rfl rfl (any_of HT_.out (by kernel_rfl)) (fun _ _ _ h => h) (Or.inl ⟨by rfl, ?_⟩) ?_ ?_
                                    rotate_left
                                    · intro w'
                                      go_simp
                                      with_reducible rfl
                                    rotate_left
                                    · simp only [Act.put, List.setIfInBounds_toArray, List.set_cons_zero, List.set_cons_succ, i64_w, i32_w]
                                      rfl
                                    refine pure_ (i := 10) (N := some 60) (v := ?_) (a' := ?_) #[true, true, true, true, true, true, true, true, true, true, true, false] rfl rfl (any_of HT_.out (by kernel_rfl)) (fun _ _ _ h => h) (Or.inl ⟨by rfl, ?_⟩) ?_ ?_
                                    rotate_left
                                    · intro w'
                                      go_simp
                                      with_reducible rfl
                                    rotate_left
                                    · simp only [Act.put, List.setIfInBounds_toArray, List.set_cons_zero, List.set_cons_succ, i64_w, i32_w]
                                      rfl
                                    refine pure_ (i := 11) (N := some 49) (v := ?_) (a' := ?_) #[true, true, true, true, true, true, true, true, true, true, true, true] rfl rfl (any_of HT_.out (by kernel_rfl)) (fun _ _ _ h => h) (Or.inl ⟨by rfl, ?_⟩) ?_ ?_
                                    rotate_left
                                    · intro w'
                                      go_simp
                                      with_reducible rfl
                                    rotate_left
                                    · simp only [Act.put, List.setIfInBounds_toArray, List.set_cons_zero, List.set_cons_succ, i64_w, i32_w]
                                      rfl
                                    refine done_ (done_of HT_.out (by kernel_rfl)) ?_
                                    try go_wp2
                                    go_meet
                                    case rel => exact ⟨_, H', ⟨by have := HJ2.out; have := HJ16.out; have := HJ20.out; have := HJ23.out; first | omega | exact Nat.le_refl _⟩, ⟨by (with_reducible repeat (first | refine blk_drewN ?_ _ | refine blk_drew ?_ | refine blk_alloc ?_ _)); exact BK124.out⟩, ⟨by repeat (first | (with_reducible first | exact HB.out | apply below_alloc | apply pw_below_drewN | apply below_drew1 | refine below_set ?_ GE124.out) | exact HB.out)⟩⟩
                                  · replace c37 := Bool.eq_false_iff.mpr c37
                                    subst c37
                                    have H1 : (some (([] : List (SSchema)), 5)) = some (r1, r2) := by rw [if_neg (show ¬ (false = true) by decide)] at H; exact H
                                    clear H
                                    have H := H1
                                    clear H1
                                    simp only [Option.some.injEq, Prod.mk.injEq] at H
                                    obtain ⟨rfl, rfl⟩ := H
                                    try go_wp2
                                    have n0_ := Aside0.mk (blk_drew BK124.out)
                                    have n1_ := Aside0.mk (below_drew1 HB.out)
                                    clear BK124
                                    clear HB
                                    have BK124 := n0_
                                    have HB := n1_
                                    clear n0_ n1_
                                    have p130 : 0 ≤ (t127 : Int) := of_decide_eq_true (by first | (with_reducible assumption) | assumption)
                                    have q130 : t127 < (l0.length : Int) := of_decide_eq_true (by first | (with_reducible assumption) | assumption)
                                    obtain ⟨ad130, A130_2, c130_2, e130, hx130_0, hx130_1, hx130_2, hl130_2, hi130_2⟩ := at_TSchema HR0.out t127 p130 q130
                                    have hw130_2 := hx130_2
                                    have hw130_1 := hx130_1
                                    have hw130_0 := hx130_0
                                    cases e130
                                    replace hx130_0 := (HB.out.cell (World.block_lt_of_cell? w _ hx130_0)).trans hx130_0
                                    replace hx130_1 := (HB.out.cell (World.block_lt_of_cell? w _ hx130_1)).trans hx130_1
                                    replace hx130_2 := (HB.out.cell (World.block_lt_of_cell? w _ hx130_2)).trans hx130_2
                                    have HR130_2 := Aside0.mk hi130_2
                                    have HC130_2 := Aside0.mk hl130_2
                                    clear hi130_2 hl130_2
                                    replace p130 := eq_true p130
                                    replace q130 := eq_true q130
                                    refine start_ (n := 12) (S := fun w' => w'.cell? ⟨gb124, 0, none⟩ = some (.string a1_0) ∧ w'.cell? ⟨gb124, 1, none⟩ = some (.int .i64 a1_1) ∧ w'.cell? ⟨gb124, 2, none⟩ = some (.slice A1_2 l1_2.length c1_2) ∧ w'.cell? (ad130.add ((t127).toNat * 3)) = some (.string ((rd_TSchema l0 t127).f0)) ∧ w'.cell? ⟨(ad130.add ((t127).toNat * 3)).block, (ad130.add ((t127).toNat * 3)).off + 1, none⟩ = some (.int .i64 ((rd_TSchema l0 t127).f1)) ∧ w'.cell? ⟨(ad130.add ((t127).toNat * 3)).block, (ad130.add ((t127).toNat * 3)).off + 2, none⟩ = some (.slice A130_2 ((rd_TSchema l0 t127).f2).length c130_2)) (ds := []) #[false, false, false, false, false, false, false, false, false, false, false, false] (by kernel_rfl) rfl rfl ⟨(blk_cell BK124.out 0).trans rfl, (blk_cell BK124.out 1).trans rfl, (blk_cell BK124.out 2).trans rfl, ((HB.out.cell (World.block_lt_of_cell? w _ hw130_0)).trans hw130_0), ((HB.out.cell (World.block_lt_of_cell? w _ hw130_1)).trans hw130_1), ((HB.out.cell (World.block_lt_of_cell? w _ hw130_2)).trans hw130_2)⟩ (fun hHeld => ?_); refine with_tabW registry_Add.tab10 registry_Add.bits10 (fun HT_ HW_ => ?_)
                                    generalize wc.drew = w40 at BK124 HB HR130_2 hx130_0 hx130_1 hx130_2 hHeld ⊢
                                    refine pure_ (i := 0) (N := some 50) (v := ?_) (a' := ?_) #[true, false, false, false, false, false, false, false, false, false, false, false] rfl rfl (any_of HT_.out (by kernel_rfl)) (fun _ _ _ h => h) (Or.inl ⟨by rfl, ?_⟩) ?_ ?_
                                    rotate_left
                                    · intro w'
                                      go_simp
                                      with_reducible rfl
                                    rotate_left
                                    · simp only [Act.put, List.setIfInBounds_toArray, List.set_cons_zero, List.set_cons_succ, i64_w, i32_w]
                                      rfl
                                    refine pure_ (i := 1) (N := some 51) (v := ?_) (a' := ?_) #[true, true, false, false, false, false, false, false, false, false, false, false] rfl rfl (any_of HT_.out (by kernel_rfl)) (fun _ _ _ h => h) (Or.inl ⟨by rfl, ?_⟩) ?_ ?_
                                    rotate_left
                                    · intro w'
                                      go_simp
                                      with_reducible rfl
                                    rotate_left
                                    · simp only [Act.put, List.setIfInBounds_toArray, List.set_cons_zero, List.set_cons_succ, i64_w, i32_w]
                                      rfl
                                    refine pure_ (i := 2) (N := some 52) (v := ?_) (a' := ?_) #[true, true, true, false, false, false, false, false, false, false, false, false] rfl rfl (any_of HT_.out (by kernel_rfl)) (fun _ _ _ h => h) (Or.inl ⟨by rfl, ?_⟩) ?_ ?_
                                    rotate_left
                                    · intro w'
                                      go_simp
                                      with_reducible rfl
                                    rotate_left
                                    · simp only [Act.put, List.setIfInBounds_toArray, List.set_cons_zero, List.set_cons_succ, i64_w, i32_w]
                                      rfl
                                    refine pure_ (i := 3) (N := some 53) (v := ?_) (a' := ?_) #[true, true, true, true, false, false, false, false, false, false, false, false] rfl rfl (any_of HT_.out (by kernel_rfl)) (fun _ _ _ h => h) (Or.inl ⟨by rfl, ?_⟩) ?_ ?_
                                    rotate_left
                                    · intro w'
                                      go_simp
                                      with_reducible rfl
                                    rotate_left
                                    · simp only [Act.put, List.setIfInBounds_toArray, List.set_cons_zero, List.set_cons_succ, i64_w, i32_w]
                                      rfl
                                    refine pure_ (i := 4) (N := some 54) (v := ?_) (a' := ?_) #[true, true, true, true, true, false, false, false, false, false, false, false] rfl rfl (any_of HT_.out (by kernel_rfl)) (fun _ _ _ h => h) (Or.inl ⟨by rfl, ?_⟩) ?_ ?_
                                    rotate_left
                                    · intro w'
                                      go_simp
                                      with_reducible rfl
                                    rotate_left
                                    · simp only [Act.put, List.setIfInBounds_toArray, List.set_cons_zero, List.set_cons_succ, i64_w, i32_w]
                                      rfl
                                    refine pure_ (i := 5) (N := some 55) (v := ?_) (a' := ?_) #[true, true, true, true, true, true, false, false, false, false, false, false] rfl rfl (any_of HT_.out (by kernel_rfl)) (fun _ _ _ h => h) (Or.inl ⟨by rfl, ?_⟩) ?_ ?_
                                    rotate_left
                                    · intro w'
                                      go_simp
                                      with_reducible rfl
                                    rotate_left
                                    · simp only [Act.put, List.setIfInBounds_toArray, List.set_cons_zero, List.set_cons_succ, i64_w, i32_w]
                                      rfl
                                    refine take_ (i := 6) (N := some 56) (v := ?_) (a' := ?_) #[true, true, true, true, true, true, true, false, false, false, false, false] rfl rfl (take_ofW HT_.out HW_.out (by kernel_rfl)) (fun _ _ _ h => h) (Or.inl ⟨by rfl, ?_⟩) hHeld ?_ ?_
                                    rotate_left
                                    · rintro w' ⟨s0, s1, s2, s3, s4, s5⟩
                                      go_simp
                                      with_reducible rfl
                                    rotate_left
                                    · simp only [Act.put, List.setIfInBounds_toArray, List.set_cons_zero, List.set_cons_succ, i64_w, i32_w]
                                      rfl
                                    refine take_ (i := 7) (N := some 57) (v := ?_) (a' := ?_) #[true, true, true, true, true, true, true, true, false, false, false, false] rfl rfl (take_ofW HT_.out HW_.out (by kernel_rfl)) (fun _ _ _ h => h) (Or.inl ⟨by rfl, ?_⟩) hHeld ?_ ?_
                                    rotate_left
                                    · rintro w' ⟨s0, s1, s2, s3, s4, s5⟩
                                      go_simp
                                      with_reducible rfl
                                    rotate_left
                                    · simp only [Act.put, List.setIfInBounds_toArray, List.set_cons_zero, List.set_cons_succ, i64_w, i32_w]
                                      rfl
                                    refine one_ (i := 8) (N := some 58) #[true, true, true, true, true, true, true, true, true, false, false, false] rfl rfl (one_of HT_.out (by kernel_rfl)) (by decide) (fun K hK => ?_)
                                    refine goes_ Try.func38 (by kernel_rfl) rfl #[.agg #[.string ((rd_TSchema l0 t127).f0), .int .i64 ((rd_TSchema l0 t127).f1), .slice A130_2 ((rd_TSchema l0 t127).f2).length c130_2], .agg #[.string a1_0, .int .i64 a1_1, .slice A1_2 l1_2.length c1_2]] (by rfl) rfl rfl (by (try simp only [List.map_toArray, List.map_cons, List.map_nil]); first | done | rfl | (simp only [List.length_drop, List.length_take]; rfl)) ?_
                                    with_reducible refine (schema_Fits.calls kj23 ((rd_TSchema l0 t127).f0) ((rd_TSchema l0 t127).f1) _ _ ((rd_TSchema l0 t127).f2) a1_0 a1_1 _ _ l1_2 false _ ?side1 ?side2 ?side3 ?side4 A36.out).mono ?_
                                    (case side1 => repeat (first | exact (Kd.C_below HR130_2.out HB.out) | (with_reducible refine Kd.C_alloc ?_ _) | (with_reducible refine Kd.C_drewN ?_ _) | (with_reducible refine Kd.C_drew ?_)))
                                    (case side2 => exact HC130_2.out)
                                    (case side3 => repeat (first | exact (Kd.C_below HR1_2.out HB.out) | (with_reducible refine Kd.C_alloc ?_ _) | (with_reducible refine Kd.C_drewN ?_ _) | (with_reducible refine Kd.C_drew ?_)))
                                    (case side4 => exact HC1_2.out)
                                    rintro e w41 ⟨rfl, hb⟩
                                    refine ⟨_, rfl, ?_⟩
                                    have n0_ := Aside0.mk (blk_below (g := gb124) (o := .cells #[.string a1_0, .int .i64 a1_1, .slice A1_2 l1_2.length c1_2] 25 (0, 0)) (by (with_reducible repeat (first | refine blk_drewN ?_ _ | refine blk_drew ?_ | refine blk_alloc ?_ _)); exact BK124.out) hb)
                                    have n1_ := Aside0.mk (below_step (by repeat (first | (with_reducible first | exact HB.out | apply below_alloc | apply pw_below_drewN | apply below_drew1 | refine below_set ?_ GE124.out) | exact HB.out)) hb)
                                    clear BK124
                                    clear HB
                                    have BK124 := n0_
                                    have HB := n1_
                                    clear n0_ n1_
                                    (try clear hb)
                                    (try clear hb2)
                                    (try clear hk)
                                    (try clear hi)
                                    refine hK.out _ _ ⟨(blk_cell BK124.out 0).trans rfl, (blk_cell BK124.out 1).trans rfl, (blk_cell BK124.out 2).trans rfl, ((HB.out.cell (World.block_lt_of_cell? w _ hw130_0)).trans hw130_0), ((HB.out.cell (World.block_lt_of_cell? w _ hw130_1)).trans hw130_1), ((HB.out.cell (World.block_lt_of_cell? w _ hw130_2)).trans hw130_2)⟩ (fun hHeld => ?_)
                                    clear hK K
                                    refine norm_ (a' := ?_) ?_ ?_
                                    rotate_left
                                    · show Act.put _ (some 58) _ = _
                                      simp only [Act.put, List.setIfInBounds_toArray, List.set_cons_zero, List.set_cons_succ, i64_w, i32_w]
                                      rfl
                                    refine pure_ (i := 9) (N := some 59) (v := ?_) (a' := ?_) #[true, true, true, true, true, true, true, true, true, true, false, false] rfl rfl (any_of HT_.out (by kernel_rfl)) (fun _ _ _ h => h) (Or.inl ⟨by rfl, ?_⟩) ?_ ?_
                                    rotate_left
                                    · intro w'
                                      go_simp
                                      with_reducible rfl
                                    rotate_left
                                    · simp only [Act.put, List.setIfInBounds_toArray, List.set_cons_zero, List.set_cons_succ, i64_w, i32_w]
                                      rfl
                                    refine pure_ (i := 10) (N := some 60) (v := ?_) (a' := ?_) #[true, true, true, true, true, true, true, true, true, true, true, false] rfl rfl (any_of HT_.out (by kernel_rfl)) (fun _ _ _ h => h) (Or.inl ⟨by rfl, ?_⟩) ?_ ?_
                                    rotate_left
                                    · intro w'
                                      go_simp
                                      with_reducible rfl
                                    rotate_left
                                    · simp only [Act.put, List.setIfInBounds_toArray, List.set_cons_zero, List.set_cons_succ, i64_w, i32_w]
                                      rfl
                                    refine pure_ (i := 11) (N := some 49) (v := ?_) (a' := ?_) #[true, true, true, true, true, true, true, true, true, true, true, true] rfl rfl (any_of HT_.out (by kernel_rfl)) (fun _ _ _ h => h) (Or.inl ⟨by rfl, ?_⟩) ?_ ?_
                                    rotate_left
                                    · intro w'
                                      go_simp
                                      with_reducible rfl
                                    rotate_left
                                    · simp only [Act.put, List.setIfInBounds_toArray, List.set_cons_zero, List.set_cons_succ, i64_w, i32_w]
                                      rfl
                                    refine done_ (done_of HT_.out (by kernel_rfl)) ?_
                                    try go_wp2
                                    go_ret2
                                    exact ⟨_, by first | rfl | (simp [errW_none, errW_some] <;> rfl) | (simp [*, errW_none, errW_some] <;> rfl), by first | exact Kd.S_nil _ _ _ _ _ | exact Kd.N_nil _ _ _ _ _ | exact Kd.V_nil _ _ _ _ _ | exact Kd.Q_nil _ _ _ _ _ | exact Kd.R_nil _ _ _ _ _, by repeat (first | (with_reducible first | exact HB.out | apply below_alloc | apply pw_below_drewN | apply below_drew1 | refine below_set ?_ GE124.out) | exact HB.out)⟩
                                · rw [if_neg c35] at H
                                  exact absurd H (by simp)
                              · rw [if_neg c34] at H
                                exact absurd H (by simp)
                            · rw [if_neg c33] at H
                              have c33b0 : decide (0 ≤ t127) = false := decide_eq_false c33
                              clear c33
                              have H' := Aside0.mk H
                              clear H
                              try go_wp2
                              have n0_ := Aside0.mk (blk_drew BK124.out)
                              have n1_ := Aside0.mk (below_drew1 HB.out)
                              clear BK124
                              clear HB
                              have BK124 := n0_
                              have HB := n1_
                              clear n0_ n1_
                              refine start_ (n := 12) (S := fun w' => True) (ds := []) #[false, false, false, false, false, false, false, false, false, false, false, false] (by kernel_rfl) rfl rfl trivial (fun hHeld => ?_); refine with_tabW registry_Add.tab10 registry_Add.bits10 (fun HT_ HW_ => ?_)
                              generalize wc.drew = w42 at BK124 HB hHeld ⊢
                              refine pure_ (i := 0) (N := some 50) (v := ?_) (a' := ?_) #[true, false, false, false, false, false, false, false, false, false, false, false] rfl rfl (any_of HT_.out (by kernel_rfl)) (fun _ _ _ h => h) (Or.inl ⟨by rfl, ?_⟩) ?_ ?_
                              rotate_left
                              · intro w'
                                go_simp
                                with_reducible rfl
                              rotate_left
                              · simp only [Act.put, List.setIfInBounds_toArray, List.set_cons_zero, List.set_cons_succ, i64_w, i32_w]
                                rfl
                              refine pure_ (i := 1) (N := some 51) (v := ?_) (a' := ?_) #[true, true, false, false, false, false, false, false, false, false, false, false] rfl rfl (any_of HT_.out (by kernel_rfl)) (fun _ _ _ h => h) (Or.inl ⟨by rfl, ?_⟩) ?_ ?_
                              rotate_left
                              · intro w'
                                go_simp
                                with_reducible rfl
                              rotate_left
                              · simp only [Act.put, List.setIfInBounds_toArray, List.set_cons_zero, List.set_cons_succ, i64_w, i32_w]
                                rfl
                              refine pure_ (i := 2) (N := some 52) (v := ?_) (a' := ?_) #[true, true, true, false, false, false, false, false, false, false, false, false] rfl rfl (any_of HT_.out (by kernel_rfl)) (fun _ _ _ h => h) (Or.inl ⟨by rfl, ?_⟩) ?_ ?_
                              rotate_left
                              · intro w'
                                go_simp
                                with_reducible rfl
                              rotate_left
                              · simp only [Act.put, List.setIfInBounds_toArray, List.set_cons_zero, List.set_cons_succ, i64_w, i32_w]
                                rfl
                              refine pure_ (i := 3) (N := some 53) (v := undef) (a' := ?_) #[true, true, true, true, false, false, false, false, false, false, false, false] rfl rfl (any_of HT_.out (by kernel_rfl)) (fun _ _ _ h => h) (Or.inr ⟨by rfl, rfl⟩) ?_ ?_
                              rotate_left
                              · simp only [Act.put, List.setIfInBounds_toArray, List.set_cons_zero, List.set_cons_succ, i64_w, i32_w]
                                rfl
                              refine pure_ (i := 4) (N := some 54) (v := undef) (a' := ?_) #[true, true, true, true, true, false, false, false, false, false, false, false] rfl rfl (any_of HT_.out (by kernel_rfl)) (fun _ _ _ h => h) (Or.inr ⟨by rfl, rfl⟩) ?_ ?_
                              rotate_left
                              · simp only [Act.put, List.setIfInBounds_toArray, List.set_cons_zero, List.set_cons_succ, i64_w, i32_w]
                                rfl
                              refine pure_ (i := 5) (N := some 55) (v := undef) (a' := ?_) #[true, true, true, true, true, true, false, false, false, false, false, false] rfl rfl (any_of HT_.out (by kernel_rfl)) (fun _ _ _ h => h) (Or.inr ⟨by rfl, rfl⟩) ?_ ?_
                              rotate_left
                              · simp only [Act.put, List.setIfInBounds_toArray, List.set_cons_zero, List.set_cons_succ, i64_w, i32_w]
                                rfl
                              refine pure_ (i := 6) (N := some 56) (v := undef) (a' := ?_) #[true, true, true, true, true, true, true, false, false, false, false, false] rfl rfl (any_of HT_.out (by kernel_rfl)) (fun _ _ _ h => h) (Or.inr ⟨by rfl, rfl⟩) ?_ ?_
                              rotate_left
                              · simp only [Act.put, List.setIfInBounds_toArray, List.set_cons_zero, List.set_cons_succ, i64_w, i32_w]
                                rfl
                              refine pure_ (i := 7) (N := some 57) (v := undef) (a' := ?_) #[true, true, true, true, true, true, true, true, false, false, false, false] rfl rfl (any_of HT_.out (by kernel_rfl)) (fun _ _ _ h => h) (Or.inr ⟨by rfl, rfl⟩) ?_ ?_
                              rotate_left
                              · simp only [Act.put, List.setIfInBounds_toArray, List.set_cons_zero, List.set_cons_succ, i64_w, i32_w]
                                rfl
                              refine pure_ (i := 8) (N := some 58) (v := undef) (a' := ?_) #[true, true, true, true, true, true, true, true, true, false, false, false] rfl rfl (any_of HT_.out (by kernel_rfl)) (fun _ _ _ h => h) (Or.inr ⟨by rfl, rfl⟩) ?_ ?_
                              rotate_left
                              · simp only [Act.put, List.setIfInBounds_toArray, List.set_cons_zero, List.set_cons_succ, i64_w, i32_w]
                                rfl
                              refine pure_ (i := 9) (N := some 59) (v := undef) (a' := ?_) #[true, true, true, true, true, true, true, true, true, true, false, false] rfl rfl (any_of HT_.out (by kernel_rfl)) (fun _ _ _ h => h) (Or.inr ⟨by rfl, rfl⟩) ?_ ?_
                              rotate_left
                              · simp only [Act.put, List.setIfInBounds_toArray, List.set_cons_zero, List.set_cons_succ, i64_w, i32_w]
                                rfl
                              refine pure_ (i := 10) (N := some 60) (v := ?_) (a' := ?_) #[true, true, true, true, true, true, true, true, true, true, true, false] rfl rfl (any_of HT_.out (by kernel_rfl)) (fun _ _ _ h => h) (Or.inl ⟨by rfl, ?_⟩) ?_ ?_
                              rotate_left
                              · intro w'
                                go_simp
                                with_reducible rfl
                              rotate_left
                              · simp only [Act.put, List.setIfInBounds_toArray, List.set_cons_zero, List.set_cons_succ, i64_w, i32_w]
                                rfl
                              refine pure_ (i := 11) (N := some 49) (v := ?_) (a' := ?_) #[true, true, true, true, true, true, true, true, true, true, true, true] rfl rfl (any_of HT_.out (by kernel_rfl)) (fun _ _ _ h => h) (Or.inl ⟨by rfl, ?_⟩) ?_ ?_
                              rotate_left
                              · intro w'
                                go_simp
                                with_reducible rfl
                              rotate_left
                              · simp only [Act.put, List.setIfInBounds_toArray, List.set_cons_zero, List.set_cons_succ, i64_w, i32_w]
                                rfl
                              refine done_ (done_of HT_.out (by kernel_rfl)) ?_
                              try go_wp2
                              go_meet
                              case rel => exact ⟨_, H', ⟨by have := HJ2.out; have := HJ16.out; have := HJ20.out; have := HJ23.out; first | omega | exact Nat.le_refl _⟩, ⟨by (with_reducible repeat (first | refine blk_drewN ?_ _ | refine blk_drew ?_ | refine blk_alloc ?_ _)); exact BK124.out⟩, ⟨by repeat (first | (with_reducible first | exact HB.out | apply below_alloc | apply pw_below_drewN | apply below_drew1 | refine below_set ?_ GE124.out) | exact HB.out)⟩⟩
        case rest =>
          clear HC14
          try clear c1
          try clear p1
          try clear q1
          try clear hx1
          try clear c2
          try clear p2
          try clear c3
          try clear c6
          try clear c12
          try clear p12
          try clear q12
          try clear hx12
          try clear c13
          try clear p13
          try clear q13
          try clear hx13
          try clear c18
          try clear c18b0
          try clear c20
          try clear c22
          try clear c22b0
          try clear c23
          try clear c25
          try clear c25b0
          try clear c26
          try clear c26b0
          try clear c27
          try clear c27b0
          try clear c32
          try clear c33
          try clear c33b0
          try clear c34
          try clear c34b0
          try clear c35
          try clear c35b0
          try clear c37
          try clear c38
          try clear hcz15_0
          try clear hcz15_1
          try clear hcz15_2
          try clear hcz19_0
          try clear hcz19_1
          try clear hcz19_2
          try clear hcz9_0
          try clear hcz9_1
          try clear hcz9_2
          try clear hfz15_0
          try clear hfz15_1
          try clear hfz15_2
          try clear hfz19_0
          try clear hfz19_1
          try clear hfz19_2
          try clear hfz9_0
          try clear hfz9_1
          try clear hfz9_2
          try clear hx128_0
          try clear hx128_1
          try clear hx128_2
          try clear hx130_0
          try clear hx130_1
          try clear hx130_2
          try clear p1
          try clear p12
          try clear p128
          try clear p130
          try clear p2
          try clear q1
          try clear q12
          try clear q128
          try clear q130
          obtain ⟨kq, HA, HJ13, BK124, HB⟩ := hcut
          cases kq with
          | zero => exact absurd HA.out (by simp [registry_Add.j4])
          | succ kj13 =>
            have H := HA.out
            clear HA
            simp only [registry_Add.j4] at H
            have H' := Aside0.mk H
            clear H
            go_wp2
            go_loopg [7, 63] kj13 (fun kq v7 v63 w' => ∃ (x7_3 : List (SSchema)) (x63_3 : Int), v63 = .int .i64 x63_3 ∧ Aside0 (registry_Add.l0 kq t127 x7_3 l0 (l0.length : Int) x63_3 a1_0 a1_1 l1_2 = some (r1, r2)) ∧ Aside0 (kq ≤ kj13) ∧ Aside0 (Kd.S kSchema 25 w' w.heap.size (fun k_ => k_ ≠ gb124) v7 x7_3) ∧ Aside0 (w'.heap[gb124]? = some (.cells #[.string a1_0, .int .i64 a1_1, (.slice A1_2 l1_2.length c1_2)] 25 (0, 0))) ∧ Aside0 (Below w.heap.size w w'))
            case atStart => exact ⟨(([] : List (SSchema))), (0), (by first | rfl | (simp; done) | (simp [*]; done)), H', ⟨Nat.le_refl _⟩, ⟨by first | exact Kd.S_nil _ _ _ _ _ | exact Kd.N_nil _ _ _ _ _ | exact Kd.V_nil _ _ _ _ _ | exact Kd.Q_nil _ _ _ _ _ | exact Kd.R_nil _ _ _ _ _⟩, ⟨by (with_reducible repeat (first | refine blk_drewN ?_ _ | refine blk_drew ?_ | refine blk_alloc ?_ _)); exact BK124.out⟩, ⟨by repeat (first | (with_reducible first | exact HB.out | apply below_alloc | apply pw_below_drewN | apply below_drew1 | refine below_set ?_ GE124.out) | exact HB.out)⟩⟩
            case round =>
              clear H'
              try clear c1
              try clear p1
              try clear q1
              try clear hx1
              try clear c2
              try clear p2
              try clear c3
              try clear c6
              try clear c12
              try clear p12
              try clear q12
              try clear hx12
              try clear c13
              try clear p13
              try clear q13
              try clear hx13
              try clear c18
              try clear c18b0
              try clear c20
              try clear c22
              try clear c22b0
              try clear c23
              try clear c25
              try clear c25b0
              try clear c26
              try clear c26b0
              try clear c27
              try clear c27b0
              try clear c32
              try clear c33
              try clear c33b0
              try clear c34
              try clear c34b0
              try clear c35
              try clear c35b0
              try clear c37
              try clear c38
              try clear hcz15_0
              try clear hcz15_1
              try clear hcz15_2
              try clear hcz19_0
              try clear hcz19_1
              try clear hcz19_2
              try clear hcz9_0
              try clear hcz9_1
              try clear hcz9_2
              try clear hfz15_0
              try clear hfz15_1
              try clear hfz15_2
              try clear hfz19_0
              try clear hfz19_1
              try clear hfz19_2
              try clear hfz9_0
              try clear hfz9_1
              try clear hfz9_2
              try clear hx128_0
              try clear hx128_1
              try clear hx128_2
              try clear hx130_0
              try clear hx130_1
              try clear hx130_2
              try clear p1
              try clear p12
              try clear p128
              try clear p13
              try clear p130
              try clear p2
              try clear q1
              try clear q12
              try clear q128
              try clear q13
              try clear q130
              obtain ⟨x7_3, x63_3, rfl, HA, HK3, HO_7, BK124, HB⟩ := hrel
              cases gk with
              | zero => exact absurd HA.out (by simp [registry_Add.l0])
              | succ k3 =>
                have H := HA.out
                clear HA
                simp only [registry_Add.l0] at H
                by_cases c43 : x63_3 < (l0.length : Int)
                · rw [if_pos c43] at H
                  have c43b0 : decide (x63_3 < (l0.length : Int)) = true := decide_eq_true c43
                  clear c43
                  by_cases c44 : 0 ≤ x63_3
                  · rw [if_pos c44] at H
                    have c44b0 : decide (0 ≤ x63_3) = true := decide_eq_true c44
                    clear c44
                    by_cases c45 : x63_3 < (l0.length : Int)
                    · rw [if_pos c45] at H
                      have c45b0 : decide (x63_3 < (l0.length : Int)) = true := decide_eq_true c45
                      clear c45
                      replace H := Option.bind_eq_some_iff.mp H
                      obtain ⟨⟨t134, t135, t136⟩, A460, H⟩ := H
                      replace H : (if x7_3.length < 2932031007402 then (registry_Add.l0 k3 t127 (x7_3 ++ [(⟨t134, t135, t136⟩ : SSchema)]) l0 (l0.length : Int) (wrap64 (x63_3 + 1)) a1_0 a1_1 l1_2) else (none)) = some (r1, r2) := H
                      have A46 := Aside0.mk A460
                      clear A460
                      by_cases c47 : x7_3.length < 2932031007402
                      · rw [if_pos c47] at H
                        have LMc47 := Aside0.mk c47
                        clear c47
                        obtain ⟨y139, hy139⟩ : ∃ y_ : List (SSchema), y_ = (x7_3 ++ [(⟨t134, t135, t136⟩ : SSchema)]) := ⟨_, rfl⟩
                        replace H : (registry_Add.l0 k3 t127 y139 l0 (l0.length : Int) (wrap64 (x63_3 + 1)) a1_0 a1_1 l1_2) = some (r1, r2) := by first | (rw [hy139]; with_reducible exact H) | (have H2_ := (Option.bind_some _ _).symm.trans H; rw [hy139]; with_reducible exact H2_) | (have H2_ := (Option.bind_some _ _).symm.trans H; with_reducible exact H2_) | with_reducible exact H | (rw [hy139]; exact H) | exact H
                        have Ny139 := Aside0.mk hy139
                        clear hy139
                        have H' := Aside0.mk H
                        clear H
                        have p132 : 0 ≤ (x63_3 : Int) := of_decide_eq_true (by first | (with_reducible assumption) | assumption)
                        have q132 : x63_3 < (l0.length : Int) := of_decide_eq_true (by first | (with_reducible assumption) | assumption)
                        obtain ⟨ad132, A132_2, c132_2, e132, hx132_0, hx132_1, hx132_2, hl132_2, hi132_2⟩ := at_TSchema HR0.out x63_3 p132 q132
                        cases e132
                        replace hx132_0 := (HB.out.cell (World.block_lt_of_cell? w _ hx132_0)).trans hx132_0
                        replace hx132_1 := (HB.out.cell (World.block_lt_of_cell? w _ hx132_1)).trans hx132_1
                        replace hx132_2 := (HB.out.cell (World.block_lt_of_cell? w _ hx132_2)).trans hx132_2
                        have HR132_2 := Aside0.mk hi132_2
                        have HC132_2 := Aside0.mk hl132_2
                        clear hi132_2 hl132_2
                        replace p132 := eq_true p132
                        replace q132 := eq_true q132
                        go_wp2_with (first | ((with_reducible refine gate_dst (N := 9) rfl ?_); (try (refine gate_guard (by rfl) ?_; dsimp only)); refine box_event ?hg (N := 9) ?hd (cs := #[.string (⟨#[]⟩ : ByteArray), .int .i64 0, .slice none 0 0]) (t := 25) ?hr ?_; (case hd => rfl); (case hg => rfl); (case hr => first | (go_simp; done) | (go_simp; rfl)); intro gb133 hg w48 hbox hb; have n0_ := Aside0.mk (Kd.S_below (Kd.S_elderB (by (with_reducible repeat (first | apply Kd.S_alloc | apply Kd.S_drewN | apply Kd.S_drew)); exact HO_7.out) gb133 (Nat.le_of_eq hg.symm)) hb); have n1_ := Aside0.mk (blk_below (g := gb124) (o := .cells #[.string a1_0, .int .i64 a1_1, .slice A1_2 l1_2.length c1_2] 25 (0, 0)) (by (with_reducible repeat (first | refine blk_drewN ?_ _ | refine blk_drew ?_ | refine blk_alloc ?_ _)); exact BK124.out) hb); have n2_ := Aside0.mk (below_step (by repeat (first | (with_reducible first | exact HB.out | apply below_alloc | apply pw_below_drewN | apply below_drew1 | refine below_set ?_ GE124.out) | exact HB.out)) hb); have n3_ := Aside0.mk (hbox); have n4_ := Aside0.mk ((by rw [hg]; exact (below_size (by repeat (first | (with_reducible first | exact HB.out | apply below_alloc | apply pw_below_drewN | apply below_drew1 | refine below_set ?_ GE124.out) | exact HB.out))) : w.heap.size ≤ gb133)); have n5_ := Aside0.mk ((by rw [hg]; exact (below_size (by repeat (first | (with_reducible first | exact HB.out | apply below_alloc | apply pw_below_drewN | apply below_drew1 | refine below_set ?_ GE124.out) | exact HB.out))) : w.heap.size ≤ gb133)); have n6_ := Aside0.mk ((by rw [hg]; exact Nat.ne_of_lt (blk_lt (g := gb124) (o := .cells #[.string a1_0, .int .i64 a1_1, .slice A1_2 l1_2.length c1_2] 25 (0, 0)) (by (with_reducible repeat (first | refine blk_drewN ?_ _ | refine blk_drew ?_ | refine blk_alloc ?_ _)); exact BK124.out)) : gb124 ≠ gb133)); have n7_ := Aside0.mk ((by rw [hg]; exact Nat.ne_of_gt (blk_lt (g := gb124) (o := .cells #[.string a1_0, .int .i64 a1_1, .slice A1_2 l1_2.length c1_2] 25 (0, 0)) (by (with_reducible repeat (first | refine blk_drewN ?_ _ | refine blk_drew ?_ | refine blk_alloc ?_ _)); exact BK124.out)) : gb133 ≠ gb124)); clear HO_7; clear BK124; clear HB; have HO_7 := n0_; have BK124 := n1_; have HB := n2_; have BK133 := n3_; have GW133 := n4_; have GE133 := n5_; have NB124_133 := n6_; have NB133_124 := n7_; clear n0_ n1_ n2_ n3_ n4_ n5_ n6_ n7_; clear hb hbox hg; have hnb49 := NB133_124.out; have hnc49 := NB124_133.out; have hcz50_0 : w48.cell? ⟨gb133, 0, none⟩ = some (.string (⟨#[]⟩ : ByteArray)) := (blk_cell BK133.out 0).trans rfl; have hcz50_1 : w48.cell? ⟨gb133, 1, none⟩ = some (.int .i64 0) := (blk_cell BK133.out 1).trans rfl; have hcz50_2 : w48.cell? ⟨gb133, 2, none⟩ = some (.slice none 0 0) := (blk_cell BK133.out 2).trans rfl; have hfz50_0 := blk_frozen BK133.out 0; have hfz50_1 := blk_frozen BK133.out 1; have hfz50_2 := blk_frozen BK133.out 2) | ((with_reducible refine gate_callee (f := 40) rfl ?_); refine goesL_ (some 69) rfl rfl Try.func40 (by kernel_rfl) rfl #[.agg #[.string ((rd_TSchema l0 x63_3).f0), .int .i64 ((rd_TSchema l0 x63_3).f1), .slice A132_2 ((rd_TSchema l0 x63_3).f2).length c132_2]] rfl (by (try simp only [List.map_toArray, List.map_cons, List.map_nil]); first | done | rfl | (simp only [List.length_drop, List.length_take]; rfl)) ?_; (with_reducible refine (registry_own.calls ((rd_TSchema l0 x63_3).f0) ((rd_TSchema l0 x63_3).f1) _ _ ((rd_TSchema l0 x63_3).f2) t134 t135 t136 _ ?side1 ?side2 A46.out).mono ?_); (case side1 => exact Kd.C_below HR132_2.out (by repeat (first | (with_reducible first | exact HB.out | apply below_alloc | apply pw_below_drewN | apply below_drew1 | refine below_set ?_ GE124.out | refine below_set ?_ GE133.out) | exact HB.out))); (case side2 => exact HC132_2.out); rintro e w51 ⟨v137, rfl, ho0, hb⟩; refine ⟨_, rfl, ?_⟩; have n0_ := Aside0.mk (Kd.S_elder' (by (with_reducible repeat (first | apply Kd.S_alloc | apply Kd.S_drewN | apply Kd.S_drew)); exact (Kd.S_mono (Kd.S_far (p := ⟨gb133, 2, none⟩) (Kd.S_far (p := ⟨gb133, 1, none⟩) (Kd.S_far (p := ⟨gb133, 0, none⟩) (Kd.S_mono HO_7.out (fun k_ hk => (⟨hk, hk.2⟩ : _ ∧ k_ ≠ gb133))) (fun _ hk => hk.2) (.string ((rd_TSchema l0 x63_3).f0))) (fun _ hk => hk.2) (.int .i64 ((rd_TSchema l0 x63_3).f1))) (fun _ hk => hk.2) (.slice A132_2 ((rd_TSchema l0 x63_3).f2).length c132_2)) (fun _ h_ => h_.1))) (Kd.R_base ho0) hb); have n1_ := Aside0.mk (Kd.R_lower ho0 (below_size (by repeat (first | (with_reducible first | exact HB.out | apply below_alloc | apply pw_below_drewN | apply below_drew1 | refine below_set ?_ GE124.out | refine below_set ?_ GE133.out) | exact HB.out)))); have n2_ := Aside0.mk (blk_below (g := gb124) (o := .cells #[.string a1_0, .int .i64 a1_1, .slice A1_2 l1_2.length c1_2] 25 (0, 0)) (by (with_reducible repeat (first | refine blk_drewN ?_ _ | refine blk_drew ?_ | refine blk_alloc ?_ _)); refine blk_far ?_ NB124_133.out _; (with_reducible repeat (first | refine blk_drewN ?_ _ | refine blk_drew ?_ | refine blk_alloc ?_ _)); refine blk_far ?_ NB124_133.out _; (with_reducible repeat (first | refine blk_drewN ?_ _ | refine blk_drew ?_ | refine blk_alloc ?_ _)); refine blk_far ?_ NB124_133.out _; (with_reducible repeat (first | refine blk_drewN ?_ _ | refine blk_drew ?_ | refine blk_alloc ?_ _)); exact BK124.out) hb); have n3_ := Aside0.mk (blk_below (g := gb133) (o := .cells #[.string ((rd_TSchema l0 x63_3).f0), .int .i64 ((rd_TSchema l0 x63_3).f1), .slice A132_2 ((rd_TSchema l0 x63_3).f2).length c132_2] 25 (0, 0)) (by (with_reducible repeat (first | refine blk_drewN ?_ _ | refine blk_drew ?_ | refine blk_alloc ?_ _)); refine blk_put (cs := #[.string ((rd_TSchema l0 x63_3).f0), .int .i64 ((rd_TSchema l0 x63_3).f1), .slice none 0 0]) ?_ 2 _ rfl; (with_reducible repeat (first | refine blk_drewN ?_ _ | refine blk_drew ?_ | refine blk_alloc ?_ _)); refine blk_put (cs := #[.string ((rd_TSchema l0 x63_3).f0), .int .i64 0, .slice none 0 0]) ?_ 1 _ rfl; (with_reducible repeat (first | refine blk_drewN ?_ _ | refine blk_drew ?_ | refine blk_alloc ?_ _)); refine blk_put (cs := #[.string (⟨#[]⟩ : ByteArray), .int .i64 0, .slice none 0 0]) ?_ 0 _ rfl; (with_reducible repeat (first | refine blk_drewN ?_ _ | refine blk_drew ?_ | refine blk_alloc ?_ _)); exact BK133.out) hb); have n4_ := Aside0.mk (below_step (by repeat (first | (with_reducible first | exact HB.out | apply below_alloc | apply pw_below_drewN | apply below_drew1 | refine below_set ?_ GE124.out | refine below_set ?_ GE133.out) | exact HB.out)) hb); clear HO_7; clear BK124; clear BK133; clear HB; have HO_7 := n0_; have HO138 := n1_; have BK124 := n2_; have BK133 := n3_; have HB := n4_; clear n0_ n1_ n2_ n3_ n4_; (try clear hb); (try clear hb2); (try clear hk); (try clear hi); (try clear ho0); obtain ⟨Ao53, co53, eo53⟩ := Kd.R_slice HO138.out; subst eo53) | ((with_reducible refine gate_builtin (b := .append) (xs := #[.tmp 67, .tmp 70]) rfl ?_); (try (refine gate_guard (by rfl) ?_; dsimp only)); at_builtin; refine Kd.S_append kSchema (w0 := w) w.heap.size rfl (.tmp 67) (.tmp 70) 22 25 (.agg #[(.string ⟨#[]⟩), (.int .i64 0), (.slice none 0 0)]) 48 rfl Try.underlying22 infoSchema rfl (by decide) (by omega) u7 x7_3 (⟨t134, t135, t136⟩ : SSchema) [.string t134, .int .i64 t135, .slice Ao53 t136.length co53] (fun k_ => k_ ≠ gb124 ∧ k_ ≠ gb133) (fun k_ => some k_ = (.slice Ao53 t136.length co53 : Value).ownBlock) rfl rfl ?aP (fun k_ hk_ => ((Kd.R_mono (ok' := fun k_ => ((fun k_ => k_ ≠ gb124 ∧ k_ ≠ gb133)) k_ ∧ some k_ ≠ (u7 : Value).ownBlock) (Kd.R_types (Kd.R_types (Kd.R_apart' (HO138.out) (Kd.S_typed HO_7.out) (by decide)) BK124.out (by decide)) BK133.out (by decide)) (fun k_ hk => ⟨⟨hk.1.2, hk.2⟩, hk.1.1.2⟩))).1 k_ hk_.symm) ?aF ?aO ?aB ?aS ?aL ?_; (case aP => exact kSchema_mkM _ _ _ (⟨t134, t135, t136⟩ : SSchema) (Kd.R_mono (Kd.R_tight rfl (Kd.R_mono (ok' := fun k_ => ((fun k_ => k_ ≠ gb124 ∧ k_ ≠ gb133)) k_ ∧ some k_ ≠ (u7 : Value).ownBlock) (Kd.R_types (Kd.R_types (Kd.R_apart' (HO138.out) (Kd.S_typed HO_7.out) (by decide)) BK124.out (by decide)) BK133.out (by decide)) (fun k_ hk => ⟨⟨hk.1.2, hk.2⟩, hk.1.1.2⟩))) (fun _ h_ => h_))); (case aB => exact (by repeat (first | (with_reducible first | exact HB.out | apply below_alloc | apply pw_below_drewN | apply below_drew1 | refine below_set ?_ GE124.out | refine below_set ?_ GE133.out) | exact HB.out))); (case aF => exact (fun k_ hk => ⟨Kd.freshB (g := gb124) (o := .cells #[.string a1_0, .int .i64 a1_1, .slice A1_2 l1_2.length c1_2] 25 (0, 0)) (by (with_reducible repeat (first | refine blk_drewN ?_ _ | refine blk_drew ?_ | refine blk_alloc ?_ _)); exact BK124.out) k_ hk, Kd.freshB (g := gb133) (o := .cells #[.string ((rd_TSchema l0 x63_3).f0), .int .i64 ((rd_TSchema l0 x63_3).f1), .slice A132_2 ((rd_TSchema l0 x63_3).f2).length c132_2] 25 (0, 0)) (by (with_reducible repeat (first | refine blk_drewN ?_ _ | refine blk_drew ?_ | refine blk_alloc ?_ _)); exact BK133.out) k_ hk⟩)); (case aO => exact (by (with_reducible repeat (first | apply Kd.S_alloc | apply Kd.S_drewN | apply Kd.S_drew)); exact Kd.S_mono HO_7.out (fun k_ hk => ⟨⟨hk.1.1, hk.1.2⟩, fun e_ => hk.2 e_⟩))); (case aS => exact (below_size (by repeat (first | (with_reducible first | exact HB.out | apply below_alloc | apply pw_below_drewN | apply below_drew1 | refine below_set ?_ GE124.out | refine below_set ?_ GE133.out) | exact HB.out)))); (case aL => have := LMc47.out; omega); intro v140 w52 ho hb hg hat; rw [← Ny139.out] at ho; have n0_ := Aside0.mk (blk_grown (g := gb124) (o := .cells #[.string a1_0, .int .i64 a1_1, .slice A1_2 l1_2.length c1_2] 25 (0, 0)) (by (with_reducible repeat (first | refine blk_drewN ?_ _ | refine blk_drew ?_ | refine blk_alloc ?_ _)); exact BK124.out) hg (Kd.S_away HO_7.out (fun _ hk => hk.1.1))); have n1_ := Aside0.mk (blk_grown (g := gb133) (o := .cells #[.string ((rd_TSchema l0 x63_3).f0), .int .i64 ((rd_TSchema l0 x63_3).f1), .slice A132_2 ((rd_TSchema l0 x63_3).f2).length c132_2] 25 (0, 0)) (by (with_reducible repeat (first | refine blk_drewN ?_ _ | refine blk_drew ?_ | refine blk_alloc ?_ _)); exact BK133.out) hg (Kd.S_away HO_7.out (fun _ hk => hk.1.2))); have n2_ := Aside0.mk (hb); have n3_ := Aside0.mk (ho); clear BK124; clear BK133; clear HB; clear HO_7; clear HO138; have BK124 := n0_; have BK133 := n1_; have HB := n2_; have HO141 := n3_; clear n0_ n1_ n2_ n3_; clear ho hb hg hat))
                        go_roundg k3
                        case measure => have := HJ2.out; have := HJ13.out; have := HK3.out; omega
                        case rel => exact ⟨(y139), (wrap64 (x63_3 + 1)), (by first | rfl | (simp; done) | (simp [*]; done)), H', ⟨by have := HJ2.out; have := HJ13.out; have := HK3.out; omega⟩, ⟨by (with_reducible repeat (first | apply Kd.S_alloc | apply Kd.S_drewN | apply Kd.S_drew)); exact Kd.S_mono HO141.out (fun _ hk => hk.1)⟩, ⟨by (with_reducible repeat (first | refine blk_drewN ?_ _ | refine blk_drew ?_ | refine blk_alloc ?_ _)); exact BK124.out⟩, ⟨by repeat (first | (with_reducible first | exact HB.out | apply below_alloc | apply pw_below_drewN | apply below_drew1 | refine below_set ?_ GE124.out | refine below_set ?_ GE133.out) | exact HB.out)⟩⟩
                      · rw [if_neg c47] at H
                        exact absurd H (by simp)
                    · rw [if_neg c45] at H
                      exact absurd H (by simp)
                  · rw [if_neg c44] at H
                    exact absurd H (by simp)
                · rw [if_neg c43] at H
                  have c43b0 : decide (x63_3 < (l0.length : Int)) = false := decide_eq_false c43
                  clear c43
                  by_cases c54 : t127 < 0
                  · rw [if_pos c54] at H
                    have c54b0 : decide (t127 < 0) = true := decide_eq_true c54
                    clear c54
                    replace H := Option.bind_eq_some_iff.mp H
                    obtain ⟨⟨t142, t143, t144⟩, A550, H⟩ := H
                    replace H : (if x7_3.length < 2932031007402 then (some ((x7_3 ++ [(⟨t142, t143, t144⟩ : SSchema)]), 0)) else (none)) = some (r1, r2) := H
                    have A55 := Aside0.mk A550
                    clear A550
                    by_cases c56 : x7_3.length < 2932031007402
                    · rw [if_pos c56] at H
                      have LMc56 := Aside0.mk c56
                      clear c56
                      obtain ⟨y147, hy147⟩ : ∃ y_ : List (SSchema), y_ = (x7_3 ++ [(⟨t142, t143, t144⟩ : SSchema)]) := ⟨_, rfl⟩
                      replace H : (some (y147, 0)) = some (r1, r2) := by first | (rw [hy147]; with_reducible exact H) | (have H2_ := (Option.bind_some _ _).symm.trans H; rw [hy147]; with_reducible exact H2_) | (have H2_ := (Option.bind_some _ _).symm.trans H; with_reducible exact H2_) | with_reducible exact H | (rw [hy147]; exact H) | exact H
                      have Ny147 := Aside0.mk hy147
                      clear hy147
                      simp only [Option.some.injEq, Prod.mk.injEq] at H
                      obtain ⟨rfl, rfl⟩ := H
                      have hcz57_0 : wr.cell? ⟨gb124, 0, none⟩ = some (.string a1_0) := (blk_cell BK124.out 0).trans rfl
                      have hcz57_1 : wr.cell? ⟨gb124, 1, none⟩ = some (.int .i64 a1_1) := (blk_cell BK124.out 1).trans rfl
                      have hcz57_2 : wr.cell? ⟨gb124, 2, none⟩ = some (.slice A1_2 l1_2.length c1_2) := (blk_cell BK124.out 2).trans rfl
                      have hfz57_0 := blk_frozen BK124.out 0
                      have hfz57_1 := blk_frozen BK124.out 1
                      have hfz57_2 := blk_frozen BK124.out 2
                      go_wp2_with (first | ((with_reducible refine gate_callee (f := 40) rfl ?_); refine goesL_ (some 77) rfl rfl Try.func40 (by kernel_rfl) rfl #[.agg #[.string a1_0, .int .i64 a1_1, .slice A1_2 l1_2.length c1_2]] rfl (by (try simp only [List.map_toArray, List.map_cons, List.map_nil]); first | done | rfl | (simp only [List.length_drop, List.length_take]; rfl)) ?_; (with_reducible refine (registry_own.calls a1_0 a1_1 _ _ l1_2 t142 t143 t144 _ ?side1 ?side2 A55.out).mono ?_); (case side1 => repeat (first | exact (Kd.C_below HR1_2.out HB.out) | (with_reducible refine Kd.C_alloc ?_ _) | (with_reducible refine Kd.C_drewN ?_ _) | (with_reducible refine Kd.C_drew ?_))); (case side2 => exact HC1_2.out); rintro e w58 ⟨v145, rfl, ho0, hb⟩; refine ⟨_, rfl, ?_⟩; have n0_ := Aside0.mk (Kd.S_elder' (by (with_reducible repeat (first | apply Kd.S_alloc | apply Kd.S_drewN | apply Kd.S_drew)); exact HO_7.out) (Kd.R_base ho0) hb); have n1_ := Aside0.mk (Kd.R_lower ho0 (below_size (by repeat (first | (with_reducible first | exact HB.out | apply below_alloc | apply pw_below_drewN | apply below_drew1 | refine below_set ?_ GE124.out) | exact HB.out)))); have n2_ := Aside0.mk (blk_below (g := gb124) (o := .cells #[.string a1_0, .int .i64 a1_1, .slice A1_2 l1_2.length c1_2] 25 (0, 0)) (by (with_reducible repeat (first | refine blk_drewN ?_ _ | refine blk_drew ?_ | refine blk_alloc ?_ _)); exact BK124.out) hb); have n3_ := Aside0.mk (below_step (by repeat (first | (with_reducible first | exact HB.out | apply below_alloc | apply pw_below_drewN | apply below_drew1 | refine below_set ?_ GE124.out) | exact HB.out)) hb); clear HO_7; clear BK124; clear HB; have HO_7 := n0_; have HO146 := n1_; have BK124 := n2_; have HB := n3_; clear n0_ n1_ n2_ n3_; (try clear hb); (try clear hb2); (try clear hk); (try clear hi); (try clear ho0); obtain ⟨Ao60, co60, eo60⟩ := Kd.R_slice HO146.out; subst eo60) | ((with_reducible refine gate_builtin (b := .append) (xs := #[.tmp 75, .tmp 78]) rfl ?_); (try (refine gate_guard (by rfl) ?_; dsimp only)); at_builtin; refine Kd.S_append kSchema (w0 := w) w.heap.size rfl (.tmp 75) (.tmp 78) 22 25 (.agg #[(.string ⟨#[]⟩), (.int .i64 0), (.slice none 0 0)]) 48 rfl Try.underlying22 infoSchema rfl (by decide) (by omega) u7 x7_3 (⟨t142, t143, t144⟩ : SSchema) [.string t142, .int .i64 t143, .slice Ao60 t144.length co60] (fun k_ => k_ ≠ gb124) (fun k_ => some k_ = (.slice Ao60 t144.length co60 : Value).ownBlock) rfl rfl ?aP (fun k_ hk_ => ((Kd.R_mono (ok' := fun k_ => ((fun k_ => k_ ≠ gb124)) k_ ∧ some k_ ≠ (u7 : Value).ownBlock) (Kd.R_types (Kd.R_apart' (HO146.out) (Kd.S_typed HO_7.out) (by decide)) BK124.out (by decide)) (fun k_ hk => ⟨hk.2, hk.1.2⟩))).1 k_ hk_.symm) ?aF ?aO ?aB ?aS ?aL ?_; (case aP => exact kSchema_mkM _ _ _ (⟨t142, t143, t144⟩ : SSchema) (Kd.R_mono (Kd.R_tight rfl (Kd.R_mono (ok' := fun k_ => ((fun k_ => k_ ≠ gb124)) k_ ∧ some k_ ≠ (u7 : Value).ownBlock) (Kd.R_types (Kd.R_apart' (HO146.out) (Kd.S_typed HO_7.out) (by decide)) BK124.out (by decide)) (fun k_ hk => ⟨hk.2, hk.1.2⟩))) (fun _ h_ => h_))); (case aB => exact (by repeat (first | (with_reducible first | exact HB.out | apply below_alloc | apply pw_below_drewN | apply below_drew1 | refine below_set ?_ GE124.out) | exact HB.out))); (case aF => exact (fun k_ hk => Kd.freshB (g := gb124) (o := .cells #[.string a1_0, .int .i64 a1_1, .slice A1_2 l1_2.length c1_2] 25 (0, 0)) (by (with_reducible repeat (first | refine blk_drewN ?_ _ | refine blk_drew ?_ | refine blk_alloc ?_ _)); exact BK124.out) k_ hk)); (case aO => exact (by (with_reducible repeat (first | apply Kd.S_alloc | apply Kd.S_drewN | apply Kd.S_drew)); exact Kd.S_mono HO_7.out (fun k_ hk => ⟨hk.1, fun e_ => hk.2 e_⟩))); (case aS => exact (below_size (by repeat (first | (with_reducible first | exact HB.out | apply below_alloc | apply pw_below_drewN | apply below_drew1 | refine below_set ?_ GE124.out) | exact HB.out)))); (case aL => have := LMc56.out; omega); intro v148 w59 ho hb hg hat; rw [← Ny147.out] at ho; have n0_ := Aside0.mk (blk_grown (g := gb124) (o := .cells #[.string a1_0, .int .i64 a1_1, .slice A1_2 l1_2.length c1_2] 25 (0, 0)) (by (with_reducible repeat (first | refine blk_drewN ?_ _ | refine blk_drew ?_ | refine blk_alloc ?_ _)); exact BK124.out) hg (Kd.S_away HO_7.out (fun _ hk => hk.1))); have n1_ := Aside0.mk (hb); have n2_ := Aside0.mk (ho); clear BK124; clear HB; clear HO_7; clear HO146; have BK124 := n0_; have HB := n1_; have HO149 := n2_; clear n0_ n1_ n2_; clear ho hb hg hat))
                      go_ret2
                      exact ⟨_, by first | rfl | (simp [errW_none, errW_some] <;> rfl) | (simp [*, errW_none, errW_some] <;> rfl), by (with_reducible repeat (first | apply Kd.S_alloc | apply Kd.S_drewN | apply Kd.S_drew)); exact Kd.S_mono HO149.out (fun _ hk => trivial), by repeat (first | (with_reducible first | exact HB.out | apply below_alloc | apply pw_below_drewN | apply below_drew1 | refine below_set ?_ GE124.out) | exact HB.out)⟩
                    · rw [if_neg c56] at H
                      exact absurd H (by simp)
                  · rw [if_neg c54] at H
                    have c54b0 : decide (t127 < 0) = false := decide_eq_false c54
                    clear c54
                    replace H := Option.bind_eq_some_iff.mp H
                    obtain ⟨⟨t150, t151, t152⟩, A610, H⟩ := H
                    replace H : (if 0 ≤ t127 then (if t127 < (x7_3.length : Int) then (some ((x7_3.set (t127 : Int).toNat (⟨t150, t151, t152⟩ : SSchema)), 0)) else (none)) else (none)) = some (r1, r2) := H
                    have A61 := Aside0.mk A610
                    clear A610
                    by_cases c62 : 0 ≤ t127
                    · rw [if_pos c62] at H
                      have c62b0 : decide (0 ≤ t127) = true := decide_eq_true c62
                      clear c62
                      by_cases c63 : t127 < (x7_3.length : Int)
                      · rw [if_pos c63] at H
                        have c63b0 : decide (t127 < (x7_3.length : Int)) = true := decide_eq_true c63
                        clear c63
                        obtain ⟨y155, hy155⟩ : ∃ y_ : List (SSchema), y_ = (x7_3.set (t127 : Int).toNat (⟨t150, t151, t152⟩ : SSchema)) := ⟨_, rfl⟩
                        replace H : (some (y155, 0)) = some (r1, r2) := by first | (rw [hy155]; with_reducible exact H) | (have H2_ := (Option.bind_some _ _).symm.trans H; rw [hy155]; with_reducible exact H2_) | (have H2_ := (Option.bind_some _ _).symm.trans H; with_reducible exact H2_) | with_reducible exact H | (rw [hy155]; exact H) | exact H
                        have Ny155 := Aside0.mk hy155
                        clear hy155
                        simp only [Option.some.injEq, Prod.mk.injEq] at H
                        obtain ⟨rfl, rfl⟩ := H
                        have hcz65_0 : wr.cell? ⟨gb124, 0, none⟩ = some (.string a1_0) := (blk_cell BK124.out 0).trans rfl
                        have hcz65_1 : wr.cell? ⟨gb124, 1, none⟩ = some (.int .i64 a1_1) := (blk_cell BK124.out 1).trans rfl
                        have hcz65_2 : wr.cell? ⟨gb124, 2, none⟩ = some (.slice A1_2 l1_2.length c1_2) := (blk_cell BK124.out 2).trans rfl
                        have hfz65_0 := blk_frozen BK124.out 0
                        have hfz65_1 := blk_frozen BK124.out 1
                        have hfz65_2 := blk_frozen BK124.out 2
                        go_wp2_with (first | ((with_reducible refine gate_callee (f := 40) rfl ?_); refine goesL_ (some 83) rfl rfl Try.func40 (by kernel_rfl) rfl #[.agg #[.string a1_0, .int .i64 a1_1, .slice A1_2 l1_2.length c1_2]] rfl (by (try simp only [List.map_toArray, List.map_cons, List.map_nil]); first | done | rfl | (simp only [List.length_drop, List.length_take]; rfl)) ?_; (with_reducible refine (registry_own.calls a1_0 a1_1 _ _ l1_2 t150 t151 t152 _ ?side1 ?side2 A61.out).mono ?_); (case side1 => repeat (first | exact (Kd.C_below HR1_2.out HB.out) | (with_reducible refine Kd.C_alloc ?_ _) | (with_reducible refine Kd.C_drewN ?_ _) | (with_reducible refine Kd.C_drew ?_))); (case side2 => exact HC1_2.out); rintro e w66 ⟨v153, rfl, ho0, hb⟩; refine ⟨_, rfl, ?_⟩; have n0_ := Aside0.mk (Kd.S_elder' (by (with_reducible repeat (first | apply Kd.S_alloc | apply Kd.S_drewN | apply Kd.S_drew)); exact HO_7.out) (Kd.R_base ho0) hb); have n1_ := Aside0.mk (Kd.R_lower ho0 (below_size (by repeat (first | (with_reducible first | exact HB.out | apply below_alloc | apply pw_below_drewN | apply below_drew1 | refine below_set ?_ GE124.out) | exact HB.out)))); have n2_ := Aside0.mk (blk_below (g := gb124) (o := .cells #[.string a1_0, .int .i64 a1_1, .slice A1_2 l1_2.length c1_2] 25 (0, 0)) (by (with_reducible repeat (first | refine blk_drewN ?_ _ | refine blk_drew ?_ | refine blk_alloc ?_ _)); exact BK124.out) hb); have n3_ := Aside0.mk (below_step (by repeat (first | (with_reducible first | exact HB.out | apply below_alloc | apply pw_below_drewN | apply below_drew1 | refine below_set ?_ GE124.out) | exact HB.out)) hb); clear HO_7; clear BK124; clear HB; have HO_7 := n0_; have HO154 := n1_; have BK124 := n2_; have HB := n3_; clear n0_ n1_ n2_ n3_; (try clear hb); (try clear hb2); (try clear hk); (try clear hi); (try clear ho0); have p64 : 0 ≤ (t127 : Int) := of_decide_eq_true (by first | (with_reducible assumption) | assumption); have q64 : (t127 : Int) < ((x7_3.length : Int) : Int) := of_decide_eq_true (by first | (with_reducible assumption) | assumption); obtain ⟨go64, co64, eo64, gb64, gl64, cl64, HG64⟩ := Kd.S_form HO_7.out (by omega); (first | cases eo64 | (injection eo64 with ea_ en_ ec_; (first | subst ea_ | (injection ea_ with ea_; subst ea_)); subst ec_; clear en_)); have GB64 := Aside0.mk gb64; have GG64 := Aside0.mk HG64; clear gb64 gl64 HG64; obtain ⟨_, ce64, hcl64, hM64, hcc64, hfr64, _, _⟩ := Kd.S_elem HO_7.out zSchema (t127 : Int) p64 q64; obtain ⟨ve64_2, rfl, ge64_2⟩ := kSchema_openM hM64; have hx64_0 : w66.cell? ⟨go64, (t127 : Int).toNat * 3, none⟩ = some (.string ((rd_TSchema x7_3 t127).f0)) := hcc64 0 _ rfl; have hx64_1 : w66.cell? ⟨go64, (t127 : Int).toNat * 3 + 1, none⟩ = some (.int .i64 ((rd_TSchema x7_3 t127).f1)) := hcc64 1 _ rfl; have hx64_2 : w66.cell? ⟨go64, (t127 : Int).toNat * 3 + 2, none⟩ = some (ve64_2) := hcc64 2 _ rfl; have hf64_0 : w66.frozen? ⟨go64, (t127 : Int).toNat * 3, none⟩ = false := hfr64 0; have hf64_1 : w66.frozen? ⟨go64, (t127 : Int).toNat * 3 + 1, none⟩ = false := hfr64 1; have hf64_2 : w66.frozen? ⟨go64, (t127 : Int).toNat * 3 + 2, none⟩ = false := hfr64 2; clear hcl64 hcc64 hfr64 hM64; replace p64 := eq_true p64; replace q64 := eq_true q64; have HX67 := Aside0.mk (show Kd.S kSchema 25 w66 w.heap.size (fun k_ => ((fun k_ => k_ ≠ gb124)) k_ ∧ ¬ ((fun k_ => some k_ = (v153 : Value).ownBlock)) k_) (.slice (some ⟨go64, 0, none⟩) x7_3.length co64) x7_3 from (by (with_reducible repeat (first | apply Kd.S_alloc | apply Kd.S_drewN | apply Kd.S_drew)); exact Kd.S_mono HO_7.out (fun k_ hk => ⟨hk.1, fun e_ => hk.2 e_⟩))); obtain ⟨oki67, ce67, hcl67, hM67, hcc67, hfr67, hoki67, hH67⟩ := Kd.S_elem HX67.out zSchema (t127 : Int) (of_decide_eq_true (by first | (with_reducible assumption) | assumption)) (by have h_ : (t127 : Int) < ((x7_3.length : Int) : Int) := of_decide_eq_true (by first | (with_reducible assumption) | assumption); first | exact h_ | (have e_ := (Kd.S_reads' HO_7.out).1; omega) | simpa using h_); obtain ⟨ve67_2, rfl, ge67_2⟩ := kSchema_openM hM67; have HP67 := Kd.S_seg hH67 (of_decide_eq_true (by first | (with_reducible assumption) | assumption)) (by have h_ : (t127 : Int) < ((x7_3.length : Int) : Int) := of_decide_eq_true (by first | (with_reducible assumption) | assumption); first | exact h_ | (have e_ := (Kd.S_reads' HO_7.out).1; omega) | simpa using h_) (seg := [.string t150, .int .i64 t151, v153]) (j := 0) (show 3 ≤ 3 from by decide) (x' := (⟨t150, t151, t152⟩ : SSchema)) (kSchema_mkM _ _ _ (⟨t150, t151, t152⟩ : SSchema) (Kd.R_mono (Kd.R_tight rfl (Kd.R_mono (ok' := fun k_ => ((fun k_ => k_ ≠ gb124)) k_ ∧ k_ ≠ go64) (Kd.R_types (Kd.R_apart' (HO154.out) (Kd.S_typed HO_7.out) (by decide)) BK124.out (by decide)) (fun k_ hk => ⟨hk.2, fun e_ => (hk.1.2) (by rw [e_]; rfl)⟩))) (fun _ h_ => Or.inr (h_)))) (fun _ hk => hk) (fun k_ hk_ => ((Kd.R_mono (ok' := fun k_ => ((fun k_ => k_ ≠ gb124)) k_ ∧ k_ ≠ go64) (Kd.R_types (Kd.R_apart' (HO154.out) (Kd.S_typed HO_7.out) (by decide)) BK124.out (by decide)) (fun k_ hk => ⟨hk.2, fun e_ => (hk.1.2) (by rw [e_]; rfl)⟩))).1 k_ hk_.symm); have hx67_0 := hcc67 0 _ rfl; (try simp only [show (kSchema).sz = 3 from rfl, Nat.mul_one, Nat.add_zero] at hx67_0); have hf67_0 := hfr67 0; (try simp only [show (kSchema).sz = 3 from rfl, Nat.mul_one, Nat.add_zero] at hf67_0); have hx67_1 := hcc67 1 _ rfl; (try simp only [show (kSchema).sz = 3 from rfl, Nat.mul_one, Nat.add_zero] at hx67_1); have hf67_1 := hfr67 1; (try simp only [show (kSchema).sz = 3 from rfl, Nat.mul_one, Nat.add_zero] at hf67_1); have hx67_2 := hcc67 2 _ rfl; (try simp only [show (kSchema).sz = 3 from rfl, Nat.mul_one, Nat.add_zero] at hx67_2); have hf67_2 := hfr67 2; (try simp only [show (kSchema).sz = 3 from rfl, Nat.mul_one, Nat.add_zero] at hf67_2); clear hcl67 hcc67 hfr67 hM67 hoki67 hH67) | ((with_reducible refine gate_store (t := 25) (p := 84) rfl ?_); refine store_event (t := 25) (p := 84) (v := ?vo_w68) (w1 := (((w66.setCell ⟨go64, (t127 : Int).toNat * 3, none⟩ (.string t150)).setCell ⟨go64, (t127 : Int).toNat * 3 + 1, none⟩ (.int .i64 t151)).setCell ⟨go64, (t127 : Int).toNat * 3 + 2, none⟩ (v153))) ?hg ?ho ?hn ?hr ?_; (case ho => rfl); (case hg => rfl); (case hn => rfl); (case hr => first | (go_simp; done) | (go_simp; rfl) | (obtain ⟨A_0, c_0, hz_0⟩ := Kd.R_slice HO154.out; subst hz_0; first | (go_simp; done) | (go_simp; rfl))); intro w68 hw; have hg : w66.grownBy w68 (some go64) := (by rw [hw]; exact HP67.2); have hp_ : Kd.S kSchema 25 w68 w.heap.size (fun k_ => k_ ≠ gb124) (.slice (some ⟨go64, 0, none⟩) x7_3.length co64) y155 := (by rw [hw, Ny155.out]; exact HP67.1); clear HP67; have n0_ := Aside0.mk (hp_); have n1_ := Aside0.mk (blk_grown (g := gb124) (o := .cells #[.string a1_0, .int .i64 a1_1, .slice A1_2 l1_2.length c1_2] 25 (0, 0)) (by (with_reducible repeat (first | refine blk_drewN ?_ _ | refine blk_drew ?_ | refine blk_alloc ?_ _)); exact BK124.out) hg (Kd.S_away HO_7.out (fun _ hk => hk.1))); have n2_ := Aside0.mk ((by rw [hw]; exact below_set (below_set (below_set (HB.out) GB64.out) GB64.out) GB64.out : Below w.heap.size w w68)); clear HO_7; clear BK124; clear HB; clear HO154; have HO_7 := n0_; have BK124 := n1_; have HB := n2_; clear n0_ n1_ n2_; clear hg hw hp_))
                        go_ret2
                        exact ⟨_, by first | rfl | (simp [errW_none, errW_some] <;> rfl) | (simp [*, errW_none, errW_some] <;> rfl), by (with_reducible repeat (first | apply Kd.S_alloc | apply Kd.S_drewN | apply Kd.S_drew)); exact Kd.S_mono HO_7.out (fun _ hk => trivial), by repeat (first | (with_reducible first | exact HB.out | apply below_alloc | apply pw_below_drewN | apply below_drew1 | refine below_set ?_ GE124.out) | exact HB.out)⟩
                      · rw [if_neg c63] at H
                        exact absurd H (by simp)
                    · rw [if_neg c62] at H
                      exact absurd H (by simp)

end Go.Proofs.Ytbgdamlidohfhaa.P

namespace Go.Proofs.Ytbgdamlidohfhaa.P
open Go.RowKit Go.Proofs.YtbgdamlidohfhaaW.PrintWords Go.Proofs.YtbgdamlidohfhaaW.PrintLast Go.Proofs.YtbgdamlidohfhaaW.PrintMore
attribute [local go_sem] max2_int min2_int max_two min_two max_three min_three max_four min_four   -- for this text's walks alone
set_option linter.unusedVariables false
set_option linter.unusedSimpArgs false

/-! ### registry_Find: function 20 -/
def registry_Find.f (l0 : List (SSchema)) (a1 : ByteArray) : Option (ByteArray × Int × (List (SField)) × Bool) := (registry_at.f l0 a1).bind fun t157 => (if t157 < 0 then (some ((⟨#[]⟩ : ByteArray), 0, ([] : List (SField)), false)) else (if 0 ≤ t157 then (if t157 < (l0.length : Int) then ((registry_own.f ((rd_TSchema l0 t157).f0) ((rd_TSchema l0 t157).f1) ((rd_TSchema l0 t157).f2)).bind fun bt159 => (some (bt159.1, bt159.2.1, bt159.2.2, true))) else (none)) else (none)))
set_option maxHeartbeats 8000000 in
set_option maxRecDepth 100000 in
theorem registry_Find.calls (A0 : Option Addr) (c0 : Nat) (l0 : List (SSchema)) (a1 : ByteArray) (r1 : ByteArray) (r2 : Int) (r3 : List (SField)) (r4 : Bool) (w : World) (hr0 : Kd.C kSchema w A0 l0.length l0) (hc0 : l0.length ≤ c0) (h : registry_Find.f l0 a1 = some (r1, r2, r3, r4)) :
    Calls Try.prog 20 #[.slice A0 l0.length c0, .string a1] w fun e w' => ∃ v2_ : Value, e = .returned (.tuple #[.agg #[.string r1, .int .i64 r2, v2_], .bool r4]) ∧ Kd.R kField 39 w' w.heap.size (fun _ => True) v2_ r3 ∧ Below w.heap.size w w' := by
  have hu25 := Try.underlying25
  have HR0 := Aside0.mk hr0
  have HC0 := Aside0.mk hc0
  clear hr0 hc0
  have HB := Aside0.mk (Below.refl w.heap.size w)
  have H : ((registry_at.f l0 a1).bind fun t157 => (if t157 < 0 then (some ((⟨#[]⟩ : ByteArray), 0, ([] : List (SField)), false)) else (if 0 ≤ t157 then (if t157 < (l0.length : Int) then ((registry_own.f ((rd_TSchema l0 t157).f0) ((rd_TSchema l0 t157).f1) ((rd_TSchema l0 t157).f2)).bind fun bt159 => (some (bt159.1, bt159.2.1, bt159.2.2, true))) else (none)) else (none)))) = some (r1, r2, r3, r4) := h
  clear h
  replace H := Option.bind_eq_some_iff.mp H
  obtain ⟨t157, A30, H⟩ := H
  replace H : (if t157 < 0 then (some ((⟨#[]⟩ : ByteArray), 0, ([] : List (SField)), false)) else (if 0 ≤ t157 then (if t157 < (l0.length : Int) then ((registry_own.f ((rd_TSchema l0 t157).f0) ((rd_TSchema l0 t157).f1) ((rd_TSchema l0 t157).f2)).bind fun bt159 => (some (bt159.1, bt159.2.1, bt159.2.2, true))) else (none)) else (none))) = some (r1, r2, r3, r4) := H
  have A3 := Aside0.mk A30
  clear A30
  by_cases c4 : t157 < 0
  · rw [if_pos c4] at H
    have c4b0 : decide (t157 < 0) = true := decide_eq_true c4
    clear c4
    simp only [Option.some.injEq, Prod.mk.injEq] at H
    obtain ⟨rfl, rfl, rfl, rfl⟩ := H
    go_enter Try.func20, Try.ntmps20
    go_wp2_with (first | ((with_reducible refine gate_dst (N := 4) rfl ?_); refine box_event ?hg (N := 4) ?hd (cs := #[.string (⟨#[]⟩ : ByteArray), .int .i64 0, .slice none 0 0]) (t := 25) ?hr ?_; (case hd => rfl); (case hg => rfl); (case hr => first | (go_simp; done) | (go_simp; rfl)); intro gb156 hg w5 hbox hb; have n0_ := Aside0.mk (below_step (by repeat (first | (with_reducible first | exact HB.out | apply below_alloc | apply pw_below_drewN | apply below_drew1) | exact HB.out)) hb); have n1_ := Aside0.mk (hbox); have n2_ := Aside0.mk ((by rw [hg]; exact (below_size (by repeat (first | (with_reducible first | exact HB.out | apply below_alloc | apply pw_below_drewN | apply below_drew1) | exact HB.out))) : w.heap.size ≤ gb156)); have n3_ := Aside0.mk ((by rw [hg]; exact (below_size (by repeat (first | (with_reducible first | exact HB.out | apply below_alloc | apply pw_below_drewN | apply below_drew1) | exact HB.out))) : w.heap.size ≤ gb156)); clear HB; have HB := n0_; have BK156 := n1_; have GW156 := n2_; have GE156 := n3_; clear n0_ n1_ n2_ n3_; clear hb hbox hg) | ((with_reducible refine gate_callee (f := 39) rfl ?_); refine goesL_ (some 9) rfl rfl Try.func39 (by kernel_rfl) rfl #[.slice A0 l0.length c0, .string a1] rfl (by (try simp only [List.map_toArray, List.map_cons, List.map_nil]); first | done | rfl | (simp only [List.length_drop, List.length_take]; rfl)) ?_; (with_reducible refine (registry_at.calls _ _ l0 a1 t157 _ ?side1 ?side2 A3.out).mono ?_); (case side1 => repeat (first | exact (Kd.C_below HR0.out HB.out) | (with_reducible refine Kd.C_alloc ?_ _) | (with_reducible refine Kd.C_drewN ?_ _) | (with_reducible refine Kd.C_drew ?_))); (case side2 => exact HC0.out); rintro e w6 ⟨rfl, hb⟩; refine ⟨_, rfl, ?_⟩; have n0_ := Aside0.mk (blk_below (g := gb156) (o := .cells #[.string (⟨#[]⟩ : ByteArray), .int .i64 0, .slice none 0 0] 25 (0, 0)) (by (with_reducible repeat (first | refine blk_drewN ?_ _ | refine blk_drew ?_ | refine blk_alloc ?_ _)); exact BK156.out) hb); have n1_ := Aside0.mk (below_step (by repeat (first | (with_reducible first | exact HB.out | apply below_alloc | apply pw_below_drewN | apply below_drew1 | refine below_set ?_ GE156.out) | exact HB.out)) hb); clear BK156; clear HB; have BK156 := n0_; have HB := n1_; clear n0_ n1_; (try clear hb); (try clear hb2); (try clear hk); (try clear hi); have hcz7_0 : w6.cell? ⟨gb156, 0, none⟩ = some (.string (⟨#[]⟩ : ByteArray)) := (blk_cell BK156.out 0).trans rfl; have hcz7_1 : w6.cell? ⟨gb156, 1, none⟩ = some (.int .i64 0) := (blk_cell BK156.out 1).trans rfl; have hcz7_2 : w6.cell? ⟨gb156, 2, none⟩ = some (.slice none 0 0) := (blk_cell BK156.out 2).trans rfl; have hfz7_0 := blk_frozen BK156.out 0; have hfz7_1 := blk_frozen BK156.out 1; have hfz7_2 := blk_frozen BK156.out 2))
    refine bodyPost_ret (results_ct rfl _ _ gb156 25 #[.string (⟨#[]⟩ : ByteArray), .int .i64 0, .slice none 0 0] (0, 0) _ rfl (by (with_reducible repeat (first | refine blk_drewN ?_ _ | refine blk_drew ?_ | refine blk_alloc ?_ _)); refine blk_put (cs := #[.string (⟨#[]⟩ : ByteArray), .int .i64 0, .slice none 0 0]) ?_ 2 _ rfl; (with_reducible repeat (first | refine blk_drewN ?_ _ | refine blk_drew ?_ | refine blk_alloc ?_ _)); refine blk_put (cs := #[.string (⟨#[]⟩ : ByteArray), .int .i64 0, .slice none 0 0]) ?_ 1 _ rfl; (with_reducible repeat (first | refine blk_drewN ?_ _ | refine blk_drew ?_ | refine blk_alloc ?_ _)); refine blk_put (cs := #[.string (⟨#[]⟩ : ByteArray), .int .i64 0, .slice none 0 0]) ?_ 0 _ rfl; (with_reducible repeat (first | refine blk_drewN ?_ _ | refine blk_drew ?_ | refine blk_alloc ?_ _)); exact BK156.out) Try.underlying25 rfl (by kernel_rfl)) rfl ?_
    exact ⟨_, by first | rfl | (simp [errW_none, errW_some] <;> rfl) | (simp [*, errW_none, errW_some] <;> rfl), by first | exact Kd.R_nil _ _ _ _ _ | exact Kd.N_nil _ _ _ _ _ | exact Kd.V_nil _ _ _ _ _ | exact Kd.Q_nil _ _ _ _ _ | exact Kd.S_nil _ _ _ _ _, by repeat (first | (with_reducible first | exact HB.out | apply below_alloc | apply pw_below_drewN | apply below_drew1 | refine below_set ?_ GE156.out) | exact HB.out)⟩
  · rw [if_neg c4] at H
    have c4b0 : decide (t157 < 0) = false := decide_eq_false c4
    clear c4
    by_cases c8 : 0 ≤ t157
    · rw [if_pos c8] at H
      have c8b0 : decide (0 ≤ t157) = true := decide_eq_true c8
      clear c8
      by_cases c9 : t157 < (l0.length : Int)
      · rw [if_pos c9] at H
        have c9b0 : decide (t157 < (l0.length : Int)) = true := decide_eq_true c9
        clear c9
        replace H := Option.bind_eq_some_iff.mp H
        obtain ⟨⟨t159, t160, t161⟩, A100, H⟩ := H
        replace H : (some (t159, t160, t161, true)) = some (r1, r2, r3, r4) := H
        have A10 := Aside0.mk A100
        clear A100
        simp only [Option.some.injEq, Prod.mk.injEq] at H
        obtain ⟨rfl, rfl, rfl, rfl⟩ := H
        go_enter Try.func20, Try.ntmps20
        go_wp2_with (first | ((with_reducible refine gate_dst (N := 4) rfl ?_); refine box_event ?hg (N := 4) ?hd (cs := #[.string (⟨#[]⟩ : ByteArray), .int .i64 0, .slice none 0 0]) (t := 25) ?hr ?_; (case hd => rfl); (case hg => rfl); (case hr => first | (go_simp; done) | (go_simp; rfl)); intro gb156 hg w11 hbox hb; have n0_ := Aside0.mk (below_step (by repeat (first | (with_reducible first | exact HB.out | apply below_alloc | apply pw_below_drewN | apply below_drew1) | exact HB.out)) hb); have n1_ := Aside0.mk (hbox); have n2_ := Aside0.mk ((by rw [hg]; exact (below_size (by repeat (first | (with_reducible first | exact HB.out | apply below_alloc | apply pw_below_drewN | apply below_drew1) | exact HB.out))) : w.heap.size ≤ gb156)); have n3_ := Aside0.mk ((by rw [hg]; exact (below_size (by repeat (first | (with_reducible first | exact HB.out | apply below_alloc | apply pw_below_drewN | apply below_drew1) | exact HB.out))) : w.heap.size ≤ gb156)); clear HB; have HB := n0_; have BK156 := n1_; have GW156 := n2_; have GE156 := n3_; clear n0_ n1_ n2_ n3_; clear hb hbox hg) | ((with_reducible refine gate_callee (f := 39) rfl ?_); refine goesL_ (some 9) rfl rfl Try.func39 (by kernel_rfl) rfl #[.slice A0 l0.length c0, .string a1] rfl (by (try simp only [List.map_toArray, List.map_cons, List.map_nil]); first | done | rfl | (simp only [List.length_drop, List.length_take]; rfl)) ?_; (with_reducible refine (registry_at.calls _ _ l0 a1 t157 _ ?side1 ?side2 A3.out).mono ?_); (case side1 => repeat (first | exact (Kd.C_below HR0.out HB.out) | (with_reducible refine Kd.C_alloc ?_ _) | (with_reducible refine Kd.C_drewN ?_ _) | (with_reducible refine Kd.C_drew ?_))); (case side2 => exact HC0.out); rintro e w12 ⟨rfl, hb⟩; refine ⟨_, rfl, ?_⟩; have n0_ := Aside0.mk (blk_below (g := gb156) (o := .cells #[.string (⟨#[]⟩ : ByteArray), .int .i64 0, .slice none 0 0] 25 (0, 0)) (by (with_reducible repeat (first | refine blk_drewN ?_ _ | refine blk_drew ?_ | refine blk_alloc ?_ _)); exact BK156.out) hb); have n1_ := Aside0.mk (below_step (by repeat (first | (with_reducible first | exact HB.out | apply below_alloc | apply pw_below_drewN | apply below_drew1 | refine below_set ?_ GE156.out) | exact HB.out)) hb); clear BK156; clear HB; have BK156 := n0_; have HB := n1_; clear n0_ n1_; (try clear hb); (try clear hb2); (try clear hk); (try clear hi); have p158 : 0 ≤ (t157 : Int) := of_decide_eq_true (by first | (with_reducible assumption) | assumption); have q158 : t157 < (l0.length : Int) := of_decide_eq_true (by first | (with_reducible assumption) | assumption); obtain ⟨ad158, A158_2, c158_2, e158, hx158_0, hx158_1, hx158_2, hl158_2, hi158_2⟩ := at_TSchema HR0.out t157 p158 q158; cases e158; replace hx158_0 := (HB.out.cell (World.block_lt_of_cell? w _ hx158_0)).trans hx158_0; replace hx158_1 := (HB.out.cell (World.block_lt_of_cell? w _ hx158_1)).trans hx158_1; replace hx158_2 := (HB.out.cell (World.block_lt_of_cell? w _ hx158_2)).trans hx158_2; have HR158_2 := Aside0.mk hi158_2; have HC158_2 := Aside0.mk hl158_2; clear hi158_2 hl158_2; replace p158 := eq_true p158; replace q158 := eq_true q158) | ((with_reducible refine gate_callee (f := 40) rfl ?_); refine goesL_ (some 17) rfl rfl Try.func40 (by kernel_rfl) rfl #[.agg #[.string ((rd_TSchema l0 t157).f0), .int .i64 ((rd_TSchema l0 t157).f1), .slice A158_2 ((rd_TSchema l0 t157).f2).length c158_2]] rfl (by (try simp only [List.map_toArray, List.map_cons, List.map_nil]); first | done | rfl | (simp only [List.length_drop, List.length_take]; rfl)) ?_; (with_reducible refine (registry_own.calls ((rd_TSchema l0 t157).f0) ((rd_TSchema l0 t157).f1) _ _ ((rd_TSchema l0 t157).f2) t159 t160 t161 _ ?side1 ?side2 A10.out).mono ?_); (case side1 => repeat (first | exact (Kd.C_below HR158_2.out HB.out) | (with_reducible refine Kd.C_alloc ?_ _) | (with_reducible refine Kd.C_drewN ?_ _) | (with_reducible refine Kd.C_drew ?_))); (case side2 => exact HC158_2.out); rintro e w13 ⟨v162, rfl, ho0, hb⟩; refine ⟨_, rfl, ?_⟩; have n0_ := Aside0.mk (Kd.R_lower ho0 (below_size (by repeat (first | (with_reducible first | exact HB.out | apply below_alloc | apply pw_below_drewN | apply below_drew1 | refine below_set ?_ GE156.out) | exact HB.out)))); have n1_ := Aside0.mk (blk_below (g := gb156) (o := .cells #[.string (⟨#[]⟩ : ByteArray), .int .i64 0, .slice none 0 0] 25 (0, 0)) (by (with_reducible repeat (first | refine blk_drewN ?_ _ | refine blk_drew ?_ | refine blk_alloc ?_ _)); exact BK156.out) hb); have n2_ := Aside0.mk (below_step (by repeat (first | (with_reducible first | exact HB.out | apply below_alloc | apply pw_below_drewN | apply below_drew1 | refine below_set ?_ GE156.out) | exact HB.out)) hb); clear BK156; clear HB; have HO163 := n0_; have BK156 := n1_; have HB := n2_; clear n0_ n1_ n2_; (try clear hb); (try clear hb2); (try clear hk); (try clear hi); (try clear ho0); have hcz14_0 : w13.cell? ⟨gb156, 0, none⟩ = some (.string (⟨#[]⟩ : ByteArray)) := (blk_cell BK156.out 0).trans rfl; have hcz14_1 : w13.cell? ⟨gb156, 1, none⟩ = some (.int .i64 0) := (blk_cell BK156.out 1).trans rfl; have hcz14_2 : w13.cell? ⟨gb156, 2, none⟩ = some (.slice none 0 0) := (blk_cell BK156.out 2).trans rfl; have hfz14_0 := blk_frozen BK156.out 0; have hfz14_1 := blk_frozen BK156.out 1; have hfz14_2 := blk_frozen BK156.out 2; obtain ⟨Ao15, co15, eo15⟩ := Kd.R_slice HO163.out; subst eo15))
        refine bodyPost_ret (results_ct rfl _ _ gb156 25 #[.string t159, .int .i64 t160, .slice Ao15 t161.length co15] (0, 0) _ rfl (by (with_reducible repeat (first | refine blk_drewN ?_ _ | refine blk_drew ?_ | refine blk_alloc ?_ _)); refine blk_put (cs := #[.string t159, .int .i64 t160, .slice none 0 0]) ?_ 2 _ rfl; (with_reducible repeat (first | refine blk_drewN ?_ _ | refine blk_drew ?_ | refine blk_alloc ?_ _)); refine blk_put (cs := #[.string t159, .int .i64 0, .slice none 0 0]) ?_ 1 _ rfl; (with_reducible repeat (first | refine blk_drewN ?_ _ | refine blk_drew ?_ | refine blk_alloc ?_ _)); refine blk_put (cs := #[.string (⟨#[]⟩ : ByteArray), .int .i64 0, .slice none 0 0]) ?_ 0 _ rfl; (with_reducible repeat (first | refine blk_drewN ?_ _ | refine blk_drew ?_ | refine blk_alloc ?_ _)); exact BK156.out) Try.underlying25 rfl (by kernel_rfl)) rfl ?_
        exact ⟨_, by first | rfl | (simp [errW_none, errW_some] <;> rfl) | (simp [*, errW_none, errW_some] <;> rfl), by (with_reducible repeat (first | apply Kd.R_alloc | apply Kd.R_drewN | apply Kd.R_drew)); exact Kd.R_mono (Kd.R_far (p := ⟨gb156, 2, none⟩) (Kd.R_far (p := ⟨gb156, 1, none⟩) (Kd.R_far (p := ⟨gb156, 0, none⟩) (Kd.R_types HO163.out BK156.out (by decide)) (fun _ hk => hk.2) (.string t159)) (fun _ hk => hk.2) (.int .i64 t160)) (fun _ hk => hk.2) (.slice Ao15 t161.length co15)) (fun _ hk => trivial), by repeat (first | (with_reducible first | exact HB.out | apply below_alloc | apply pw_below_drewN | apply below_drew1 | refine below_set ?_ GE156.out) | exact HB.out)⟩
      · rw [if_neg c9] at H
        exact absurd H (by simp)
    · rw [if_neg c8] at H
      exact absurd H (by simp)

end Go.Proofs.Ytbgdamlidohfhaa.P

namespace Go.Proofs.Ytbgdamlidohfhaa.P
open Go.RowKit Go.Proofs.YtbgdamlidohfhaaW.PrintWords Go.Proofs.YtbgdamlidohfhaaW.PrintLast Go.Proofs.YtbgdamlidohfhaaW.PrintMore
attribute [local go_sem] max2_int min2_int max_two min_two max_three min_three max_four min_four   -- for this text's walks alone
set_option linter.unusedVariables false
set_option linter.unusedSimpArgs false

/-! ### slices_EqualFunc_api_Schema: function 42 -/
def slices_EqualFunc_api_Schema.rel (p : SSchema → SSchema → Bool) (l0 l1 : List SSchema) (w : World) (k : Nat) (w' : World) : Prop := k ≤ l0.length ∧ (∀ i, i < k → p (l0.getD i zSchema) (l1.getD i zSchema) = true) ∧ Below w.heap.size w w'
set_option maxHeartbeats 1000000 in
theorem slices_EqualFunc_api_Schema.told (g : Nat) (caps : Array Value) (p : SSchema → SSchema → Bool) (A0 : Option Addr) (cp0 : Nat) (l0 : List SSchema) (A1 : Option Addr) (cp1 : Nat) (l1 : List SSchema) (w : World) (eg : ∀ args w, (callFunc g args).run Try.prog w = .ok (.enter g args) w) (hp : Tells2 Try.prog kSchema g caps p w) (hr0 : Kd.C kSchema w A0 l0.length l0) (hc0 : l0.length ≤ cp0) (hr1 : Kd.C kSchema w A1 l1.length l1) (hc1 : l1.length ≤ cp1) :
    Calls Try.prog 42 #[.slice A0 l0.length cp0, .slice A1 l1.length cp1, .func (.func g) #[] caps] w (boolPost (eqf p zSchema l0 l1) w) := by
  have HR0 := Aside0.mk hr0
  have HC0 := Aside0.mk hc0
  have HR1 := Aside0.mk hr1
  have HC1 := Aside0.mk hc1
  have HP := Aside0.mk hp
  have hm := hr0.2.1
  clear hr0 hc0 hr1 hc1 hp
  by_cases hlen : l0.length = l1.length
  · have HLEN := Aside0.mk hlen
    go_enter Try.func42, Try.ntmps42
    go_wp2
    go_loopw [7, 8, 9, 17] (fun _ _ _ v17 w' => ∃ k : Nat, v17 = .int .i64 k ∧ slices_EqualFunc_api_Schema.rel p l0 l1 w k w') (fun _ _ _ i _ => l0.length - (intOf i).toNat)
    case atStart => exact ⟨0, rfl, Nat.zero_le _, fun i hi => by omega, Below.refl _ _⟩
    case round =>
      obtain ⟨k, rfl, HK⟩ := hrel
      have HK := Aside0.mk HK
      clear hlen
      by_cases hlt : k < l0.length
      · have hlt2 : k < l1.length := by have := HLEN.out; omega
        obtain ⟨ad, cs, e, hl, hK, hcell⟩ := Kd.C_get (Kd.C_below HR0.out HK.out.2.2) zSchema (k : Int) (by omega) (by omega)
        cases e
        obtain ⟨ad2, ds, e, hl2, hK2, hcell2⟩ := Kd.C_get (Kd.C_below HR1.out HK.out.2.2) zSchema (k : Int) (by omega) (by omega)
        cases e
        simp only [Int.toNat_natCast] at hK hcell hK2 hcell2
        obtain ⟨x, HX⟩ : ∃ x, Aside0 (l0.getD k zSchema = x) := ⟨_, ⟨rfl⟩⟩
        obtain ⟨y, HY⟩ : ∃ y, Aside0 (l1.getD k zSchema = y) := ⟨_, ⟨rfl⟩⟩
        rw [HX.out] at hK
        rw [HY.out] at hK2
        have hK0 := hK
        have hK20 := hK2
        obtain ⟨A2p, c2p, rfl, _⟩ := kSchema_open hK0
        have hp0 := hcell 0 _ rfl
        (try simp only [show kSchema.sz = 3 from rfl, Nat.mul_one, Nat.add_zero] at hp0)
        have hp0z := fun (o : Obj) => cell_later o hp0
        have hp1 := hcell 1 _ rfl
        (try simp only [show kSchema.sz = 3 from rfl, Nat.mul_one, Nat.add_zero] at hp1)
        rw [add_field _ _ 1 (by omega)] at hp1
        have hp1z := fun (o : Obj) => cell_later o hp1
        have hp2 := hcell 2 _ rfl
        (try simp only [show kSchema.sz = 3 from rfl, Nat.mul_one, Nat.add_zero] at hp2)
        rw [add_field _ _ 2 (by omega)] at hp2
        have hp2z := fun (o : Obj) => cell_later o hp2
        obtain ⟨A2q, c2q, rfl, _⟩ := kSchema_open hK20
        have hq0 := hcell2 0 _ rfl
        (try simp only [show kSchema.sz = 3 from rfl, Nat.mul_one, Nat.add_zero] at hq0)
        have hq0z := fun (o : Obj) => cell_later o hq0
        have hq1 := hcell2 1 _ rfl
        (try simp only [show kSchema.sz = 3 from rfl, Nat.mul_one, Nat.add_zero] at hq1)
        rw [add_field _ _ 1 (by omega)] at hq1
        have hq1z := fun (o : Obj) => cell_later o hq1
        have hq2 := hcell2 2 _ rfl
        (try simp only [show kSchema.sz = 3 from rfl, Nat.mul_one, Nat.add_zero] at hq2)
        rw [add_field _ _ 2 (by omega)] at hq2
        have hq2z := fun (o : Obj) => cell_later o hq2
        have hcall := Aside0.mk (fun (W : World) (hW : Below wr.heap.size wr W) => HP.out x y _ _ W (below_step HK.out.2.2 hW) (kSchema.K_below hW hK) (kSchema.K_below hW hK2))
        clear hcell hK hl hcell2 hK2 hl2 hK0 hK20
        cases hp : p x y with
        | true =>
          rw [hp] at hcall
          have HQ := Aside0.mk hp; clear hp
          go_wp2_with (go_at_fn g; refine (hcall.out _ (below_alloc (below_alloc (Below.refl _ _) _) _)).mono ?_; rintro e w1 ⟨rfl, hb1⟩)
          have hb2 := below_step HK.out.2.2 (below_step (below_alloc (below_alloc (Below.refl _ _) _) _) hb1)
          go_roundw
          case rel => exact ⟨k + 1, by go_num, by omega, all_next HK.out.2.1 (by rw [HX.out, HY.out]; exact HQ.out), hb2⟩
          case measure => simp [intOf]; omega
        | false =>
          rw [hp] at hcall
          have HQ := Aside0.mk hp; clear hp
          go_wp2_with (go_at_fn g; refine (hcall.out _ (below_alloc (below_alloc (Below.refl _ _) _) _)).mono ?_; rintro e w1 ⟨rfl, hb1⟩)
          go_ret
          exact ⟨by rw [eqf_hit k hlt (by rw [HX.out, HY.out]; exact HQ.out)]; rfl, below_step HK.out.2.2 (below_step (below_alloc (below_alloc (Below.refl _ _) _) _) hb1)⟩
      · have hlt2 : ¬ k < l1.length := by have := HLEN.out; omega
        go_wp2
        go_ret
        exact ⟨by rw [eqf_all HLEN.out (fun i hi => HK.out.2.1 i (by omega))]; rfl, HK.out.2.2⟩
  · have HE := Aside0.mk (eqf_len (p := p) (z := zSchema) hlen)
    go_enter Try.func42, Try.ntmps42
    go_wp2
    go_ret
    exact ⟨by rw [HE.out]; rfl, Below.refl _ _⟩

end Go.Proofs.Ytbgdamlidohfhaa.P

namespace Go.Proofs.Ytbgdamlidohfhaa.P
open Go.RowKit Go.Proofs.YtbgdamlidohfhaaW.PrintWords Go.Proofs.YtbgdamlidohfhaaW.PrintLast Go.Proofs.YtbgdamlidohfhaaW.PrintMore
attribute [local go_sem] max2_int min2_int max_two min_two max_three min_three max_four min_four   -- for this text's walks alone
set_option linter.unusedVariables false
set_option linter.unusedSimpArgs false

/-! ### registry_Same: function 26 -/
theorem same_told (w : World) : Tells2 Try.prog kSchema 27 #[] eqSchema w := by
  intro x y cs ds W _ hx hy
  obtain ⟨A2, c2, rfl, hl2, hc2⟩ := kSchema_open hx
  obtain ⟨A3, c3, rfl, hl3, hc3⟩ := kSchema_open hy
  exact schema_Same.calls (x.f2.length + 1) x.f0 x.f1 A2 c2 x.f2 y.f0 y.f1 A3 c3 y.f2 (eqSchema x y) W hc2 hl2 hc3 hl3 (schema_Same_is x y hc2.2.1 (by omega))
/-- Are two rows of schemas the same? -/
def registry_Same.f (l0 : List SSchema) (l1 : List SSchema) : Option Bool := some (eqf eqSchema zSchema l0 l1)
theorem registry_Same.calls (A0 : Option Addr) (c0 : Nat) (l0 : List SSchema) (A1 : Option Addr) (c1 : Nat) (l1 : List SSchema) (r : Bool) (w : World) (hr0 : Kd.C kSchema w A0 l0.length l0) (hc0 : l0.length ≤ c0) (hr1 : Kd.C kSchema w A1 l1.length l1) (hc1 : l1.length ≤ c1) (h : registry_Same.f l0 l1 = some r) :
    Calls Try.prog 26 #[.slice A0 l0.length c0, .slice A1 l1.length c1] w fun e w' => e = .returned (.bool r) ∧ Below w.heap.size w w' := by
  obtain rfl := Option.some.inj h
  clear h
  have HC1 := Aside0.mk (slices_EqualFunc_api_Schema.told 27 #[] eqSchema A0 c0 l0 A1 c1 l1 w (enters_of Try.func27 (by kernel_rfl) rfl) (same_told w) hr0 hc0 hr1 hc1)
  clear hr0 hc0 hr1 hc1
  go_enter Try.func26, Try.ntmps26
  go_wp2_with (go_at_call 42; refine HC1.out.mono ?_; rintro e w1 ⟨rfl, hb1⟩)
  go_ret
  exact ⟨rfl, hb1⟩

end Go.Proofs.Ytbgdamlidohfhaa.P

namespace Go.Proofs.Ytbgdamlidohfhaa.P
open Go.RowKit Go.Proofs.YtbgdamlidohfhaaW.PrintWords Go.Proofs.YtbgdamlidohfhaaW.PrintLast Go.Proofs.YtbgdamlidohfhaaW.PrintMore
attribute [local go_sem] max2_int min2_int max_two min_two max_three min_three max_four min_four   -- for this text's walks alone
set_option linter.unusedVariables false
set_option linter.unusedSimpArgs false

/-! ### towncrierlaw07_Few: function 16 -/
def towncrierlaw07_Few.l0 : Nat → List (SSchema) → Int → Option (Bool)
  | 0, _, _ => none
  | k + 1, x0, x3 => if x3 < (x0.length : Int) then (if 0 ≤ x3 then ((towncrierlaw05_Few.f k ((rd_TSchema x0 x3).f0) ((rd_TSchema x0 x3).f1) ((rd_TSchema x0 x3).f2)).bind fun t186 => (if t186 = true then (towncrierlaw07_Few.l0 k x0 (wrap64 (x3 + 1))) else (some false))) else (none)) else (some true)
def towncrierlaw07_Few.f (k : Nat) (l0 : List (SSchema)) : Option (Bool) := if (l0.length : Int) > 12 then (some false) else (towncrierlaw07_Few.l0 k l0 0)
theorem towncrierlaw07_Few.mono_l : ∀ k, (∀ y0 y1, LeO (towncrierlaw07_Few.l0 k y0 y1) (towncrierlaw07_Few.l0 (k + 1) y0 y1))
  | 0 => fun _ _ r h => by simp [towncrierlaw07_Few.l0] at h
  | k + 1 => by
    have ih0 := towncrierlaw07_Few.mono_l k
    · intro y0 y1
      unfold towncrierlaw07_Few.l0
      repeat' first
      | (with_reducible exact ih0 _ _)
      | (with_reducible exact towncrierlaw05_Few.mono _ _ _ _)
      | (with_reducible exact LeO.refl _)
      | (with_reducible exact LeO.none _)
      | (with_reducible refine LeO.ite ?_ ?_)
      | (with_reducible refine LeO.bind ?_ (fun _ => ?_))
      | exact ih0 _ _
      | exact towncrierlaw05_Few.mono _ _ _ _
      | exact LeO.none _
      | refine LeO.ite ?_ ?_
      | refine LeO.bind ?_ (fun _ => ?_)
theorem towncrierlaw07_Few.mono : ∀ a0 k, LeO (towncrierlaw07_Few.f k a0) (towncrierlaw07_Few.f (k + 1) a0) := by
  intro a0 k
  have ih0 := towncrierlaw07_Few.mono_l k
  unfold towncrierlaw07_Few.f
  repeat' first
      | (with_reducible exact ih0 _ _)
      | (with_reducible exact towncrierlaw05_Few.mono _ _ _ _)
      | (with_reducible exact LeO.refl _)
      | (with_reducible exact LeO.none _)
      | (with_reducible refine LeO.ite ?_ ?_)
      | (with_reducible refine LeO.bind ?_ (fun _ => ?_))
      | exact ih0 _ _
      | exact towncrierlaw05_Few.mono _ _ _ _
      | exact LeO.none _
      | refine LeO.ite ?_ ?_
      | refine LeO.bind ?_ (fun _ => ?_)
set_option maxHeartbeats 8000000 in
set_option maxRecDepth 100000 in
theorem towncrierlaw07_Few.calls (k : Nat) (A0 : Option Addr) (c0 : Nat) (l0 : List (SSchema)) (r : Bool) (w : World) (hr0 : Kd.C kSchema w A0 l0.length l0) (hc0 : l0.length ≤ c0) (h : towncrierlaw07_Few.f k l0 = some r) :
    Calls Try.prog 16 #[.slice A0 l0.length c0] w fun e w' => e = .returned (.bool r) ∧ Below w.heap.size w w' := by
  have hu25 := Try.underlying25
  have HR0 := Aside0.mk hr0
  have HC0 := Aside0.mk hc0
  clear hr0 hc0
  have HB := Aside0.mk (Below.refl w.heap.size w)
  have H : (if (l0.length : Int) > 12 then (some false) else (towncrierlaw07_Few.l0 k l0 0)) = some r := h
  clear h
  by_cases c2 : (l0.length : Int) > 12
  · rw [if_pos c2] at H
    have c2b0 : decide (12 < (l0.length : Int)) = true := decide_eq_true c2
    have c2b1 : decide (12 < l0.length) = true := decide_eq_true (by omega)
    clear c2
    obtain rfl := Option.some.inj H
    go_enter Try.func16, Try.ntmps16
    go_wp2
    go_ret
    exact ⟨by first | rfl | (simp [errW_none, errW_some] <;> rfl) | (simp [*, errW_none, errW_some] <;> rfl), by repeat (first | (with_reducible first | exact HB.out | apply below_alloc | apply pw_below_drewN | apply below_drew1) | exact HB.out)⟩
  · rw [if_neg c2] at H
    have c2b0 : decide (12 < (l0.length : Int)) = false := decide_eq_false c2
    have c2b1 : decide (12 < l0.length) = false := decide_eq_false (by omega)
    clear c2
    have H' := Aside0.mk H
    clear H
    go_enter Try.func16, Try.ntmps16
    go_wp2
    go_loopg [3] k (fun kq v3 w' => ∃ (x3_1 : Int), v3 = .int .i64 x3_1 ∧ Aside0 (towncrierlaw07_Few.l0 kq l0 x3_1 = some r) ∧ Aside0 (kq ≤ k) ∧ Aside0 (Below w.heap.size w w'))
    case atStart => exact ⟨(0), (by first | rfl | (simp; done) | (simp [*]; done)), H', ⟨Nat.le_refl _⟩, ⟨by repeat (first | (with_reducible first | exact HB.out | apply below_alloc | apply pw_below_drewN | apply below_drew1) | exact HB.out)⟩⟩
    case round =>
      clear H'
      try clear c1
      try clear c2
      try clear c2b0
      try clear c2b1
      try clear p2
      obtain ⟨x3_1, rfl, HA, HK1, HB⟩ := hrel
      cases gk with
      | zero => exact absurd HA.out (by simp [towncrierlaw07_Few.l0])
      | succ k1 =>
        have H := HA.out
        clear HA
        simp only [towncrierlaw07_Few.l0] at H
        by_cases c3 : x3_1 < (l0.length : Int)
        · rw [if_pos c3] at H
          have c3b0 : decide (x3_1 < (l0.length : Int)) = true := decide_eq_true c3
          clear c3
          by_cases c4 : 0 ≤ x3_1
          · rw [if_pos c4] at H
            have c4b0 : decide (0 ≤ x3_1) = true := decide_eq_true c4
            clear c4
            replace H := Option.bind_eq_some_iff.mp H
            obtain ⟨t186, A50, H⟩ := H
            replace H : (if t186 = true then (towncrierlaw07_Few.l0 k1 l0 (wrap64 (x3_1 + 1))) else (some false)) = some r := H
            have A5 := Aside0.mk A50
            clear A50
            by_cases c6 : t186 = true
            · subst c6
              have H1 : (towncrierlaw07_Few.l0 k1 l0 (wrap64 (x3_1 + 1))) = some r := by rw [if_pos rfl] at H; exact H
              clear H
              have H := H1
              clear H1
              have H' := Aside0.mk H
              clear H
              have p185 : 0 ≤ (x3_1 : Int) := of_decide_eq_true (by first | (with_reducible assumption) | assumption)
              have q185 : x3_1 < (l0.length : Int) := of_decide_eq_true (by first | (with_reducible assumption) | assumption)
              obtain ⟨ad185, A185_2, c185_2, e185, hx185_0, hx185_1, hx185_2, hl185_2, hi185_2⟩ := at_TSchema HR0.out x3_1 p185 q185
              cases e185
              replace hx185_0 := (HB.out.cell (World.block_lt_of_cell? w _ hx185_0)).trans hx185_0
              replace hx185_1 := (HB.out.cell (World.block_lt_of_cell? w _ hx185_1)).trans hx185_1
              replace hx185_2 := (HB.out.cell (World.block_lt_of_cell? w _ hx185_2)).trans hx185_2
              have HR185_2 := Aside0.mk hi185_2
              have HC185_2 := Aside0.mk hl185_2
              clear hi185_2 hl185_2
              replace p185 := eq_true p185
              replace q185 := eq_true q185
              go_wp2_with (first | ((with_reducible refine gate_callee (f := 17) rfl ?_); refine goesL_ (some 18) rfl rfl Try.func17 (by kernel_rfl) rfl #[.agg #[.string ((rd_TSchema l0 x3_1).f0), .int .i64 ((rd_TSchema l0 x3_1).f1), .slice A185_2 ((rd_TSchema l0 x3_1).f2).length c185_2]] rfl (by (try simp only [List.map_toArray, List.map_cons, List.map_nil]); first | done | rfl | (simp only [List.length_drop, List.length_take]; rfl)) ?_; (with_reducible refine (towncrierlaw05_Few.calls k1 ((rd_TSchema l0 x3_1).f0) ((rd_TSchema l0 x3_1).f1) _ _ ((rd_TSchema l0 x3_1).f2) true _ ?side1 ?side2 A5.out).mono ?_); (case side1 => repeat (first | exact (Kd.C_below HR185_2.out HB.out) | (with_reducible refine Kd.C_alloc ?_ _) | (with_reducible refine Kd.C_drewN ?_ _) | (with_reducible refine Kd.C_drew ?_))); (case side2 => exact HC185_2.out); rintro e w7 ⟨rfl, hb⟩; refine ⟨_, rfl, ?_⟩; have n0_ := Aside0.mk (below_step (by repeat (first | (with_reducible first | exact HB.out | apply below_alloc | apply pw_below_drewN | apply below_drew1) | exact HB.out)) hb); clear HB; have HB := n0_; clear n0_; (try clear hb); (try clear hb2); (try clear hk); (try clear hi)))
              go_roundg k1
              case measure => have := HK1.out; omega
              case rel => exact ⟨(wrap64 (x3_1 + 1)), (by first | rfl | (simp; done) | (simp [*]; done)), H', ⟨by have := HK1.out; omega⟩, ⟨by repeat (first | (with_reducible first | exact HB.out | apply below_alloc | apply pw_below_drewN | apply below_drew1) | exact HB.out)⟩⟩
            · replace c6 := Bool.eq_false_iff.mpr c6
              subst c6
              have H1 : (some false) = some r := by rw [if_neg (show ¬ (false = true) by decide)] at H; exact H
              clear H
              have H := H1
              clear H1
              obtain rfl := Option.some.inj H
              have p185 : 0 ≤ (x3_1 : Int) := of_decide_eq_true (by first | (with_reducible assumption) | assumption)
              have q185 : x3_1 < (l0.length : Int) := of_decide_eq_true (by first | (with_reducible assumption) | assumption)
              obtain ⟨ad185, A185_2, c185_2, e185, hx185_0, hx185_1, hx185_2, hl185_2, hi185_2⟩ := at_TSchema HR0.out x3_1 p185 q185
              cases e185
              replace hx185_0 := (HB.out.cell (World.block_lt_of_cell? w _ hx185_0)).trans hx185_0
              replace hx185_1 := (HB.out.cell (World.block_lt_of_cell? w _ hx185_1)).trans hx185_1
              replace hx185_2 := (HB.out.cell (World.block_lt_of_cell? w _ hx185_2)).trans hx185_2
              have HR185_2 := Aside0.mk hi185_2
              have HC185_2 := Aside0.mk hl185_2
              clear hi185_2 hl185_2
              replace p185 := eq_true p185
              replace q185 := eq_true q185
              go_wp2_with (first | ((with_reducible refine gate_callee (f := 17) rfl ?_); refine goesL_ (some 18) rfl rfl Try.func17 (by kernel_rfl) rfl #[.agg #[.string ((rd_TSchema l0 x3_1).f0), .int .i64 ((rd_TSchema l0 x3_1).f1), .slice A185_2 ((rd_TSchema l0 x3_1).f2).length c185_2]] rfl (by (try simp only [List.map_toArray, List.map_cons, List.map_nil]); first | done | rfl | (simp only [List.length_drop, List.length_take]; rfl)) ?_; (with_reducible refine (towncrierlaw05_Few.calls k1 ((rd_TSchema l0 x3_1).f0) ((rd_TSchema l0 x3_1).f1) _ _ ((rd_TSchema l0 x3_1).f2) false _ ?side1 ?side2 A5.out).mono ?_); (case side1 => repeat (first | exact (Kd.C_below HR185_2.out HB.out) | (with_reducible refine Kd.C_alloc ?_ _) | (with_reducible refine Kd.C_drewN ?_ _) | (with_reducible refine Kd.C_drew ?_))); (case side2 => exact HC185_2.out); rintro e w8 ⟨rfl, hb⟩; refine ⟨_, rfl, ?_⟩; have n0_ := Aside0.mk (below_step (by repeat (first | (with_reducible first | exact HB.out | apply below_alloc | apply pw_below_drewN | apply below_drew1) | exact HB.out)) hb); clear HB; have HB := n0_; clear n0_; (try clear hb); (try clear hb2); (try clear hk); (try clear hi)))
              go_ret
              exact ⟨by first | rfl | (simp [errW_none, errW_some] <;> rfl) | (simp [*, errW_none, errW_some] <;> rfl), by repeat (first | (with_reducible first | exact HB.out | apply below_alloc | apply pw_below_drewN | apply below_drew1) | exact HB.out)⟩
          · rw [if_neg c4] at H
            exact absurd H (by simp)
        · rw [if_neg c3] at H
          have c3b0 : decide (x3_1 < (l0.length : Int)) = false := decide_eq_false c3
          clear c3
          obtain rfl := Option.some.inj H
          go_wp2
          go_ret
          exact ⟨by first | rfl | (simp [errW_none, errW_some] <;> rfl) | (simp [*, errW_none, errW_some] <;> rfl), by repeat (first | (with_reducible first | exact HB.out | apply below_alloc | apply pw_below_drewN | apply below_drew1) | exact HB.out)⟩

end Go.Proofs.Ytbgdamlidohfhaa.P

/- Plain facts on the schemas' and the registry's functions (layers 5 and 7), about lists alone; each under the conditions that it names. -/
namespace Go.Proofs.Ytbgdamlidohfhaa.P
open Go.RowKit Go.Proofs.YtbgdamlidohfhaaW.PrintWords Go.Proofs.YtbgdamlidohfhaaW.PrintLast Go.Proofs.YtbgdamlidohfhaaW.PrintMore

/-! ### Where one is -/
theorem idx_spec {α : Type} (p : α → Bool) (z : α) : ∀ (l : List α), 0 ≤ idx p l → ∃ i : Nat, idx p l = (i : Int) ∧ i < l.length ∧ p (l.getD i z) = true ∧ ∀ j, j < i → p (l.getD j z) = false
  | [], h => by simp [idx] at h
  | x :: l, h => by
    have e : idx p (x :: l) = if p x then 0 else if idx p l < 0 then -1 else idx p l + 1 := rfl
    rw [e] at h ⊢
    by_cases hp : p x = true
    · rw [if_pos hp]
      exact ⟨0, rfl, by simp, by simpa using hp, fun j hj => by omega⟩
    · rw [if_neg hp] at h ⊢
      by_cases h2 : idx p l < 0
      · rw [if_pos h2] at h; omega
      · rw [if_neg h2]
        obtain ⟨i, h3, h4, h5, h6⟩ := idx_spec p z l (by omega)
        refine ⟨i + 1, by omega, by simpa using h4, by simpa using h5, fun j hj => ?_⟩
        cases j with
        | zero => simpa using hp
        | succ j => simpa using h6 j (by omega)
theorem idx_neg {α : Type} (p : α → Bool) (z : α) (l : List α) (h : idx p l < 0) : ∀ i, i < l.length → p (l.getD i z) = false := by
  intro i hi
  cases hp : p (l.getD i z) with
  | false => rfl
  | true =>
    have h2 := (idx_any p l).1
    rw [decide_eq_false (by omega)] at h2
    have h3 : l.any p = true := List.any_eq_true.2 ⟨l.getD i z, by simp [List.getD, hi], hp⟩
    rw [h3] at h2
    exact absurd h2 (by simp)
theorem idx_at {α : Type} (p : α → Bool) (z : α) (l : List α) (i : Nat) (hi : i < l.length) (hp : p (l.getD i z) = true) (hj : ∀ j, j < i → p (l.getD j z) = false) : idx p l = (i : Int) := idx_skip p z l i hj hi hp
/-- Where one of a name is. -/
def atOf (l : List SSchema) (nm : ByteArray) : Int := idx (fun x : SSchema => x.f0.toList == nm.toList) l
theorem atOf_name {l : List SSchema} {a b : ByteArray} (h : a.toList = b.toList) : atOf l a = atOf l b := by unfold atOf; rw [h]
theorem atOf_some {l : List SSchema} {nm : ByteArray} (h : 0 ≤ atOf l nm) : ∃ i : Nat, atOf l nm = (i : Int) ∧ i < l.length ∧ (l.getD i zSchema).f0.toList = nm.toList ∧ ∀ j, j < i → (l.getD j zSchema).f0.toList ≠ nm.toList := by
  obtain ⟨i, h1, h2, h3, h4⟩ := idx_spec _ zSchema l h
  exact ⟨i, h1, h2, by simpa using h3, fun j hj => by have := h4 j hj; simpa using this⟩
theorem atOf_none {l : List SSchema} {nm : ByteArray} (h : atOf l nm < 0) : ∀ i, i < l.length → (l.getD i zSchema).f0.toList ≠ nm.toList := by
  intro i hi
  have := idx_neg _ zSchema l h i hi
  simpa using this
theorem atOf_is {l : List SSchema} {nm : ByteArray} {i : Nat} (hi : i < l.length) (h : (l.getD i zSchema).f0.toList = nm.toList) (hj : ∀ j, j < i → (l.getD j zSchema).f0.toList ≠ nm.toList) : atOf l nm = (i : Int) :=
  idx_at _ zSchema l i hi (by simpa using h) (fun j hj2 => by have := hj j hj2; simpa using this)
theorem atOf_not {l : List SSchema} {nm : ByteArray} (h : ∀ i, i < l.length → (l.getD i zSchema).f0.toList ≠ nm.toList) : atOf l nm = -1 :=
  idx_none _ zSchema l (fun i hi => by have := h i hi; simpa using this)

/-! ### May, and Find -/
/-- May these be all schemas? -/
def mayAll (l : List SSchema) : Bool := decide (l.length ≤ 8) && (List.range l.length).all fun i => mayS (l.getD i zSchema) && decide (atOf l (l.getD i zSchema).f0 = (i : Int))
theorem mayAll_iff {l : List SSchema} : mayAll l = true ↔ l.length ≤ 8 ∧ ∀ i, i < l.length → mayS (l.getD i zSchema) = true ∧ atOf l (l.getD i zSchema).f0 = (i : Int) := by
  unfold mayAll
  simp only [Bool.and_eq_true, decide_eq_true_eq, List.all_eq_true, List.mem_range]
theorem may_loop (l : List SSchema) (hl : l.length < 4611686018427387904) : ∀ (d i k : Nat), i + d = l.length → d < k → (∀ j, j < i → (mayS (l.getD j zSchema) && decide (atOf l (l.getD j zSchema).f0 = (j : Int))) = true) →
    registry_May.l0 k l l (l.length : Int) (i : Int) = some (mayAll l) := by
  intro d
  induction d with
  | zero =>
    intro i k hi hk h
    obtain ⟨k, rfl⟩ := rounds_of hk
    simp only [registry_May.l0]
    rw [if_neg (by omega)]
    unfold mayAll
    rw [range_all_none _ _ (fun j hj => h j (by omega)), Bool.and_true]
    exact congrArg some (decide_eq_decide.2 (by omega))
  | succ d ih =>
    intro i k hi hk h
    obtain ⟨k, rfl⟩ := rounds_of hk
    simp only [registry_May.l0]
    rw [if_pos (by omega), if_pos (by omega), if_pos (by omega), wrap_succ (by omega)]
    rw [show rd_TSchema l (i : Int) = l.getD i zSchema from rfl]
    have hf : ∀ b, (mayS (l.getD i zSchema) && decide (atOf l (l.getD i zSchema).f0 = (i : Int))) = b → b = false → some false = some (mayAll l) := by
      intro b hb hb2
      subst hb2
      unfold mayAll
      rw [range_all_hit _ _ i (by omega) hb, Bool.and_false]
    unfold schema_May.f registry_at.f
    simp only [Option.bind_some]
    cases h1 : mayB (l.getD i zSchema).f0 (l.getD i zSchema).f1 (l.getD i zSchema).f2 with
    | false => exact hf false (by unfold mayS; rw [h1, Bool.false_and]) rfl
    | true =>
      rw [if_pos rfl]
      by_cases h2 : atOf l (l.getD i zSchema).f0 = (i : Int)
      · have h2' := h2
        unfold atOf at h2'
        rw [if_pos h2']
        exact ih (i + 1) k (by omega) (by omega) (all_next h (by unfold mayS; rw [h1, decide_eq_true h2]; rfl))
      · have h2' := h2
        unfold atOf at h2'
        rw [if_neg h2']
        exact hf false (by rw [decide_eq_false h2, Bool.and_false]) rfl
theorem may_is (l : List SSchema) (hl : l.length < 4611686018427387904) {k : Nat} (hk : l.length < k) : registry_May.f k l = some (mayAll l) :=
  may_loop l hl l.length 0 k (by omega) hk (fun j hj => by omega)
theorem own_is (x : SSchema) (h : wfSchema x) : registry_own.f x.f0 x.f1 x.f2 = some (x.f0, x.f1, x.f2) := by
  unfold registry_own.f slices_Clone_api_Field.f
  rw [if_pos (fields_few h)]
  rfl
theorem find_none {l : List SSchema} {nm : ByteArray} (h : atOf l nm < 0) : registry_Find.f l nm = some ((⟨#[]⟩ : ByteArray), 0, [], false) := by
  unfold registry_Find.f registry_at.f
  unfold atOf at h
  simp only [Option.bind_some]
  rw [if_pos h]
theorem find_some {l : List SSchema} {nm : ByteArray} {i : Nat} (hw : ∀ y ∈ l, wfSchema y) (h : atOf l nm = (i : Int)) (hi : i < l.length) : registry_Find.f l nm = some ((l.getD i zSchema).f0, (l.getD i zSchema).f1, (l.getD i zSchema).f2, true) := by
  unfold registry_Find.f registry_at.f
  unfold atOf at h
  simp only [Option.bind_some]
  rw [h, if_neg (by omega), if_pos (by omega), if_pos (by omega), show rd_TSchema l (i : Int) = l.getD i zSchema from rfl, own_is _ (getD_mem hw zSchema hi)]
  rfl

/-! ### Fits, and Add -/
/-- What they are with one more, or why not. -/
def addOf (l : List SSchema) (s : SSchema) : List SSchema × Int :=
  if mayAll l = true ∧ mayS s = true then
    (if atOf l s.f0 < 0 then (if s.f1 = 1 then (if l.length = 8 then ([], 7) else (l ++ [s], 0)) else ([], 5))
     else if eqSchema (l.getD (atOf l s.f0).toNat zSchema) s = true then ([], 4)
     else if fitsB (l.getD (atOf l s.f0).toNat zSchema) s = true then (l.set (atOf l s.f0).toNat s, 0) else ([], 5))
  else ([], 1)
theorem add_loop (l : List SSchema) (s : SSchema) (a : Int) (hl : l.length < 2000000000) (hw : ∀ y ∈ l, wfSchema y) (hs : wfSchema s) (ha : a < (l.length : Int)) : ∀ (d i k : Nat), i + d = l.length → d < k →
    registry_Add.l0 k a (l.take i) l (l.length : Int) (i : Int) s.f0 s.f1 s.f2 = some (if a < 0 then l ++ [s] else l.set a.toNat s, 0) := by
  intro d
  induction d with
  | zero =>
    intro i k hi hk
    obtain ⟨k, rfl⟩ := rounds_of hk
    simp only [registry_Add.l0]
    rw [if_neg (by omega), List.take_of_length_le (by omega), own_is s hs]
    simp only [Option.bind_some]
    by_cases h : a < 0
    · rw [if_pos h, if_pos h, if_pos (by omega)]
    · rw [if_neg h, if_neg h, if_pos (by omega), if_pos (by omega)]
  | succ d ih =>
    intro i k hi hk
    obtain ⟨k, rfl⟩ := rounds_of hk
    simp only [registry_Add.l0]
    rw [if_pos (by omega), if_pos (by omega), if_pos (by omega), wrap_succ (by omega), show rd_TSchema l (i : Int) = l.getD i zSchema from rfl, own_is _ (getD_mem hw zSchema (by omega))]
    simp only [Option.bind_some]
    rw [if_pos (by rw [List.length_take]; omega)]
    have h := ih (i + 1) k (by omega) (by omega)
    rw [take_snoc zSchema l i (by omega)] at h
    exact h
theorem add_is (l : List SSchema) (s : SSchema) (hl : l.length < 2000000000) (hw : ∀ y ∈ l, wfSchema y) (hs : wfSchema s) {k : Nat} (hk : 6000000000000 < k) : registry_Add.f k l s.f0 s.f1 s.f2 = some (addOf l s) := by
  obtain ⟨k, rfl⟩ : ∃ m, k = m + 5 := ⟨k - 5, by omega⟩
  unfold registry_Add.f addOf
  rw [may_is l (by omega) (by omega)]
  simp only [Option.bind_some]
  cases h1 : mayAll l with
  | false => simp [registry_Add.j0]
  | true =>
    rw [if_pos rfl]
    unfold schema_May.f
    simp only [Option.bind_some]
    cases h2 : mayS s with
    | false =>
      have h2' := h2
      unfold mayS at h2'
      rw [h2']
      simp [registry_Add.j0]
    | true =>
      have h2' := h2
      unfold mayS at h2'
      rw [h2']
      rw [if_pos (by simp)]
      have ea : registry_at.f l s.f0 = some (atOf l s.f0) := rfl
      simp only [registry_Add.j0, Bool.not_true, Bool.false_eq_true, if_false, ea, Option.bind_some]
      by_cases h3 : atOf l s.f0 < 0
      · rw [if_pos h3, if_pos h3]
        simp only [registry_Add.j1]
        by_cases h4 : s.f1 = 1
        · rw [if_neg (by simp [h4]), if_pos h3, if_pos h4]
          simp only [registry_Add.j2]
          by_cases h5 : l.length = 8
          · rw [if_pos (by simp [h5]), if_pos h5]
          · rw [if_neg (by simp; omega), if_neg h5, if_neg (by omega)]
            simp only [registry_Add.j3, Bool.false_eq_true, if_false]
            rw [if_neg (by omega)]
            simp only [registry_Add.j4]
            have := add_loop l s (atOf l s.f0) hl hw hs (by omega) l.length 0 k (by omega) (by omega)
            rw [if_pos h3] at this
            exact this
        · rw [if_pos (by simpa using h4), if_neg h4]
      · rw [if_neg h3, if_neg h3]
        obtain ⟨i, e, hi, hn, _⟩ := atOf_some (by omega : 0 ≤ atOf l s.f0)
        rw [e] at h3 ⊢
        rw [Int.toNat_natCast]
        have hwi := getD_mem hw zSchema hi
        have hfi := fields_few hwi
        have hfs := fields_few hs
        simp only [registry_Add.j1, Bool.false_eq_true, if_false]
        rw [if_neg h3]
        simp only [registry_Add.j2, Bool.false_eq_true, if_false]
        rw [if_pos (by omega), if_pos (by omega), if_pos (by omega), show rd_TSchema l (i : Int) = l.getD i zSchema from rfl, schema_Same_is _ s (by omega) (by omega)]
        simp only [Option.bind_some, registry_Add.j3]
        cases h5 : eqSchema (l.getD i zSchema) s with
        | true => rfl
        | false =>
          simp only [Bool.false_eq_true, if_false]
          rw [if_pos (by omega), if_pos (by omega), if_pos (by omega), show rd_TSchema l (i : Int) = l.getD i zSchema from rfl, fits_is _ s (by omega) (by omega) (by omega)]
          simp only [Option.bind_some]
          cases h6 : fitsB (l.getD i zSchema) s with
          | false => rfl
          | true =>
            rw [if_pos rfl, if_pos rfl]
            simp only [registry_Add.j4]
            have := add_loop l s (i : Int) hl hw hs (by omega) l.length 0 (k + 0) (by omega) (by omega)
            rw [if_neg (by omega), Int.toNat_natCast] at this
            exact this

/-! ### What is the same, fits, and is added -/
theorem getD_set {α : Type} (l : List α) (z s : α) (i n : Nat) (hi : i < l.length) : (l.set i s).getD n z = if n = i then s else l.getD n z := by
  simp only [List.getD_eq_getElem?_getD, List.getElem?_set]
  by_cases h : i = n
  · subst h; simp [hi]
  · rw [if_neg h, if_neg (fun e => h e.symm)]
theorem getD_snoc {α : Type} (l : List α) (z s : α) : (l ++ [s]).getD l.length z = s := by simp
/-- What is added: behind all, or in its own name's place, which it fits. -/
theorem addOf_ok {l : List SSchema} {s : SSchema} (h : (addOf l s).2 = 0) : mayAll l = true ∧ mayS s = true ∧ ((atOf l s.f0 < 0 ∧ s.f1 = 1 ∧ l.length < 8 ∧ addOf l s = (l ++ [s], 0)) ∨ ∃ i : Nat, atOf l s.f0 = (i : Int) ∧ i < l.length ∧ (l.getD i zSchema).f0.toList = s.f0.toList ∧ fitsB (l.getD i zSchema) s = true ∧ addOf l s = (l.set i s, 0)) := by
  unfold addOf at h ⊢
  by_cases h1 : mayAll l = true ∧ mayS s = true
  · rw [if_pos h1] at h ⊢
    refine ⟨h1.1, h1.2, ?_⟩
    have h8 := (mayAll_iff.1 h1.1).1
    by_cases h2 : atOf l s.f0 < 0
    · rw [if_pos h2] at h ⊢
      left
      by_cases h3 : s.f1 = 1
      · rw [if_pos h3] at h ⊢
        by_cases h4 : l.length = 8
        · rw [if_pos h4] at h; simp at h
        · rw [if_neg h4] at h ⊢
          exact ⟨h2, h3, by omega, rfl⟩
      · rw [if_neg h3] at h; simp at h
    · rw [if_neg h2] at h ⊢
      right
      obtain ⟨i, e, hi, hn, _⟩ := atOf_some (by omega : 0 ≤ atOf l s.f0)
      rw [e, Int.toNat_natCast] at h ⊢
      by_cases h3 : eqSchema (l.getD i zSchema) s = true
      · rw [if_pos h3] at h; simp at h
      · rw [if_neg h3] at h ⊢
        by_cases h4 : fitsB (l.getD i zSchema) s = true
        · rw [if_pos h4] at h ⊢
          exact ⟨i, rfl, hi, hn, h4, rfl⟩
        · rw [if_neg h4] at h; simp at h
  · rw [if_neg h1] at h; simp at h
/-- What is added has the wished form, too. -/
theorem addOf_wf {l : List SSchema} {s : SSchema} (hw : ∀ y ∈ l, wfSchema y) (hs : wfSchema s) : ∀ y ∈ (addOf l s).1, wfSchema y := by
  unfold addOf
  repeat' split
  all_goals first
    | (intro y hy; simp at hy; done)
    | (intro y hy; simp at hy; rcases hy with hy | rfl; exact hw y hy; exact hs)
    | (intro y hy; rcases List.mem_or_eq_of_mem_set hy with hy | rfl; exact hw y hy; exact hs)
theorem atOf_snoc {l : List SSchema} {s : SSchema} {nm : ByteArray} {j : Nat} (h : atOf l nm = (j : Int)) : atOf (l ++ [s]) nm = (j : Int) ∧ (l ++ [s]).getD j zSchema = l.getD j zSchema := by
  obtain ⟨i, e, hi, hn, hj⟩ := atOf_some (l := l) (nm := nm) (by omega)
  obtain rfl : i = j := by omega
  have h1 : ∀ n, n < l.length → (l ++ [s]).getD n zSchema = l.getD n zSchema := fun n hn => getD_left _ _ _ hn
  refine ⟨atOf_is (by simp; omega) (by rw [h1 _ hi]; exact hn) (fun j hj2 => by rw [h1 _ (by omega)]; exact hj j hj2), h1 _ hi⟩
theorem atOf_set {l : List SSchema} {s : SSchema} {nm : ByteArray} {i : Nat} (hi : i < l.length) (he : (l.getD i zSchema).f0.toList = s.f0.toList) : atOf (l.set i s) nm = atOf l nm := by
  have h1 : ∀ n, ((l.set i s).getD n zSchema).f0.toList = (l.getD n zSchema).f0.toList := by
    intro n
    rw [getD_set _ _ _ _ _ hi]
    split
    · rename_i h; rw [h, he]
    · rfl
  by_cases h : atOf l nm < 0
  · have h2 := atOf_none h
    rw [atOf_not (l := l.set i s) (fun n hn => by rw [h1]; exact h2 n (by simpa using hn)), atOf_not h2]
  · obtain ⟨j, e, hj, hn, hjj⟩ := atOf_some (by omega : 0 ≤ atOf l nm)
    rw [e]
    exact atOf_is (by simpa using hj) (by rw [h1]; exact hn) (fun n hn => by rw [h1]; exact hjj n hn)

/-! ### Few -/
theorem few7_loop (l : List SSchema) (hl : l.length ≤ 12) : ∀ (d i k : Nat), i + d = l.length → d + 30 < k → ∃ b, towncrierlaw07_Few.l0 k l (i : Int) = some b := by
  intro d
  induction d with
  | zero =>
    intro i k hi hk
    obtain ⟨k, rfl⟩ := rounds_of (show 0 < k from by omega)
    simp only [towncrierlaw07_Few.l0]
    rw [if_neg (by omega)]
    exact ⟨_, rfl⟩
  | succ d ih =>
    intro i k hi hk
    obtain ⟨k, rfl⟩ := rounds_of (show 0 < k from by omega)
    simp only [towncrierlaw07_Few.l0]
    obtain ⟨b, hb, _⟩ := few5_some (rd_TSchema l (i : Int)).f0 (rd_TSchema l (i : Int)).f1 (rd_TSchema l (i : Int)).f2 (k := k) (by omega)
    rw [if_pos (by omega), if_pos (by omega), hb, wrap_succ (by omega)]
    simp only [Option.bind_some]
    split
    · exact ih (i + 1) k (by omega) (by omega)
    · exact ⟨_, rfl⟩
theorem few7_some (l : List SSchema) {k : Nat} (hk : 100 ≤ k) : ∃ b, towncrierlaw07_Few.f k l = some b ∧ (b = true → l.length ≤ 12) := by
  unfold towncrierlaw07_Few.f
  by_cases h : (l.length : Int) > 12
  · rw [if_pos h]; exact ⟨_, rfl, by simp⟩
  · rw [if_neg h]
    obtain ⟨b, hb⟩ := few7_loop l (by omega) l.length 0 k (by omega) (by omega)
    exact ⟨b, hb, fun _ => by omega⟩
end Go.Proofs.Ytbgdamlidohfhaa.P

namespace Go.Proofs.Ytbgdamlidohfhaa.P
open Go.RowKit Go.Proofs.YtbgdamlidohfhaaW.PrintWords Go.Proofs.YtbgdamlidohfhaaW.PrintLast Go.Proofs.YtbgdamlidohfhaaW.PrintMore
attribute [local go_sem] max2_int min2_int max_two min_two max_three min_three max_four min_four   -- for this text's walks alone
set_option linter.unusedVariables false
set_option linter.unusedSimpArgs false

/-! ### towncrierref07_at: function 41 -/
def towncrierref07_at.l0 : Nat → List (SSchema) → ByteArray → Int → Option (Int)
  | 0, _, _, _ => none
  | k + 1, x0, x1, x5 => if x5 < (x0.length : Int) then (if 0 ≤ x5 then (if ((rd_TSchema x0 x5).f0).toList = x1.toList then (some x5) else (towncrierref07_at.l0 k x0 x1 (wrap64 (x5 + 1)))) else (none)) else (some (-1))
def towncrierref07_at.f (k : Nat) (l0 : List (SSchema)) (a1 : ByteArray) : Option (Int) := towncrierref07_at.l0 k l0 a1 0
theorem towncrierref07_at.mono_l : ∀ k, (∀ y0 y1 y2, LeO (towncrierref07_at.l0 k y0 y1 y2) (towncrierref07_at.l0 (k + 1) y0 y1 y2))
  | 0 => fun _ _ _ r h => by simp [towncrierref07_at.l0] at h
  | k + 1 => by
    have ih0 := towncrierref07_at.mono_l k
    · intro y0 y1 y2
      unfold towncrierref07_at.l0
      repeat' first
      | (with_reducible exact ih0 _ _ _)
      | (with_reducible exact LeO.refl _)
      | (with_reducible exact LeO.none _)
      | (with_reducible refine LeO.ite ?_ ?_)
      | (with_reducible refine LeO.bind ?_ (fun _ => ?_))
      | exact ih0 _ _ _
      | exact LeO.none _
      | refine LeO.ite ?_ ?_
      | refine LeO.bind ?_ (fun _ => ?_)
theorem towncrierref07_at.mono : ∀ a0 a1 k, LeO (towncrierref07_at.f k a0 a1) (towncrierref07_at.f (k + 1) a0 a1) := by
  intro a0 a1 k
  have ih0 := towncrierref07_at.mono_l k
  unfold towncrierref07_at.f
  repeat' first
      | (with_reducible exact ih0 _ _ _)
      | (with_reducible exact LeO.refl _)
      | (with_reducible exact LeO.none _)
      | (with_reducible refine LeO.ite ?_ ?_)
      | (with_reducible refine LeO.bind ?_ (fun _ => ?_))
      | exact ih0 _ _ _
      | exact LeO.none _
      | refine LeO.ite ?_ ?_
      | refine LeO.bind ?_ (fun _ => ?_)
set_option maxHeartbeats 8000000 in
set_option maxRecDepth 100000 in
theorem towncrierref07_at.calls (k : Nat) (A0 : Option Addr) (c0 : Nat) (l0 : List (SSchema)) (a1 : ByteArray) (r : Int) (w : World) (hr0 : Kd.C kSchema w A0 l0.length l0) (hc0 : l0.length ≤ c0) (h : towncrierref07_at.f k l0 a1 = some r) :
    Calls Try.prog 41 #[.slice A0 l0.length c0, .string a1] w fun e w' => e = .returned (.int .i64 r) ∧ Drawn0 w w' := by
  have HR0 := Aside0.mk hr0
  have HC0 := Aside0.mk hc0
  clear hr0 hc0
  have H : (towncrierref07_at.l0 k l0 a1 0) = some r := h
  clear h
  have H' := Aside0.mk H
  clear H
  go_enter Try.func41, Try.ntmps41
  go_wp2
  go_loopg [5] k (fun kq v5 w' => ∃ (x5_1 : Int), v5 = .int .i64 x5_1 ∧ Aside0 (towncrierref07_at.l0 kq l0 a1 x5_1 = some r) ∧ Aside0 (kq ≤ k) ∧ Drawn0 w w')
  case atStart => exact ⟨(0), (by first | rfl | (simp; done) | (simp [*]; done)), H', ⟨Nat.le_refl _⟩, by repeat (first | exact Drawn0.refl _ | apply Drawn0.step)⟩
  case round =>
    clear H'
    try clear p2
    obtain ⟨x5_1, rfl, HA, HK1, ⟨m1, rfl⟩⟩ := hrel
    cases gk with
    | zero => exact absurd HA.out (by simp [towncrierref07_at.l0])
    | succ k1 =>
      have H := HA.out
      clear HA
      simp only [towncrierref07_at.l0] at H
      by_cases c3 : x5_1 < (l0.length : Int)
      · rw [if_pos c3] at H
        have c3b0 : decide (x5_1 < (l0.length : Int)) = true := decide_eq_true c3
        clear c3
        by_cases c4 : 0 ≤ x5_1
        · rw [if_pos c4] at H
          have c4b0 : decide (0 ≤ x5_1) = true := decide_eq_true c4
          clear c4
          by_cases c5 : ((rd_TSchema l0 x5_1).f0).toList = a1.toList
          · rw [if_pos c5] at H
            have c5b0 : (((rd_TSchema l0 x5_1).f0).toList == a1.toList) = true := beq_iff_eq.mpr c5
            have c5b1 : (((rd_TSchema l0 x5_1).f0).toList != a1.toList) = false := bne_eq_false_iff_eq.mpr c5
            clear c5
            obtain rfl := Option.some.inj H
            have p199 : 0 ≤ (x5_1 : Int) := of_decide_eq_true (by first | (with_reducible assumption) | assumption)
            have q199 : x5_1 < (l0.length : Int) := of_decide_eq_true (by first | (with_reducible assumption) | assumption)
            obtain ⟨ad199, A199_2, c199_2, e199, hx199_0, hx199_1, hx199_2, hl199_2, hi199_2⟩ := at_TSchema HR0.out x5_1 p199 q199
            cases e199
            have HR199_2 := Aside0.mk hi199_2
            have HC199_2 := Aside0.mk hl199_2
            clear hi199_2 hl199_2
            replace p199 := eq_true p199
            replace q199 := eq_true q199
            go_wp2
            go_ret
            exact ⟨by first | rfl | (simp; done) | (simp [*]; done), by repeat (first | exact Drawn0.refl _ | apply Drawn0.step)⟩
          · rw [if_neg c5] at H
            have c5b0 : (((rd_TSchema l0 x5_1).f0).toList == a1.toList) = false := beq_eq_false_iff_ne.mpr c5
            have c5b1 : (((rd_TSchema l0 x5_1).f0).toList != a1.toList) = true := bne_iff_ne.mpr c5
            have H' := Aside0.mk H
            clear H
            have p199 : 0 ≤ (x5_1 : Int) := of_decide_eq_true (by first | (with_reducible assumption) | assumption)
            have q199 : x5_1 < (l0.length : Int) := of_decide_eq_true (by first | (with_reducible assumption) | assumption)
            obtain ⟨ad199, A199_2, c199_2, e199, hx199_0, hx199_1, hx199_2, hl199_2, hi199_2⟩ := at_TSchema HR0.out x5_1 p199 q199
            cases e199
            have HR199_2 := Aside0.mk hi199_2
            have HC199_2 := Aside0.mk hl199_2
            clear hi199_2 hl199_2
            replace p199 := eq_true p199
            replace q199 := eq_true q199
            go_wp2
            go_roundg k1
            case measure => have := HK1.out; omega
            case rel => exact ⟨(wrap64 (x5_1 + 1)), (by first | rfl | (simp; done) | (simp [*]; done)), H', ⟨by have := HK1.out; omega⟩, by repeat (first | exact Drawn0.refl _ | apply Drawn0.step)⟩
        · rw [if_neg c4] at H
          exact absurd H (by simp)
      · rw [if_neg c3] at H
        have c3b0 : decide (x5_1 < (l0.length : Int)) = false := decide_eq_false c3
        clear c3
        obtain rfl := Option.some.inj H
        go_wp2
        go_ret
        exact ⟨by first | rfl | (simp; done) | (simp [*]; done), by repeat (first | exact Drawn0.refl _ | apply Drawn0.step)⟩

end Go.Proofs.Ytbgdamlidohfhaa.P

namespace Go.Proofs.Ytbgdamlidohfhaa.P
open Go.RowKit Go.Proofs.YtbgdamlidohfhaaW.PrintWords Go.Proofs.YtbgdamlidohfhaaW.PrintLast Go.Proofs.YtbgdamlidohfhaaW.PrintMore
attribute [local go_sem] max2_int min2_int max_two min_two max_three min_three max_four min_four   -- for this text's walks alone
set_option linter.unusedVariables false
set_option linter.unusedSimpArgs false

/-! ### towncrierref07_May: function 24 -/
def towncrierref07_May.l0 : Nat → List (SSchema) → Int → Option (Bool)
  | 0, _, _ => none
  | k + 1, x0, x3 => if x3 < (x0.length : Int) then (if 0 ≤ x3 then ((towncrierref05_May.f k ((rd_TSchema x0 x3).f0) ((rd_TSchema x0 x3).f1) ((rd_TSchema x0 x3).f2)).bind fun t201 => (if t201 = true then ((towncrierref07_at.f k x0 ((rd_TSchema x0 x3).f0)).bind fun t203 => (if t203 < x3 then (some false) else (towncrierref07_May.l0 k x0 (wrap64 (x3 + 1))))) else (some false))) else (none)) else (some (decide ((x0.length : Int) ≤ 8)))
def towncrierref07_May.f (k : Nat) (l0 : List (SSchema)) : Option (Bool) := towncrierref07_May.l0 k l0 0
theorem towncrierref07_May.mono_l : ∀ k, (∀ y0 y1, LeO (towncrierref07_May.l0 k y0 y1) (towncrierref07_May.l0 (k + 1) y0 y1))
  | 0 => fun _ _ r h => by simp [towncrierref07_May.l0] at h
  | k + 1 => by
    have ih0 := towncrierref07_May.mono_l k
    · intro y0 y1
      unfold towncrierref07_May.l0
      repeat' first
      | (with_reducible exact ih0 _ _)
      | (with_reducible exact towncrierref05_May.mono _ _ _ _)
      | (with_reducible exact towncrierref07_at.mono _ _ _)
      | (with_reducible exact LeO.refl _)
      | (with_reducible exact LeO.none _)
      | (with_reducible refine LeO.ite ?_ ?_)
      | (with_reducible refine LeO.bind ?_ (fun _ => ?_))
      | exact ih0 _ _
      | exact towncrierref05_May.mono _ _ _ _
      | exact towncrierref07_at.mono _ _ _
      | exact LeO.none _
      | refine LeO.ite ?_ ?_
      | refine LeO.bind ?_ (fun _ => ?_)
theorem towncrierref07_May.mono : ∀ a0 k, LeO (towncrierref07_May.f k a0) (towncrierref07_May.f (k + 1) a0) := by
  intro a0 k
  have ih0 := towncrierref07_May.mono_l k
  unfold towncrierref07_May.f
  repeat' first
      | (with_reducible exact ih0 _ _)
      | (with_reducible exact towncrierref05_May.mono _ _ _ _)
      | (with_reducible exact towncrierref07_at.mono _ _ _)
      | (with_reducible exact LeO.refl _)
      | (with_reducible exact LeO.none _)
      | (with_reducible refine LeO.ite ?_ ?_)
      | (with_reducible refine LeO.bind ?_ (fun _ => ?_))
      | exact ih0 _ _
      | exact towncrierref05_May.mono _ _ _ _
      | exact towncrierref07_at.mono _ _ _
      | exact LeO.none _
      | refine LeO.ite ?_ ?_
      | refine LeO.bind ?_ (fun _ => ?_)
set_option maxHeartbeats 8000000 in
set_option maxRecDepth 100000 in
theorem towncrierref07_May.calls (k : Nat) (A0 : Option Addr) (c0 : Nat) (l0 : List (SSchema)) (r : Bool) (w : World) (hr0 : Kd.C kSchema w A0 l0.length l0) (hc0 : l0.length ≤ c0) (h : towncrierref07_May.f k l0 = some r) :
    Calls Try.prog 24 #[.slice A0 l0.length c0] w fun e w' => e = .returned (.bool r) ∧ Below w.heap.size w w' := by
  have hu25 := Try.underlying25
  have HR0 := Aside0.mk hr0
  have HC0 := Aside0.mk hc0
  clear hr0 hc0
  have HB := Aside0.mk (Below.refl w.heap.size w)
  have H : (towncrierref07_May.l0 k l0 0) = some r := h
  clear h
  have H' := Aside0.mk H
  clear H
  go_enter Try.func24, Try.ntmps24
  go_wp2
  go_loopg [3] k (fun kq v3 w' => ∃ (x3_1 : Int), v3 = .int .i64 x3_1 ∧ Aside0 (towncrierref07_May.l0 kq l0 x3_1 = some r) ∧ Aside0 (kq ≤ k) ∧ Aside0 (Below w.heap.size w w'))
  case atStart => exact ⟨(0), (by first | rfl | (simp; done) | (simp [*]; done)), H', ⟨Nat.le_refl _⟩, ⟨by repeat (first | (with_reducible first | exact HB.out | apply below_alloc | apply pw_below_drewN | apply below_drew1) | exact HB.out)⟩⟩
  case round =>
    clear H'
    obtain ⟨x3_1, rfl, HA, HK1, HB⟩ := hrel
    cases gk with
    | zero => exact absurd HA.out (by simp [towncrierref07_May.l0])
    | succ k1 =>
      have H := HA.out
      clear HA
      simp only [towncrierref07_May.l0] at H
      by_cases c2 : x3_1 < (l0.length : Int)
      · rw [if_pos c2] at H
        have c2b0 : decide (x3_1 < (l0.length : Int)) = true := decide_eq_true c2
        clear c2
        by_cases c3 : 0 ≤ x3_1
        · rw [if_pos c3] at H
          have c3b0 : decide (0 ≤ x3_1) = true := decide_eq_true c3
          clear c3
          replace H := Option.bind_eq_some_iff.mp H
          obtain ⟨t201, A40, H⟩ := H
          replace H : (if t201 = true then ((towncrierref07_at.f k1 l0 ((rd_TSchema l0 x3_1).f0)).bind fun t203 => (if t203 < x3_1 then (some false) else (towncrierref07_May.l0 k1 l0 (wrap64 (x3_1 + 1))))) else (some false)) = some r := H
          have A4 := Aside0.mk A40
          clear A40
          by_cases c5 : t201 = true
          · subst c5
            have H1 : ((towncrierref07_at.f k1 l0 ((rd_TSchema l0 x3_1).f0)).bind fun t203 => (if t203 < x3_1 then (some false) else (towncrierref07_May.l0 k1 l0 (wrap64 (x3_1 + 1))))) = some r := by rw [if_pos rfl] at H; exact H
            clear H
            have H := H1
            clear H1
            replace H := Option.bind_eq_some_iff.mp H
            obtain ⟨t203, A60, H⟩ := H
            replace H : (if t203 < x3_1 then (some false) else (towncrierref07_May.l0 k1 l0 (wrap64 (x3_1 + 1)))) = some r := H
            have A6 := Aside0.mk A60
            clear A60
            by_cases c7 : t203 < x3_1
            · rw [if_pos c7] at H
              have c7b0 : decide (t203 < x3_1) = true := decide_eq_true c7
              clear c7
              obtain rfl := Option.some.inj H
              have p200 : 0 ≤ (x3_1 : Int) := of_decide_eq_true (by first | (with_reducible assumption) | assumption)
              have q200 : x3_1 < (l0.length : Int) := of_decide_eq_true (by first | (with_reducible assumption) | assumption)
              obtain ⟨ad200, A200_2, c200_2, e200, hx200_0, hx200_1, hx200_2, hl200_2, hi200_2⟩ := at_TSchema HR0.out x3_1 p200 q200
              cases e200
              replace hx200_0 := (HB.out.cell (World.block_lt_of_cell? w _ hx200_0)).trans hx200_0
              replace hx200_1 := (HB.out.cell (World.block_lt_of_cell? w _ hx200_1)).trans hx200_1
              replace hx200_2 := (HB.out.cell (World.block_lt_of_cell? w _ hx200_2)).trans hx200_2
              have HR200_2 := Aside0.mk hi200_2
              have HC200_2 := Aside0.mk hl200_2
              clear hi200_2 hl200_2
              replace p200 := eq_true p200
              replace q200 := eq_true q200
              go_wp2_with (first | ((with_reducible refine gate_callee (f := 36) rfl ?_); refine goesL_ (some 15) rfl rfl Try.func36 (by kernel_rfl) rfl #[.agg #[.string ((rd_TSchema l0 x3_1).f0), .int .i64 ((rd_TSchema l0 x3_1).f1), .slice A200_2 ((rd_TSchema l0 x3_1).f2).length c200_2]] rfl (by (try simp only [List.map_toArray, List.map_cons, List.map_nil]); first | done | rfl | (simp only [List.length_drop, List.length_take]; rfl)) ?_; (with_reducible refine (towncrierref05_May.calls k1 ((rd_TSchema l0 x3_1).f0) ((rd_TSchema l0 x3_1).f1) _ _ ((rd_TSchema l0 x3_1).f2) true _ ?side1 ?side2 A4.out).mono ?_); (case side1 => repeat (first | exact (Kd.C_below HR200_2.out HB.out) | (with_reducible refine Kd.C_alloc ?_ _) | (with_reducible refine Kd.C_drewN ?_ _) | (with_reducible refine Kd.C_drew ?_))); (case side2 => exact HC200_2.out); rintro e w8 ⟨rfl, hb⟩; refine ⟨_, rfl, ?_⟩; have n0_ := Aside0.mk (below_step (by repeat (first | (with_reducible first | exact HB.out | apply below_alloc | apply pw_below_drewN | apply below_drew1) | exact HB.out)) hb); clear HB; have HB := n0_; clear n0_; (try clear hb); (try clear hb2); (try clear hk); (try clear hi); have p202 : 0 ≤ (x3_1 : Int) := of_decide_eq_true (by first | (with_reducible assumption) | assumption); have q202 : x3_1 < (l0.length : Int) := of_decide_eq_true (by first | (with_reducible assumption) | assumption); obtain ⟨ad202, A202_2, c202_2, e202, hx202_0, hx202_1, hx202_2, hl202_2, hi202_2⟩ := at_TSchema HR0.out x3_1 p202 q202; obtain rfl : ad200 = ad202 := (by injection e202); replace hx202_0 := (HB.out.cell (World.block_lt_of_cell? w _ hx202_0)).trans hx202_0; replace hx202_1 := (HB.out.cell (World.block_lt_of_cell? w _ hx202_1)).trans hx202_1; replace hx202_2 := (HB.out.cell (World.block_lt_of_cell? w _ hx202_2)).trans hx202_2; have HR202_2 := Aside0.mk hi202_2; have HC202_2 := Aside0.mk hl202_2; clear hi202_2 hl202_2; replace p202 := eq_true p202; replace q202 := eq_true q202) | (go_at_call 41; (with_reducible refine (towncrierref07_at.calls k1 _ _ l0 ((rd_TSchema l0 x3_1).f0) t203 _ ?side1 ?side2 A6.out).mono ?_); (case side1 => repeat (first | exact (Kd.C_below HR0.out HB.out) | (with_reducible refine Kd.C_alloc ?_ _) | (with_reducible refine Kd.C_drewN ?_ _) | (with_reducible refine Kd.C_drew ?_))); (case side2 => exact HC0.out); rintro e w' ⟨rfl, ⟨nd, rfl⟩⟩))
              go_ret
              exact ⟨by first | rfl | (simp [errW_none, errW_some] <;> rfl) | (simp [*, errW_none, errW_some] <;> rfl), by repeat (first | (with_reducible first | exact HB.out | apply below_alloc | apply pw_below_drewN | apply below_drew1) | exact HB.out)⟩
            · rw [if_neg c7] at H
              have c7b0 : decide (t203 < x3_1) = false := decide_eq_false c7
              clear c7
              have H' := Aside0.mk H
              clear H
              have p200 : 0 ≤ (x3_1 : Int) := of_decide_eq_true (by first | (with_reducible assumption) | assumption)
              have q200 : x3_1 < (l0.length : Int) := of_decide_eq_true (by first | (with_reducible assumption) | assumption)
              obtain ⟨ad200, A200_2, c200_2, e200, hx200_0, hx200_1, hx200_2, hl200_2, hi200_2⟩ := at_TSchema HR0.out x3_1 p200 q200
              cases e200
              replace hx200_0 := (HB.out.cell (World.block_lt_of_cell? w _ hx200_0)).trans hx200_0
              replace hx200_1 := (HB.out.cell (World.block_lt_of_cell? w _ hx200_1)).trans hx200_1
              replace hx200_2 := (HB.out.cell (World.block_lt_of_cell? w _ hx200_2)).trans hx200_2
              have HR200_2 := Aside0.mk hi200_2
              have HC200_2 := Aside0.mk hl200_2
              clear hi200_2 hl200_2
              replace p200 := eq_true p200
              replace q200 := eq_true q200
              go_wp2_with (first | ((with_reducible refine gate_callee (f := 36) rfl ?_); refine goesL_ (some 15) rfl rfl Try.func36 (by kernel_rfl) rfl #[.agg #[.string ((rd_TSchema l0 x3_1).f0), .int .i64 ((rd_TSchema l0 x3_1).f1), .slice A200_2 ((rd_TSchema l0 x3_1).f2).length c200_2]] rfl (by (try simp only [List.map_toArray, List.map_cons, List.map_nil]); first | done | rfl | (simp only [List.length_drop, List.length_take]; rfl)) ?_; (with_reducible refine (towncrierref05_May.calls k1 ((rd_TSchema l0 x3_1).f0) ((rd_TSchema l0 x3_1).f1) _ _ ((rd_TSchema l0 x3_1).f2) true _ ?side1 ?side2 A4.out).mono ?_); (case side1 => repeat (first | exact (Kd.C_below HR200_2.out HB.out) | (with_reducible refine Kd.C_alloc ?_ _) | (with_reducible refine Kd.C_drewN ?_ _) | (with_reducible refine Kd.C_drew ?_))); (case side2 => exact HC200_2.out); rintro e w9 ⟨rfl, hb⟩; refine ⟨_, rfl, ?_⟩; have n0_ := Aside0.mk (below_step (by repeat (first | (with_reducible first | exact HB.out | apply below_alloc | apply pw_below_drewN | apply below_drew1) | exact HB.out)) hb); clear HB; have HB := n0_; clear n0_; (try clear hb); (try clear hb2); (try clear hk); (try clear hi); have p202 : 0 ≤ (x3_1 : Int) := of_decide_eq_true (by first | (with_reducible assumption) | assumption); have q202 : x3_1 < (l0.length : Int) := of_decide_eq_true (by first | (with_reducible assumption) | assumption); obtain ⟨ad202, A202_2, c202_2, e202, hx202_0, hx202_1, hx202_2, hl202_2, hi202_2⟩ := at_TSchema HR0.out x3_1 p202 q202; obtain rfl : ad200 = ad202 := (by injection e202); replace hx202_0 := (HB.out.cell (World.block_lt_of_cell? w _ hx202_0)).trans hx202_0; replace hx202_1 := (HB.out.cell (World.block_lt_of_cell? w _ hx202_1)).trans hx202_1; replace hx202_2 := (HB.out.cell (World.block_lt_of_cell? w _ hx202_2)).trans hx202_2; have HR202_2 := Aside0.mk hi202_2; have HC202_2 := Aside0.mk hl202_2; clear hi202_2 hl202_2; replace p202 := eq_true p202; replace q202 := eq_true q202) | (go_at_call 41; (with_reducible refine (towncrierref07_at.calls k1 _ _ l0 ((rd_TSchema l0 x3_1).f0) t203 _ ?side1 ?side2 A6.out).mono ?_); (case side1 => repeat (first | exact (Kd.C_below HR0.out HB.out) | (with_reducible refine Kd.C_alloc ?_ _) | (with_reducible refine Kd.C_drewN ?_ _) | (with_reducible refine Kd.C_drew ?_))); (case side2 => exact HC0.out); rintro e w' ⟨rfl, ⟨nd, rfl⟩⟩))
              go_roundg k1
              case measure => have := HK1.out; omega
              case rel => exact ⟨(wrap64 (x3_1 + 1)), (by first | rfl | (simp; done) | (simp [*]; done)), H', ⟨by have := HK1.out; omega⟩, ⟨by repeat (first | (with_reducible first | exact HB.out | apply below_alloc | apply pw_below_drewN | apply below_drew1) | exact HB.out)⟩⟩
          · replace c5 := Bool.eq_false_iff.mpr c5
            subst c5
            have H1 : (some false) = some r := by rw [if_neg (show ¬ (false = true) by decide)] at H; exact H
            clear H
            have H := H1
            clear H1
            obtain rfl := Option.some.inj H
            have p200 : 0 ≤ (x3_1 : Int) := of_decide_eq_true (by first | (with_reducible assumption) | assumption)
            have q200 : x3_1 < (l0.length : Int) := of_decide_eq_true (by first | (with_reducible assumption) | assumption)
            obtain ⟨ad200, A200_2, c200_2, e200, hx200_0, hx200_1, hx200_2, hl200_2, hi200_2⟩ := at_TSchema HR0.out x3_1 p200 q200
            cases e200
            replace hx200_0 := (HB.out.cell (World.block_lt_of_cell? w _ hx200_0)).trans hx200_0
            replace hx200_1 := (HB.out.cell (World.block_lt_of_cell? w _ hx200_1)).trans hx200_1
            replace hx200_2 := (HB.out.cell (World.block_lt_of_cell? w _ hx200_2)).trans hx200_2
            have HR200_2 := Aside0.mk hi200_2
            have HC200_2 := Aside0.mk hl200_2
            clear hi200_2 hl200_2
            replace p200 := eq_true p200
            replace q200 := eq_true q200
            go_wp2_with (first | ((with_reducible refine gate_callee (f := 36) rfl ?_); refine goesL_ (some 15) rfl rfl Try.func36 (by kernel_rfl) rfl #[.agg #[.string ((rd_TSchema l0 x3_1).f0), .int .i64 ((rd_TSchema l0 x3_1).f1), .slice A200_2 ((rd_TSchema l0 x3_1).f2).length c200_2]] rfl (by (try simp only [List.map_toArray, List.map_cons, List.map_nil]); first | done | rfl | (simp only [List.length_drop, List.length_take]; rfl)) ?_; (with_reducible refine (towncrierref05_May.calls k1 ((rd_TSchema l0 x3_1).f0) ((rd_TSchema l0 x3_1).f1) _ _ ((rd_TSchema l0 x3_1).f2) false _ ?side1 ?side2 A4.out).mono ?_); (case side1 => repeat (first | exact (Kd.C_below HR200_2.out HB.out) | (with_reducible refine Kd.C_alloc ?_ _) | (with_reducible refine Kd.C_drewN ?_ _) | (with_reducible refine Kd.C_drew ?_))); (case side2 => exact HC200_2.out); rintro e w10 ⟨rfl, hb⟩; refine ⟨_, rfl, ?_⟩; have n0_ := Aside0.mk (below_step (by repeat (first | (with_reducible first | exact HB.out | apply below_alloc | apply pw_below_drewN | apply below_drew1) | exact HB.out)) hb); clear HB; have HB := n0_; clear n0_; (try clear hb); (try clear hb2); (try clear hk); (try clear hi)))
            go_ret
            exact ⟨by first | rfl | (simp [errW_none, errW_some] <;> rfl) | (simp [*, errW_none, errW_some] <;> rfl), by repeat (first | (with_reducible first | exact HB.out | apply below_alloc | apply pw_below_drewN | apply below_drew1) | exact HB.out)⟩
        · rw [if_neg c3] at H
          exact absurd H (by simp)
      · rw [if_neg c2] at H
        have c2b0 : decide (x3_1 < (l0.length : Int)) = false := decide_eq_false c2
        clear c2
        obtain rfl := Option.some.inj H
        go_wp2
        go_ret
        exact ⟨by first | rfl | (simp [errW_none, errW_some] <;> rfl) | (simp [*, errW_none, errW_some] <;> rfl), by repeat (first | (with_reducible first | exact HB.out | apply below_alloc | apply pw_below_drewN | apply below_drew1) | exact HB.out)⟩

end Go.Proofs.Ytbgdamlidohfhaa.P

namespace Go.Proofs.Ytbgdamlidohfhaa.P
open Go.RowKit Go.Proofs.YtbgdamlidohfhaaW.PrintWords Go.Proofs.YtbgdamlidohfhaaW.PrintLast Go.Proofs.YtbgdamlidohfhaaW.PrintMore
attribute [local go_sem] max2_int min2_int max_two min_two max_three min_three max_four min_four   -- for this text's walks alone
set_option linter.unusedVariables false
set_option linter.unusedSimpArgs false

/-! ### towncrierref07_Find: function 21 -/
def towncrierref07_Find.f (k : Nat) (l0 : List (SSchema)) (a1 : ByteArray) : Option (ByteArray × Int × (List (SField)) × Bool) := (towncrierref07_at.f k l0 a1).bind fun t211 => (if t211 < 0 then (some ((⟨#[]⟩ : ByteArray), 0, ([] : List (SField)), false)) else (if 0 ≤ t211 then (if t211 < (l0.length : Int) then (some ((rd_TSchema l0 t211).f0, (rd_TSchema l0 t211).f1, (rd_TSchema l0 t211).f2, true)) else (none)) else (none)))
theorem towncrierref07_Find.mono : ∀ a0 a1 k, LeO (towncrierref07_Find.f k a0 a1) (towncrierref07_Find.f (k + 1) a0 a1) := by
  intro a0 a1 k
  unfold towncrierref07_Find.f
  repeat' first
      | (with_reducible exact towncrierref07_at.mono _ _ _)
      | (with_reducible exact LeO.refl _)
      | (with_reducible exact LeO.none _)
      | (with_reducible refine LeO.ite ?_ ?_)
      | (with_reducible refine LeO.bind ?_ (fun _ => ?_))
      | exact towncrierref07_at.mono _ _ _
      | exact LeO.none _
      | refine LeO.ite ?_ ?_
      | refine LeO.bind ?_ (fun _ => ?_)
set_option maxHeartbeats 8000000 in
set_option maxRecDepth 100000 in
theorem towncrierref07_Find.calls (k : Nat) (P0_ : Nat → Prop) (A0 : Option Addr) (c0 : Nat) (l0 : List (SSchema)) (a1 : ByteArray) (r1 : ByteArray) (r2 : Int) (r3 : List (SField)) (r4 : Bool) (w : World) (hs0 : Kd.V kSchema 25 w w.heap.size (fun k_ => P0_ k_) (.slice A0 l0.length c0) l0) (h : towncrierref07_Find.f k l0 a1 = some (r1, r2, r3, r4)) :
    Calls Try.prog 21 #[.slice A0 l0.length c0, .string a1] w fun e w' => ∃ v2_ : Value, e = .returned (.tuple #[.agg #[.string r1, .int .i64 r2, v2_], .bool r4]) ∧ Kd.V kField 39 w' w.heap.size (fun k_ => (P0_ k_ ∨ w.heap.size ≤ k_)) v2_ r3 ∧ Below w.heap.size w w' := by
  have hu25 := Try.underlying25
  have HO0 := Aside0.mk (show Kd.V kSchema 25 w w.heap.size (fun k_ => (P0_ k_ ∨ w.heap.size ≤ k_)) (.slice A0 l0.length c0) l0 from Kd.V_mono hs0 (fun k_ hk => .inl hk))
  have HB := Aside0.mk (Below.refl w.heap.size w)
  have H : ((towncrierref07_at.f k l0 a1).bind fun t211 => (if t211 < 0 then (some ((⟨#[]⟩ : ByteArray), 0, ([] : List (SField)), false)) else (if 0 ≤ t211 then (if t211 < (l0.length : Int) then (some ((rd_TSchema l0 t211).f0, (rd_TSchema l0 t211).f1, (rd_TSchema l0 t211).f2, true)) else (none)) else (none)))) = some (r1, r2, r3, r4) := h
  clear h
  replace H := Option.bind_eq_some_iff.mp H
  obtain ⟨t211, A30, H⟩ := H
  replace H : (if t211 < 0 then (some ((⟨#[]⟩ : ByteArray), 0, ([] : List (SField)), false)) else (if 0 ≤ t211 then (if t211 < (l0.length : Int) then (some ((rd_TSchema l0 t211).f0, (rd_TSchema l0 t211).f1, (rd_TSchema l0 t211).f2, true)) else (none)) else (none))) = some (r1, r2, r3, r4) := H
  have A3 := Aside0.mk A30
  clear A30
  by_cases c4 : t211 < 0
  · rw [if_pos c4] at H
    have c4b0 : decide (t211 < 0) = true := decide_eq_true c4
    clear c4
    simp only [Option.some.injEq, Prod.mk.injEq] at H
    obtain ⟨rfl, rfl, rfl, rfl⟩ := H
    go_enter Try.func21, Try.ntmps21
    go_wp2_with (first | ((with_reducible refine gate_dst (N := 4) rfl ?_); refine box_event ?hg (N := 4) ?hd (cs := #[.string (⟨#[]⟩ : ByteArray), .int .i64 0, .slice none 0 0]) (t := 25) ?hr ?_; (case hd => rfl); (case hg => rfl); (case hr => first | (go_simp; done) | (go_simp; rfl)); intro gb210 hg w5 hbox hb; have n0_ := Aside0.mk (Kd.V_below (Kd.V_elderB (by (with_reducible repeat (first | apply Kd.V_alloc | apply Kd.V_drewN | apply Kd.V_drew)); exact HO0.out) gb210 (Nat.le_of_eq hg.symm)) hb); have n1_ := Aside0.mk (below_step (by repeat (first | (with_reducible first | exact HB.out | apply below_alloc | apply pw_below_drewN | apply below_drew1) | exact HB.out)) hb); have n2_ := Aside0.mk (hbox); have n3_ := Aside0.mk ((by rw [hg]; exact (below_size (by repeat (first | (with_reducible first | exact HB.out | apply below_alloc | apply pw_below_drewN | apply below_drew1) | exact HB.out))) : w.heap.size ≤ gb210)); have n4_ := Aside0.mk ((by rw [hg]; exact (below_size (by repeat (first | (with_reducible first | exact HB.out | apply below_alloc | apply pw_below_drewN | apply below_drew1) | exact HB.out))) : w.heap.size ≤ gb210)); clear HO0; clear HB; have HO0 := n0_; have HB := n1_; have BK210 := n2_; have GW210 := n3_; have GE210 := n4_; clear n0_ n1_ n2_ n3_ n4_; clear hb hbox hg) | ((with_reducible refine gate_callee (f := 41) rfl ?_); refine goesL_ (some 9) rfl rfl Try.func41 (by kernel_rfl) rfl #[.slice A0 l0.length c0, .string a1] rfl (by (try simp only [List.map_toArray, List.map_cons, List.map_nil]); first | done | rfl | (simp only [List.length_drop, List.length_take]; rfl)) ?_; (with_reducible refine (towncrierref07_at.calls k _ _ l0 a1 t211 _ ?side1 ?side2 A3.out).mono ?_); (case side1 => repeat (first | exact (Kd.V_reads' HO0.out).2.2 | (with_reducible refine Kd.C_alloc ?_ _) | (with_reducible refine Kd.C_drewN ?_ _) | (with_reducible refine Kd.C_drew ?_))); (case side2 => exact (Kd.V_reads' HO0.out).2.1); rintro e w' ⟨rfl, ⟨nd, rfl⟩⟩; refine ⟨_, rfl, ?_⟩; (try (rw [drewN_self w5]; generalize hq_ : World.drewN w5 _ = w5; have n0_ : Aside0 (Kd.V kSchema 25 w5 w.heap.size (fun k_ => (P0_ k_ ∨ w.heap.size ≤ k_) ∧ k_ ≠ gb210) (.slice A0 l0.length c0) l0) := ⟨by rw [← hq_]; exact (by (with_reducible repeat (first | apply Kd.V_alloc | apply Kd.V_drewN | apply Kd.V_drew)); exact HO0.out)⟩; have n1_ : Aside0 (w5.heap[gb210]? = some (.cells #[.string (⟨#[]⟩ : ByteArray), .int .i64 0, .slice none 0 0] 25 (0, 0))) := ⟨by rw [← hq_]; exact (by (with_reducible repeat (first | refine blk_drewN ?_ _ | refine blk_drew ?_ | refine blk_alloc ?_ _)); exact BK210.out)⟩; have n2_ : Aside0 (Below w.heap.size w w5) := ⟨by rw [← hq_]; exact (by repeat (first | (with_reducible first | exact HB.out | apply below_alloc | apply pw_below_drewN | apply below_drew1 | refine below_set ?_ GE210.out) | exact HB.out))⟩; clear HO0 BK210 HB hq_; have HO0 := n0_; have BK210 := n1_; have HB := n2_; clear n0_ n1_ n2_)); have hcz6_0 : w5.cell? ⟨gb210, 0, none⟩ = some (.string (⟨#[]⟩ : ByteArray)) := (blk_cell BK210.out 0).trans rfl; have hcz6_1 : w5.cell? ⟨gb210, 1, none⟩ = some (.int .i64 0) := (blk_cell BK210.out 1).trans rfl; have hcz6_2 : w5.cell? ⟨gb210, 2, none⟩ = some (.slice none 0 0) := (blk_cell BK210.out 2).trans rfl; have hfz6_0 := blk_frozen BK210.out 0; have hfz6_1 := blk_frozen BK210.out 1; have hfz6_2 := blk_frozen BK210.out 2))
    refine bodyPost_ret (results_ct rfl _ _ gb210 25 #[.string (⟨#[]⟩ : ByteArray), .int .i64 0, .slice none 0 0] (0, 0) _ rfl (by (with_reducible repeat (first | refine blk_drewN ?_ _ | refine blk_drew ?_ | refine blk_alloc ?_ _)); refine blk_put (cs := #[.string (⟨#[]⟩ : ByteArray), .int .i64 0, .slice none 0 0]) ?_ 2 _ rfl; (with_reducible repeat (first | refine blk_drewN ?_ _ | refine blk_drew ?_ | refine blk_alloc ?_ _)); refine blk_put (cs := #[.string (⟨#[]⟩ : ByteArray), .int .i64 0, .slice none 0 0]) ?_ 1 _ rfl; (with_reducible repeat (first | refine blk_drewN ?_ _ | refine blk_drew ?_ | refine blk_alloc ?_ _)); refine blk_put (cs := #[.string (⟨#[]⟩ : ByteArray), .int .i64 0, .slice none 0 0]) ?_ 0 _ rfl; (with_reducible repeat (first | refine blk_drewN ?_ _ | refine blk_drew ?_ | refine blk_alloc ?_ _)); exact BK210.out) Try.underlying25 rfl (by kernel_rfl)) rfl ?_
    exact ⟨_, by first | rfl | (simp [errW_none, errW_some] <;> rfl) | (simp [*, errW_none, errW_some] <;> rfl), Kd.V_mono (ok := fun _ => False) (Kd.V_nil _ _ _ _ _) (fun k_ hk => by first | exact hk.elim | exact ⟨(.inr (hk.1)), hk.2⟩ | exact (.inr (hk))), by repeat (first | (with_reducible first | exact HB.out | apply below_alloc | apply pw_below_drewN | apply below_drew1 | refine below_set ?_ GE210.out) | exact HB.out)⟩
  · rw [if_neg c4] at H
    have c4b0 : decide (t211 < 0) = false := decide_eq_false c4
    clear c4
    by_cases c7 : 0 ≤ t211
    · rw [if_pos c7] at H
      have c7b0 : decide (0 ≤ t211) = true := decide_eq_true c7
      clear c7
      by_cases c8 : t211 < (l0.length : Int)
      · rw [if_pos c8] at H
        have c8b0 : decide (t211 < (l0.length : Int)) = true := decide_eq_true c8
        clear c8
        simp only [Option.some.injEq, Prod.mk.injEq] at H
        obtain ⟨rfl, rfl, rfl, rfl⟩ := H
        go_enter Try.func21, Try.ntmps21
        go_wp2_with (first | ((with_reducible refine gate_dst (N := 4) rfl ?_); refine box_event ?hg (N := 4) ?hd (cs := #[.string (⟨#[]⟩ : ByteArray), .int .i64 0, .slice none 0 0]) (t := 25) ?hr ?_; (case hd => rfl); (case hg => rfl); (case hr => first | (go_simp; done) | (go_simp; rfl)); intro gb210 hg w9 hbox hb; have n0_ := Aside0.mk (Kd.V_below (Kd.V_elderB (by (with_reducible repeat (first | apply Kd.V_alloc | apply Kd.V_drewN | apply Kd.V_drew)); exact HO0.out) gb210 (Nat.le_of_eq hg.symm)) hb); have n1_ := Aside0.mk (below_step (by repeat (first | (with_reducible first | exact HB.out | apply below_alloc | apply pw_below_drewN | apply below_drew1) | exact HB.out)) hb); have n2_ := Aside0.mk (hbox); have n3_ := Aside0.mk ((by rw [hg]; exact (below_size (by repeat (first | (with_reducible first | exact HB.out | apply below_alloc | apply pw_below_drewN | apply below_drew1) | exact HB.out))) : w.heap.size ≤ gb210)); have n4_ := Aside0.mk ((by rw [hg]; exact (below_size (by repeat (first | (with_reducible first | exact HB.out | apply below_alloc | apply pw_below_drewN | apply below_drew1) | exact HB.out))) : w.heap.size ≤ gb210)); clear HO0; clear HB; have HO0 := n0_; have HB := n1_; have BK210 := n2_; have GW210 := n3_; have GE210 := n4_; clear n0_ n1_ n2_ n3_ n4_; clear hb hbox hg) | ((with_reducible refine gate_callee (f := 41) rfl ?_); refine goesL_ (some 9) rfl rfl Try.func41 (by kernel_rfl) rfl #[.slice A0 l0.length c0, .string a1] rfl (by (try simp only [List.map_toArray, List.map_cons, List.map_nil]); first | done | rfl | (simp only [List.length_drop, List.length_take]; rfl)) ?_; (with_reducible refine (towncrierref07_at.calls k _ _ l0 a1 t211 _ ?side1 ?side2 A3.out).mono ?_); (case side1 => repeat (first | exact (Kd.V_reads' HO0.out).2.2 | (with_reducible refine Kd.C_alloc ?_ _) | (with_reducible refine Kd.C_drewN ?_ _) | (with_reducible refine Kd.C_drew ?_))); (case side2 => exact (Kd.V_reads' HO0.out).2.1); rintro e w' ⟨rfl, ⟨nd, rfl⟩⟩; refine ⟨_, rfl, ?_⟩; (try (rw [drewN_self w9]; generalize hq_ : World.drewN w9 _ = w9; have n0_ : Aside0 (Kd.V kSchema 25 w9 w.heap.size (fun k_ => (P0_ k_ ∨ w.heap.size ≤ k_) ∧ k_ ≠ gb210) (.slice A0 l0.length c0) l0) := ⟨by rw [← hq_]; exact (by (with_reducible repeat (first | apply Kd.V_alloc | apply Kd.V_drewN | apply Kd.V_drew)); exact HO0.out)⟩; have n1_ : Aside0 (w9.heap[gb210]? = some (.cells #[.string (⟨#[]⟩ : ByteArray), .int .i64 0, .slice none 0 0] 25 (0, 0))) := ⟨by rw [← hq_]; exact (by (with_reducible repeat (first | refine blk_drewN ?_ _ | refine blk_drew ?_ | refine blk_alloc ?_ _)); exact BK210.out)⟩; have n2_ : Aside0 (Below w.heap.size w w9) := ⟨by rw [← hq_]; exact (by repeat (first | (with_reducible first | exact HB.out | apply below_alloc | apply pw_below_drewN | apply below_drew1 | refine below_set ?_ GE210.out) | exact HB.out))⟩; clear HO0 BK210 HB hq_; have HO0 := n0_; have BK210 := n1_; have HB := n2_; clear n0_ n1_ n2_)); have p212 : 0 ≤ (t211 : Int) := of_decide_eq_true (by first | (with_reducible assumption) | assumption); have q212 : t211 < (l0.length : Int) := of_decide_eq_true (by first | (with_reducible assumption) | assumption); obtain ⟨ad212, A212_2, c212_2, e212, hx212_0, hx212_1, hx212_2, hl212_2, hi212_2⟩ := at_TSchema (Kd.V_reads' HO0.out).2.2 t211 p212 q212; cases e212; obtain ⟨ce212, hce212, hMe212, hcc212⟩ := Kd.V_get HO0.out zSchema t211 p212 (by first | exact q212 | exact of_decide_eq_true (by first | (with_reducible assumption) | assumption) | (have e_ := (Kd.V_reads' HO0.out).1; omega)); obtain ⟨ua212_2, uc212_2, rfl, ul212_2, ge212_2⟩ := kSchema_openF hMe212; have hv212_2 := hcc212 2 _ rfl; rw [add_field _ _ 2 (by omega)] at hv212_2; replace hv212_2 := Option.some.inj (hv212_2.symm.trans hx212_2); injection hv212_2 with hva_ hvn_ hvc_; rw [hva_] at ge212_2; rw [hvc_] at ul212_2; have HL212_2 := Aside0.mk (show Kd.V kField 39 _ w.heap.size _ _ ((rd_TSchema l0 t211).f2) from Kd.V_mk ul212_2 ge212_2); clear hva_ hvn_ hvc_ ge212_2 ul212_2; clear hcc212 hce212; have HR212_2 := Aside0.mk hi212_2; have HC212_2 := Aside0.mk hl212_2; clear hi212_2 hl212_2; replace p212 := eq_true p212; replace q212 := eq_true q212; have hcz10_0 : w9.cell? ⟨gb210, 0, none⟩ = some (.string (⟨#[]⟩ : ByteArray)) := (blk_cell BK210.out 0).trans rfl; have hcz10_1 : w9.cell? ⟨gb210, 1, none⟩ = some (.int .i64 0) := (blk_cell BK210.out 1).trans rfl; have hcz10_2 : w9.cell? ⟨gb210, 2, none⟩ = some (.slice none 0 0) := (blk_cell BK210.out 2).trans rfl; have hfz10_0 := blk_frozen BK210.out 0; have hfz10_1 := blk_frozen BK210.out 1; have hfz10_2 := blk_frozen BK210.out 2))
        refine bodyPost_ret (results_ct rfl _ _ gb210 25 #[.string ((rd_TSchema l0 t211).f0), .int .i64 ((rd_TSchema l0 t211).f1), .slice A212_2 ((rd_TSchema l0 t211).f2).length c212_2] (0, 0) _ rfl (by (with_reducible repeat (first | refine blk_drewN ?_ _ | refine blk_drew ?_ | refine blk_alloc ?_ _)); refine blk_put (cs := #[.string ((rd_TSchema l0 t211).f0), .int .i64 ((rd_TSchema l0 t211).f1), .slice none 0 0]) ?_ 2 _ rfl; (with_reducible repeat (first | refine blk_drewN ?_ _ | refine blk_drew ?_ | refine blk_alloc ?_ _)); refine blk_put (cs := #[.string ((rd_TSchema l0 t211).f0), .int .i64 0, .slice none 0 0]) ?_ 1 _ rfl; (with_reducible repeat (first | refine blk_drewN ?_ _ | refine blk_drew ?_ | refine blk_alloc ?_ _)); refine blk_put (cs := #[.string (⟨#[]⟩ : ByteArray), .int .i64 0, .slice none 0 0]) ?_ 0 _ rfl; (with_reducible repeat (first | refine blk_drewN ?_ _ | refine blk_drew ?_ | refine blk_alloc ?_ _)); exact BK210.out) Try.underlying25 rfl (by kernel_rfl)) rfl ?_
        exact ⟨_, by first | rfl | (simp [errW_none, errW_some] <;> rfl) | (simp [*, errW_none, errW_some] <;> rfl), by (with_reducible repeat (first | apply Kd.V_alloc | apply Kd.V_drewN | apply Kd.V_drew)); exact Kd.V_mono (Kd.V_far (p := ⟨gb210, 2, none⟩) (Kd.V_far (p := ⟨gb210, 1, none⟩) (Kd.V_far (p := ⟨gb210, 0, none⟩) (Kd.V_mono HL212_2.out (fun k_ hk => (⟨hk, hk.2⟩ : _ ∧ k_ ≠ gb210))) (fun _ hk => hk.2) (.string ((rd_TSchema l0 t211).f0))) (fun _ hk => hk.2) (.int .i64 ((rd_TSchema l0 t211).f1))) (fun _ hk => hk.2) (.slice A212_2 ((rd_TSchema l0 t211).f2).length c212_2)) (fun _ hk => hk.1.1), by repeat (first | (with_reducible first | exact HB.out | apply below_alloc | apply pw_below_drewN | apply below_drew1 | refine below_set ?_ GE210.out) | exact HB.out)⟩
      · rw [if_neg c8] at H
        exact absurd H (by simp)
    · rw [if_neg c7] at H
      exact absurd H (by simp)

end Go.Proofs.Ytbgdamlidohfhaa.P
