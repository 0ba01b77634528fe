/- The functions that the laws of this seat reach, as plain Lean functions, and for each the contract of its call: no condition but those that each theorem names. -/
import Derived.Test.YtbgdamlidohfhaaP0
import Derived.Test.YtbgdamlidohfhaaP8
import Derived.Test.YtbgdamlidohfhaaP10
import Derived.Test.YtbgdamlidohfhaaP14
import Derived.Test.YtbgdamlidohfhaaP15
import Derived.Test.YtbgdamlidohfhaaP18
import Derived.Test.YtbgdamlidohfhaaP19
import Derived.Test.YtbgdamlidohfhaaP20
namespace Go.Proofs.Ytbgdamlidohfhaa.P
open Go.RowKit Go.Proofs.YtbgdamlidohfhaaW.PrintWords Go.Proofs.YtbgdamlidohfhaaW.PrintLast Go.Proofs.YtbgdamlidohfhaaW.PrintMore
attribute [local go_sem] max2_int min2_int max_two min_two max_three min_three max_four min_four   -- for this text's walks alone
set_option linter.unusedVariables false
set_option linter.unusedSimpArgs false

/-! ### towncrierlaw07_RegistryAdds: function 4 -/
mutual
def towncrierlaw07_RegistryAdds.j0 : Nat → List (SSchema) → Bool → Bool → ByteArray → Int → List (SField) → Option (Bool)
  | 0, _, _, _, _, _, _ => none
  | k + 1, x0, x5, x29, x265000, x265001, x265002 => if x29 = true then (some x5) else ((registry_Add.f k x0 x265000 x265001 x265002).bind fun bt268 => (if bt268.2 = 0 then ((registry_Find.f bt268.1 x265000).bind fun bt272 => ((registry_Add.f k bt268.1 x265000 x265001 x265002).bind fun bt279 => ((registry_May.f k bt268.1).bind fun t283 => (if t283 = true then (if bt272.2.2.2 = true then ((schema_Same.f k bt272.1 bt272.2.1 bt272.2.2.1 x265000 x265001 x265002).bind fun t284 => (if t284 = true then (if bt279.2 = 4 then (if (bt268.1.length : Int) > (wrap64 ((x0.length : Int) + 1)) then (towncrierlaw07_RegistryAdds.j1 k x0 bt268.1 true x265000 x265001 x265002) else (towncrierlaw07_RegistryAdds.j1 k x0 bt268.1 (decide ((bt268.1.length : Int) < (x0.length : Int))) x265000 x265001 x265002)) else (towncrierlaw07_RegistryAdds.j1 k x0 bt268.1 true x265000 x265001 x265002)) else (towncrierlaw07_RegistryAdds.j1 k x0 bt268.1 true x265000 x265001 x265002))) else (towncrierlaw07_RegistryAdds.j1 k x0 bt268.1 true x265000 x265001 x265002)) else (towncrierlaw07_RegistryAdds.j1 k x0 bt268.1 true x265000 x265001 x265002))))) else (some ((bt268.1.length : Int) == 0))))
def towncrierlaw07_RegistryAdds.j1 : Nat → List (SSchema) → List (SSchema) → Bool → ByteArray → Int → List (SField) → Option (Bool)
  | 0, _, _, _, _, _, _ => none
  | k + 1, x0, x8, x86, x265000, x265001, x265002 => if x86 = true then (some false) else (towncrierlaw07_RegistryAdds.l0 k x0 x8 0 x265000 x265001 x265002)
def towncrierlaw07_RegistryAdds.l0 : Nat → List (SSchema) → List (SSchema) → Int → ByteArray → Int → List (SField) → Option (Bool)
  | 0, _, _, _, _, _, _ => none
  | k + 1, x0, x8, x14, x265000, x265001, x265002 => if x14 < (x0.length : Int) then (if 0 ≤ x14 then (if ((rd_TSchema x0 x14).f0).toList = x265000.toList then (if x14 < (x8.length : Int) then (if ((rd_TSchema x8 x14).f0).toList = ((rd_TSchema x0 x14).f0).toList then (towncrierlaw07_RegistryAdds.l0 k x0 x8 (wrap64 (x14 + 1)) x265000 x265001 x265002) else (some false)) else (none)) else (if x14 < (x8.length : Int) then ((schema_Same.f k ((rd_TSchema x8 x14).f0) ((rd_TSchema x8 x14).f1) ((rd_TSchema x8 x14).f2) ((rd_TSchema x0 x14).f0) ((rd_TSchema x0 x14).f1) ((rd_TSchema x0 x14).f2)).bind fun t290 => (if t290 = true then (if ((rd_TSchema x8 x14).f0).toList = ((rd_TSchema x0 x14).f0).toList then (towncrierlaw07_RegistryAdds.l0 k x0 x8 (wrap64 (x14 + 1)) x265000 x265001 x265002) else (some false)) else (some false))) else (none))) else (none)) else (some true)
end
def towncrierlaw07_RegistryAdds.f (k : Nat) (l0 : List (SSchema)) (a1_0 : ByteArray) (a1_1 : Int) (l1_2 : List (SField)) : Option (Bool) := (towncrierlaw07_awake.f k).bind fun t265 => ((towncrierlaw07_Few.f k l0).bind fun t266 => ((towncrierlaw05_Few.f k a1_0 a1_1 l1_2).bind fun t267 => (if t265 = true then (if t266 = true then (towncrierlaw07_RegistryAdds.j0 k l0 t265 (!t267) a1_0 a1_1 l1_2) else (towncrierlaw07_RegistryAdds.j0 k l0 t265 true a1_0 a1_1 l1_2)) else (towncrierlaw07_RegistryAdds.j0 k l0 t265 true a1_0 a1_1 l1_2))))
theorem towncrierlaw07_RegistryAdds.mono_l : ∀ k, (∀ y0 y1 y2 y3 y4 y5, LeO (towncrierlaw07_RegistryAdds.j0 k y0 y1 y2 y3 y4 y5) (towncrierlaw07_RegistryAdds.j0 (k + 1) y0 y1 y2 y3 y4 y5)) ∧ (∀ y0 y1 y2 y3 y4 y5, LeO (towncrierlaw07_RegistryAdds.j1 k y0 y1 y2 y3 y4 y5) (towncrierlaw07_RegistryAdds.j1 (k + 1) y0 y1 y2 y3 y4 y5)) ∧ (∀ y0 y1 y2 y3 y4 y5, LeO (towncrierlaw07_RegistryAdds.l0 k y0 y1 y2 y3 y4 y5) (towncrierlaw07_RegistryAdds.l0 (k + 1) y0 y1 y2 y3 y4 y5))
  | 0 => ⟨fun _ _ _ _ _ _ r h => by simp [towncrierlaw07_RegistryAdds.j0] at h, fun _ _ _ _ _ _ r h => by simp [towncrierlaw07_RegistryAdds.j1] at h, fun _ _ _ _ _ _ r h => by simp [towncrierlaw07_RegistryAdds.l0] at h⟩
  | k + 1 => by
    obtain ⟨ih0, ih1, ih2⟩ := towncrierlaw07_RegistryAdds.mono_l k
    refine ⟨?_, ?_, ?_⟩
    · intro y0 y1 y2 y3 y4 y5
      unfold towncrierlaw07_RegistryAdds.j0
      repeat' first
      | (with_reducible exact ih0 _ _ _ _ _ _)
      | (with_reducible exact ih1 _ _ _ _ _ _)
      | (with_reducible exact ih2 _ _ _ _ _ _)
      | (with_reducible exact registry_Add.mono _ _ _ _ _)
      | (with_reducible exact registry_May.mono _ _)
      | (with_reducible exact schema_Same.mono _ _ _ _ _ _ _)
      | (with_reducible exact towncrierlaw05_Few.mono _ _ _ _)
      | (with_reducible exact towncrierlaw07_Few.mono _ _)
      | (with_reducible exact towncrierlaw07_awake.mono _)
      | (with_reducible exact LeO.refl _)
      | (with_reducible exact LeO.none _)
      | (with_reducible refine LeO.ite ?_ ?_)
      | (with_reducible refine LeO.bind ?_ (fun _ => ?_))
      | exact ih0 _ _ _ _ _ _
      | exact ih1 _ _ _ _ _ _
      | exact ih2 _ _ _ _ _ _
      | exact registry_Add.mono _ _ _ _ _
      | exact registry_May.mono _ _
      | exact schema_Same.mono _ _ _ _ _ _ _
      | exact towncrierlaw05_Few.mono _ _ _ _
      | exact towncrierlaw07_Few.mono _ _
      | exact towncrierlaw07_awake.mono _
      | exact LeO.none _
      | refine LeO.ite ?_ ?_
      | refine LeO.bind ?_ (fun _ => ?_)
    · intro y0 y1 y2 y3 y4 y5
      unfold towncrierlaw07_RegistryAdds.j1
      repeat' first
      | (with_reducible exact ih0 _ _ _ _ _ _)
      | (with_reducible exact ih1 _ _ _ _ _ _)
      | (with_reducible exact ih2 _ _ _ _ _ _)
      | (with_reducible exact registry_Add.mono _ _ _ _ _)
      | (with_reducible exact registry_May.mono _ _)
      | (with_reducible exact schema_Same.mono _ _ _ _ _ _ _)
      | (with_reducible exact towncrierlaw05_Few.mono _ _ _ _)
      | (with_reducible exact towncrierlaw07_Few.mono _ _)
      | (with_reducible exact towncrierlaw07_awake.mono _)
      | (with_reducible exact LeO.refl _)
      | (with_reducible exact LeO.none _)
      | (with_reducible refine LeO.ite ?_ ?_)
      | (with_reducible refine LeO.bind ?_ (fun _ => ?_))
      | exact ih0 _ _ _ _ _ _
      | exact ih1 _ _ _ _ _ _
      | exact ih2 _ _ _ _ _ _
      | exact registry_Add.mono _ _ _ _ _
      | exact registry_May.mono _ _
      | exact schema_Same.mono _ _ _ _ _ _ _
      | exact towncrierlaw05_Few.mono _ _ _ _
      | exact towncrierlaw07_Few.mono _ _
      | exact towncrierlaw07_awake.mono _
      | exact LeO.none _
      | refine LeO.ite ?_ ?_
      | refine LeO.bind ?_ (fun _ => ?_)
    · intro y0 y1 y2 y3 y4 y5
      unfold towncrierlaw07_RegistryAdds.l0
      repeat' first
      | (with_reducible exact ih0 _ _ _ _ _ _)
      | (with_reducible exact ih1 _ _ _ _ _ _)
      | (with_reducible exact ih2 _ _ _ _ _ _)
      | (with_reducible exact registry_Add.mono _ _ _ _ _)
      | (with_reducible exact registry_May.mono _ _)
      | (with_reducible exact schema_Same.mono _ _ _ _ _ _ _)
      | (with_reducible exact towncrierlaw05_Few.mono _ _ _ _)
      | (with_reducible exact towncrierlaw07_Few.mono _ _)
      | (with_reducible exact towncrierlaw07_awake.mono _)
      | (with_reducible exact LeO.refl _)
      | (with_reducible exact LeO.none _)
      | (with_reducible refine LeO.ite ?_ ?_)
      | (with_reducible refine LeO.bind ?_ (fun _ => ?_))
      | exact ih0 _ _ _ _ _ _
      | exact ih1 _ _ _ _ _ _
      | exact ih2 _ _ _ _ _ _
      | exact registry_Add.mono _ _ _ _ _
      | exact registry_May.mono _ _
      | exact schema_Same.mono _ _ _ _ _ _ _
      | exact towncrierlaw05_Few.mono _ _ _ _
      | exact towncrierlaw07_Few.mono _ _
      | exact towncrierlaw07_awake.mono _
      | exact LeO.none _
      | refine LeO.ite ?_ ?_
      | refine LeO.bind ?_ (fun _ => ?_)
theorem towncrierlaw07_RegistryAdds.mono : ∀ a0 a1 a2 a3 k, LeO (towncrierlaw07_RegistryAdds.f k a0 a1 a2 a3) (towncrierlaw07_RegistryAdds.f (k + 1) a0 a1 a2 a3) := by
  intro a0 a1 a2 a3 k
  obtain ⟨ih0, ih1, ih2⟩ := towncrierlaw07_RegistryAdds.mono_l k
  unfold towncrierlaw07_RegistryAdds.f
  repeat' first
      | (with_reducible exact ih0 _ _ _ _ _ _)
      | (with_reducible exact ih1 _ _ _ _ _ _)
      | (with_reducible exact ih2 _ _ _ _ _ _)
      | (with_reducible exact registry_Add.mono _ _ _ _ _)
      | (with_reducible exact registry_May.mono _ _)
      | (with_reducible exact schema_Same.mono _ _ _ _ _ _ _)
      | (with_reducible exact towncrierlaw05_Few.mono _ _ _ _)
      | (with_reducible exact towncrierlaw07_Few.mono _ _)
      | (with_reducible exact towncrierlaw07_awake.mono _)
      | (with_reducible exact LeO.refl _)
      | (with_reducible exact LeO.none _)
      | (with_reducible refine LeO.ite ?_ ?_)
      | (with_reducible refine LeO.bind ?_ (fun _ => ?_))
      | exact ih0 _ _ _ _ _ _
      | exact ih1 _ _ _ _ _ _
      | exact ih2 _ _ _ _ _ _
      | exact registry_Add.mono _ _ _ _ _
      | exact registry_May.mono _ _
      | exact schema_Same.mono _ _ _ _ _ _ _
      | exact towncrierlaw05_Few.mono _ _ _ _
      | exact towncrierlaw07_Few.mono _ _
      | exact towncrierlaw07_awake.mono _
      | exact LeO.none _
      | refine LeO.ite ?_ ?_
      | refine LeO.bind ?_ (fun _ => ?_)
def towncrierlaw07_RegistryAdds.T16 : Bool × List (List Nat × List Nat) := (true, [([], []), ([], []), ([0, 1], [0, 1]), ([2], [2]), ([3], [3]), ([], []), ([5], [5]), ([4, 6], [4, 6]), ([7], [7]), ([8], [8]), ([8], [8]), ([9, 10, 8], [8, 9, 10]), ([11, 8], [8, 11]), ([8], [8]), ([8], [8]), ([13, 14, 8], [8, 13, 14]), ([15, 8], [8, 15]), ([12, 16, 8, 8], [8, 12, 16]), ([17, 8], [8, 17]), ([8, 18], [8, 18]), ([19, 17], [19]), ([20], [20]), ([20], [20]), ([21, 22, 20], [20, 21, 22]), ([23, 20], [20, 23]), ([24, 20], [20, 24]), ([20], [20]), ([20], [20]), ([26, 27, 20], [20, 26, 27]), ([28, 20], [20, 28]), ([29, 20], [20, 29]), ([25, 30, 20], [20, 25, 30]), ([20, 31], [20, 31])])
def towncrierlaw07_RegistryAdds.B16 : List Nat := [0, 0, 3, 7, 15, 0, 32, 127, 255, 511, 511, 2047, 4095, 511, 511, 25087, 57855, 131071, 262143, 524287, 1048575, 2097151, 2097151, 8388607, 16777215, 33554431, 2097151, 2097151, 203423743, 471859199, 1008730111, 2147483647, 4294967295]
theorem towncrierlaw07_RegistryAdds.tab16 : rtab .any (opsOf Try.f4 16) = towncrierlaw07_RegistryAdds.T16 := by kernel_rfl
theorem towncrierlaw07_RegistryAdds.bits16 : waitsOk towncrierlaw07_RegistryAdds.T16.2 towncrierlaw07_RegistryAdds.B16 = true := by kernel_rfl
set_option maxHeartbeats 8000000 in
set_option maxRecDepth 100000 in
theorem towncrierlaw07_RegistryAdds.calls (k : Nat) (A0 : Option Addr) (c0 : Nat) (l0 : List (SSchema)) (a1_0 : ByteArray) (a1_1 : Int) (A1_2 : Option Addr) (c1_2 : Nat) (l1_2 : List (SField)) (r : Bool) (w : World) (hr0 : Kd.C kSchema w A0 l0.length l0) (hc0 : l0.length ≤ c0) (hr1_2 : Kd.C kField w A1_2 l1_2.length l1_2) (hc1_2 : l1_2.length ≤ c1_2) (h : towncrierlaw07_RegistryAdds.f k l0 a1_0 a1_1 l1_2 = some r) :
    Calls Try.prog 4 #[.slice A0 l0.length c0, .agg #[.string a1_0, .int .i64 a1_1, .slice A1_2 l1_2.length c1_2]] w fun e w' => e = .returned (.bool r) ∧ Below w.heap.size w w' := by
  have hu25 := Try.underlying25
  have HR0 := Aside0.mk hr0
  have HC0 := Aside0.mk hc0
  clear hr0 hc0
  have HR1_2 := Aside0.mk hr1_2
  have HC1_2 := Aside0.mk hc1_2
  clear hr1_2 hc1_2
  have HB := Aside0.mk (Below.refl w.heap.size w)
  have H : ((towncrierlaw07_awake.f k).bind fun t265 => ((towncrierlaw07_Few.f k l0).bind fun t266 => ((towncrierlaw05_Few.f k a1_0 a1_1 l1_2).bind fun t267 => (if t265 = true then (if t266 = true then (towncrierlaw07_RegistryAdds.j0 k l0 t265 (!t267) a1_0 a1_1 l1_2) else (towncrierlaw07_RegistryAdds.j0 k l0 t265 true a1_0 a1_1 l1_2)) else (towncrierlaw07_RegistryAdds.j0 k l0 t265 true a1_0 a1_1 l1_2))))) = some r := h
  clear h
  replace H := Option.bind_eq_some_iff.mp H
  obtain ⟨t265, A30, H⟩ := H
  replace H : ((towncrierlaw07_Few.f k l0).bind fun t266 => ((towncrierlaw05_Few.f k a1_0 a1_1 l1_2).bind fun t267 => (if t265 = true then (if t266 = true then (towncrierlaw07_RegistryAdds.j0 k l0 t265 (!t267) a1_0 a1_1 l1_2) else (towncrierlaw07_RegistryAdds.j0 k l0 t265 true a1_0 a1_1 l1_2)) else (towncrierlaw07_RegistryAdds.j0 k l0 t265 true a1_0 a1_1 l1_2)))) = some r := H
  have A3 := Aside0.mk A30
  clear A30
  replace H := Option.bind_eq_some_iff.mp H
  obtain ⟨t266, A40, H⟩ := H
  replace H : ((towncrierlaw05_Few.f k a1_0 a1_1 l1_2).bind fun t267 => (if t265 = true then (if t266 = true then (towncrierlaw07_RegistryAdds.j0 k l0 t265 (!t267) a1_0 a1_1 l1_2) else (towncrierlaw07_RegistryAdds.j0 k l0 t265 true a1_0 a1_1 l1_2)) else (towncrierlaw07_RegistryAdds.j0 k l0 t265 true a1_0 a1_1 l1_2))) = some r := H
  have A4 := Aside0.mk A40
  clear A40
  replace H := Option.bind_eq_some_iff.mp H
  obtain ⟨t267, A50, H⟩ := H
  replace H : (if t265 = true then (if t266 = true then (towncrierlaw07_RegistryAdds.j0 k l0 t265 (!t267) a1_0 a1_1 l1_2) else (towncrierlaw07_RegistryAdds.j0 k l0 t265 true a1_0 a1_1 l1_2)) else (towncrierlaw07_RegistryAdds.j0 k l0 t265 true a1_0 a1_1 l1_2)) = some r := H
  have A5 := Aside0.mk A50
  clear A50
  have HC6 := Aside0.mk H
  clear H
  go_enter Try.func4, Try.ntmps4
  go_upto_region 4 with (first | ((with_reducible refine gate_dst (N := 3) rfl ?_); (try (refine gate_guard (by rfl) ?_; dsimp only)); refine box_event ?hg (N := 3) ?hd (cs := #[.string a1_0, .int .i64 a1_1, .slice A1_2 l1_2.length c1_2]) (t := 25) ?hr ?_; (case hd => rfl); (case hg => rfl); (case hr => first | (go_simp; done) | (go_simp; rfl)); intro gb264 hg w7 hbox hb; have n0_ := Aside0.mk (below_step (by repeat (first | (with_reducible first | exact HB.out | apply below_alloc | apply pw_below_drewN | apply below_drew1) | exact HB.out)) hb); have n1_ := Aside0.mk (hbox); have n2_ := Aside0.mk ((by rw [hg]; exact (below_size (by repeat (first | (with_reducible first | exact HB.out | apply below_alloc | apply pw_below_drewN | apply below_drew1) | exact HB.out))) : w.heap.size ≤ gb264)); have n3_ := Aside0.mk ((by rw [hg]; exact (below_size (by repeat (first | (with_reducible first | exact HB.out | apply below_alloc | apply pw_below_drewN | apply below_drew1) | exact HB.out))) : w.heap.size ≤ gb264)); clear HB; have HB := n0_; have BK264 := n1_; have GW264 := n2_; have GE264 := n3_; clear n0_ n1_ n2_ n3_; clear hb hbox hg) | ((with_reducible refine gate_callee (f := 15) rfl ?_); refine goesL_ (some 15) rfl rfl Try.func15 (by kernel_rfl) rfl #[] rfl (by (try simp only [List.map_toArray, List.map_cons, List.map_nil]); first | done | rfl | (simp only [List.length_drop, List.length_take]; rfl)) ?_; (with_reducible refine (towncrierlaw07_awake.calls k  t265 _ A3.out).mono ?_); rintro e w8 ⟨rfl, hb⟩; refine ⟨_, rfl, ?_⟩; have n0_ := Aside0.mk (blk_below (g := gb264) (o := .cells #[.string a1_0, .int .i64 a1_1, .slice A1_2 l1_2.length c1_2] 25 (0, 0)) (by (with_reducible repeat (first | refine blk_drewN ?_ _ | refine blk_drew ?_ | refine blk_alloc ?_ _)); exact BK264.out) hb); have n1_ := Aside0.mk (below_step (by repeat (first | (with_reducible first | exact HB.out | apply below_alloc | apply pw_below_drewN | apply below_drew1 | refine below_set ?_ GE264.out) | exact HB.out)) hb); clear BK264; clear HB; have BK264 := n0_; have HB := n1_; clear n0_ n1_; (try clear hb); (try clear hb2); (try clear hk); (try clear hi)) | ((with_reducible refine gate_callee (f := 16) rfl ?_); refine goesL_ (some 17) rfl rfl Try.func16 (by kernel_rfl) rfl #[.slice A0 l0.length c0] rfl (by (try simp only [List.map_toArray, List.map_cons, List.map_nil]); first | done | rfl | (simp only [List.length_drop, List.length_take]; rfl)) ?_; (with_reducible refine (towncrierlaw07_Few.calls k _ _ l0 t266 _ ?side1 ?side2 A4.out).mono ?_); (case side1 => repeat (first | exact (Kd.C_below HR0.out HB.out) | (with_reducible refine Kd.C_alloc ?_ _) | (with_reducible refine Kd.C_drewN ?_ _) | (with_reducible refine Kd.C_drew ?_))); (case side2 => exact HC0.out); rintro e w9 ⟨rfl, hb⟩; refine ⟨_, rfl, ?_⟩; have n0_ := Aside0.mk (blk_below (g := gb264) (o := .cells #[.string a1_0, .int .i64 a1_1, .slice A1_2 l1_2.length c1_2] 25 (0, 0)) (by (with_reducible repeat (first | refine blk_drewN ?_ _ | refine blk_drew ?_ | refine blk_alloc ?_ _)); exact BK264.out) hb); have n1_ := Aside0.mk (below_step (by repeat (first | (with_reducible first | exact HB.out | apply below_alloc | apply pw_below_drewN | apply below_drew1 | refine below_set ?_ GE264.out) | exact HB.out)) hb); clear BK264; clear HB; have BK264 := n0_; have HB := n1_; clear n0_ n1_; (try clear hb); (try clear hb2); (try clear hk); (try clear hi); have hcz10_0 : w9.cell? ⟨gb264, 0, none⟩ = some (.string a1_0) := (blk_cell BK264.out 0).trans rfl; have hcz10_1 : w9.cell? ⟨gb264, 1, none⟩ = some (.int .i64 a1_1) := (blk_cell BK264.out 1).trans rfl; have hcz10_2 : w9.cell? ⟨gb264, 2, none⟩ = some (.slice A1_2 l1_2.length c1_2) := (blk_cell BK264.out 2).trans rfl; have hfz10_0 := blk_frozen BK264.out 0; have hfz10_1 := blk_frozen BK264.out 1; have hfz10_2 := blk_frozen BK264.out 2) | ((with_reducible refine gate_callee (f := 17) rfl ?_); refine goesL_ (some 19) rfl rfl Try.func17 (by kernel_rfl) rfl #[.agg #[.string a1_0, .int .i64 a1_1, .slice A1_2 l1_2.length c1_2]] rfl (by (try simp only [List.map_toArray, List.map_cons, List.map_nil]); first | done | rfl | (simp only [List.length_drop, List.length_take]; rfl)) ?_; (with_reducible refine (towncrierlaw05_Few.calls k a1_0 a1_1 _ _ l1_2 t267 _ ?side1 ?side2 A5.out).mono ?_); (case side1 => repeat (first | exact (Kd.C_below HR1_2.out HB.out) | (with_reducible refine Kd.C_alloc ?_ _) | (with_reducible refine Kd.C_drewN ?_ _) | (with_reducible refine Kd.C_drew ?_))); (case side2 => exact HC1_2.out); rintro e w11 ⟨rfl, hb⟩; refine ⟨_, rfl, ?_⟩; have n0_ := Aside0.mk (blk_below (g := gb264) (o := .cells #[.string a1_0, .int .i64 a1_1, .slice A1_2 l1_2.length c1_2] 25 (0, 0)) (by (with_reducible repeat (first | refine blk_drewN ?_ _ | refine blk_drew ?_ | refine blk_alloc ?_ _)); exact BK264.out) hb); have n1_ := Aside0.mk (below_step (by repeat (first | (with_reducible first | exact HB.out | apply below_alloc | apply pw_below_drewN | apply below_drew1 | refine below_set ?_ GE264.out) | exact HB.out)) hb); clear BK264; clear HB; have BK264 := n0_; have HB := n1_; clear n0_ n1_; (try clear hb); (try clear hb2); (try clear hk); (try clear hi)))
  (try simp only [Act.put, List.setIfInBounds_toArray, List.set_cons_zero, List.set_cons_succ])
  go_cut [29] (fun v29 wc => ∃ (kq : Nat) (x29_5 : Bool), v29 = .bool x29_5 ∧ Aside0 (towncrierlaw07_RegistryAdds.j0 kq l0 t265 x29_5 a1_0 a1_1 l1_2 = some r) ∧ Aside0 (kq ≤ k) ∧ Aside0 (wc.heap[gb264]? = some (.cells #[.string a1_0, .int .i64 a1_1, (.slice A1_2 l1_2.length c1_2)] 25 (0, 0))) ∧ Aside0 (Below w.heap.size w wc))
  case first =>
    have H := HC6.out
    clear HC6
    by_cases c12 : t265 = true
    · subst c12
      have H1 : (if t266 = true then (towncrierlaw07_RegistryAdds.j0 k l0 true (!t267) a1_0 a1_1 l1_2) else (towncrierlaw07_RegistryAdds.j0 k l0 true true a1_0 a1_1 l1_2)) = some r := by rw [if_pos rfl] at H; exact H
      clear H
      have H := H1
      clear H1
      by_cases c13 : t266 = true
      · subst c13
        have H1 : (towncrierlaw07_RegistryAdds.j0 k l0 true (!t267) a1_0 a1_1 l1_2) = some r := by rw [if_pos rfl] at H; exact H
        clear H
        have H := H1
        clear H1
        have H' := Aside0.mk H
        clear H
        go_wp2
        go_meet
        case rel => exact ⟨_, (!t267), (by first | rfl | (simp; done) | (simp [*]; done)), H', ⟨by first | omega | exact Nat.le_refl _⟩, ⟨by (with_reducible repeat (first | refine blk_drewN ?_ _ | refine blk_drew ?_ | refine blk_alloc ?_ _)); exact BK264.out⟩, ⟨by repeat (first | (with_reducible first | exact HB.out | apply below_alloc | apply pw_below_drewN | apply below_drew1 | refine below_set ?_ GE264.out) | exact HB.out)⟩⟩
      · replace c13 := Bool.eq_false_iff.mpr c13
        subst c13
        have H1 : (towncrierlaw07_RegistryAdds.j0 k l0 true true a1_0 a1_1 l1_2) = some r := by rw [if_neg (show ¬ (false = true) by decide)] at H; exact H
        clear H
        have H := H1
        clear H1
        have H' := Aside0.mk H
        clear H
        go_wp2
        go_meet
        case rel => exact ⟨_, (true), (by first | rfl | (simp; done) | (simp [*]; done)), H', ⟨by first | omega | exact Nat.le_refl _⟩, ⟨by (with_reducible repeat (first | refine blk_drewN ?_ _ | refine blk_drew ?_ | refine blk_alloc ?_ _)); exact BK264.out⟩, ⟨by repeat (first | (with_reducible first | exact HB.out | apply below_alloc | apply pw_below_drewN | apply below_drew1 | refine below_set ?_ GE264.out) | exact HB.out)⟩⟩
    · replace c12 := Bool.eq_false_iff.mpr c12
      subst c12
      have H1 : (towncrierlaw07_RegistryAdds.j0 k l0 false true a1_0 a1_1 l1_2) = some r := by rw [if_neg (show ¬ (false = true) by decide)] at H; exact H
      clear H
      have H := H1
      clear H1
      have H' := Aside0.mk H
      clear H
      go_wp2
      go_meet
      case rel => exact ⟨_, (true), (by first | rfl | (simp; done) | (simp [*]; done)), H', ⟨by first | omega | exact Nat.le_refl _⟩, ⟨by (with_reducible repeat (first | refine blk_drewN ?_ _ | refine blk_drew ?_ | refine blk_alloc ?_ _)); exact BK264.out⟩, ⟨by repeat (first | (with_reducible first | exact HB.out | apply below_alloc | apply pw_below_drewN | apply below_drew1 | refine below_set ?_ GE264.out) | exact HB.out)⟩⟩
  case rest =>
    clear HC6
    try clear c1
    try clear p2
    try clear c4
    try clear c12
    try clear c13
    try clear hcz10_0
    try clear hcz10_1
    try clear hcz10_2
    try clear hfz10_0
    try clear hfz10_1
    try clear hfz10_2
    obtain ⟨kq, x29_5, rfl, HA, HJ5, BK264, HB⟩ := hcut
    cases kq with
    | zero => exact absurd HA.out (by simp [towncrierlaw07_RegistryAdds.j0])
    | succ kj5 =>
      have H := HA.out
      clear HA
      simp only [towncrierlaw07_RegistryAdds.j0] at H
      by_cases c14 : x29_5 = true
      · subst c14
        have H1 : (some t265) = some r := by rw [if_pos rfl] at H; exact H
        clear H
        have H := H1
        clear H1
        obtain rfl := Option.some.inj H
        go_wp2
        go_ret
        exact ⟨by first | rfl | (simp [errW_none, errW_some] <;> rfl) | (simp [*, errW_none, errW_some] <;> rfl), by repeat (first | (with_reducible first | exact HB.out | apply below_alloc | apply pw_below_drewN | apply below_drew1 | refine below_set ?_ GE264.out) | exact HB.out)⟩
      · replace c14 := Bool.eq_false_iff.mpr c14
        subst c14
        have H1 : ((registry_Add.f kj5 l0 a1_0 a1_1 l1_2).bind fun bt268 => (if bt268.2 = 0 then ((registry_Find.f bt268.1 a1_0).bind fun bt272 => ((registry_Add.f kj5 bt268.1 a1_0 a1_1 l1_2).bind fun bt279 => ((registry_May.f kj5 bt268.1).bind fun t283 => (if t283 = true then (if bt272.2.2.2 = true then ((schema_Same.f kj5 bt272.1 bt272.2.1 bt272.2.2.1 a1_0 a1_1 l1_2).bind fun t284 => (if t284 = true then (if bt279.2 = 4 then (if (bt268.1.length : Int) > (wrap64 ((l0.length : Int) + 1)) then (towncrierlaw07_RegistryAdds.j1 kj5 l0 bt268.1 true a1_0 a1_1 l1_2) else (towncrierlaw07_RegistryAdds.j1 kj5 l0 bt268.1 (decide ((bt268.1.length : Int) < (l0.length : Int))) a1_0 a1_1 l1_2)) else (towncrierlaw07_RegistryAdds.j1 kj5 l0 bt268.1 true a1_0 a1_1 l1_2)) else (towncrierlaw07_RegistryAdds.j1 kj5 l0 bt268.1 true a1_0 a1_1 l1_2))) else (towncrierlaw07_RegistryAdds.j1 kj5 l0 bt268.1 true a1_0 a1_1 l1_2)) else (towncrierlaw07_RegistryAdds.j1 kj5 l0 bt268.1 true a1_0 a1_1 l1_2))))) else (some ((bt268.1.length : Int) == 0)))) = some r := by rw [if_neg (show ¬ (false = true) by decide)] at H; exact H
        clear H
        have H := H1
        clear H1
        replace H := Option.bind_eq_some_iff.mp H
        obtain ⟨⟨t268, t271⟩, A150, H⟩ := H
        replace H : (if t271 = 0 then ((registry_Find.f t268 a1_0).bind fun bt272 => ((registry_Add.f kj5 t268 a1_0 a1_1 l1_2).bind fun bt279 => ((registry_May.f kj5 t268).bind fun t283 => (if t283 = true then (if bt272.2.2.2 = true then ((schema_Same.f kj5 bt272.1 bt272.2.1 bt272.2.2.1 a1_0 a1_1 l1_2).bind fun t284 => (if t284 = true then (if bt279.2 = 4 then (if (t268.length : Int) > (wrap64 ((l0.length : Int) + 1)) then (towncrierlaw07_RegistryAdds.j1 kj5 l0 t268 true a1_0 a1_1 l1_2) else (towncrierlaw07_RegistryAdds.j1 kj5 l0 t268 (decide ((t268.length : Int) < (l0.length : Int))) a1_0 a1_1 l1_2)) else (towncrierlaw07_RegistryAdds.j1 kj5 l0 t268 true a1_0 a1_1 l1_2)) else (towncrierlaw07_RegistryAdds.j1 kj5 l0 t268 true a1_0 a1_1 l1_2))) else (towncrierlaw07_RegistryAdds.j1 kj5 l0 t268 true a1_0 a1_1 l1_2)) else (towncrierlaw07_RegistryAdds.j1 kj5 l0 t268 true a1_0 a1_1 l1_2))))) else (some ((t268.length : Int) == 0))) = some r := H
        have A15 := Aside0.mk A150
        clear A150
        by_cases c16 : t271 = 0
        · rw [if_pos c16] at H
          have c16b0 : (t271 == 0) = true := beq_iff_eq.mpr c16
          have c16b1 : (t271 != 0) = false := bne_eq_false_iff_eq.mpr c16
          clear c16
          replace H := Option.bind_eq_some_iff.mp H
          obtain ⟨⟨t272, t273, t274, t277⟩, A170, H⟩ := H
          replace H : ((registry_Add.f kj5 t268 a1_0 a1_1 l1_2).bind fun bt279 => ((registry_May.f kj5 t268).bind fun t283 => (if t283 = true then (if t277 = true then ((schema_Same.f kj5 t272 t273 t274 a1_0 a1_1 l1_2).bind fun t284 => (if t284 = true then (if bt279.2 = 4 then (if (t268.length : Int) > (wrap64 ((l0.length : Int) + 1)) then (towncrierlaw07_RegistryAdds.j1 kj5 l0 t268 true a1_0 a1_1 l1_2) else (towncrierlaw07_RegistryAdds.j1 kj5 l0 t268 (decide ((t268.length : Int) < (l0.length : Int))) a1_0 a1_1 l1_2)) else (towncrierlaw07_RegistryAdds.j1 kj5 l0 t268 true a1_0 a1_1 l1_2)) else (towncrierlaw07_RegistryAdds.j1 kj5 l0 t268 true a1_0 a1_1 l1_2))) else (towncrierlaw07_RegistryAdds.j1 kj5 l0 t268 true a1_0 a1_1 l1_2)) else (towncrierlaw07_RegistryAdds.j1 kj5 l0 t268 true a1_0 a1_1 l1_2)))) = some r := H
          have A17 := Aside0.mk A170
          clear A170
          replace H := Option.bind_eq_some_iff.mp H
          obtain ⟨⟨t279, t282⟩, A180, H⟩ := H
          replace H : ((registry_May.f kj5 t268).bind fun t283 => (if t283 = true then (if t277 = true then ((schema_Same.f kj5 t272 t273 t274 a1_0 a1_1 l1_2).bind fun t284 => (if t284 = true then (if t282 = 4 then (if (t268.length : Int) > (wrap64 ((l0.length : Int) + 1)) then (towncrierlaw07_RegistryAdds.j1 kj5 l0 t268 true a1_0 a1_1 l1_2) else (towncrierlaw07_RegistryAdds.j1 kj5 l0 t268 (decide ((t268.length : Int) < (l0.length : Int))) a1_0 a1_1 l1_2)) else (towncrierlaw07_RegistryAdds.j1 kj5 l0 t268 true a1_0 a1_1 l1_2)) else (towncrierlaw07_RegistryAdds.j1 kj5 l0 t268 true a1_0 a1_1 l1_2))) else (towncrierlaw07_RegistryAdds.j1 kj5 l0 t268 true a1_0 a1_1 l1_2)) else (towncrierlaw07_RegistryAdds.j1 kj5 l0 t268 true a1_0 a1_1 l1_2))) = some r := H
          have A18 := Aside0.mk A180
          clear A180
          have HC19 := Aside0.mk H
          clear H
          have hcz20_0 : wc.cell? ⟨gb264, 0, none⟩ = some (.string a1_0) := (blk_cell BK264.out 0).trans rfl
          have hcz20_1 : wc.cell? ⟨gb264, 1, none⟩ = some (.int .i64 a1_1) := (blk_cell BK264.out 1).trans rfl
          have hcz20_2 : wc.cell? ⟨gb264, 2, none⟩ = some (.slice A1_2 l1_2.length c1_2) := (blk_cell BK264.out 2).trans rfl
          have hfz20_0 := blk_frozen BK264.out 0
          have hfz20_1 := blk_frozen BK264.out 1
          have hfz20_2 := blk_frozen BK264.out 2
          go_upto_region 11 with (first | ((with_reducible refine gate_callee (f := 18) rfl ?_); refine goesL_ (some 34) rfl rfl Try.func18 (by kernel_rfl) rfl #[.slice A0 l0.length c0, .agg #[.string a1_0, .int .i64 a1_1, .slice A1_2 l1_2.length c1_2]] rfl (by (try simp only [List.map_toArray, List.map_cons, List.map_nil]); first | done | rfl | (simp only [List.length_drop, List.length_take]; rfl)) ?_; (with_reducible refine (registry_Add.calls kj5 _ _ l0 a1_0 a1_1 _ _ l1_2 t268 t271 _ ?side1 ?side2 ?side3 ?side4 A15.out).mono ?_); (case side1 => repeat (first | exact (Kd.C_below HR0.out HB.out) | (with_reducible refine Kd.C_alloc ?_ _) | (with_reducible refine Kd.C_drewN ?_ _) | (with_reducible refine Kd.C_drew ?_))); (case side2 => exact HC0.out); (case side3 => repeat (first | exact (Kd.C_below HR1_2.out HB.out) | (with_reducible refine Kd.C_alloc ?_ _) | (with_reducible refine Kd.C_drewN ?_ _) | (with_reducible refine Kd.C_drew ?_))); (case side4 => exact HC1_2.out); rintro e w21 ⟨v269, rfl, ho0, hb⟩; refine ⟨_, rfl, ?_⟩; have n0_ := Aside0.mk (Kd.S_lower (Kd.S_newB ho0 (g := gb264) (o := .cells #[.string a1_0, .int .i64 a1_1, .slice A1_2 l1_2.length c1_2] 25 (0, 0)) (by (with_reducible repeat (first | refine blk_drewN ?_ _ | refine blk_drew ?_ | refine blk_alloc ?_ _)); exact BK264.out)) (below_size (by repeat (first | (with_reducible first | exact HB.out | apply below_alloc | apply pw_below_drewN | apply below_drew1 | refine below_set ?_ GE264.out) | exact HB.out)))); have n1_ := Aside0.mk (blk_below (g := gb264) (o := .cells #[.string a1_0, .int .i64 a1_1, .slice A1_2 l1_2.length c1_2] 25 (0, 0)) (by (with_reducible repeat (first | refine blk_drewN ?_ _ | refine blk_drew ?_ | refine blk_alloc ?_ _)); exact BK264.out) hb); have n2_ := Aside0.mk (below_step (by repeat (first | (with_reducible first | exact HB.out | apply below_alloc | apply pw_below_drewN | apply below_drew1 | refine below_set ?_ GE264.out) | exact HB.out)) hb); clear BK264; clear HB; have HO270 := n0_; have BK264 := n1_; have HB := n2_; clear n0_ n1_ n2_; (try clear hb); (try clear hb2); (try clear hk); (try clear hi); (try clear ho0); have hcz22_0 : w21.cell? ⟨gb264, 0, none⟩ = some (.string a1_0) := (blk_cell BK264.out 0).trans rfl; have hcz22_1 : w21.cell? ⟨gb264, 1, none⟩ = some (.int .i64 a1_1) := (blk_cell BK264.out 1).trans rfl; have hcz22_2 : w21.cell? ⟨gb264, 2, none⟩ = some (.slice A1_2 l1_2.length c1_2) := (blk_cell BK264.out 2).trans rfl; have hfz22_0 := blk_frozen BK264.out 0; have hfz22_1 := blk_frozen BK264.out 1; have hfz22_2 := blk_frozen BK264.out 2; obtain ⟨Ao23, co23, eo23⟩ := Kd.S_slice HO270.out; subst eo23) | ((with_reducible refine gate_callee (f := 20) rfl ?_); refine goesL_ (some 46) rfl rfl Try.func20 (by kernel_rfl) rfl #[.slice Ao23 t268.length co23, .string a1_0] rfl (by (try simp only [List.map_toArray, List.map_cons, List.map_nil]); first | done | rfl | (simp only [List.length_drop, List.length_take]; rfl)) ?_; (with_reducible refine (registry_Find.calls _ _ t268 a1_0 t272 t273 t274 t277 _ ?side1 ?side2 A17.out).mono ?_); (case side1 => repeat (first | exact (Kd.S_reads' HO270.out).2.2 | (with_reducible refine Kd.C_alloc ?_ _) | (with_reducible refine Kd.C_drewN ?_ _) | (with_reducible refine Kd.C_drew ?_))); (case side2 => exact (Kd.S_reads' HO270.out).2.1); rintro e w24 ⟨v275, rfl, ho0, hb⟩; refine ⟨_, rfl, ?_⟩; have n0_ := Aside0.mk (Kd.S_elder' (by (with_reducible repeat (first | apply Kd.S_alloc | apply Kd.S_drewN | apply Kd.S_drew)); exact HO270.out) (Kd.R_base ho0) hb); have n1_ := Aside0.mk (Kd.R_lower ho0 (below_size (by repeat (first | (with_reducible first | exact HB.out | apply below_alloc | apply pw_below_drewN | apply below_drew1 | refine below_set ?_ GE264.out) | exact HB.out)))); have n2_ := Aside0.mk (blk_below (g := gb264) (o := .cells #[.string a1_0, .int .i64 a1_1, .slice A1_2 l1_2.length c1_2] 25 (0, 0)) (by (with_reducible repeat (first | refine blk_drewN ?_ _ | refine blk_drew ?_ | refine blk_alloc ?_ _)); exact BK264.out) hb); have n3_ := Aside0.mk (below_step (by repeat (first | (with_reducible first | exact HB.out | apply below_alloc | apply pw_below_drewN | apply below_drew1 | refine below_set ?_ GE264.out) | exact HB.out)) hb); clear HO270; clear BK264; clear HB; have HO270 := n0_; have HO276 := n1_; have BK264 := n2_; have HB := n3_; clear n0_ n1_ n2_ n3_; (try clear hb); (try clear hb2); (try clear hk); (try clear hi); (try clear ho0)) | ((with_reducible refine gate_dst (N := 10) rfl ?_); (try (refine gate_guard (by rfl) ?_; dsimp only)); refine box_event ?hg (N := 10) ?hd (cs := #[.string (⟨#[]⟩ : ByteArray), .int .i64 0, .slice none 0 0]) (t := 25) ?hr ?_; (case hd => rfl); (case hg => rfl); (case hr => first | (go_simp; done) | (go_simp; rfl)); intro gb278 hg w25 hbox hb; have n0_ := Aside0.mk (Kd.S_below (Kd.S_elderB (by (with_reducible repeat (first | apply Kd.S_alloc | apply Kd.S_drewN | apply Kd.S_drew)); exact HO270.out) gb278 (Nat.le_of_eq hg.symm)) hb); have n1_ := Aside0.mk (Kd.R_below (by (with_reducible repeat (first | apply Kd.R_alloc | apply Kd.R_drewN | apply Kd.R_drew)); exact HO276.out) hb); have n2_ := Aside0.mk (blk_below (g := gb264) (o := .cells #[.string a1_0, .int .i64 a1_1, .slice A1_2 l1_2.length c1_2] 25 (0, 0)) (by (with_reducible repeat (first | refine blk_drewN ?_ _ | refine blk_drew ?_ | refine blk_alloc ?_ _)); exact BK264.out) hb); have n3_ := Aside0.mk (below_step (by repeat (first | (with_reducible first | exact HB.out | apply below_alloc | apply pw_below_drewN | apply below_drew1 | refine below_set ?_ GE264.out) | exact HB.out)) hb); have n4_ := Aside0.mk (hbox); have n5_ := Aside0.mk ((by rw [hg]; exact (below_size (by repeat (first | (with_reducible first | exact HB.out | apply below_alloc | apply pw_below_drewN | apply below_drew1 | refine below_set ?_ GE264.out) | exact HB.out))) : w.heap.size ≤ gb278)); have n6_ := Aside0.mk ((by rw [hg]; exact (below_size (by repeat (first | (with_reducible first | exact HB.out | apply below_alloc | apply pw_below_drewN | apply below_drew1 | refine below_set ?_ GE264.out) | exact HB.out))) : w.heap.size ≤ gb278)); have n7_ := Aside0.mk ((by rw [hg]; exact Nat.ne_of_lt (blk_lt (g := gb264) (o := .cells #[.string a1_0, .int .i64 a1_1, .slice A1_2 l1_2.length c1_2] 25 (0, 0)) (by (with_reducible repeat (first | refine blk_drewN ?_ _ | refine blk_drew ?_ | refine blk_alloc ?_ _)); exact BK264.out)) : gb264 ≠ gb278)); have n8_ := Aside0.mk ((by rw [hg]; exact Nat.ne_of_gt (blk_lt (g := gb264) (o := .cells #[.string a1_0, .int .i64 a1_1, .slice A1_2 l1_2.length c1_2] 25 (0, 0)) (by (with_reducible repeat (first | refine blk_drewN ?_ _ | refine blk_drew ?_ | refine blk_alloc ?_ _)); exact BK264.out)) : gb278 ≠ gb264)); clear HO270; clear HO276; clear BK264; clear HB; have HO270 := n0_; have HO276 := n1_; have BK264 := n2_; have HB := n3_; have BK278 := n4_; have GW278 := n5_; have GE278 := n6_; have NB264_278 := n7_; have NB278_264 := n8_; clear n0_ n1_ n2_ n3_ n4_ n5_ n6_ n7_ n8_; clear hb hbox hg; have hnb26 := NB278_264.out; have hnc26 := NB264_278.out; have hcz27_0 : w25.cell? ⟨gb278, 0, none⟩ = some (.string (⟨#[]⟩ : ByteArray)) := (blk_cell BK278.out 0).trans rfl; have hcz27_1 : w25.cell? ⟨gb278, 1, none⟩ = some (.int .i64 0) := (blk_cell BK278.out 1).trans rfl; have hcz27_2 : w25.cell? ⟨gb278, 2, none⟩ = some (.slice none 0 0) := (blk_cell BK278.out 2).trans rfl; have hfz27_0 := blk_frozen BK278.out 0; have hfz27_1 := blk_frozen BK278.out 1; have hfz27_2 := blk_frozen BK278.out 2; obtain ⟨Ao28, co28, eo28⟩ := Kd.R_slice HO276.out; subst eo28; have hcz29_0 : w25.cell? ⟨gb264, 0, none⟩ = some (.string a1_0) := (blk_cell BK264.out 0).trans rfl; have hcz29_1 : w25.cell? ⟨gb264, 1, none⟩ = some (.int .i64 a1_1) := (blk_cell BK264.out 1).trans rfl; have hcz29_2 : w25.cell? ⟨gb264, 2, none⟩ = some (.slice A1_2 l1_2.length c1_2) := (blk_cell BK264.out 2).trans rfl; have hfz29_0 := blk_frozen BK264.out 0; have hfz29_1 := blk_frozen BK264.out 1; have hfz29_2 := blk_frozen BK264.out 2) | ((with_reducible refine gate_callee (f := 18) rfl ?_); refine goesL_ (some 52) rfl rfl Try.func18 (by kernel_rfl) rfl #[.slice Ao23 t268.length co23, .agg #[.string a1_0, .int .i64 a1_1, .slice A1_2 l1_2.length c1_2]] rfl (by (try simp only [List.map_toArray, List.map_cons, List.map_nil]); first | done | rfl | (simp only [List.length_drop, List.length_take]; rfl)) ?_; (with_reducible refine (registry_Add.calls kj5 _ _ t268 a1_0 a1_1 _ _ l1_2 t279 t282 _ ?side1 ?side2 ?side3 ?side4 A18.out).mono ?_); (case side1 => refine (Kd.S_reads' (e := 25) (base := w.heap.size) (ok := fun k_ => (((True ∧ k_ ≠ gb264) ∧ some k_ ≠ (.slice Ao28 t274.length co28 : Value).ownBlock) ∧ k_ ≠ gb278)) (n := t268.length) (c := co23) ?_).2.2; exact (by (with_reducible repeat (first | apply Kd.S_alloc | apply Kd.S_drewN | apply Kd.S_drew)); exact (Kd.S_mono (Kd.S_far (p := ⟨gb278, 2, none⟩) (Kd.S_far (p := ⟨gb278, 1, none⟩) (Kd.S_far (p := ⟨gb278, 0, none⟩) (Kd.S_mono HO270.out (fun k_ hk => (⟨hk, hk.2⟩ : _ ∧ k_ ≠ gb278))) (fun _ hk => hk.2) (.string t272)) (fun _ hk => hk.2) (.int .i64 t273)) (fun _ hk => hk.2) (.slice Ao28 t274.length co28)) (fun _ h_ => h_.1)))); (case side2 => exact (Kd.S_reads' HO270.out).2.1); (case side3 => exact Kd.C_below HR1_2.out (by repeat (first | (with_reducible first | exact HB.out | apply below_alloc | apply pw_below_drewN | apply below_drew1 | refine below_set ?_ GE264.out | refine below_set ?_ GE278.out) | exact HB.out))); (case side4 => exact HC1_2.out); rintro e w30 ⟨v280, rfl, ho0, hb⟩; refine ⟨_, rfl, ?_⟩; have n0_ := Aside0.mk (Kd.S_elder' (by (with_reducible repeat (first | apply Kd.S_alloc | apply Kd.S_drewN | apply Kd.S_drew)); exact (Kd.S_mono (Kd.S_far (p := ⟨gb278, 2, none⟩) (Kd.S_far (p := ⟨gb278, 1, none⟩) (Kd.S_far (p := ⟨gb278, 0, none⟩) (Kd.S_mono HO270.out (fun k_ hk => (⟨hk, hk.2⟩ : _ ∧ k_ ≠ gb278))) (fun _ hk => hk.2) (.string t272)) (fun _ hk => hk.2) (.int .i64 t273)) (fun _ hk => hk.2) (.slice Ao28 t274.length co28)) (fun _ h_ => h_.1))) (Kd.S_base ho0) hb); have n1_ := Aside0.mk (Kd.R_below (by (with_reducible repeat (first | apply Kd.R_alloc | apply Kd.R_drewN | apply Kd.R_drew)); exact (Kd.R_mono (Kd.R_far (p := ⟨gb278, 2, none⟩) (Kd.R_far (p := ⟨gb278, 1, none⟩) (Kd.R_far (p := ⟨gb278, 0, none⟩) (Kd.R_types HO276.out BK278.out (by decide)) (fun _ hk => hk.2) (.string t272)) (fun _ hk => hk.2) (.int .i64 t273)) (fun _ hk => hk.2) (.slice Ao28 t274.length co28)) (fun _ h_ => h_.1))) hb); have n2_ := Aside0.mk (Kd.S_lower (Kd.S_newB (Kd.S_newB (Kd.S_new' (Kd.S_new' ho0 (Kd.S_lt (by (with_reducible repeat (first | apply Kd.S_alloc | apply Kd.S_drewN | apply Kd.S_drew)); exact (Kd.S_mono (Kd.S_far (p := ⟨gb278, 2, none⟩) (Kd.S_far (p := ⟨gb278, 1, none⟩) (Kd.S_far (p := ⟨gb278, 0, none⟩) (Kd.S_mono HO270.out (fun k_ hk => (⟨hk, hk.2⟩ : _ ∧ k_ ≠ gb278))) (fun _ hk => hk.2) (.string t272)) (fun _ hk => hk.2) (.int .i64 t273)) (fun _ hk => hk.2) (.slice Ao28 t274.length co28)) (fun _ h_ => h_.1))))) (Kd.R_lt (by (with_reducible repeat (first | apply Kd.R_alloc | apply Kd.R_drewN | apply Kd.R_drew)); exact (Kd.R_mono (Kd.R_far (p := ⟨gb278, 2, none⟩) (Kd.R_far (p := ⟨gb278, 1, none⟩) (Kd.R_far (p := ⟨gb278, 0, none⟩) (Kd.R_types HO276.out BK278.out (by decide)) (fun _ hk => hk.2) (.string t272)) (fun _ hk => hk.2) (.int .i64 t273)) (fun _ hk => hk.2) (.slice Ao28 t274.length co28)) (fun _ h_ => h_.1))))) (g := gb264) (o := .cells #[.string a1_0, .int .i64 a1_1, .slice A1_2 l1_2.length c1_2] 25 (0, 0)) (by (with_reducible repeat (first | refine blk_drewN ?_ _ | refine blk_drew ?_ | refine blk_alloc ?_ _)); refine blk_far ?_ NB264_278.out _; (with_reducible repeat (first | refine blk_drewN ?_ _ | refine blk_drew ?_ | refine blk_alloc ?_ _)); refine blk_far ?_ NB264_278.out _; (with_reducible repeat (first | refine blk_drewN ?_ _ | refine blk_drew ?_ | refine blk_alloc ?_ _)); refine blk_far ?_ NB264_278.out _; (with_reducible repeat (first | refine blk_drewN ?_ _ | refine blk_drew ?_ | refine blk_alloc ?_ _)); exact BK264.out)) (g := gb278) (o := .cells #[.string t272, .int .i64 t273, .slice Ao28 t274.length co28] 25 (0, 0)) (by (with_reducible repeat (first | refine blk_drewN ?_ _ | refine blk_drew ?_ | refine blk_alloc ?_ _)); refine blk_put (cs := #[.string t272, .int .i64 t273, .slice none 0 0]) ?_ 2 _ rfl; (with_reducible repeat (first | refine blk_drewN ?_ _ | refine blk_drew ?_ | refine blk_alloc ?_ _)); refine blk_put (cs := #[.string t272, .int .i64 0, .slice none 0 0]) ?_ 1 _ rfl; (with_reducible repeat (first | refine blk_drewN ?_ _ | refine blk_drew ?_ | refine blk_alloc ?_ _)); refine blk_put (cs := #[.string (⟨#[]⟩ : ByteArray), .int .i64 0, .slice none 0 0]) ?_ 0 _ rfl; (with_reducible repeat (first | refine blk_drewN ?_ _ | refine blk_drew ?_ | refine blk_alloc ?_ _)); exact BK278.out)) (below_size (by repeat (first | (with_reducible first | exact HB.out | apply below_alloc | apply pw_below_drewN | apply below_drew1 | refine below_set ?_ GE264.out | refine below_set ?_ GE278.out) | exact HB.out)))); have n3_ := Aside0.mk (blk_below (g := gb264) (o := .cells #[.string a1_0, .int .i64 a1_1, .slice A1_2 l1_2.length c1_2] 25 (0, 0)) (by (with_reducible repeat (first | refine blk_drewN ?_ _ | refine blk_drew ?_ | refine blk_alloc ?_ _)); refine blk_far ?_ NB264_278.out _; (with_reducible repeat (first | refine blk_drewN ?_ _ | refine blk_drew ?_ | refine blk_alloc ?_ _)); refine blk_far ?_ NB264_278.out _; (with_reducible repeat (first | refine blk_drewN ?_ _ | refine blk_drew ?_ | refine blk_alloc ?_ _)); refine blk_far ?_ NB264_278.out _; (with_reducible repeat (first | refine blk_drewN ?_ _ | refine blk_drew ?_ | refine blk_alloc ?_ _)); exact BK264.out) hb); have n4_ := Aside0.mk (blk_below (g := gb278) (o := .cells #[.string t272, .int .i64 t273, .slice Ao28 t274.length co28] 25 (0, 0)) (by (with_reducible repeat (first | refine blk_drewN ?_ _ | refine blk_drew ?_ | refine blk_alloc ?_ _)); refine blk_put (cs := #[.string t272, .int .i64 t273, .slice none 0 0]) ?_ 2 _ rfl; (with_reducible repeat (first | refine blk_drewN ?_ _ | refine blk_drew ?_ | refine blk_alloc ?_ _)); refine blk_put (cs := #[.string t272, .int .i64 0, .slice none 0 0]) ?_ 1 _ rfl; (with_reducible repeat (first | refine blk_drewN ?_ _ | refine blk_drew ?_ | refine blk_alloc ?_ _)); refine blk_put (cs := #[.string (⟨#[]⟩ : ByteArray), .int .i64 0, .slice none 0 0]) ?_ 0 _ rfl; (with_reducible repeat (first | refine blk_drewN ?_ _ | refine blk_drew ?_ | refine blk_alloc ?_ _)); exact BK278.out) hb); have n5_ := Aside0.mk (below_step (by repeat (first | (with_reducible first | exact HB.out | apply below_alloc | apply pw_below_drewN | apply below_drew1 | refine below_set ?_ GE264.out | refine below_set ?_ GE278.out) | exact HB.out)) hb); clear HO270; clear HO276; clear BK264; clear BK278; clear HB; have HO270 := n0_; have HO276 := n1_; have HO281 := n2_; have BK264 := n3_; have BK278 := n4_; have HB := n5_; clear n0_ n1_ n2_ n3_ n4_ n5_; (try clear hb); (try clear hb2); (try clear hk); (try clear hi); (try clear ho0)))
          (try simp only [Act.put, List.setIfInBounds_toArray, List.set_cons_zero, List.set_cons_succ])
          go_cut [86] (fun v86 wc => ∃ (kq : Nat) (x86_18 : Bool), v86 = .bool x86_18 ∧ Aside0 (towncrierlaw07_RegistryAdds.j1 kq l0 t268 x86_18 a1_0 a1_1 l1_2 = some r) ∧ Aside0 (kq ≤ kj5) ∧ Aside0 (Kd.S kSchema 25 wc w.heap.size (fun k_ => some k_ ≠ ((.slice Ao28 t274.length co28) : Value).ownBlock ∧ k_ ≠ gb264 ∧ k_ ≠ gb278) (.slice Ao23 t268.length co23) t268) ∧ Aside0 (Kd.R kField 39 wc w.heap.size (fun _ => True) (.slice Ao28 t274.length co28) t274) ∧ Aside0 (wc.heap[gb264]? = some (.cells #[.string a1_0, .int .i64 a1_1, (.slice A1_2 l1_2.length c1_2)] 25 (0, 0))) ∧ Aside0 (wc.heap[gb278]? = some (.cells #[.string t272, .int .i64 t273, (.slice Ao28 t274.length co28)] 25 (0, 0))) ∧ Aside0 (Below w.heap.size w wc))
          case first =>
            have H := HC19.out
            clear HC19
            replace H := Option.bind_eq_some_iff.mp H
            obtain ⟨t283, A310, H⟩ := H
            replace H : (if t283 = true then (if t277 = true then ((schema_Same.f kj5 t272 t273 t274 a1_0 a1_1 l1_2).bind fun t284 => (if t284 = true then (if t282 = 4 then (if (t268.length : Int) > (wrap64 ((l0.length : Int) + 1)) then (towncrierlaw07_RegistryAdds.j1 kj5 l0 t268 true a1_0 a1_1 l1_2) else (towncrierlaw07_RegistryAdds.j1 kj5 l0 t268 (decide ((t268.length : Int) < (l0.length : Int))) a1_0 a1_1 l1_2)) else (towncrierlaw07_RegistryAdds.j1 kj5 l0 t268 true a1_0 a1_1 l1_2)) else (towncrierlaw07_RegistryAdds.j1 kj5 l0 t268 true a1_0 a1_1 l1_2))) else (towncrierlaw07_RegistryAdds.j1 kj5 l0 t268 true a1_0 a1_1 l1_2)) else (towncrierlaw07_RegistryAdds.j1 kj5 l0 t268 true a1_0 a1_1 l1_2)) = some r := H
            have A31 := Aside0.mk A310
            clear A310
            by_cases c32 : t283 = true
            · subst c32
              have H1 : (if t277 = true then ((schema_Same.f kj5 t272 t273 t274 a1_0 a1_1 l1_2).bind fun t284 => (if t284 = true then (if t282 = 4 then (if (t268.length : Int) > (wrap64 ((l0.length : Int) + 1)) then (towncrierlaw07_RegistryAdds.j1 kj5 l0 t268 true a1_0 a1_1 l1_2) else (towncrierlaw07_RegistryAdds.j1 kj5 l0 t268 (decide ((t268.length : Int) < (l0.length : Int))) a1_0 a1_1 l1_2)) else (towncrierlaw07_RegistryAdds.j1 kj5 l0 t268 true a1_0 a1_1 l1_2)) else (towncrierlaw07_RegistryAdds.j1 kj5 l0 t268 true a1_0 a1_1 l1_2))) else (towncrierlaw07_RegistryAdds.j1 kj5 l0 t268 true a1_0 a1_1 l1_2)) = some r := by rw [if_pos rfl] at H; exact H
              clear H
              have H := H1
              clear H1
              by_cases c33 : t277 = true
              · subst c33
                have H1 : ((schema_Same.f kj5 t272 t273 t274 a1_0 a1_1 l1_2).bind fun t284 => (if t284 = true then (if t282 = 4 then (if (t268.length : Int) > (wrap64 ((l0.length : Int) + 1)) then (towncrierlaw07_RegistryAdds.j1 kj5 l0 t268 true a1_0 a1_1 l1_2) else (towncrierlaw07_RegistryAdds.j1 kj5 l0 t268 (decide ((t268.length : Int) < (l0.length : Int))) a1_0 a1_1 l1_2)) else (towncrierlaw07_RegistryAdds.j1 kj5 l0 t268 true a1_0 a1_1 l1_2)) else (towncrierlaw07_RegistryAdds.j1 kj5 l0 t268 true a1_0 a1_1 l1_2))) = some r := by rw [if_pos rfl] at H; exact H
                clear H
                have H := H1
                clear H1
                replace H := Option.bind_eq_some_iff.mp H
                obtain ⟨t284, A340, H⟩ := H
                replace H : (if t284 = true then (if t282 = 4 then (if (t268.length : Int) > (wrap64 ((l0.length : Int) + 1)) then (towncrierlaw07_RegistryAdds.j1 kj5 l0 t268 true a1_0 a1_1 l1_2) else (towncrierlaw07_RegistryAdds.j1 kj5 l0 t268 (decide ((t268.length : Int) < (l0.length : Int))) a1_0 a1_1 l1_2)) else (towncrierlaw07_RegistryAdds.j1 kj5 l0 t268 true a1_0 a1_1 l1_2)) else (towncrierlaw07_RegistryAdds.j1 kj5 l0 t268 true a1_0 a1_1 l1_2)) = some r := H
                have A34 := Aside0.mk A340
                clear A340
                by_cases c35 : t284 = true
                · subst c35
                  have H1 : (if t282 = 4 then (if (t268.length : Int) > (wrap64 ((l0.length : Int) + 1)) then (towncrierlaw07_RegistryAdds.j1 kj5 l0 t268 true a1_0 a1_1 l1_2) else (towncrierlaw07_RegistryAdds.j1 kj5 l0 t268 (decide ((t268.length : Int) < (l0.length : Int))) a1_0 a1_1 l1_2)) else (towncrierlaw07_RegistryAdds.j1 kj5 l0 t268 true a1_0 a1_1 l1_2)) = some r := by rw [if_pos rfl] at H; exact H
                  clear H
                  have H := H1
                  clear H1
                  by_cases c36 : t282 = 4
                  · rw [if_pos c36] at H
                    have c36b0 : (t282 == 4) = true := beq_iff_eq.mpr c36
                    have c36b1 : (t282 != 4) = false := bne_eq_false_iff_eq.mpr c36
                    clear c36
                    (first | rw [c36b0] | (simp only [i64_w, i32_w]; rw [c36b0]) | skip)
                    by_cases c37 : (t268.length : Int) > (wrap64 ((l0.length : Int) + 1))
                    · rw [if_pos c37] at H
                      have c37b0 : decide ((wrap64 ((l0.length : Int) + 1)) < (t268.length : Int)) = true := decide_eq_true c37
                      clear c37
                      have H' := Aside0.mk H
                      clear H
                      go_wp2_with (first | ((with_reducible refine gate_callee (f := 25) rfl ?_); refine goesL_ (some 56) rfl rfl Try.func25 (by kernel_rfl) rfl #[.slice Ao23 t268.length co23] rfl (by (try simp only [List.map_toArray, List.map_cons, List.map_nil]); first | done | rfl | (simp only [List.length_drop, List.length_take]; rfl)) ?_; (with_reducible refine (registry_May.calls kj5 _ _ t268 true _ ?side1 ?side2 A31.out).mono ?_); (case side1 => repeat (first | exact (Kd.S_reads' HO270.out).2.2 | (with_reducible refine Kd.C_alloc ?_ _) | (with_reducible refine Kd.C_drewN ?_ _) | (with_reducible refine Kd.C_drew ?_))); (case side2 => exact (Kd.S_reads' HO270.out).2.1); rintro e w38 ⟨rfl, hb⟩; refine ⟨_, rfl, ?_⟩; have n0_ := Aside0.mk (Kd.S_below (by (with_reducible repeat (first | apply Kd.S_alloc | apply Kd.S_drewN | apply Kd.S_drew)); exact HO270.out) hb); have n1_ := Aside0.mk (Kd.R_below (by (with_reducible repeat (first | apply Kd.R_alloc | apply Kd.R_drewN | apply Kd.R_drew)); exact HO276.out) hb); have n2_ := Aside0.mk (Kd.S_below (by (with_reducible repeat (first | apply Kd.S_alloc | apply Kd.S_drewN | apply Kd.S_drew)); exact HO281.out) hb); have n3_ := Aside0.mk (blk_below (g := gb264) (o := .cells #[.string a1_0, .int .i64 a1_1, .slice A1_2 l1_2.length c1_2] 25 (0, 0)) (by (with_reducible repeat (first | refine blk_drewN ?_ _ | refine blk_drew ?_ | refine blk_alloc ?_ _)); exact BK264.out) hb); have n4_ := Aside0.mk (blk_below (g := gb278) (o := .cells #[.string t272, .int .i64 t273, .slice Ao28 t274.length co28] 25 (0, 0)) (by (with_reducible repeat (first | refine blk_drewN ?_ _ | refine blk_drew ?_ | refine blk_alloc ?_ _)); exact BK278.out) hb); have n5_ := Aside0.mk (below_step (by repeat (first | (with_reducible first | exact HB.out | apply below_alloc | apply pw_below_drewN | apply below_drew1 | refine below_set ?_ GE264.out | refine below_set ?_ GE278.out) | exact HB.out)) hb); clear HO270; clear HO276; clear HO281; clear BK264; clear BK278; clear HB; have HO270 := n0_; have HO276 := n1_; have HO281 := n2_; have BK264 := n3_; have BK278 := n4_; have HB := n5_; clear n0_ n1_ n2_ n3_ n4_ n5_; (try clear hb); (try clear hb2); (try clear hk); (try clear hi); have hnb39 := NB278_264.out; have hnc39 := NB264_278.out; have hcz40_0 : w38.cell? ⟨gb278, 0, none⟩ = some (.string t272) := (blk_cell BK278.out 0).trans rfl; have hcz40_1 : w38.cell? ⟨gb278, 1, none⟩ = some (.int .i64 t273) := (blk_cell BK278.out 1).trans rfl; have hcz40_2 : w38.cell? ⟨gb278, 2, none⟩ = some (.slice Ao28 t274.length co28) := (blk_cell BK278.out 2).trans rfl; have hfz40_0 := blk_frozen BK278.out 0; have hfz40_1 := blk_frozen BK278.out 1; have hfz40_2 := blk_frozen BK278.out 2; have hcz41_0 : w38.cell? ⟨gb264, 0, none⟩ = some (.string a1_0) := (blk_cell BK264.out 0).trans rfl; have hcz41_1 : w38.cell? ⟨gb264, 1, none⟩ = some (.int .i64 a1_1) := (blk_cell BK264.out 1).trans rfl; have hcz41_2 : w38.cell? ⟨gb264, 2, none⟩ = some (.slice A1_2 l1_2.length c1_2) := (blk_cell BK264.out 2).trans rfl; have hfz41_0 := blk_frozen BK264.out 0; have hfz41_1 := blk_frozen BK264.out 1; have hfz41_2 := blk_frozen BK264.out 2) | (go_at_call 27; (with_reducible refine (schema_Same.calls kj5 t272 t273 _ _ t274 a1_0 a1_1 _ _ l1_2 true _ ?side1 ?side2 ?side3 ?side4 A34.out).mono ?_); (case side1 => repeat (first | exact (Kd.R_reads' HO276.out).2.2 | (with_reducible refine Kd.C_alloc ?_ _) | (with_reducible refine Kd.C_drewN ?_ _) | (with_reducible refine Kd.C_drew ?_))); (case side2 => exact (Kd.R_reads' HO276.out).2.1); (case side3 => repeat (first | exact (Kd.C_below HR1_2.out HB.out) | (with_reducible refine Kd.C_alloc ?_ _) | (with_reducible refine Kd.C_drewN ?_ _) | (with_reducible refine Kd.C_drew ?_))); (case side4 => exact HC1_2.out); rintro e w42 ⟨rfl, hb⟩; have n0_ := Aside0.mk (Kd.S_below (by (with_reducible repeat (first | apply Kd.S_alloc | apply Kd.S_drewN | apply Kd.S_drew)); exact HO270.out) hb); have n1_ := Aside0.mk (Kd.R_below (by (with_reducible repeat (first | apply Kd.R_alloc | apply Kd.R_drewN | apply Kd.R_drew)); exact HO276.out) hb); have n2_ := Aside0.mk (Kd.S_below (by (with_reducible repeat (first | apply Kd.S_alloc | apply Kd.S_drewN | apply Kd.S_drew)); exact HO281.out) hb); have n3_ := Aside0.mk (blk_below (g := gb264) (o := .cells #[.string a1_0, .int .i64 a1_1, .slice A1_2 l1_2.length c1_2] 25 (0, 0)) (by (with_reducible repeat (first | refine blk_drewN ?_ _ | refine blk_drew ?_ | refine blk_alloc ?_ _)); exact BK264.out) hb); have n4_ := Aside0.mk (blk_below (g := gb278) (o := .cells #[.string t272, .int .i64 t273, .slice Ao28 t274.length co28] 25 (0, 0)) (by (with_reducible repeat (first | refine blk_drewN ?_ _ | refine blk_drew ?_ | refine blk_alloc ?_ _)); exact BK278.out) hb); have n5_ := Aside0.mk (below_step (by repeat (first | (with_reducible first | exact HB.out | apply below_alloc | apply pw_below_drewN | apply below_drew1 | refine below_set ?_ GE264.out | refine below_set ?_ GE278.out) | exact HB.out)) hb); clear HO270; clear HO276; clear HO281; clear BK264; clear BK278; clear HB; have HO270 := n0_; have HO276 := n1_; have HO281 := n2_; have BK264 := n3_; have BK278 := n4_; have HB := n5_; clear n0_ n1_ n2_ n3_ n4_ n5_; (try clear hb); (try clear hb2); (try clear hk); (try clear hi)))
                      go_meet
                      case rel => exact ⟨_, (true), (by first | rfl | (simp; done) | (simp [*]; done)), H', ⟨by have := HJ5.out; first | omega | exact Nat.le_refl _⟩, ⟨by (with_reducible repeat (first | apply Kd.S_alloc | apply Kd.S_drewN | apply Kd.S_drew)); exact Kd.S_mono HO270.out (fun _ hk => ⟨hk.1.1.2, ⟨hk.1.1.1.2, hk.1.2⟩⟩)⟩, ⟨by (with_reducible repeat (first | apply Kd.R_alloc | apply Kd.R_drewN | apply Kd.R_drew)); exact HO276.out⟩, ⟨by (with_reducible repeat (first | refine blk_drewN ?_ _ | refine blk_drew ?_ | refine blk_alloc ?_ _)); exact BK264.out⟩, ⟨by (with_reducible repeat (first | refine blk_drewN ?_ _ | refine blk_drew ?_ | refine blk_alloc ?_ _)); exact BK278.out⟩, ⟨by repeat (first | (with_reducible first | exact HB.out | apply below_alloc | apply pw_below_drewN | apply below_drew1 | refine below_set ?_ GE264.out | refine below_set ?_ GE278.out) | exact HB.out)⟩⟩
                    · rw [if_neg c37] at H
                      have c37b0 : decide ((wrap64 ((l0.length : Int) + 1)) < (t268.length : Int)) = false := decide_eq_false c37
                      clear c37
                      have H' := Aside0.mk H
                      clear H
                      go_wp2_with (first | ((with_reducible refine gate_callee (f := 25) rfl ?_); refine goesL_ (some 56) rfl rfl Try.func25 (by kernel_rfl) rfl #[.slice Ao23 t268.length co23] rfl (by (try simp only [List.map_toArray, List.map_cons, List.map_nil]); first | done | rfl | (simp only [List.length_drop, List.length_take]; rfl)) ?_; (with_reducible refine (registry_May.calls kj5 _ _ t268 true _ ?side1 ?side2 A31.out).mono ?_); (case side1 => repeat (first | exact (Kd.S_reads' HO270.out).2.2 | (with_reducible refine Kd.C_alloc ?_ _) | (with_reducible refine Kd.C_drewN ?_ _) | (with_reducible refine Kd.C_drew ?_))); (case side2 => exact (Kd.S_reads' HO270.out).2.1); rintro e w43 ⟨rfl, hb⟩; refine ⟨_, rfl, ?_⟩; have n0_ := Aside0.mk (Kd.S_below (by (with_reducible repeat (first | apply Kd.S_alloc | apply Kd.S_drewN | apply Kd.S_drew)); exact HO270.out) hb); have n1_ := Aside0.mk (Kd.R_below (by (with_reducible repeat (first | apply Kd.R_alloc | apply Kd.R_drewN | apply Kd.R_drew)); exact HO276.out) hb); have n2_ := Aside0.mk (Kd.S_below (by (with_reducible repeat (first | apply Kd.S_alloc | apply Kd.S_drewN | apply Kd.S_drew)); exact HO281.out) hb); have n3_ := Aside0.mk (blk_below (g := gb264) (o := .cells #[.string a1_0, .int .i64 a1_1, .slice A1_2 l1_2.length c1_2] 25 (0, 0)) (by (with_reducible repeat (first | refine blk_drewN ?_ _ | refine blk_drew ?_ | refine blk_alloc ?_ _)); exact BK264.out) hb); have n4_ := Aside0.mk (blk_below (g := gb278) (o := .cells #[.string t272, .int .i64 t273, .slice Ao28 t274.length co28] 25 (0, 0)) (by (with_reducible repeat (first | refine blk_drewN ?_ _ | refine blk_drew ?_ | refine blk_alloc ?_ _)); exact BK278.out) hb); have n5_ := Aside0.mk (below_step (by repeat (first | (with_reducible first | exact HB.out | apply below_alloc | apply pw_below_drewN | apply below_drew1 | refine below_set ?_ GE264.out | refine below_set ?_ GE278.out) | exact HB.out)) hb); clear HO270; clear HO276; clear HO281; clear BK264; clear BK278; clear HB; have HO270 := n0_; have HO276 := n1_; have HO281 := n2_; have BK264 := n3_; have BK278 := n4_; have HB := n5_; clear n0_ n1_ n2_ n3_ n4_ n5_; (try clear hb); (try clear hb2); (try clear hk); (try clear hi); have hnb44 := NB278_264.out; have hnc44 := NB264_278.out; have hcz45_0 : w43.cell? ⟨gb278, 0, none⟩ = some (.string t272) := (blk_cell BK278.out 0).trans rfl; have hcz45_1 : w43.cell? ⟨gb278, 1, none⟩ = some (.int .i64 t273) := (blk_cell BK278.out 1).trans rfl; have hcz45_2 : w43.cell? ⟨gb278, 2, none⟩ = some (.slice Ao28 t274.length co28) := (blk_cell BK278.out 2).trans rfl; have hfz45_0 := blk_frozen BK278.out 0; have hfz45_1 := blk_frozen BK278.out 1; have hfz45_2 := blk_frozen BK278.out 2; have hcz46_0 : w43.cell? ⟨gb264, 0, none⟩ = some (.string a1_0) := (blk_cell BK264.out 0).trans rfl; have hcz46_1 : w43.cell? ⟨gb264, 1, none⟩ = some (.int .i64 a1_1) := (blk_cell BK264.out 1).trans rfl; have hcz46_2 : w43.cell? ⟨gb264, 2, none⟩ = some (.slice A1_2 l1_2.length c1_2) := (blk_cell BK264.out 2).trans rfl; have hfz46_0 := blk_frozen BK264.out 0; have hfz46_1 := blk_frozen BK264.out 1; have hfz46_2 := blk_frozen BK264.out 2) | (go_at_call 27; (with_reducible refine (schema_Same.calls kj5 t272 t273 _ _ t274 a1_0 a1_1 _ _ l1_2 true _ ?side1 ?side2 ?side3 ?side4 A34.out).mono ?_); (case side1 => repeat (first | exact (Kd.R_reads' HO276.out).2.2 | (with_reducible refine Kd.C_alloc ?_ _) | (with_reducible refine Kd.C_drewN ?_ _) | (with_reducible refine Kd.C_drew ?_))); (case side2 => exact (Kd.R_reads' HO276.out).2.1); (case side3 => repeat (first | exact (Kd.C_below HR1_2.out HB.out) | (with_reducible refine Kd.C_alloc ?_ _) | (with_reducible refine Kd.C_drewN ?_ _) | (with_reducible refine Kd.C_drew ?_))); (case side4 => exact HC1_2.out); rintro e w47 ⟨rfl, hb⟩; have n0_ := Aside0.mk (Kd.S_below (by (with_reducible repeat (first | apply Kd.S_alloc | apply Kd.S_drewN | apply Kd.S_drew)); exact HO270.out) hb); have n1_ := Aside0.mk (Kd.R_below (by (with_reducible repeat (first | apply Kd.R_alloc | apply Kd.R_drewN | apply Kd.R_drew)); exact HO276.out) hb); have n2_ := Aside0.mk (Kd.S_below (by (with_reducible repeat (first | apply Kd.S_alloc | apply Kd.S_drewN | apply Kd.S_drew)); exact HO281.out) hb); have n3_ := Aside0.mk (blk_below (g := gb264) (o := .cells #[.string a1_0, .int .i64 a1_1, .slice A1_2 l1_2.length c1_2] 25 (0, 0)) (by (with_reducible repeat (first | refine blk_drewN ?_ _ | refine blk_drew ?_ | refine blk_alloc ?_ _)); exact BK264.out) hb); have n4_ := Aside0.mk (blk_below (g := gb278) (o := .cells #[.string t272, .int .i64 t273, .slice Ao28 t274.length co28] 25 (0, 0)) (by (with_reducible repeat (first | refine blk_drewN ?_ _ | refine blk_drew ?_ | refine blk_alloc ?_ _)); exact BK278.out) hb); have n5_ := Aside0.mk (below_step (by repeat (first | (with_reducible first | exact HB.out | apply below_alloc | apply pw_below_drewN | apply below_drew1 | refine below_set ?_ GE264.out | refine below_set ?_ GE278.out) | exact HB.out)) hb); clear HO270; clear HO276; clear HO281; clear BK264; clear BK278; clear HB; have HO270 := n0_; have HO276 := n1_; have HO281 := n2_; have BK264 := n3_; have BK278 := n4_; have HB := n5_; clear n0_ n1_ n2_ n3_ n4_ n5_; (try clear hb); (try clear hb2); (try clear hk); (try clear hi)))
                      go_meet
                      case rel => exact ⟨_, (decide ((t268.length : Int) < (l0.length : Int))), (by first | rfl | (simp; done) | (simp [*]; done)), H', ⟨by have := HJ5.out; first | omega | exact Nat.le_refl _⟩, ⟨by (with_reducible repeat (first | apply Kd.S_alloc | apply Kd.S_drewN | apply Kd.S_drew)); exact Kd.S_mono HO270.out (fun _ hk => ⟨hk.1.1.2, ⟨hk.1.1.1.2, hk.1.2⟩⟩)⟩, ⟨by (with_reducible repeat (first | apply Kd.R_alloc | apply Kd.R_drewN | apply Kd.R_drew)); exact HO276.out⟩, ⟨by (with_reducible repeat (first | refine blk_drewN ?_ _ | refine blk_drew ?_ | refine blk_alloc ?_ _)); exact BK264.out⟩, ⟨by (with_reducible repeat (first | refine blk_drewN ?_ _ | refine blk_drew ?_ | refine blk_alloc ?_ _)); exact BK278.out⟩, ⟨by repeat (first | (with_reducible first | exact HB.out | apply below_alloc | apply pw_below_drewN | apply below_drew1 | refine below_set ?_ GE264.out | refine below_set ?_ GE278.out) | exact HB.out)⟩⟩
                  · rw [if_neg c36] at H
                    have c36b0 : (t282 == 4) = false := beq_eq_false_iff_ne.mpr c36
                    have c36b1 : (t282 != 4) = true := bne_iff_ne.mpr c36
                    (first | rw [c36b0] | (simp only [i64_w, i32_w]; rw [c36b0]) | skip)
                    have H' := Aside0.mk H
                    clear H
                    go_wp2_with (first | ((with_reducible refine gate_callee (f := 25) rfl ?_); refine goesL_ (some 56) rfl rfl Try.func25 (by kernel_rfl) rfl #[.slice Ao23 t268.length co23] rfl (by (try simp only [List.map_toArray, List.map_cons, List.map_nil]); first | done | rfl | (simp only [List.length_drop, List.length_take]; rfl)) ?_; (with_reducible refine (registry_May.calls kj5 _ _ t268 true _ ?side1 ?side2 A31.out).mono ?_); (case side1 => repeat (first | exact (Kd.S_reads' HO270.out).2.2 | (with_reducible refine Kd.C_alloc ?_ _) | (with_reducible refine Kd.C_drewN ?_ _) | (with_reducible refine Kd.C_drew ?_))); (case side2 => exact (Kd.S_reads' HO270.out).2.1); rintro e w48 ⟨rfl, hb⟩; refine ⟨_, rfl, ?_⟩; have n0_ := Aside0.mk (Kd.S_below (by (with_reducible repeat (first | apply Kd.S_alloc | apply Kd.S_drewN | apply Kd.S_drew)); exact HO270.out) hb); have n1_ := Aside0.mk (Kd.R_below (by (with_reducible repeat (first | apply Kd.R_alloc | apply Kd.R_drewN | apply Kd.R_drew)); exact HO276.out) hb); have n2_ := Aside0.mk (Kd.S_below (by (with_reducible repeat (first | apply Kd.S_alloc | apply Kd.S_drewN | apply Kd.S_drew)); exact HO281.out) hb); have n3_ := Aside0.mk (blk_below (g := gb264) (o := .cells #[.string a1_0, .int .i64 a1_1, .slice A1_2 l1_2.length c1_2] 25 (0, 0)) (by (with_reducible repeat (first | refine blk_drewN ?_ _ | refine blk_drew ?_ | refine blk_alloc ?_ _)); exact BK264.out) hb); have n4_ := Aside0.mk (blk_below (g := gb278) (o := .cells #[.string t272, .int .i64 t273, .slice Ao28 t274.length co28] 25 (0, 0)) (by (with_reducible repeat (first | refine blk_drewN ?_ _ | refine blk_drew ?_ | refine blk_alloc ?_ _)); exact BK278.out) hb); have n5_ := Aside0.mk (below_step (by repeat (first | (with_reducible first | exact HB.out | apply below_alloc | apply pw_below_drewN | apply below_drew1 | refine below_set ?_ GE264.out | refine below_set ?_ GE278.out) | exact HB.out)) hb); clear HO270; clear HO276; clear HO281; clear BK264; clear BK278; clear HB; have HO270 := n0_; have HO276 := n1_; have HO281 := n2_; have BK264 := n3_; have BK278 := n4_; have HB := n5_; clear n0_ n1_ n2_ n3_ n4_ n5_; (try clear hb); (try clear hb2); (try clear hk); (try clear hi); have hnb49 := NB278_264.out; have hnc49 := NB264_278.out; have hcz50_0 : w48.cell? ⟨gb278, 0, none⟩ = some (.string t272) := (blk_cell BK278.out 0).trans rfl; have hcz50_1 : w48.cell? ⟨gb278, 1, none⟩ = some (.int .i64 t273) := (blk_cell BK278.out 1).trans rfl; have hcz50_2 : w48.cell? ⟨gb278, 2, none⟩ = some (.slice Ao28 t274.length co28) := (blk_cell BK278.out 2).trans rfl; have hfz50_0 := blk_frozen BK278.out 0; have hfz50_1 := blk_frozen BK278.out 1; have hfz50_2 := blk_frozen BK278.out 2; have hcz51_0 : w48.cell? ⟨gb264, 0, none⟩ = some (.string a1_0) := (blk_cell BK264.out 0).trans rfl; have hcz51_1 : w48.cell? ⟨gb264, 1, none⟩ = some (.int .i64 a1_1) := (blk_cell BK264.out 1).trans rfl; have hcz51_2 : w48.cell? ⟨gb264, 2, none⟩ = some (.slice A1_2 l1_2.length c1_2) := (blk_cell BK264.out 2).trans rfl; have hfz51_0 := blk_frozen BK264.out 0; have hfz51_1 := blk_frozen BK264.out 1; have hfz51_2 := blk_frozen BK264.out 2) | (go_at_call 27; (with_reducible refine (schema_Same.calls kj5 t272 t273 _ _ t274 a1_0 a1_1 _ _ l1_2 true _ ?side1 ?side2 ?side3 ?side4 A34.out).mono ?_); (case side1 => repeat (first | exact (Kd.R_reads' HO276.out).2.2 | (with_reducible refine Kd.C_alloc ?_ _) | (with_reducible refine Kd.C_drewN ?_ _) | (with_reducible refine Kd.C_drew ?_))); (case side2 => exact (Kd.R_reads' HO276.out).2.1); (case side3 => repeat (first | exact (Kd.C_below HR1_2.out HB.out) | (with_reducible refine Kd.C_alloc ?_ _) | (with_reducible refine Kd.C_drewN ?_ _) | (with_reducible refine Kd.C_drew ?_))); (case side4 => exact HC1_2.out); rintro e w52 ⟨rfl, hb⟩; have n0_ := Aside0.mk (Kd.S_below (by (with_reducible repeat (first | apply Kd.S_alloc | apply Kd.S_drewN | apply Kd.S_drew)); exact HO270.out) hb); have n1_ := Aside0.mk (Kd.R_below (by (with_reducible repeat (first | apply Kd.R_alloc | apply Kd.R_drewN | apply Kd.R_drew)); exact HO276.out) hb); have n2_ := Aside0.mk (Kd.S_below (by (with_reducible repeat (first | apply Kd.S_alloc | apply Kd.S_drewN | apply Kd.S_drew)); exact HO281.out) hb); have n3_ := Aside0.mk (blk_below (g := gb264) (o := .cells #[.string a1_0, .int .i64 a1_1, .slice A1_2 l1_2.length c1_2] 25 (0, 0)) (by (with_reducible repeat (first | refine blk_drewN ?_ _ | refine blk_drew ?_ | refine blk_alloc ?_ _)); exact BK264.out) hb); have n4_ := Aside0.mk (blk_below (g := gb278) (o := .cells #[.string t272, .int .i64 t273, .slice Ao28 t274.length co28] 25 (0, 0)) (by (with_reducible repeat (first | refine blk_drewN ?_ _ | refine blk_drew ?_ | refine blk_alloc ?_ _)); exact BK278.out) hb); have n5_ := Aside0.mk (below_step (by repeat (first | (with_reducible first | exact HB.out | apply below_alloc | apply pw_below_drewN | apply below_drew1 | refine below_set ?_ GE264.out | refine below_set ?_ GE278.out) | exact HB.out)) hb); clear HO270; clear HO276; clear HO281; clear BK264; clear BK278; clear HB; have HO270 := n0_; have HO276 := n1_; have HO281 := n2_; have BK264 := n3_; have BK278 := n4_; have HB := n5_; clear n0_ n1_ n2_ n3_ n4_ n5_; (try clear hb); (try clear hb2); (try clear hk); (try clear hi)))
                    go_meet
                    case rel => exact ⟨_, (true), (by first | rfl | (simp; done) | (simp [*]; done)), H', ⟨by have := HJ5.out; first | omega | exact Nat.le_refl _⟩, ⟨by (with_reducible repeat (first | apply Kd.S_alloc | apply Kd.S_drewN | apply Kd.S_drew)); exact Kd.S_mono HO270.out (fun _ hk => ⟨hk.1.1.2, ⟨hk.1.1.1.2, hk.1.2⟩⟩)⟩, ⟨by (with_reducible repeat (first | apply Kd.R_alloc | apply Kd.R_drewN | apply Kd.R_drew)); exact HO276.out⟩, ⟨by (with_reducible repeat (first | refine blk_drewN ?_ _ | refine blk_drew ?_ | refine blk_alloc ?_ _)); exact BK264.out⟩, ⟨by (with_reducible repeat (first | refine blk_drewN ?_ _ | refine blk_drew ?_ | refine blk_alloc ?_ _)); exact BK278.out⟩, ⟨by repeat (first | (with_reducible first | exact HB.out | apply below_alloc | apply pw_below_drewN | apply below_drew1 | refine below_set ?_ GE264.out | refine below_set ?_ GE278.out) | exact HB.out)⟩⟩
                · replace c35 := Bool.eq_false_iff.mpr c35
                  subst c35
                  have H1 : (towncrierlaw07_RegistryAdds.j1 kj5 l0 t268 true a1_0 a1_1 l1_2) = some r := by rw [if_neg (show ¬ (false = true) by decide)] at H; exact H
                  clear H
                  have H := H1
                  clear H1
                  have H' := Aside0.mk H
                  clear H
                  go_wp2_with (first | ((with_reducible refine gate_callee (f := 25) rfl ?_); refine goesL_ (some 56) rfl rfl Try.func25 (by kernel_rfl) rfl #[.slice Ao23 t268.length co23] rfl (by (try simp only [List.map_toArray, List.map_cons, List.map_nil]); first | done | rfl | (simp only [List.length_drop, List.length_take]; rfl)) ?_; (with_reducible refine (registry_May.calls kj5 _ _ t268 true _ ?side1 ?side2 A31.out).mono ?_); (case side1 => repeat (first | exact (Kd.S_reads' HO270.out).2.2 | (with_reducible refine Kd.C_alloc ?_ _) | (with_reducible refine Kd.C_drewN ?_ _) | (with_reducible refine Kd.C_drew ?_))); (case side2 => exact (Kd.S_reads' HO270.out).2.1); rintro e w53 ⟨rfl, hb⟩; refine ⟨_, rfl, ?_⟩; have n0_ := Aside0.mk (Kd.S_below (by (with_reducible repeat (first | apply Kd.S_alloc | apply Kd.S_drewN | apply Kd.S_drew)); exact HO270.out) hb); have n1_ := Aside0.mk (Kd.R_below (by (with_reducible repeat (first | apply Kd.R_alloc | apply Kd.R_drewN | apply Kd.R_drew)); exact HO276.out) hb); have n2_ := Aside0.mk (Kd.S_below (by (with_reducible repeat (first | apply Kd.S_alloc | apply Kd.S_drewN | apply Kd.S_drew)); exact HO281.out) hb); have n3_ := Aside0.mk (blk_below (g := gb264) (o := .cells #[.string a1_0, .int .i64 a1_1, .slice A1_2 l1_2.length c1_2] 25 (0, 0)) (by (with_reducible repeat (first | refine blk_drewN ?_ _ | refine blk_drew ?_ | refine blk_alloc ?_ _)); exact BK264.out) hb); have n4_ := Aside0.mk (blk_below (g := gb278) (o := .cells #[.string t272, .int .i64 t273, .slice Ao28 t274.length co28] 25 (0, 0)) (by (with_reducible repeat (first | refine blk_drewN ?_ _ | refine blk_drew ?_ | refine blk_alloc ?_ _)); exact BK278.out) hb); have n5_ := Aside0.mk (below_step (by repeat (first | (with_reducible first | exact HB.out | apply below_alloc | apply pw_below_drewN | apply below_drew1 | refine below_set ?_ GE264.out | refine below_set ?_ GE278.out) | exact HB.out)) hb); clear HO270; clear HO276; clear HO281; clear BK264; clear BK278; clear HB; have HO270 := n0_; have HO276 := n1_; have HO281 := n2_; have BK264 := n3_; have BK278 := n4_; have HB := n5_; clear n0_ n1_ n2_ n3_ n4_ n5_; (try clear hb); (try clear hb2); (try clear hk); (try clear hi); have hnb54 := NB278_264.out; have hnc54 := NB264_278.out; have hcz55_0 : w53.cell? ⟨gb278, 0, none⟩ = some (.string t272) := (blk_cell BK278.out 0).trans rfl; have hcz55_1 : w53.cell? ⟨gb278, 1, none⟩ = some (.int .i64 t273) := (blk_cell BK278.out 1).trans rfl; have hcz55_2 : w53.cell? ⟨gb278, 2, none⟩ = some (.slice Ao28 t274.length co28) := (blk_cell BK278.out 2).trans rfl; have hfz55_0 := blk_frozen BK278.out 0; have hfz55_1 := blk_frozen BK278.out 1; have hfz55_2 := blk_frozen BK278.out 2; have hcz56_0 : w53.cell? ⟨gb264, 0, none⟩ = some (.string a1_0) := (blk_cell BK264.out 0).trans rfl; have hcz56_1 : w53.cell? ⟨gb264, 1, none⟩ = some (.int .i64 a1_1) := (blk_cell BK264.out 1).trans rfl; have hcz56_2 : w53.cell? ⟨gb264, 2, none⟩ = some (.slice A1_2 l1_2.length c1_2) := (blk_cell BK264.out 2).trans rfl; have hfz56_0 := blk_frozen BK264.out 0; have hfz56_1 := blk_frozen BK264.out 1; have hfz56_2 := blk_frozen BK264.out 2) | (go_at_call 27; (with_reducible refine (schema_Same.calls kj5 t272 t273 _ _ t274 a1_0 a1_1 _ _ l1_2 false _ ?side1 ?side2 ?side3 ?side4 A34.out).mono ?_); (case side1 => repeat (first | exact (Kd.R_reads' HO276.out).2.2 | (with_reducible refine Kd.C_alloc ?_ _) | (with_reducible refine Kd.C_drewN ?_ _) | (with_reducible refine Kd.C_drew ?_))); (case side2 => exact (Kd.R_reads' HO276.out).2.1); (case side3 => repeat (first | exact (Kd.C_below HR1_2.out HB.out) | (with_reducible refine Kd.C_alloc ?_ _) | (with_reducible refine Kd.C_drewN ?_ _) | (with_reducible refine Kd.C_drew ?_))); (case side4 => exact HC1_2.out); rintro e w57 ⟨rfl, hb⟩; have n0_ := Aside0.mk (Kd.S_below (by (with_reducible repeat (first | apply Kd.S_alloc | apply Kd.S_drewN | apply Kd.S_drew)); exact HO270.out) hb); have n1_ := Aside0.mk (Kd.R_below (by (with_reducible repeat (first | apply Kd.R_alloc | apply Kd.R_drewN | apply Kd.R_drew)); exact HO276.out) hb); have n2_ := Aside0.mk (Kd.S_below (by (with_reducible repeat (first | apply Kd.S_alloc | apply Kd.S_drewN | apply Kd.S_drew)); exact HO281.out) hb); have n3_ := Aside0.mk (blk_below (g := gb264) (o := .cells #[.string a1_0, .int .i64 a1_1, .slice A1_2 l1_2.length c1_2] 25 (0, 0)) (by (with_reducible repeat (first | refine blk_drewN ?_ _ | refine blk_drew ?_ | refine blk_alloc ?_ _)); exact BK264.out) hb); have n4_ := Aside0.mk (blk_below (g := gb278) (o := .cells #[.string t272, .int .i64 t273, .slice Ao28 t274.length co28] 25 (0, 0)) (by (with_reducible repeat (first | refine blk_drewN ?_ _ | refine blk_drew ?_ | refine blk_alloc ?_ _)); exact BK278.out) hb); have n5_ := Aside0.mk (below_step (by repeat (first | (with_reducible first | exact HB.out | apply below_alloc | apply pw_below_drewN | apply below_drew1 | refine below_set ?_ GE264.out | refine below_set ?_ GE278.out) | exact HB.out)) hb); clear HO270; clear HO276; clear HO281; clear BK264; clear BK278; clear HB; have HO270 := n0_; have HO276 := n1_; have HO281 := n2_; have BK264 := n3_; have BK278 := n4_; have HB := n5_; clear n0_ n1_ n2_ n3_ n4_ n5_; (try clear hb); (try clear hb2); (try clear hk); (try clear hi)))
                  go_meet
                  case rel => exact ⟨_, (true), (by first | rfl | (simp; done) | (simp [*]; done)), H', ⟨by have := HJ5.out; first | omega | exact Nat.le_refl _⟩, ⟨by (with_reducible repeat (first | apply Kd.S_alloc | apply Kd.S_drewN | apply Kd.S_drew)); exact Kd.S_mono HO270.out (fun _ hk => ⟨hk.1.1.2, ⟨hk.1.1.1.2, hk.1.2⟩⟩)⟩, ⟨by (with_reducible repeat (first | apply Kd.R_alloc | apply Kd.R_drewN | apply Kd.R_drew)); exact HO276.out⟩, ⟨by (with_reducible repeat (first | refine blk_drewN ?_ _ | refine blk_drew ?_ | refine blk_alloc ?_ _)); exact BK264.out⟩, ⟨by (with_reducible repeat (first | refine blk_drewN ?_ _ | refine blk_drew ?_ | refine blk_alloc ?_ _)); exact BK278.out⟩, ⟨by repeat (first | (with_reducible first | exact HB.out | apply below_alloc | apply pw_below_drewN | apply below_drew1 | refine below_set ?_ GE264.out | refine below_set ?_ GE278.out) | exact HB.out)⟩⟩
              · replace c33 := Bool.eq_false_iff.mpr c33
                subst c33
                have H1 : (towncrierlaw07_RegistryAdds.j1 kj5 l0 t268 true a1_0 a1_1 l1_2) = some r := by rw [if_neg (show ¬ (false = true) by decide)] at H; exact H
                clear H
                have H := H1
                clear H1
                have H' := Aside0.mk H
                clear H
                go_wp2_with (first | ((with_reducible refine gate_callee (f := 25) rfl ?_); refine goesL_ (some 56) rfl rfl Try.func25 (by kernel_rfl) rfl #[.slice Ao23 t268.length co23] rfl (by (try simp only [List.map_toArray, List.map_cons, List.map_nil]); first | done | rfl | (simp only [List.length_drop, List.length_take]; rfl)) ?_; (with_reducible refine (registry_May.calls kj5 _ _ t268 true _ ?side1 ?side2 A31.out).mono ?_); (case side1 => repeat (first | exact (Kd.S_reads' HO270.out).2.2 | (with_reducible refine Kd.C_alloc ?_ _) | (with_reducible refine Kd.C_drewN ?_ _) | (with_reducible refine Kd.C_drew ?_))); (case side2 => exact (Kd.S_reads' HO270.out).2.1); rintro e w58 ⟨rfl, hb⟩; refine ⟨_, rfl, ?_⟩; have n0_ := Aside0.mk (Kd.S_below (by (with_reducible repeat (first | apply Kd.S_alloc | apply Kd.S_drewN | apply Kd.S_drew)); exact HO270.out) hb); have n1_ := Aside0.mk (Kd.R_below (by (with_reducible repeat (first | apply Kd.R_alloc | apply Kd.R_drewN | apply Kd.R_drew)); exact HO276.out) hb); have n2_ := Aside0.mk (Kd.S_below (by (with_reducible repeat (first | apply Kd.S_alloc | apply Kd.S_drewN | apply Kd.S_drew)); exact HO281.out) hb); have n3_ := Aside0.mk (blk_below (g := gb264) (o := .cells #[.string a1_0, .int .i64 a1_1, .slice A1_2 l1_2.length c1_2] 25 (0, 0)) (by (with_reducible repeat (first | refine blk_drewN ?_ _ | refine blk_drew ?_ | refine blk_alloc ?_ _)); exact BK264.out) hb); have n4_ := Aside0.mk (blk_below (g := gb278) (o := .cells #[.string t272, .int .i64 t273, .slice Ao28 t274.length co28] 25 (0, 0)) (by (with_reducible repeat (first | refine blk_drewN ?_ _ | refine blk_drew ?_ | refine blk_alloc ?_ _)); exact BK278.out) hb); have n5_ := Aside0.mk (below_step (by repeat (first | (with_reducible first | exact HB.out | apply below_alloc | apply pw_below_drewN | apply below_drew1 | refine below_set ?_ GE264.out | refine below_set ?_ GE278.out) | exact HB.out)) hb); clear HO270; clear HO276; clear HO281; clear BK264; clear BK278; clear HB; have HO270 := n0_; have HO276 := n1_; have HO281 := n2_; have BK264 := n3_; have BK278 := n4_; have HB := n5_; clear n0_ n1_ n2_ n3_ n4_ n5_; (try clear hb); (try clear hb2); (try clear hk); (try clear hi)))
                go_meet
                case rel => exact ⟨_, (true), (by first | rfl | (simp; done) | (simp [*]; done)), H', ⟨by have := HJ5.out; first | omega | exact Nat.le_refl _⟩, ⟨by (with_reducible repeat (first | apply Kd.S_alloc | apply Kd.S_drewN | apply Kd.S_drew)); exact Kd.S_mono HO270.out (fun _ hk => ⟨hk.1.1.2, ⟨hk.1.1.1.2, hk.1.2⟩⟩)⟩, ⟨by (with_reducible repeat (first | apply Kd.R_alloc | apply Kd.R_drewN | apply Kd.R_drew)); exact HO276.out⟩, ⟨by (with_reducible repeat (first | refine blk_drewN ?_ _ | refine blk_drew ?_ | refine blk_alloc ?_ _)); exact BK264.out⟩, ⟨by (with_reducible repeat (first | refine blk_drewN ?_ _ | refine blk_drew ?_ | refine blk_alloc ?_ _)); exact BK278.out⟩, ⟨by repeat (first | (with_reducible first | exact HB.out | apply below_alloc | apply pw_below_drewN | apply below_drew1 | refine below_set ?_ GE264.out | refine below_set ?_ GE278.out) | exact HB.out)⟩⟩
            · replace c32 := Bool.eq_false_iff.mpr c32
              subst c32
              have H1 : (towncrierlaw07_RegistryAdds.j1 kj5 l0 t268 true a1_0 a1_1 l1_2) = some r := by rw [if_neg (show ¬ (false = true) by decide)] at H; exact H
              clear H
              have H := H1
              clear H1
              have H' := Aside0.mk H
              clear H
              go_wp2_with (first | ((with_reducible refine gate_callee (f := 25) rfl ?_); refine goesL_ (some 56) rfl rfl Try.func25 (by kernel_rfl) rfl #[.slice Ao23 t268.length co23] rfl (by (try simp only [List.map_toArray, List.map_cons, List.map_nil]); first | done | rfl | (simp only [List.length_drop, List.length_take]; rfl)) ?_; (with_reducible refine (registry_May.calls kj5 _ _ t268 false _ ?side1 ?side2 A31.out).mono ?_); (case side1 => repeat (first | exact (Kd.S_reads' HO270.out).2.2 | (with_reducible refine Kd.C_alloc ?_ _) | (with_reducible refine Kd.C_drewN ?_ _) | (with_reducible refine Kd.C_drew ?_))); (case side2 => exact (Kd.S_reads' HO270.out).2.1); rintro e w59 ⟨rfl, hb⟩; refine ⟨_, rfl, ?_⟩; have n0_ := Aside0.mk (Kd.S_below (by (with_reducible repeat (first | apply Kd.S_alloc | apply Kd.S_drewN | apply Kd.S_drew)); exact HO270.out) hb); have n1_ := Aside0.mk (Kd.R_below (by (with_reducible repeat (first | apply Kd.R_alloc | apply Kd.R_drewN | apply Kd.R_drew)); exact HO276.out) hb); have n2_ := Aside0.mk (Kd.S_below (by (with_reducible repeat (first | apply Kd.S_alloc | apply Kd.S_drewN | apply Kd.S_drew)); exact HO281.out) hb); have n3_ := Aside0.mk (blk_below (g := gb264) (o := .cells #[.string a1_0, .int .i64 a1_1, .slice A1_2 l1_2.length c1_2] 25 (0, 0)) (by (with_reducible repeat (first | refine blk_drewN ?_ _ | refine blk_drew ?_ | refine blk_alloc ?_ _)); exact BK264.out) hb); have n4_ := Aside0.mk (blk_below (g := gb278) (o := .cells #[.string t272, .int .i64 t273, .slice Ao28 t274.length co28] 25 (0, 0)) (by (with_reducible repeat (first | refine blk_drewN ?_ _ | refine blk_drew ?_ | refine blk_alloc ?_ _)); exact BK278.out) hb); have n5_ := Aside0.mk (below_step (by repeat (first | (with_reducible first | exact HB.out | apply below_alloc | apply pw_below_drewN | apply below_drew1 | refine below_set ?_ GE264.out | refine below_set ?_ GE278.out) | exact HB.out)) hb); clear HO270; clear HO276; clear HO281; clear BK264; clear BK278; clear HB; have HO270 := n0_; have HO276 := n1_; have HO281 := n2_; have BK264 := n3_; have BK278 := n4_; have HB := n5_; clear n0_ n1_ n2_ n3_ n4_ n5_; (try clear hb); (try clear hb2); (try clear hk); (try clear hi)))
              go_meet
              case rel => exact ⟨_, (true), (by first | rfl | (simp; done) | (simp [*]; done)), H', ⟨by have := HJ5.out; first | omega | exact Nat.le_refl _⟩, ⟨by (with_reducible repeat (first | apply Kd.S_alloc | apply Kd.S_drewN | apply Kd.S_drew)); exact Kd.S_mono HO270.out (fun _ hk => ⟨hk.1.1.2, ⟨hk.1.1.1.2, hk.1.2⟩⟩)⟩, ⟨by (with_reducible repeat (first | apply Kd.R_alloc | apply Kd.R_drewN | apply Kd.R_drew)); exact HO276.out⟩, ⟨by (with_reducible repeat (first | refine blk_drewN ?_ _ | refine blk_drew ?_ | refine blk_alloc ?_ _)); exact BK264.out⟩, ⟨by (with_reducible repeat (first | refine blk_drewN ?_ _ | refine blk_drew ?_ | refine blk_alloc ?_ _)); exact BK278.out⟩, ⟨by repeat (first | (with_reducible first | exact HB.out | apply below_alloc | apply pw_below_drewN | apply below_drew1 | refine below_set ?_ GE264.out | refine below_set ?_ GE278.out) | exact HB.out)⟩⟩
          case rest =>
            clear HC19
            try clear c1
            try clear c2
            try clear p2
            try clear c3
            try clear c4
            try clear c5
            try clear p6
            try clear c12
            try clear c13
            try clear c14
            try clear c15
            try clear c16
            try clear c16b0
            try clear c16b1
            try clear c17
            try clear c18
            try clear c20
            try clear c25
            try clear c26
            try clear c32
            try clear c33
            try clear c35
            try clear c36
            try clear c36b0
            try clear c36b1
            try clear c37
            try clear c37b0
            try clear c39
            try clear c44
            try clear c49
            try clear c54
            try clear hcz10_0
            try clear hcz10_1
            try clear hcz10_2
            try clear hcz20_0
            try clear hcz20_1
            try clear hcz20_2
            try clear hcz22_0
            try clear hcz22_1
            try clear hcz22_2
            try clear hcz27_0
            try clear hcz27_1
            try clear hcz27_2
            try clear hcz29_0
            try clear hcz29_1
            try clear hcz29_2
            try clear hcz40_0
            try clear hcz40_1
            try clear hcz40_2
            try clear hcz41_0
            try clear hcz41_1
            try clear hcz41_2
            try clear hcz45_0
            try clear hcz45_1
            try clear hcz45_2
            try clear hcz46_0
            try clear hcz46_1
            try clear hcz46_2
            try clear hcz50_0
            try clear hcz50_1
            try clear hcz50_2
            try clear hcz51_0
            try clear hcz51_1
            try clear hcz51_2
            try clear hcz55_0
            try clear hcz55_1
            try clear hcz55_2
            try clear hcz56_0
            try clear hcz56_1
            try clear hcz56_2
            try clear hfz10_0
            try clear hfz10_1
            try clear hfz10_2
            try clear hfz20_0
            try clear hfz20_1
            try clear hfz20_2
            try clear hfz22_0
            try clear hfz22_1
            try clear hfz22_2
            try clear hfz27_0
            try clear hfz27_1
            try clear hfz27_2
            try clear hfz29_0
            try clear hfz29_1
            try clear hfz29_2
            try clear hfz40_0
            try clear hfz40_1
            try clear hfz40_2
            try clear hfz41_0
            try clear hfz41_1
            try clear hfz41_2
            try clear hfz45_0
            try clear hfz45_1
            try clear hfz45_2
            try clear hfz46_0
            try clear hfz46_1
            try clear hfz46_2
            try clear hfz50_0
            try clear hfz50_1
            try clear hfz50_2
            try clear hfz51_0
            try clear hfz51_1
            try clear hfz51_2
            try clear hfz55_0
            try clear hfz55_1
            try clear hfz55_2
            try clear hfz56_0
            try clear hfz56_1
            try clear hfz56_2
            try clear p2
            obtain ⟨kq, x86_18, rfl, HA, HJ18, HO_8, HO_279002, BK264, BK278, HB⟩ := hcut
            cases kq with
            | zero => exact absurd HA.out (by simp [towncrierlaw07_RegistryAdds.j1])
            | succ kj18 =>
              have H := HA.out
              clear HA
              simp only [towncrierlaw07_RegistryAdds.j1] at H
              by_cases c60 : x86_18 = true
              · subst c60
                have H1 : (some false) = some r := by rw [if_pos rfl] at H; exact H
                clear H
                have H := H1
                clear H1
                obtain rfl := Option.some.inj H
                go_wp2
                go_ret
                exact ⟨by first | rfl | (simp [errW_none, errW_some] <;> rfl) | (simp [*, errW_none, errW_some] <;> rfl), by repeat (first | (with_reducible first | exact HB.out | apply below_alloc | apply pw_below_drewN | apply below_drew1 | refine below_set ?_ GE264.out | refine below_set ?_ GE278.out) | exact HB.out)⟩
              · replace c60 := Bool.eq_false_iff.mpr c60
                subst c60
                have H1 : (towncrierlaw07_RegistryAdds.l0 kj18 l0 t268 0 a1_0 a1_1 l1_2) = some r := by rw [if_neg (show ¬ (false = true) by decide)] at H; exact H
                clear H
                have H := H1
                clear H1
                have H' := Aside0.mk H
                clear H
                go_wp2
                go_loopg [14] kj18 (fun kq v14 w' => ∃ (x14_3 : Int), v14 = .int .i64 x14_3 ∧ Aside0 (towncrierlaw07_RegistryAdds.l0 kq l0 t268 x14_3 a1_0 a1_1 l1_2 = some r) ∧ Aside0 (kq ≤ kj18) ∧ Aside0 (Kd.S kSchema 25 w' w.heap.size (fun k_ => some k_ ≠ ((.slice Ao28 t274.length co28) : Value).ownBlock ∧ k_ ≠ gb264 ∧ k_ ≠ gb278) (.slice Ao23 t268.length co23) t268) ∧ Aside0 (Kd.R kField 39 w' w.heap.size (fun _ => True) (.slice Ao28 t274.length co28) t274) ∧ Aside0 (w'.heap[gb264]? = some (.cells #[.string a1_0, .int .i64 a1_1, (.slice A1_2 l1_2.length c1_2)] 25 (0, 0))) ∧ Aside0 (w'.heap[gb278]? = some (.cells #[.string t272, .int .i64 t273, (.slice Ao28 t274.length co28)] 25 (0, 0))) ∧ Aside0 (Below w.heap.size w w'))
                case atStart => exact ⟨(0), (by first | rfl | (simp; done) | (simp [*]; done)), H', ⟨Nat.le_refl _⟩, ⟨by (with_reducible repeat (first | apply Kd.S_alloc | apply Kd.S_drewN | apply Kd.S_drew)); exact HO_8.out⟩, ⟨by (with_reducible repeat (first | apply Kd.R_alloc | apply Kd.R_drewN | apply Kd.R_drew)); exact HO_279002.out⟩, ⟨by (with_reducible repeat (first | refine blk_drewN ?_ _ | refine blk_drew ?_ | refine blk_alloc ?_ _)); exact BK264.out⟩, ⟨by (with_reducible repeat (first | refine blk_drewN ?_ _ | refine blk_drew ?_ | refine blk_alloc ?_ _)); exact BK278.out⟩, ⟨by repeat (first | (with_reducible first | exact HB.out | apply below_alloc | apply pw_below_drewN | apply below_drew1 | refine below_set ?_ GE264.out | refine below_set ?_ GE278.out) | exact HB.out)⟩⟩
                case round =>
                  clear H'
                  try clear c1
                  try clear c2
                  try clear p2
                  try clear c3
                  try clear c4
                  try clear c5
                  try clear c6
                  try clear p6
                  try clear c12
                  try clear c13
                  try clear c14
                  try clear c15
                  try clear c16
                  try clear c16b0
                  try clear c16b1
                  try clear c17
                  try clear c18
                  try clear c20
                  try clear c25
                  try clear c26
                  try clear c32
                  try clear c33
                  try clear c35
                  try clear c36
                  try clear c36b0
                  try clear c36b1
                  try clear c37
                  try clear c37b0
                  try clear c39
                  try clear c44
                  try clear c49
                  try clear c54
                  try clear c60
                  try clear hcz10_0
                  try clear hcz10_1
                  try clear hcz10_2
                  try clear hcz20_0
                  try clear hcz20_1
                  try clear hcz20_2
                  try clear hcz22_0
                  try clear hcz22_1
                  try clear hcz22_2
                  try clear hcz27_0
                  try clear hcz27_1
                  try clear hcz27_2
                  try clear hcz29_0
                  try clear hcz29_1
                  try clear hcz29_2
                  try clear hcz40_0
                  try clear hcz40_1
                  try clear hcz40_2
                  try clear hcz41_0
                  try clear hcz41_1
                  try clear hcz41_2
                  try clear hcz45_0
                  try clear hcz45_1
                  try clear hcz45_2
                  try clear hcz46_0
                  try clear hcz46_1
                  try clear hcz46_2
                  try clear hcz50_0
                  try clear hcz50_1
                  try clear hcz50_2
                  try clear hcz51_0
                  try clear hcz51_1
                  try clear hcz51_2
                  try clear hcz55_0
                  try clear hcz55_1
                  try clear hcz55_2
                  try clear hcz56_0
                  try clear hcz56_1
                  try clear hcz56_2
                  try clear hfz10_0
                  try clear hfz10_1
                  try clear hfz10_2
                  try clear hfz20_0
                  try clear hfz20_1
                  try clear hfz20_2
                  try clear hfz22_0
                  try clear hfz22_1
                  try clear hfz22_2
                  try clear hfz27_0
                  try clear hfz27_1
                  try clear hfz27_2
                  try clear hfz29_0
                  try clear hfz29_1
                  try clear hfz29_2
                  try clear hfz40_0
                  try clear hfz40_1
                  try clear hfz40_2
                  try clear hfz41_0
                  try clear hfz41_1
                  try clear hfz41_2
                  try clear hfz45_0
                  try clear hfz45_1
                  try clear hfz45_2
                  try clear hfz46_0
                  try clear hfz46_1
                  try clear hfz46_2
                  try clear hfz50_0
                  try clear hfz50_1
                  try clear hfz50_2
                  try clear hfz51_0
                  try clear hfz51_1
                  try clear hfz51_2
                  try clear hfz55_0
                  try clear hfz55_1
                  try clear hfz55_2
                  try clear hfz56_0
                  try clear hfz56_1
                  try clear hfz56_2
                  try clear p2
                  try clear p6
                  obtain ⟨x14_3, rfl, HA, HK3, HO_8, HO_279002, BK264, BK278, HB⟩ := hrel
                  cases gk with
                  | zero => exact absurd HA.out (by simp [towncrierlaw07_RegistryAdds.l0])
                  | succ k3 =>
                    have H := HA.out
                    clear HA
                    simp only [towncrierlaw07_RegistryAdds.l0] at H
                    by_cases c61 : x14_3 < (l0.length : Int)
                    · rw [if_pos c61] at H
                      have c61b0 : decide (x14_3 < (l0.length : Int)) = true := decide_eq_true c61
                      clear c61
                      by_cases c62 : 0 ≤ x14_3
                      · rw [if_pos c62] at H
                        have c62b0 : decide (0 ≤ x14_3) = true := decide_eq_true c62
                        clear c62
                        by_cases c63 : ((rd_TSchema l0 x14_3).f0).toList = a1_0.toList
                        · rw [if_pos c63] at H
                          have c63b0 : (((rd_TSchema l0 x14_3).f0).toList == a1_0.toList) = true := beq_iff_eq.mpr c63
                          have c63b1 : (((rd_TSchema l0 x14_3).f0).toList != a1_0.toList) = false := bne_eq_false_iff_eq.mpr c63
                          clear c63
                          by_cases c64 : x14_3 < (t268.length : Int)
                          · rw [if_pos c64] at H
                            have c64b0 : decide (x14_3 < (t268.length : Int)) = true := decide_eq_true c64
                            clear c64
                            by_cases c65 : ((rd_TSchema t268 x14_3).f0).toList = ((rd_TSchema l0 x14_3).f0).toList
                            · rw [if_pos c65] at H
                              have c65b0 : (((rd_TSchema t268 x14_3).f0).toList == ((rd_TSchema l0 x14_3).f0).toList) = true := beq_iff_eq.mpr c65
                              have c65b1 : (((rd_TSchema t268 x14_3).f0).toList != ((rd_TSchema l0 x14_3).f0).toList) = false := bne_eq_false_iff_eq.mpr c65
                              clear c65
                              have H' := Aside0.mk H
                              clear H
                              try go_wp2
                              have n0_ := Aside0.mk (Kd.S_drew HO_8.out)
                              have n1_ := Aside0.mk (Kd.R_drew HO_279002.out)
                              have n2_ := Aside0.mk (blk_drew BK264.out)
                              have n3_ := Aside0.mk (blk_drew BK278.out)
                              have n4_ := Aside0.mk (below_drew1 HB.out)
                              clear HO_8
                              clear HO_279002
                              clear BK264
                              clear BK278
                              clear HB
                              have HO_8 := n0_
                              have HO_279002 := n1_
                              have BK264 := n2_
                              have BK278 := n3_
                              have HB := n4_
                              clear n0_ n1_ n2_ n3_ n4_
                              have p285 : 0 ≤ (x14_3 : Int) := of_decide_eq_true (by first | (with_reducible assumption) | assumption)
                              have q285 : x14_3 < (l0.length : Int) := of_decide_eq_true (by first | (with_reducible assumption) | assumption)
                              obtain ⟨ad285, A285_2, c285_2, e285, hx285_0, hx285_1, hx285_2, hl285_2, hi285_2⟩ := at_TSchema HR0.out x14_3 p285 q285
                              have hw285_2 := hx285_2
                              have hw285_1 := hx285_1
                              have hw285_0 := hx285_0
                              cases e285
                              replace hx285_0 := (HB.out.cell (World.block_lt_of_cell? w _ hx285_0)).trans hx285_0
                              replace hx285_1 := (HB.out.cell (World.block_lt_of_cell? w _ hx285_1)).trans hx285_1
                              replace hx285_2 := (HB.out.cell (World.block_lt_of_cell? w _ hx285_2)).trans hx285_2
                              have HR285_2 := Aside0.mk hi285_2
                              have HC285_2 := Aside0.mk hl285_2
                              clear hi285_2 hl285_2
                              replace p285 := eq_true p285
                              replace q285 := eq_true q285
                              have p286 : 0 ≤ (x14_3 : Int) := of_decide_eq_true (by first | (with_reducible assumption) | assumption)
                              have q286 : x14_3 < (t268.length : Int) := of_decide_eq_true (by first | (with_reducible assumption) | assumption)
                              obtain ⟨ad286, A286_2, c286_2, e286, hx286_0, hx286_1, hx286_2, hl286_2, hi286_2⟩ := at_TSchema (Kd.S_reads' HO_8.out).2.2 x14_3 p286 q286
                              cases e286
                              obtain ⟨ce286, hce286, hMe286, hcc286⟩ := Kd.S_get HO_8.out zSchema x14_3 p286 (by first | exact q286 | exact of_decide_eq_true (by first | (with_reducible assumption) | assumption) | (have e_ := (Kd.S_reads' HO_8.out).1; omega))
                              obtain ⟨ve286_2, rfl, ge286_2⟩ := kSchema_openM hMe286
                              have hv286_2 := hcc286 2 _ rfl
                              rw [add_field _ _ 2 (by omega)] at hv286_2
                              replace hv286_2 := Option.some.inj (hv286_2.symm.trans hx286_2)
                              rw [hv286_2] at ge286_2
                              have HL286_2 := Aside0.mk (show Kd.R kField 39 _ _ _ _ ((rd_TSchema t268 x14_3).f2) from ge286_2)
                              clear hv286_2 ge286_2
                              clear hcc286 hce286
                              have HR286_2 := Aside0.mk hi286_2
                              have HC286_2 := Aside0.mk hl286_2
                              clear hi286_2 hl286_2
                              replace p286 := eq_true p286
                              replace q286 := eq_true q286
                              have p287 : 0 ≤ (x14_3 : Int) := of_decide_eq_true (by first | (with_reducible assumption) | assumption)
                              have q287 : x14_3 < (l0.length : Int) := of_decide_eq_true (by first | (with_reducible assumption) | assumption)
                              obtain ⟨ad287, A287_2, c287_2, e287, hx287_0, hx287_1, hx287_2, hl287_2, hi287_2⟩ := at_TSchema HR0.out x14_3 p287 q287
                              have hw287_2 := hx287_2
                              have hw287_1 := hx287_1
                              have hw287_0 := hx287_0
                              obtain rfl : ad285 = ad287 := (by injection e287)
                              replace hx287_0 := (HB.out.cell (World.block_lt_of_cell? w _ hx287_0)).trans hx287_0
                              replace hx287_1 := (HB.out.cell (World.block_lt_of_cell? w _ hx287_1)).trans hx287_1
                              replace hx287_2 := (HB.out.cell (World.block_lt_of_cell? w _ hx287_2)).trans hx287_2
                              have HR287_2 := Aside0.mk hi287_2
                              have HC287_2 := Aside0.mk hl287_2
                              clear hi287_2 hl287_2
                              replace p287 := eq_true p287
                              replace q287 := eq_true q287
                              have ea_ := Option.some.inj (hx285_2.symm.trans hx287_2)
                              injection ea_ with ea_ en_ ec_
                              subst ea_
                              subst ec_
                              clear en_
                              refine start_ (n := 33) (S := fun w' => w'.cell? ⟨gb264, 0, none⟩ = some (.string a1_0) ∧ w'.cell? ⟨gb264, 1, none⟩ = some (.int .i64 a1_1) ∧ w'.cell? ⟨gb264, 2, none⟩ = some (.slice A1_2 l1_2.length c1_2) ∧ w'.cell? (ad285.add ((x14_3).toNat * 3)) = some (.string ((rd_TSchema l0 x14_3).f0)) ∧ w'.cell? ⟨(ad285.add ((x14_3).toNat * 3)).block, (ad285.add ((x14_3).toNat * 3)).off + 1, none⟩ = some (.int .i64 ((rd_TSchema l0 x14_3).f1)) ∧ w'.cell? ⟨(ad285.add ((x14_3).toNat * 3)).block, (ad285.add ((x14_3).toNat * 3)).off + 2, none⟩ = some (.slice A285_2 ((rd_TSchema l0 x14_3).f2).length c285_2) ∧ w'.cell? (ad286.add ((x14_3).toNat * 3)) = some (.string ((rd_TSchema t268 x14_3).f0)) ∧ w'.cell? ⟨(ad286.add ((x14_3).toNat * 3)).block, (ad286.add ((x14_3).toNat * 3)).off + 1, none⟩ = some (.int .i64 ((rd_TSchema t268 x14_3).f1)) ∧ w'.cell? ⟨(ad286.add ((x14_3).toNat * 3)).block, (ad286.add ((x14_3).toNat * 3)).off + 2, none⟩ = some (.slice A286_2 ((rd_TSchema t268 x14_3).f2).length c286_2) ∧ w'.cell? (ad285.add ((x14_3).toNat * 3)) = some (.string ((rd_TSchema l0 x14_3).f0)) ∧ w'.cell? ⟨(ad285.add ((x14_3).toNat * 3)).block, (ad285.add ((x14_3).toNat * 3)).off + 1, none⟩ = some (.int .i64 ((rd_TSchema l0 x14_3).f1)) ∧ w'.cell? ⟨(ad285.add ((x14_3).toNat * 3)).block, (ad285.add ((x14_3).toNat * 3)).off + 2, none⟩ = some (.slice A285_2 ((rd_TSchema l0 x14_3).f2).length c285_2)) (ds := []) #[false, false, false, false, false, false, false, false, false, false, false, false, false, false, false, false, false, false, false, false, false, false, false, false, false, false, false, false, false, false, false, false, false] (by kernel_rfl) rfl rfl ⟨(blk_cell BK264.out 0).trans rfl, (blk_cell BK264.out 1).trans rfl, (blk_cell BK264.out 2).trans rfl, ((HB.out.cell (World.block_lt_of_cell? w _ hw285_0)).trans hw285_0), ((HB.out.cell (World.block_lt_of_cell? w _ hw285_1)).trans hw285_1), ((HB.out.cell (World.block_lt_of_cell? w _ hw285_2)).trans hw285_2), hx286_0, hx286_1, hx286_2, ((HB.out.cell (World.block_lt_of_cell? w _ hw287_0)).trans hw287_0), ((HB.out.cell (World.block_lt_of_cell? w _ hw287_1)).trans hw287_1), ((HB.out.cell (World.block_lt_of_cell? w _ hw287_2)).trans hw287_2)⟩ (fun hHeld => ?_); refine with_tabW towncrierlaw07_RegistryAdds.tab16 towncrierlaw07_RegistryAdds.bits16 (fun HT_ HW_ => ?_)
                              generalize wr.drew = w66 at HO_8 HO_279002 BK264 BK278 HB HL286_2 HR285_2 HR286_2 HR287_2 hx285_0 hx285_1 hx285_2 hx286_0 hx286_1 hx286_2 hx287_0 hx287_1 hx287_2 hHeld ⊢
                              refine pure_ (i := 0) (N := some 93) (v := ?_) (a' := ?_) #[true, false, false, false, false, false, false, false, false, false, false, false, false, false, false, false, false, false, false, false, false, false, false, false, false, false, false, false, false, false, false, false, false] rfl rfl (any_of HT_.out (by kernel_rfl)) (fun _ _ _ h => h) (Or.inl ⟨by rfl, ?_⟩) ?_ ?_
                              rotate_left
                              · intro w'
                                go_simp
                                with_reducible rfl
                              rotate_left
                              · simp only [Act.put, List.setIfInBounds_toArray, List.set_cons_zero, List.set_cons_succ, i64_w, i32_w]
                                rfl
                              refine pure_ (i := 1) (N := some 94) (v := ?_) (a' := ?_) #[true, true, false, false, false, false, false, false, false, false, false, false, false, false, false, false, false, false, false, false, false, false, false, false, false, false, false, false, false, false, false, false, false] rfl rfl (any_of HT_.out (by kernel_rfl)) (fun _ _ _ h => h) (Or.inl ⟨by rfl, ?_⟩) ?_ ?_
                              rotate_left
                              · intro w'
                                go_simp
                                with_reducible rfl
                              rotate_left
                              · simp only [Act.put, List.setIfInBounds_toArray, List.set_cons_zero, List.set_cons_succ, i64_w, i32_w]
                                rfl
                              refine pure_ (i := 2) (N := some 95) (v := ?_) (a' := ?_) #[true, true, true, false, false, false, false, false, false, false, false, false, false, false, false, false, false, false, false, false, false, false, false, false, false, false, false, false, false, false, false, false, false] rfl rfl (any_of HT_.out (by kernel_rfl)) (fun _ _ _ h => h) (Or.inl ⟨by rfl, ?_⟩) ?_ ?_
                              rotate_left
                              · intro w'
                                go_simp
                                with_reducible rfl
                              rotate_left
                              · simp only [Act.put, List.setIfInBounds_toArray, List.set_cons_zero, List.set_cons_succ, i64_w, i32_w]
                                rfl
                              refine pure_ (i := 3) (N := some 96) (v := ?_) (a' := ?_) #[true, true, true, true, false, false, false, false, false, false, false, false, false, false, false, false, false, false, false, false, false, false, false, false, false, false, false, false, false, false, false, false, false] rfl rfl (any_of HT_.out (by kernel_rfl)) (fun _ _ _ h => h) (Or.inl ⟨by rfl, ?_⟩) ?_ ?_
                              rotate_left
                              · intro w'
                                go_simp
                                with_reducible rfl
                              rotate_left
                              · simp only [Act.put, List.setIfInBounds_toArray, List.set_cons_zero, List.set_cons_succ, i64_w, i32_w]
                                rfl
                              refine pure_ (i := 5) (N := some 98) (v := ?_) (a' := ?_) #[true, true, true, true, false, true, false, false, false, false, false, false, false, false, false, false, false, false, false, false, false, false, false, false, false, false, false, false, false, false, false, false, false] rfl rfl (any_of HT_.out (by kernel_rfl)) (fun _ _ _ h => h) (Or.inl ⟨by rfl, ?_⟩) ?_ ?_
                              rotate_left
                              · intro w'
                                go_simp
                                with_reducible rfl
                              rotate_left
                              · simp only [Act.put, List.setIfInBounds_toArray, List.set_cons_zero, List.set_cons_succ, i64_w, i32_w]
                                rfl
                              refine take_ (i := 4) (N := some 97) (v := ?_) (a' := ?_) #[true, true, true, true, true, true, false, false, false, false, false, false, false, false, false, false, false, false, false, false, false, false, false, false, false, false, false, false, false, false, false, false, false] rfl rfl (take_ofW HT_.out HW_.out (by kernel_rfl)) (fun _ _ _ h => h) (Or.inl ⟨by rfl, ?_⟩) hHeld ?_ ?_
                              rotate_left
                              · rintro w' ⟨s0, s1, s2, s3, s4, s5, s6, s7, s8, s9, s10, s11⟩
                                go_simp
                                with_reducible rfl
                              rotate_left
                              · simp only [Act.put, List.setIfInBounds_toArray, List.set_cons_zero, List.set_cons_succ, i64_w, i32_w]
                                rfl
                              refine take_ (i := 6) (N := some 99) (v := ?_) (a' := ?_) #[true, true, true, true, true, true, true, false, false, false, false, false, false, false, false, false, false, false, false, false, false, false, false, false, false, false, false, false, false, false, false, false, false] rfl rfl (take_ofW HT_.out HW_.out (by kernel_rfl)) (fun _ _ _ h => h) (Or.inl ⟨by rfl, ?_⟩) hHeld ?_ ?_
                              rotate_left
                              · rintro w' ⟨s0, s1, s2, s3, s4, s5, s6, s7, s8, s9, s10, s11⟩
                                go_simp
                                with_reducible rfl
                              rotate_left
                              · simp only [Act.put, List.setIfInBounds_toArray, List.set_cons_zero, List.set_cons_succ, i64_w, i32_w]
                                rfl
                              refine pure_ (i := 7) (N := some 100) (v := ?_) (a' := ?_) #[true, true, true, true, true, true, true, true, false, false, false, false, false, false, false, false, false, false, false, false, false, false, false, false, false, false, false, false, false, false, false, false, false] rfl rfl (any_of HT_.out (by kernel_rfl)) (fun _ _ _ h => h) (Or.inl ⟨by rfl, ?_⟩) ?_ ?_
                              rotate_left
                              · intro w'
                                go_simp
                                with_reducible rfl
                              rotate_left
                              · simp only [Act.put, List.setIfInBounds_toArray, List.set_cons_zero, List.set_cons_succ, i64_w, i32_w]
                                rfl
                              refine pure_ (i := 8) (N := some 101) (v := ?_) (a' := ?_) #[true, true, true, true, true, true, true, true, true, false, false, false, false, false, false, false, false, false, false, false, false, false, false, false, false, false, false, false, false, false, false, false, false] rfl rfl (any_of HT_.out (by kernel_rfl)) (fun _ _ _ h => h) (Or.inl ⟨by rfl, ?_⟩) ?_ ?_
                              rotate_left
                              · intro w'
                                go_simp
                                with_reducible rfl
                              rotate_left
                              · simp only [Act.put, List.setIfInBounds_toArray, List.set_cons_zero, List.set_cons_succ, i64_w, i32_w]
                                rfl
                              refine pure_ (i := 9) (N := some 102) (v := undef) (a' := ?_) #[true, true, true, true, true, true, true, true, true, true, false, false, false, false, false, false, false, false, false, false, false, false, false, false, false, false, false, false, false, false, false, false, false] rfl rfl (any_of HT_.out (by kernel_rfl)) (fun _ _ _ h => h) (Or.inr ⟨by rfl, rfl⟩) ?_ ?_
                              rotate_left
                              · simp only [Act.put, List.setIfInBounds_toArray, List.set_cons_zero, List.set_cons_succ, i64_w, i32_w]
                                rfl
                              refine pure_ (i := 10) (N := some 103) (v := undef) (a' := ?_) #[true, true, true, true, true, true, true, true, true, true, true, false, false, false, false, false, false, false, false, false, false, false, false, false, false, false, false, false, false, false, false, false, false] rfl rfl (any_of HT_.out (by kernel_rfl)) (fun _ _ _ h => h) (Or.inr ⟨by rfl, rfl⟩) ?_ ?_
                              rotate_left
                              · simp only [Act.put, List.setIfInBounds_toArray, List.set_cons_zero, List.set_cons_succ, i64_w, i32_w]
                                rfl
                              refine pure_ (i := 11) (N := some 104) (v := undef) (a' := ?_) #[true, true, true, true, true, true, true, true, true, true, true, true, false, false, false, false, false, false, false, false, false, false, false, false, false, false, false, false, false, false, false, false, false] rfl rfl (any_of HT_.out (by kernel_rfl)) (fun _ _ _ h => h) (Or.inr ⟨by rfl, rfl⟩) ?_ ?_
                              rotate_left
                              · simp only [Act.put, List.setIfInBounds_toArray, List.set_cons_zero, List.set_cons_succ, i64_w, i32_w]
                                rfl
                              refine pure_ (i := 12) (N := some 105) (v := undef) (a' := ?_) #[true, true, true, true, true, true, true, true, true, true, true, true, true, false, false, false, false, false, false, false, false, false, false, false, false, false, false, false, false, false, false, false, false] rfl rfl (any_of HT_.out (by kernel_rfl)) (fun _ _ _ h => h) (Or.inr ⟨by rfl, rfl⟩) ?_ ?_
                              rotate_left
                              · simp only [Act.put, List.setIfInBounds_toArray, List.set_cons_zero, List.set_cons_succ, i64_w, i32_w]
                                rfl
                              refine pure_ (i := 13) (N := some 106) (v := undef) (a' := ?_) #[true, true, true, true, true, true, true, true, true, true, true, true, true, true, false, false, false, false, false, false, false, false, false, false, false, false, false, false, false, false, false, false, false] rfl rfl (any_of HT_.out (by kernel_rfl)) (fun _ _ _ h => h) (Or.inr ⟨by rfl, rfl⟩) ?_ ?_
                              rotate_left
                              · simp only [Act.put, List.setIfInBounds_toArray, List.set_cons_zero, List.set_cons_succ, i64_w, i32_w]
                                rfl
                              refine pure_ (i := 14) (N := some 107) (v := undef) (a' := ?_) #[true, true, true, true, true, true, true, true, true, true, true, true, true, true, true, false, false, false, false, false, false, false, false, false, false, false, false, false, false, false, false, false, false] rfl rfl (any_of HT_.out (by kernel_rfl)) (fun _ _ _ h => h) (Or.inr ⟨by rfl, rfl⟩) ?_ ?_
                              rotate_left
                              · simp only [Act.put, List.setIfInBounds_toArray, List.set_cons_zero, List.set_cons_succ, i64_w, i32_w]
                                rfl
                              refine pure_ (i := 15) (N := some 108) (v := undef) (a' := ?_) #[true, true, true, true, true, true, true, true, true, true, true, true, true, true, true, true, false, false, false, false, false, false, false, false, false, false, false, false, false, false, false, false, false] rfl rfl (any_of HT_.out (by kernel_rfl)) (fun _ _ _ h => h) (Or.inr ⟨by rfl, rfl⟩) ?_ ?_
                              rotate_left
                              · simp only [Act.put, List.setIfInBounds_toArray, List.set_cons_zero, List.set_cons_succ, i64_w, i32_w]
                                rfl
                              refine pure_ (i := 16) (N := some 109) (v := undef) (a' := ?_) #[true, true, true, true, true, true, true, true, true, true, true, true, true, true, true, true, true, false, false, false, false, false, false, false, false, false, false, false, false, false, false, false, false] rfl rfl (any_of HT_.out (by kernel_rfl)) (fun _ _ _ h => h) (Or.inr ⟨by rfl, rfl⟩) ?_ ?_
                              rotate_left
                              · simp only [Act.put, List.setIfInBounds_toArray, List.set_cons_zero, List.set_cons_succ, i64_w, i32_w]
                                rfl
                              refine pure_ (i := 17) (N := some 110) (v := undef) (a' := ?_) #[true, true, true, true, true, true, true, true, true, true, true, true, true, true, true, true, true, true, false, false, false, false, false, false, false, false, false, false, false, false, false, false, false] rfl rfl (any_of HT_.out (by kernel_rfl)) (fun _ _ _ h => h) (Or.inr ⟨by rfl, rfl⟩) ?_ ?_
                              rotate_left
                              · simp only [Act.put, List.setIfInBounds_toArray, List.set_cons_zero, List.set_cons_succ, i64_w, i32_w]
                                rfl
                              refine pure_ (i := 18) (N := some 111) (v := undef) (a' := ?_) #[true, true, true, true, true, true, true, true, true, true, true, true, true, true, true, true, true, true, true, false, false, false, false, false, false, false, false, false, false, false, false, false, false] rfl rfl (any_of HT_.out (by kernel_rfl)) (fun _ _ _ h => h) (Or.inr ⟨by rfl, rfl⟩) ?_ ?_
                              rotate_left
                              · simp only [Act.put, List.setIfInBounds_toArray, List.set_cons_zero, List.set_cons_succ, i64_w, i32_w]
                                rfl
                              refine pure_ (i := 19) (N := some 112) (v := ?_) (a' := ?_) #[true, true, true, true, true, true, true, true, true, true, true, true, true, true, true, true, true, true, true, true, false, false, false, false, false, false, false, false, false, false, false, false, false] rfl rfl (any_of HT_.out (by kernel_rfl)) (fun _ _ _ h => h) (Or.inl ⟨by rfl, ?_⟩) ?_ ?_
                              rotate_left
                              · intro w'
                                go_simp
                                with_reducible rfl
                              rotate_left
                              · simp only [Act.put, List.setIfInBounds_toArray, List.set_cons_zero, List.set_cons_succ, i64_w, i32_w]
                                rfl
                              refine pure_ (i := 20) (N := some 113) (v := ?_) (a' := ?_) #[true, true, true, true, true, true, true, true, true, true, true, true, true, true, true, true, true, true, true, true, true, false, false, false, false, false, false, false, false, false, false, false, false] rfl rfl (any_of HT_.out (by kernel_rfl)) (fun _ _ _ h => h) (Or.inl ⟨by rfl, ?_⟩) ?_ ?_
                              rotate_left
                              · intro w'
                                go_simp
                                with_reducible rfl
                              rotate_left
                              · simp only [Act.put, List.setIfInBounds_toArray, List.set_cons_zero, List.set_cons_succ, i64_w, i32_w]
                                rfl
                              refine pure_ (i := 21) (N := some 114) (v := ?_) (a' := ?_) #[true, true, true, true, true, true, true, true, true, true, true, true, true, true, true, true, true, true, true, true, true, true, false, false, false, false, false, false, false, false, false, false, false] rfl rfl (any_of HT_.out (by kernel_rfl)) (fun _ _ _ h => h) (Or.inl ⟨by rfl, ?_⟩) ?_ ?_
                              rotate_left
                              · intro w'
                                go_simp
                                with_reducible rfl
                              rotate_left
                              · simp only [Act.put, List.setIfInBounds_toArray, List.set_cons_zero, List.set_cons_succ, i64_w, i32_w]
                                rfl
                              refine pure_ (i := 22) (N := some 115) (v := ?_) (a' := ?_) #[true, true, true, true, true, true, true, true, true, true, true, true, true, true, true, true, true, true, true, true, true, true, true, false, false, false, false, false, false, false, false, false, false] rfl rfl (any_of HT_.out (by kernel_rfl)) (fun _ _ _ h => h) (Or.inl ⟨by rfl, ?_⟩) ?_ ?_
                              rotate_left
                              · intro w'
                                go_simp
                                with_reducible rfl
                              rotate_left
                              · simp only [Act.put, List.setIfInBounds_toArray, List.set_cons_zero, List.set_cons_succ, i64_w, i32_w]
                                rfl
                              refine pure_ (i := 23) (N := some 116) (v := ?_) (a' := ?_) #[true, true, true, true, true, true, true, true, true, true, true, true, true, true, true, true, true, true, true, true, true, true, true, true, false, false, false, false, false, false, false, false, false] rfl rfl (any_of HT_.out (by kernel_rfl)) (fun _ _ _ h => h) (Or.inl ⟨by rfl, ?_⟩) ?_ ?_
                              rotate_left
                              · intro w'
                                go_simp
                                with_reducible rfl
                              rotate_left
                              · simp only [Act.put, List.setIfInBounds_toArray, List.set_cons_zero, List.set_cons_succ, i64_w, i32_w]
                                rfl
                              refine pure_ (i := 24) (N := some 117) (v := ?_) (a' := ?_) #[true, true, true, true, true, true, true, true, true, true, true, true, true, true, true, true, true, true, true, true, true, true, true, true, true, false, false, false, false, false, false, false, false] rfl rfl (any_of HT_.out (by kernel_rfl)) (fun _ _ _ h => h) (Or.inl ⟨by rfl, ?_⟩) ?_ ?_
                              rotate_left
                              · intro w'
                                go_simp
                                with_reducible rfl
                              rotate_left
                              · simp only [Act.put, List.setIfInBounds_toArray, List.set_cons_zero, List.set_cons_succ, i64_w, i32_w]
                                rfl
                              refine pure_ (i := 26) (N := some 119) (v := ?_) (a' := ?_) #[true, true, true, true, true, true, true, true, true, true, true, true, true, true, true, true, true, true, true, true, true, true, true, true, true, false, true, false, false, false, false, false, false] rfl rfl (any_of HT_.out (by kernel_rfl)) (fun _ _ _ h => h) (Or.inl ⟨by rfl, ?_⟩) ?_ ?_
                              rotate_left
                              · intro w'
                                go_simp
                                with_reducible rfl
                              rotate_left
                              · simp only [Act.put, List.setIfInBounds_toArray, List.set_cons_zero, List.set_cons_succ, i64_w, i32_w]
                                rfl
                              refine pure_ (i := 27) (N := some 120) (v := ?_) (a' := ?_) #[true, true, true, true, true, true, true, true, true, true, true, true, true, true, true, true, true, true, true, true, true, true, true, true, true, false, true, true, false, false, false, false, false] rfl rfl (any_of HT_.out (by kernel_rfl)) (fun _ _ _ h => h) (Or.inl ⟨by rfl, ?_⟩) ?_ ?_
                              rotate_left
                              · intro w'
                                go_simp
                                with_reducible rfl
                              rotate_left
                              · simp only [Act.put, List.setIfInBounds_toArray, List.set_cons_zero, List.set_cons_succ, i64_w, i32_w]
                                rfl
                              refine pure_ (i := 28) (N := some 121) (v := ?_) (a' := ?_) #[true, true, true, true, true, true, true, true, true, true, true, true, true, true, true, true, true, true, true, true, true, true, true, true, true, false, true, true, true, false, false, false, false] rfl rfl (any_of HT_.out (by kernel_rfl)) (fun _ _ _ h => h) (Or.inl ⟨by rfl, ?_⟩) ?_ ?_
                              rotate_left
                              · intro w'
                                go_simp
                                with_reducible rfl
                              rotate_left
                              · simp only [Act.put, List.setIfInBounds_toArray, List.set_cons_zero, List.set_cons_succ, i64_w, i32_w]
                                rfl
                              refine pure_ (i := 29) (N := some 122) (v := ?_) (a' := ?_) #[true, true, true, true, true, true, true, true, true, true, true, true, true, true, true, true, true, true, true, true, true, true, true, true, true, false, true, true, true, true, false, false, false] rfl rfl (any_of HT_.out (by kernel_rfl)) (fun _ _ _ h => h) (Or.inl ⟨by rfl, ?_⟩) ?_ ?_
                              rotate_left
                              · intro w'
                                go_simp
                                with_reducible rfl
                              rotate_left
                              · simp only [Act.put, List.setIfInBounds_toArray, List.set_cons_zero, List.set_cons_succ, i64_w, i32_w]
                                rfl
                              refine take_ (i := 25) (N := some 118) (v := ?_) (a' := ?_) #[true, true, true, true, true, true, true, true, true, true, true, true, true, true, true, true, true, true, true, true, true, true, true, true, true, true, true, true, true, true, false, false, false] rfl rfl (take_ofW HT_.out HW_.out (by kernel_rfl)) (fun _ _ _ h => h) (Or.inl ⟨by rfl, ?_⟩) hHeld ?_ ?_
                              rotate_left
                              · rintro w' ⟨s0, s1, s2, s3, s4, s5, s6, s7, s8, s9, s10, s11⟩
                                go_simp
                                with_reducible rfl
                              rotate_left
                              · simp only [Act.put, List.setIfInBounds_toArray, List.set_cons_zero, List.set_cons_succ, i64_w, i32_w]
                                rfl
                              refine take_ (i := 30) (N := some 123) (v := ?_) (a' := ?_) #[true, true, true, true, true, true, true, true, true, true, true, true, true, true, true, true, true, true, true, true, true, true, true, true, true, true, true, true, true, true, true, false, false] rfl rfl (take_ofW HT_.out HW_.out (by kernel_rfl)) (fun _ _ _ h => h) (Or.inl ⟨by rfl, ?_⟩) hHeld ?_ ?_
                              rotate_left
                              · rintro w' ⟨s0, s1, s2, s3, s4, s5, s6, s7, s8, s9, s10, s11⟩
                                go_simp
                                with_reducible rfl
                              rotate_left
                              · simp only [Act.put, List.setIfInBounds_toArray, List.set_cons_zero, List.set_cons_succ, i64_w, i32_w]
                                rfl
                              refine pure_ (i := 31) (N := some 124) (v := ?_) (a' := ?_) #[true, true, true, true, true, true, true, true, true, true, true, true, true, true, true, true, true, true, true, true, true, true, true, true, true, true, true, true, true, true, true, true, false] rfl rfl (any_of HT_.out (by kernel_rfl)) (fun _ _ _ h => h) (Or.inl ⟨by rfl, ?_⟩) ?_ ?_
                              rotate_left
                              · intro w'
                                go_simp
                                with_reducible rfl
                              rotate_left
                              · simp only [Act.put, List.setIfInBounds_toArray, List.set_cons_zero, List.set_cons_succ, i64_w, i32_w]
                                rfl
                              refine pure_ (i := 32) (N := some 125) (v := ?_) (a' := ?_) #[true, true, true, true, true, true, true, true, true, true, true, true, true, true, true, true, true, true, true, true, true, true, true, true, true, true, true, true, true, true, true, true, true] rfl rfl (any_of HT_.out (by kernel_rfl)) (fun _ _ _ h => h) (Or.inl ⟨by rfl, ?_⟩) ?_ ?_
                              rotate_left
                              · intro w'
                                go_simp
                                with_reducible rfl
                              rotate_left
                              · simp only [Act.put, List.setIfInBounds_toArray, List.set_cons_zero, List.set_cons_succ, i64_w, i32_w]
                                rfl
                              refine done_ (done_of HT_.out (by kernel_rfl)) ?_
                              try go_wp2
                              go_roundg k3
                              case measure => have := HJ5.out; have := HJ18.out; have := HK3.out; omega
                              case rel => exact ⟨(wrap64 (x14_3 + 1)), (by first | rfl | (simp; done) | (simp [*]; done)), H', ⟨by have := HJ5.out; have := HJ18.out; have := HK3.out; omega⟩, ⟨by (with_reducible repeat (first | apply Kd.S_alloc | apply Kd.S_drewN | apply Kd.S_drew)); exact HO_8.out⟩, ⟨by (with_reducible repeat (first | apply Kd.R_alloc | apply Kd.R_drewN | apply Kd.R_drew)); exact HO_279002.out⟩, ⟨by (with_reducible repeat (first | refine blk_drewN ?_ _ | refine blk_drew ?_ | refine blk_alloc ?_ _)); exact BK264.out⟩, ⟨by (with_reducible repeat (first | refine blk_drewN ?_ _ | refine blk_drew ?_ | refine blk_alloc ?_ _)); exact BK278.out⟩, ⟨by repeat (first | (with_reducible first | exact HB.out | apply below_alloc | apply pw_below_drewN | apply below_drew1 | refine below_set ?_ GE264.out | refine below_set ?_ GE278.out) | exact HB.out)⟩⟩
                            · rw [if_neg c65] at H
                              have c65b0 : (((rd_TSchema t268 x14_3).f0).toList == ((rd_TSchema l0 x14_3).f0).toList) = false := beq_eq_false_iff_ne.mpr c65
                              have c65b1 : (((rd_TSchema t268 x14_3).f0).toList != ((rd_TSchema l0 x14_3).f0).toList) = true := bne_iff_ne.mpr c65
                              obtain rfl := Option.some.inj H
                              try go_wp2
                              have n0_ := Aside0.mk (Kd.S_drew HO_8.out)
                              have n1_ := Aside0.mk (Kd.R_drew HO_279002.out)
                              have n2_ := Aside0.mk (blk_drew BK264.out)
                              have n3_ := Aside0.mk (blk_drew BK278.out)
                              have n4_ := Aside0.mk (below_drew1 HB.out)
                              clear HO_8
                              clear HO_279002
                              clear BK264
                              clear BK278
                              clear HB
                              have HO_8 := n0_
                              have HO_279002 := n1_
                              have BK264 := n2_
                              have BK278 := n3_
                              have HB := n4_
                              clear n0_ n1_ n2_ n3_ n4_
                              have p285 : 0 ≤ (x14_3 : Int) := of_decide_eq_true (by first | (with_reducible assumption) | assumption)
                              have q285 : x14_3 < (l0.length : Int) := of_decide_eq_true (by first | (with_reducible assumption) | assumption)
                              obtain ⟨ad285, A285_2, c285_2, e285, hx285_0, hx285_1, hx285_2, hl285_2, hi285_2⟩ := at_TSchema HR0.out x14_3 p285 q285
                              have hw285_2 := hx285_2
                              have hw285_1 := hx285_1
                              have hw285_0 := hx285_0
                              cases e285
                              replace hx285_0 := (HB.out.cell (World.block_lt_of_cell? w _ hx285_0)).trans hx285_0
                              replace hx285_1 := (HB.out.cell (World.block_lt_of_cell? w _ hx285_1)).trans hx285_1
                              replace hx285_2 := (HB.out.cell (World.block_lt_of_cell? w _ hx285_2)).trans hx285_2
                              have HR285_2 := Aside0.mk hi285_2
                              have HC285_2 := Aside0.mk hl285_2
                              clear hi285_2 hl285_2
                              replace p285 := eq_true p285
                              replace q285 := eq_true q285
                              have p286 : 0 ≤ (x14_3 : Int) := of_decide_eq_true (by first | (with_reducible assumption) | assumption)
                              have q286 : x14_3 < (t268.length : Int) := of_decide_eq_true (by first | (with_reducible assumption) | assumption)
                              obtain ⟨ad286, A286_2, c286_2, e286, hx286_0, hx286_1, hx286_2, hl286_2, hi286_2⟩ := at_TSchema (Kd.S_reads' HO_8.out).2.2 x14_3 p286 q286
                              cases e286
                              obtain ⟨ce286, hce286, hMe286, hcc286⟩ := Kd.S_get HO_8.out zSchema x14_3 p286 (by first | exact q286 | exact of_decide_eq_true (by first | (with_reducible assumption) | assumption) | (have e_ := (Kd.S_reads' HO_8.out).1; omega))
                              obtain ⟨ve286_2, rfl, ge286_2⟩ := kSchema_openM hMe286
                              have hv286_2 := hcc286 2 _ rfl
                              rw [add_field _ _ 2 (by omega)] at hv286_2
                              replace hv286_2 := Option.some.inj (hv286_2.symm.trans hx286_2)
                              rw [hv286_2] at ge286_2
                              have HL286_2 := Aside0.mk (show Kd.R kField 39 _ _ _ _ ((rd_TSchema t268 x14_3).f2) from ge286_2)
                              clear hv286_2 ge286_2
                              clear hcc286 hce286
                              have HR286_2 := Aside0.mk hi286_2
                              have HC286_2 := Aside0.mk hl286_2
                              clear hi286_2 hl286_2
                              replace p286 := eq_true p286
                              replace q286 := eq_true q286
                              have p287 : 0 ≤ (x14_3 : Int) := of_decide_eq_true (by first | (with_reducible assumption) | assumption)
                              have q287 : x14_3 < (l0.length : Int) := of_decide_eq_true (by first | (with_reducible assumption) | assumption)
                              obtain ⟨ad287, A287_2, c287_2, e287, hx287_0, hx287_1, hx287_2, hl287_2, hi287_2⟩ := at_TSchema HR0.out x14_3 p287 q287
                              have hw287_2 := hx287_2
                              have hw287_1 := hx287_1
                              have hw287_0 := hx287_0
                              obtain rfl : ad285 = ad287 := (by injection e287)
                              replace hx287_0 := (HB.out.cell (World.block_lt_of_cell? w _ hx287_0)).trans hx287_0
                              replace hx287_1 := (HB.out.cell (World.block_lt_of_cell? w _ hx287_1)).trans hx287_1
                              replace hx287_2 := (HB.out.cell (World.block_lt_of_cell? w _ hx287_2)).trans hx287_2
                              have HR287_2 := Aside0.mk hi287_2
                              have HC287_2 := Aside0.mk hl287_2
                              clear hi287_2 hl287_2
                              replace p287 := eq_true p287
                              replace q287 := eq_true q287
                              have ea_ := Option.some.inj (hx285_2.symm.trans hx287_2)
                              injection ea_ with ea_ en_ ec_
                              subst ea_
                              subst ec_
                              clear en_
                              refine start_ (n := 33) (S := fun w' => w'.cell? ⟨gb264, 0, none⟩ = some (.string a1_0) ∧ w'.cell? ⟨gb264, 1, none⟩ = some (.int .i64 a1_1) ∧ w'.cell? ⟨gb264, 2, none⟩ = some (.slice A1_2 l1_2.length c1_2) ∧ w'.cell? (ad285.add ((x14_3).toNat * 3)) = some (.string ((rd_TSchema l0 x14_3).f0)) ∧ w'.cell? ⟨(ad285.add ((x14_3).toNat * 3)).block, (ad285.add ((x14_3).toNat * 3)).off + 1, none⟩ = some (.int .i64 ((rd_TSchema l0 x14_3).f1)) ∧ w'.cell? ⟨(ad285.add ((x14_3).toNat * 3)).block, (ad285.add ((x14_3).toNat * 3)).off + 2, none⟩ = some (.slice A285_2 ((rd_TSchema l0 x14_3).f2).length c285_2) ∧ w'.cell? (ad286.add ((x14_3).toNat * 3)) = some (.string ((rd_TSchema t268 x14_3).f0)) ∧ w'.cell? ⟨(ad286.add ((x14_3).toNat * 3)).block, (ad286.add ((x14_3).toNat * 3)).off + 1, none⟩ = some (.int .i64 ((rd_TSchema t268 x14_3).f1)) ∧ w'.cell? ⟨(ad286.add ((x14_3).toNat * 3)).block, (ad286.add ((x14_3).toNat * 3)).off + 2, none⟩ = some (.slice A286_2 ((rd_TSchema t268 x14_3).f2).length c286_2) ∧ w'.cell? (ad285.add ((x14_3).toNat * 3)) = some (.string ((rd_TSchema l0 x14_3).f0)) ∧ w'.cell? ⟨(ad285.add ((x14_3).toNat * 3)).block, (ad285.add ((x14_3).toNat * 3)).off + 1, none⟩ = some (.int .i64 ((rd_TSchema l0 x14_3).f1)) ∧ w'.cell? ⟨(ad285.add ((x14_3).toNat * 3)).block, (ad285.add ((x14_3).toNat * 3)).off + 2, none⟩ = some (.slice A285_2 ((rd_TSchema l0 x14_3).f2).length c285_2)) (ds := []) #[false, false, false, false, false, false, false, false, false, false, false, false, false, false, false, false, false, false, false, false, false, false, false, false, false, false, false, false, false, false, false, false, false] (by kernel_rfl) rfl rfl ⟨(blk_cell BK264.out 0).trans rfl, (blk_cell BK264.out 1).trans rfl, (blk_cell BK264.out 2).trans rfl, ((HB.out.cell (World.block_lt_of_cell? w _ hw285_0)).trans hw285_0), ((HB.out.cell (World.block_lt_of_cell? w _ hw285_1)).trans hw285_1), ((HB.out.cell (World.block_lt_of_cell? w _ hw285_2)).trans hw285_2), hx286_0, hx286_1, hx286_2, ((HB.out.cell (World.block_lt_of_cell? w _ hw287_0)).trans hw287_0), ((HB.out.cell (World.block_lt_of_cell? w _ hw287_1)).trans hw287_1), ((HB.out.cell (World.block_lt_of_cell? w _ hw287_2)).trans hw287_2)⟩ (fun hHeld => ?_); refine with_tabW towncrierlaw07_RegistryAdds.tab16 towncrierlaw07_RegistryAdds.bits16 (fun HT_ HW_ => ?_)
                              generalize wr.drew = w67 at HO_8 HO_279002 BK264 BK278 HB HL286_2 HR285_2 HR286_2 HR287_2 hx285_0 hx285_1 hx285_2 hx286_0 hx286_1 hx286_2 hx287_0 hx287_1 hx287_2 hHeld ⊢
                              refine pure_ (i := 0) (N := some 93) (v := ?_) (a' := ?_) #[true, false, false, false, false, false, false, false, false, false, false, false, false, false, false, false, false, false, false, false, false, false, false, false, false, false, false, false, false, false, false, false, false] rfl rfl (any_of HT_.out (by kernel_rfl)) (fun _ _ _ h => h) (Or.inl ⟨by rfl, ?_⟩) ?_ ?_
                              rotate_left
                              · intro w'
                                go_simp
                                with_reducible rfl
                              rotate_left
                              · simp only [Act.put, List.setIfInBounds_toArray, List.set_cons_zero, List.set_cons_succ, i64_w, i32_w]
                                rfl
                              refine pure_ (i := 1) (N := some 94) (v := ?_) (a' := ?_) #[true, true, false, false, false, false, false, false, false, false, false, false, false, false, false, false, false, false, false, false, false, false, false, false, false, false, false, false, false, false, false, false, false] rfl rfl (any_of HT_.out (by kernel_rfl)) (fun _ _ _ h => h) (Or.inl ⟨by rfl, ?_⟩) ?_ ?_
                              rotate_left
                              · intro w'
                                go_simp
                                with_reducible rfl
                              rotate_left
                              · simp only [Act.put, List.setIfInBounds_toArray, List.set_cons_zero, List.set_cons_succ, i64_w, i32_w]
                                rfl
                              refine pure_ (i := 2) (N := some 95) (v := ?_) (a' := ?_) #[true, true, true, false, false, false, false, false, false, false, false, false, false, false, false, false, false, false, false, false, false, false, false, false, false, false, false, false, false, false, false, false, false] rfl rfl (any_of HT_.out (by kernel_rfl)) (fun _ _ _ h => h) (Or.inl ⟨by rfl, ?_⟩) ?_ ?_
                              rotate_left
                              · intro w'
                                go_simp
                                with_reducible rfl
                              rotate_left
                              · simp only [Act.put, List.setIfInBounds_toArray, List.set_cons_zero, List.set_cons_succ, i64_w, i32_w]
                                rfl
                              refine pure_ (i := 3) (N := some 96) (v := ?_) (a' := ?_) #[true, true, true, true, false, false, false, false, false, false, false, false, false, false, false, false, false, false, false, false, false, false, false, false, false, false, false, false, false, false, false, false, false] rfl rfl (any_of HT_.out (by kernel_rfl)) (fun _ _ _ h => h) (Or.inl ⟨by rfl, ?_⟩) ?_ ?_
                              rotate_left
                              · intro w'
                                go_simp
                                with_reducible rfl
                              rotate_left
                              · simp only [Act.put, List.setIfInBounds_toArray, List.set_cons_zero, List.set_cons_succ, i64_w, i32_w]
                                rfl
                              refine pure_ (i := 5) (N := some 98) (v := ?_) (a' := ?_) #[true, true, true, true, false, true, false, false, false, false, false, false, false, false, false, false, false, false, false, false, false, false, false, false, false, false, false, false, false, false, false, false, false] rfl rfl (any_of HT_.out (by kernel_rfl)) (fun _ _ _ h => h) (Or.inl ⟨by rfl, ?_⟩) ?_ ?_
                              rotate_left
                              · intro w'
                                go_simp
                                with_reducible rfl
                              rotate_left
                              · simp only [Act.put, List.setIfInBounds_toArray, List.set_cons_zero, List.set_cons_succ, i64_w, i32_w]
                                rfl
                              refine take_ (i := 4) (N := some 97) (v := ?_) (a' := ?_) #[true, true, true, true, true, true, false, false, false, false, false, false, false, false, false, false, false, false, false, false, false, false, false, false, false, false, false, false, false, false, false, false, false] rfl rfl (take_ofW HT_.out HW_.out (by kernel_rfl)) (fun _ _ _ h => h) (Or.inl ⟨by rfl, ?_⟩) hHeld ?_ ?_
                              rotate_left
                              · rintro w' ⟨s0, s1, s2, s3, s4, s5, s6, s7, s8, s9, s10, s11⟩
                                go_simp
                                with_reducible rfl
                              rotate_left
                              · simp only [Act.put, List.setIfInBounds_toArray, List.set_cons_zero, List.set_cons_succ, i64_w, i32_w]
                                rfl
                              refine take_ (i := 6) (N := some 99) (v := ?_) (a' := ?_) #[true, true, true, true, true, true, true, false, false, false, false, false, false, false, false, false, false, false, false, false, false, false, false, false, false, false, false, false, false, false, false, false, false] rfl rfl (take_ofW HT_.out HW_.out (by kernel_rfl)) (fun _ _ _ h => h) (Or.inl ⟨by rfl, ?_⟩) hHeld ?_ ?_
                              rotate_left
                              · rintro w' ⟨s0, s1, s2, s3, s4, s5, s6, s7, s8, s9, s10, s11⟩
                                go_simp
                                with_reducible rfl
                              rotate_left
                              · simp only [Act.put, List.setIfInBounds_toArray, List.set_cons_zero, List.set_cons_succ, i64_w, i32_w]
                                rfl
                              refine pure_ (i := 7) (N := some 100) (v := ?_) (a' := ?_) #[true, true, true, true, true, true, true, true, false, false, false, false, false, false, false, false, false, false, false, false, false, false, false, false, false, false, false, false, false, false, false, false, false] rfl rfl (any_of HT_.out (by kernel_rfl)) (fun _ _ _ h => h) (Or.inl ⟨by rfl, ?_⟩) ?_ ?_
                              rotate_left
                              · intro w'
                                go_simp
                                with_reducible rfl
                              rotate_left
                              · simp only [Act.put, List.setIfInBounds_toArray, List.set_cons_zero, List.set_cons_succ, i64_w, i32_w]
                                rfl
                              refine pure_ (i := 8) (N := some 101) (v := ?_) (a' := ?_) #[true, true, true, true, true, true, true, true, true, false, false, false, false, false, false, false, false, false, false, false, false, false, false, false, false, false, false, false, false, false, false, false, false] rfl rfl (any_of HT_.out (by kernel_rfl)) (fun _ _ _ h => h) (Or.inl ⟨by rfl, ?_⟩) ?_ ?_
                              rotate_left
                              · intro w'
                                go_simp
                                with_reducible rfl
                              rotate_left
                              · simp only [Act.put, List.setIfInBounds_toArray, List.set_cons_zero, List.set_cons_succ, i64_w, i32_w]
                                rfl
                              refine pure_ (i := 9) (N := some 102) (v := undef) (a' := ?_) #[true, true, true, true, true, true, true, true, true, true, false, false, false, false, false, false, false, false, false, false, false, false, false, false, false, false, false, false, false, false, false, false, false] rfl rfl (any_of HT_.out (by kernel_rfl)) (fun _ _ _ h => h) (Or.inr ⟨by rfl, rfl⟩) ?_ ?_
                              rotate_left
                              · simp only [Act.put, List.setIfInBounds_toArray, List.set_cons_zero, List.set_cons_succ, i64_w, i32_w]
                                rfl
                              refine pure_ (i := 10) (N := some 103) (v := undef) (a' := ?_) #[true, true, true, true, true, true, true, true, true, true, true, false, false, false, false, false, false, false, false, false, false, false, false, false, false, false, false, false, false, false, false, false, false] rfl rfl (any_of HT_.out (by kernel_rfl)) (fun _ _ _ h => h) (Or.inr ⟨by rfl, rfl⟩) ?_ ?_
                              rotate_left
                              · simp only [Act.put, List.setIfInBounds_toArray, List.set_cons_zero, List.set_cons_succ, i64_w, i32_w]
                                rfl
                              refine pure_ (i := 11) (N := some 104) (v := undef) (a' := ?_) #[true, true, true, true, true, true, true, true, true, true, true, true, false, false, false, false, false, false, false, false, false, false, false, false, false, false, false, false, false, false, false, false, false] rfl rfl (any_of HT_.out (by kernel_rfl)) (fun _ _ _ h => h) (Or.inr ⟨by rfl, rfl⟩) ?_ ?_
                              rotate_left
                              · simp only [Act.put, List.setIfInBounds_toArray, List.set_cons_zero, List.set_cons_succ, i64_w, i32_w]
                                rfl
                              refine pure_ (i := 12) (N := some 105) (v := undef) (a' := ?_) #[true, true, true, true, true, true, true, true, true, true, true, true, true, false, false, false, false, false, false, false, false, false, false, false, false, false, false, false, false, false, false, false, false] rfl rfl (any_of HT_.out (by kernel_rfl)) (fun _ _ _ h => h) (Or.inr ⟨by rfl, rfl⟩) ?_ ?_
                              rotate_left
                              · simp only [Act.put, List.setIfInBounds_toArray, List.set_cons_zero, List.set_cons_succ, i64_w, i32_w]
                                rfl
                              refine pure_ (i := 13) (N := some 106) (v := undef) (a' := ?_) #[true, true, true, true, true, true, true, true, true, true, true, true, true, true, false, false, false, false, false, false, false, false, false, false, false, false, false, false, false, false, false, false, false] rfl rfl (any_of HT_.out (by kernel_rfl)) (fun _ _ _ h => h) (Or.inr ⟨by rfl, rfl⟩) ?_ ?_
                              rotate_left
                              · simp only [Act.put, List.setIfInBounds_toArray, List.set_cons_zero, List.set_cons_succ, i64_w, i32_w]
                                rfl
                              refine pure_ (i := 14) (N := some 107) (v := undef) (a' := ?_) #[true, true, true, true, true, true, true, true, true, true, true, true, true, true, true, false, false, false, false, false, false, false, false, false, false, false, false, false, false, false, false, false, false] rfl rfl (any_of HT_.out (by kernel_rfl)) (fun _ _ _ h => h) (Or.inr ⟨by rfl, rfl⟩) ?_ ?_
                              rotate_left
                              · simp only [Act.put, List.setIfInBounds_toArray, List.set_cons_zero, List.set_cons_succ, i64_w, i32_w]
                                rfl
                              refine pure_ (i := 15) (N := some 108) (v := undef) (a' := ?_) #[true, true, true, true, true, true, true, true, true, true, true, true, true, true, true, true, false, false, false, false, false, false, false, false, false, false, false, false, false, false, false, false, false] rfl rfl (any_of HT_.out (by kernel_rfl)) (fun _ _ _ h => h) (Or.inr ⟨by rfl, rfl⟩) ?_ ?_
                              rotate_left
                              · simp only [Act.put, List.setIfInBounds_toArray, List.set_cons_zero, List.set_cons_succ, i64_w, i32_w]
                                rfl
                              refine pure_ (i := 16) (N := some 109) (v := undef) (a' := ?_) #[true, true, true, true, true, true, true, true, true, true, true, true, true, true, true, true, true, false, false, false, false, false, false, false, false, false, false, false, false, false, false, false, false] rfl rfl (any_of HT_.out (by kernel_rfl)) (fun _ _ _ h => h) (Or.inr ⟨by rfl, rfl⟩) ?_ ?_
                              rotate_left
                              · simp only [Act.put, List.setIfInBounds_toArray, List.set_cons_zero, List.set_cons_succ, i64_w, i32_w]
                                rfl
                              refine pure_ (i := 17) (N := some 110) (v := undef) (a' := ?_) #[true, true, true, true, true, true, true, true, true, true, true, true, true, true, true, true, true, true, false, false, false, false, false, false, false, false, false, false, false, false, false, false, false] rfl rfl (any_of HT_.out (by kernel_rfl)) (fun _ _ _ h => h) (Or.inr ⟨by rfl, rfl⟩) ?_ ?_
                              rotate_left
                              · simp only [Act.put, List.setIfInBounds_toArray, List.set_cons_zero, List.set_cons_succ, i64_w, i32_w]
                                rfl
                              refine pure_ (i := 18) (N := some 111) (v := undef) (a' := ?_) #[true, true, true, true, true, true, true, true, true, true, true, true, true, true, true, true, true, true, true, false, false, false, false, false, false, false, false, false, false, false, false, false, false] rfl rfl (any_of HT_.out (by kernel_rfl)) (fun _ _ _ h => h) (Or.inr ⟨by rfl, rfl⟩) ?_ ?_
                              rotate_left
                              · simp only [Act.put, List.setIfInBounds_toArray, List.set_cons_zero, List.set_cons_succ, i64_w, i32_w]
                                rfl
                              refine pure_ (i := 19) (N := some 112) (v := ?_) (a' := ?_) #[true, true, true, true, true, true, true, true, true, true, true, true, true, true, true, true, true, true, true, true, false, false, false, false, false, false, false, false, false, false, false, false, false] rfl rfl (any_of HT_.out (by kernel_rfl)) (fun _ _ _ h => h) (Or.inl ⟨by rfl, ?_⟩) ?_ ?_
                              rotate_left
                              · intro w'
                                go_simp
                                with_reducible rfl
                              rotate_left
                              · simp only [Act.put, List.setIfInBounds_toArray, List.set_cons_zero, List.set_cons_succ, i64_w, i32_w]
                                rfl
                              refine pure_ (i := 20) (N := some 113) (v := ?_) (a' := ?_) #[true, true, true, true, true, true, true, true, true, true, true, true, true, true, true, true, true, true, true, true, true, false, false, false, false, false, false, false, false, false, false, false, false] rfl rfl (any_of HT_.out (by kernel_rfl)) (fun _ _ _ h => h) (Or.inl ⟨by rfl, ?_⟩) ?_ ?_
                              rotate_left
                              · intro w'
                                go_simp
                                with_reducible rfl
                              rotate_left
                              · simp only [Act.put, List.setIfInBounds_toArray, List.set_cons_zero, List.set_cons_succ, i64_w, i32_w]
                                rfl
                              refine pure_ (i := 21) (N := some 114) (v := ?_) (a' := ?_) #[true, true, true, true, true, true, true, true, true, true, true, true, true, true, true, true, true, true, true, true, true, true, false, false, false, false, false, false, false, false, false, false, false] rfl rfl (any_of HT_.out (by kernel_rfl)) (fun _ _ _ h => h) (Or.inl ⟨by rfl, ?_⟩) ?_ ?_
                              rotate_left
                              · intro w'
                                go_simp
                                with_reducible rfl
                              rotate_left
                              · simp only [Act.put, List.setIfInBounds_toArray, List.set_cons_zero, List.set_cons_succ, i64_w, i32_w]
                                rfl
                              refine pure_ (i := 22) (N := some 115) (v := ?_) (a' := ?_) #[true, true, true, true, true, true, true, true, true, true, true, true, true, true, true, true, true, true, true, true, true, true, true, false, false, false, false, false, false, false, false, false, false] rfl rfl (any_of HT_.out (by kernel_rfl)) (fun _ _ _ h => h) (Or.inl ⟨by rfl, ?_⟩) ?_ ?_
                              rotate_left
                              · intro w'
                                go_simp
                                with_reducible rfl
                              rotate_left
                              · simp only [Act.put, List.setIfInBounds_toArray, List.set_cons_zero, List.set_cons_succ, i64_w, i32_w]
                                rfl
                              refine pure_ (i := 23) (N := some 116) (v := ?_) (a' := ?_) #[true, true, true, true, true, true, true, true, true, true, true, true, true, true, true, true, true, true, true, true, true, true, true, true, false, false, false, false, false, false, false, false, false] rfl rfl (any_of HT_.out (by kernel_rfl)) (fun _ _ _ h => h) (Or.inl ⟨by rfl, ?_⟩) ?_ ?_
                              rotate_left
                              · intro w'
                                go_simp
                                with_reducible rfl
                              rotate_left
                              · simp only [Act.put, List.setIfInBounds_toArray, List.set_cons_zero, List.set_cons_succ, i64_w, i32_w]
                                rfl
                              refine pure_ (i := 24) (N := some 117) (v := ?_) (a' := ?_) #[true, true, true, true, true, true, true, true, true, true, true, true, true, true, true, true, true, true, true, true, true, true, true, true, true, false, false, false, false, false, false, false, false] rfl rfl (any_of HT_.out (by kernel_rfl)) (fun _ _ _ h => h) (Or.inl ⟨by rfl, ?_⟩) ?_ ?_
                              rotate_left
                              · intro w'
                                go_simp
                                with_reducible rfl
                              rotate_left
                              · simp only [Act.put, List.setIfInBounds_toArray, List.set_cons_zero, List.set_cons_succ, i64_w, i32_w]
                                rfl
                              refine pure_ (i := 26) (N := some 119) (v := ?_) (a' := ?_) #[true, true, true, true, true, true, true, true, true, true, true, true, true, true, true, true, true, true, true, true, true, true, true, true, true, false, true, false, false, false, false, false, false] rfl rfl (any_of HT_.out (by kernel_rfl)) (fun _ _ _ h => h) (Or.inl ⟨by rfl, ?_⟩) ?_ ?_
                              rotate_left
                              · intro w'
                                go_simp
                                with_reducible rfl
                              rotate_left
                              · simp only [Act.put, List.setIfInBounds_toArray, List.set_cons_zero, List.set_cons_succ, i64_w, i32_w]
                                rfl
                              refine pure_ (i := 27) (N := some 120) (v := ?_) (a' := ?_) #[true, true, true, true, true, true, true, true, true, true, true, true, true, true, true, true, true, true, true, true, true, true, true, true, true, false, true, true, false, false, false, false, false] rfl rfl (any_of HT_.out (by kernel_rfl)) (fun _ _ _ h => h) (Or.inl ⟨by rfl, ?_⟩) ?_ ?_
                              rotate_left
                              · intro w'
                                go_simp
                                with_reducible rfl
                              rotate_left
                              · simp only [Act.put, List.setIfInBounds_toArray, List.set_cons_zero, List.set_cons_succ, i64_w, i32_w]
                                rfl
                              refine pure_ (i := 28) (N := some 121) (v := ?_) (a' := ?_) #[true, true, true, true, true, true, true, true, true, true, true, true, true, true, true, true, true, true, true, true, true, true, true, true, true, false, true, true, true, false, false, false, false] rfl rfl (any_of HT_.out (by kernel_rfl)) (fun _ _ _ h => h) (Or.inl ⟨by rfl, ?_⟩) ?_ ?_
                              rotate_left
                              · intro w'
                                go_simp
                                with_reducible rfl
                              rotate_left
                              · simp only [Act.put, List.setIfInBounds_toArray, List.set_cons_zero, List.set_cons_succ, i64_w, i32_w]
                                rfl
                              refine pure_ (i := 29) (N := some 122) (v := ?_) (a' := ?_) #[true, true, true, true, true, true, true, true, true, true, true, true, true, true, true, true, true, true, true, true, true, true, true, true, true, false, true, true, true, true, false, false, false] rfl rfl (any_of HT_.out (by kernel_rfl)) (fun _ _ _ h => h) (Or.inl ⟨by rfl, ?_⟩) ?_ ?_
                              rotate_left
                              · intro w'
                                go_simp
                                with_reducible rfl
                              rotate_left
                              · simp only [Act.put, List.setIfInBounds_toArray, List.set_cons_zero, List.set_cons_succ, i64_w, i32_w]
                                rfl
                              refine take_ (i := 25) (N := some 118) (v := ?_) (a' := ?_) #[true, true, true, true, true, true, true, true, true, true, true, true, true, true, true, true, true, true, true, true, true, true, true, true, true, true, true, true, true, true, false, false, false] rfl rfl (take_ofW HT_.out HW_.out (by kernel_rfl)) (fun _ _ _ h => h) (Or.inl ⟨by rfl, ?_⟩) hHeld ?_ ?_
                              rotate_left
                              · rintro w' ⟨s0, s1, s2, s3, s4, s5, s6, s7, s8, s9, s10, s11⟩
                                go_simp
                                with_reducible rfl
                              rotate_left
                              · simp only [Act.put, List.setIfInBounds_toArray, List.set_cons_zero, List.set_cons_succ, i64_w, i32_w]
                                rfl
                              refine take_ (i := 30) (N := some 123) (v := ?_) (a' := ?_) #[true, true, true, true, true, true, true, true, true, true, true, true, true, true, true, true, true, true, true, true, true, true, true, true, true, true, true, true, true, true, true, false, false] rfl rfl (take_ofW HT_.out HW_.out (by kernel_rfl)) (fun _ _ _ h => h) (Or.inl ⟨by rfl, ?_⟩) hHeld ?_ ?_
                              rotate_left
                              · rintro w' ⟨s0, s1, s2, s3, s4, s5, s6, s7, s8, s9, s10, s11⟩
                                go_simp
                                with_reducible rfl
                              rotate_left
                              · simp only [Act.put, List.setIfInBounds_toArray, List.set_cons_zero, List.set_cons_succ, i64_w, i32_w]
                                rfl
                              refine pure_ (i := 31) (N := some 124) (v := ?_) (a' := ?_) #[true, true, true, true, true, true, true, true, true, true, true, true, true, true, true, true, true, true, true, true, true, true, true, true, true, true, true, true, true, true, true, true, false] rfl rfl (any_of HT_.out (by kernel_rfl)) (fun _ _ _ h => h) (Or.inl ⟨by rfl, ?_⟩) ?_ ?_
                              rotate_left
                              · intro w'
                                go_simp
                                with_reducible rfl
                              rotate_left
                              · simp only [Act.put, List.setIfInBounds_toArray, List.set_cons_zero, List.set_cons_succ, i64_w, i32_w]
                                rfl
                              refine pure_ (i := 32) (N := some 125) (v := ?_) (a' := ?_) #[true, true, true, true, true, true, true, true, true, true, true, true, true, true, true, true, true, true, true, true, true, true, true, true, true, true, true, true, true, true, true, true, true] rfl rfl (any_of HT_.out (by kernel_rfl)) (fun _ _ _ h => h) (Or.inl ⟨by rfl, ?_⟩) ?_ ?_
                              rotate_left
                              · intro w'
                                go_simp
                                with_reducible rfl
                              rotate_left
                              · simp only [Act.put, List.setIfInBounds_toArray, List.set_cons_zero, List.set_cons_succ, i64_w, i32_w]
                                rfl
                              refine done_ (done_of HT_.out (by kernel_rfl)) ?_
                              try go_wp2
                              go_ret
                              exact ⟨by first | rfl | (simp [errW_none, errW_some] <;> rfl) | (simp [*, errW_none, errW_some] <;> rfl), by repeat (first | (with_reducible first | exact HB.out | apply below_alloc | apply pw_below_drewN | apply below_drew1 | refine below_set ?_ GE264.out | refine below_set ?_ GE278.out) | exact HB.out)⟩
                          · rw [if_neg c64] at H
                            exact absurd H (by simp)
                        · rw [if_neg c63] at H
                          have c63b0 : (((rd_TSchema l0 x14_3).f0).toList == a1_0.toList) = false := beq_eq_false_iff_ne.mpr c63
                          have c63b1 : (((rd_TSchema l0 x14_3).f0).toList != a1_0.toList) = true := bne_iff_ne.mpr c63
                          by_cases c68 : x14_3 < (t268.length : Int)
                          · rw [if_pos c68] at H
                            have c68b0 : decide (x14_3 < (t268.length : Int)) = true := decide_eq_true c68
                            clear c68
                            replace H := Option.bind_eq_some_iff.mp H
                            obtain ⟨t290, A690, H⟩ := H
                            replace H : (if t290 = true then (if ((rd_TSchema t268 x14_3).f0).toList = ((rd_TSchema l0 x14_3).f0).toList then (towncrierlaw07_RegistryAdds.l0 k3 l0 t268 (wrap64 (x14_3 + 1)) a1_0 a1_1 l1_2) else (some false)) else (some false)) = some r := H
                            have A69 := Aside0.mk A690
                            clear A690
                            by_cases c70 : t290 = true
                            · subst c70
                              have H1 : (if ((rd_TSchema t268 x14_3).f0).toList = ((rd_TSchema l0 x14_3).f0).toList then (towncrierlaw07_RegistryAdds.l0 k3 l0 t268 (wrap64 (x14_3 + 1)) a1_0 a1_1 l1_2) else (some false)) = some r := by rw [if_pos rfl] at H; exact H
                              clear H
                              have H := H1
                              clear H1
                              by_cases c71 : ((rd_TSchema t268 x14_3).f0).toList = ((rd_TSchema l0 x14_3).f0).toList
                              · rw [if_pos c71] at H
                                have c71b0 : (((rd_TSchema t268 x14_3).f0).toList == ((rd_TSchema l0 x14_3).f0).toList) = true := beq_iff_eq.mpr c71
                                have c71b1 : (((rd_TSchema t268 x14_3).f0).toList != ((rd_TSchema l0 x14_3).f0).toList) = false := bne_eq_false_iff_eq.mpr c71
                                clear c71
                                have H' := Aside0.mk H
                                clear H
                                try go_wp2
                                have n0_ := Aside0.mk (Kd.S_drew HO_8.out)
                                have n1_ := Aside0.mk (Kd.R_drew HO_279002.out)
                                have n2_ := Aside0.mk (blk_drew BK264.out)
                                have n3_ := Aside0.mk (blk_drew BK278.out)
                                have n4_ := Aside0.mk (below_drew1 HB.out)
                                clear HO_8
                                clear HO_279002
                                clear BK264
                                clear BK278
                                clear HB
                                have HO_8 := n0_
                                have HO_279002 := n1_
                                have BK264 := n2_
                                have BK278 := n3_
                                have HB := n4_
                                clear n0_ n1_ n2_ n3_ n4_
                                have p285 : 0 ≤ (x14_3 : Int) := of_decide_eq_true (by first | (with_reducible assumption) | assumption)
                                have q285 : x14_3 < (l0.length : Int) := of_decide_eq_true (by first | (with_reducible assumption) | assumption)
                                obtain ⟨ad285, A285_2, c285_2, e285, hx285_0, hx285_1, hx285_2, hl285_2, hi285_2⟩ := at_TSchema HR0.out x14_3 p285 q285
                                have hw285_2 := hx285_2
                                have hw285_1 := hx285_1
                                have hw285_0 := hx285_0
                                cases e285
                                replace hx285_0 := (HB.out.cell (World.block_lt_of_cell? w _ hx285_0)).trans hx285_0
                                replace hx285_1 := (HB.out.cell (World.block_lt_of_cell? w _ hx285_1)).trans hx285_1
                                replace hx285_2 := (HB.out.cell (World.block_lt_of_cell? w _ hx285_2)).trans hx285_2
                                have HR285_2 := Aside0.mk hi285_2
                                have HC285_2 := Aside0.mk hl285_2
                                clear hi285_2 hl285_2
                                replace p285 := eq_true p285
                                replace q285 := eq_true q285
                                have p288 : 0 ≤ (x14_3 : Int) := of_decide_eq_true (by first | (with_reducible assumption) | assumption)
                                have q288 : x14_3 < (t268.length : Int) := of_decide_eq_true (by first | (with_reducible assumption) | assumption)
                                obtain ⟨ad288, A288_2, c288_2, e288, hx288_0, hx288_1, hx288_2, hl288_2, hi288_2⟩ := at_TSchema (Kd.S_reads' HO_8.out).2.2 x14_3 p288 q288
                                cases e288
                                obtain ⟨ce288, hce288, hMe288, hcc288⟩ := Kd.S_get HO_8.out zSchema x14_3 p288 (by first | exact q288 | exact of_decide_eq_true (by first | (with_reducible assumption) | assumption) | (have e_ := (Kd.S_reads' HO_8.out).1; omega))
                                obtain ⟨ve288_2, rfl, ge288_2⟩ := kSchema_openM hMe288
                                have hv288_2 := hcc288 2 _ rfl
                                rw [add_field _ _ 2 (by omega)] at hv288_2
                                replace hv288_2 := Option.some.inj (hv288_2.symm.trans hx288_2)
                                rw [hv288_2] at ge288_2
                                have HL288_2 := Aside0.mk (show Kd.R kField 39 _ _ _ _ ((rd_TSchema t268 x14_3).f2) from ge288_2)
                                clear hv288_2 ge288_2
                                clear hcc288 hce288
                                have HR288_2 := Aside0.mk hi288_2
                                have HC288_2 := Aside0.mk hl288_2
                                clear hi288_2 hl288_2
                                replace p288 := eq_true p288
                                replace q288 := eq_true q288
                                have p289 : 0 ≤ (x14_3 : Int) := of_decide_eq_true (by first | (with_reducible assumption) | assumption)
                                have q289 : x14_3 < (l0.length : Int) := of_decide_eq_true (by first | (with_reducible assumption) | assumption)
                                obtain ⟨ad289, A289_2, c289_2, e289, hx289_0, hx289_1, hx289_2, hl289_2, hi289_2⟩ := at_TSchema HR0.out x14_3 p289 q289
                                have hw289_2 := hx289_2
                                have hw289_1 := hx289_1
                                have hw289_0 := hx289_0
                                obtain rfl : ad285 = ad289 := (by injection e289)
                                replace hx289_0 := (HB.out.cell (World.block_lt_of_cell? w _ hx289_0)).trans hx289_0
                                replace hx289_1 := (HB.out.cell (World.block_lt_of_cell? w _ hx289_1)).trans hx289_1
                                replace hx289_2 := (HB.out.cell (World.block_lt_of_cell? w _ hx289_2)).trans hx289_2
                                have HR289_2 := Aside0.mk hi289_2
                                have HC289_2 := Aside0.mk hl289_2
                                clear hi289_2 hl289_2
                                replace p289 := eq_true p289
                                replace q289 := eq_true q289
                                have ea_ := Option.some.inj (hx285_2.symm.trans hx289_2)
                                injection ea_ with ea_ en_ ec_
                                subst ea_
                                subst ec_
                                clear en_
                                have p291 : 0 ≤ (x14_3 : Int) := of_decide_eq_true (by first | (with_reducible assumption) | assumption)
                                have q291 : x14_3 < (t268.length : Int) := of_decide_eq_true (by first | (with_reducible assumption) | assumption)
                                obtain ⟨ad291, A291_2, c291_2, e291, hx291_0, hx291_1, hx291_2, hl291_2, hi291_2⟩ := at_TSchema (Kd.S_reads' HO_8.out).2.2 x14_3 p291 q291
                                obtain rfl : ad288 = ad291 := (by injection e291)
                                obtain ⟨ce291, hce291, hMe291, hcc291⟩ := Kd.S_get HO_8.out zSchema x14_3 p291 (by first | exact q291 | exact of_decide_eq_true (by first | (with_reducible assumption) | assumption) | (have e_ := (Kd.S_reads' HO_8.out).1; omega))
                                obtain ⟨ve291_2, rfl, ge291_2⟩ := kSchema_openM hMe291
                                have hv291_2 := hcc291 2 _ rfl
                                rw [add_field _ _ 2 (by omega)] at hv291_2
                                replace hv291_2 := Option.some.inj (hv291_2.symm.trans hx291_2)
                                rw [hv291_2] at ge291_2
                                have HL291_2 := Aside0.mk (show Kd.R kField 39 _ _ _ _ ((rd_TSchema t268 x14_3).f2) from ge291_2)
                                clear hv291_2 ge291_2
                                clear hcc291 hce291
                                have HR291_2 := Aside0.mk hi291_2
                                have HC291_2 := Aside0.mk hl291_2
                                clear hi291_2 hl291_2
                                replace p291 := eq_true p291
                                replace q291 := eq_true q291
                                have p292 : 0 ≤ (x14_3 : Int) := of_decide_eq_true (by first | (with_reducible assumption) | assumption)
                                have q292 : x14_3 < (l0.length : Int) := of_decide_eq_true (by first | (with_reducible assumption) | assumption)
                                obtain ⟨ad292, A292_2, c292_2, e292, hx292_0, hx292_1, hx292_2, hl292_2, hi292_2⟩ := at_TSchema HR0.out x14_3 p292 q292
                                have hw292_2 := hx292_2
                                have hw292_1 := hx292_1
                                have hw292_0 := hx292_0
                                obtain rfl : ad285 = ad292 := (by injection e292)
                                replace hx292_0 := (HB.out.cell (World.block_lt_of_cell? w _ hx292_0)).trans hx292_0
                                replace hx292_1 := (HB.out.cell (World.block_lt_of_cell? w _ hx292_1)).trans hx292_1
                                replace hx292_2 := (HB.out.cell (World.block_lt_of_cell? w _ hx292_2)).trans hx292_2
                                have HR292_2 := Aside0.mk hi292_2
                                have HC292_2 := Aside0.mk hl292_2
                                clear hi292_2 hl292_2
                                replace p292 := eq_true p292
                                replace q292 := eq_true q292
                                refine start_ (n := 33) (S := fun w' => w'.cell? ⟨gb264, 0, none⟩ = some (.string a1_0) ∧ w'.cell? ⟨gb264, 1, none⟩ = some (.int .i64 a1_1) ∧ w'.cell? ⟨gb264, 2, none⟩ = some (.slice A1_2 l1_2.length c1_2) ∧ w'.cell? (ad285.add ((x14_3).toNat * 3)) = some (.string ((rd_TSchema l0 x14_3).f0)) ∧ w'.cell? ⟨(ad285.add ((x14_3).toNat * 3)).block, (ad285.add ((x14_3).toNat * 3)).off + 1, none⟩ = some (.int .i64 ((rd_TSchema l0 x14_3).f1)) ∧ w'.cell? ⟨(ad285.add ((x14_3).toNat * 3)).block, (ad285.add ((x14_3).toNat * 3)).off + 2, none⟩ = some (.slice A285_2 ((rd_TSchema l0 x14_3).f2).length c285_2) ∧ w'.cell? (ad288.add ((x14_3).toNat * 3)) = some (.string ((rd_TSchema t268 x14_3).f0)) ∧ w'.cell? ⟨(ad288.add ((x14_3).toNat * 3)).block, (ad288.add ((x14_3).toNat * 3)).off + 1, none⟩ = some (.int .i64 ((rd_TSchema t268 x14_3).f1)) ∧ w'.cell? ⟨(ad288.add ((x14_3).toNat * 3)).block, (ad288.add ((x14_3).toNat * 3)).off + 2, none⟩ = some (.slice A288_2 ((rd_TSchema t268 x14_3).f2).length c288_2) ∧ w'.cell? (ad285.add ((x14_3).toNat * 3)) = some (.string ((rd_TSchema l0 x14_3).f0)) ∧ w'.cell? ⟨(ad285.add ((x14_3).toNat * 3)).block, (ad285.add ((x14_3).toNat * 3)).off + 1, none⟩ = some (.int .i64 ((rd_TSchema l0 x14_3).f1)) ∧ w'.cell? ⟨(ad285.add ((x14_3).toNat * 3)).block, (ad285.add ((x14_3).toNat * 3)).off + 2, none⟩ = some (.slice A285_2 ((rd_TSchema l0 x14_3).f2).length c285_2) ∧ w'.cell? (ad288.add ((x14_3).toNat * 3)) = some (.string ((rd_TSchema t268 x14_3).f0)) ∧ w'.cell? ⟨(ad288.add ((x14_3).toNat * 3)).block, (ad288.add ((x14_3).toNat * 3)).off + 1, none⟩ = some (.int .i64 ((rd_TSchema t268 x14_3).f1)) ∧ w'.cell? ⟨(ad288.add ((x14_3).toNat * 3)).block, (ad288.add ((x14_3).toNat * 3)).off + 2, none⟩ = some (.slice A291_2 ((rd_TSchema t268 x14_3).f2).length c291_2) ∧ w'.cell? (ad285.add ((x14_3).toNat * 3)) = some (.string ((rd_TSchema l0 x14_3).f0)) ∧ w'.cell? ⟨(ad285.add ((x14_3).toNat * 3)).block, (ad285.add ((x14_3).toNat * 3)).off + 1, none⟩ = some (.int .i64 ((rd_TSchema l0 x14_3).f1)) ∧ w'.cell? ⟨(ad285.add ((x14_3).toNat * 3)).block, (ad285.add ((x14_3).toNat * 3)).off + 2, none⟩ = some (.slice A292_2 ((rd_TSchema l0 x14_3).f2).length c292_2)) (ds := []) #[false, false, false, false, false, false, false, false, false, false, false, false, false, false, false, false, false, false, false, false, false, false, false, false, false, false, false, false, false, false, false, false, false] (by kernel_rfl) rfl rfl ⟨(blk_cell BK264.out 0).trans rfl, (blk_cell BK264.out 1).trans rfl, (blk_cell BK264.out 2).trans rfl, ((HB.out.cell (World.block_lt_of_cell? w _ hw285_0)).trans hw285_0), ((HB.out.cell (World.block_lt_of_cell? w _ hw285_1)).trans hw285_1), ((HB.out.cell (World.block_lt_of_cell? w _ hw285_2)).trans hw285_2), hx288_0, hx288_1, hx288_2, ((HB.out.cell (World.block_lt_of_cell? w _ hw289_0)).trans hw289_0), ((HB.out.cell (World.block_lt_of_cell? w _ hw289_1)).trans hw289_1), ((HB.out.cell (World.block_lt_of_cell? w _ hw289_2)).trans hw289_2), hx291_0, hx291_1, hx291_2, ((HB.out.cell (World.block_lt_of_cell? w _ hw292_0)).trans hw292_0), ((HB.out.cell (World.block_lt_of_cell? w _ hw292_1)).trans hw292_1), ((HB.out.cell (World.block_lt_of_cell? w _ hw292_2)).trans hw292_2)⟩ (fun hHeld => ?_); refine with_tabW towncrierlaw07_RegistryAdds.tab16 towncrierlaw07_RegistryAdds.bits16 (fun HT_ HW_ => ?_)
                                generalize wr.drew = w72 at HO_8 HO_279002 BK264 BK278 HB HL288_2 HL291_2 HR285_2 HR288_2 HR289_2 HR291_2 HR292_2 hx285_0 hx285_1 hx285_2 hx288_0 hx288_1 hx288_2 hx289_0 hx289_1 hx289_2 hx291_0 hx291_1 hx291_2 hx292_0 hx292_1 hx292_2 hHeld ⊢
                                refine pure_ (i := 0) (N := some 93) (v := ?_) (a' := ?_) #[true, false, false, false, false, false, false, false, false, false, false, false, false, false, false, false, false, false, false, false, false, false, false, false, false, false, false, false, false, false, false, false, false] rfl rfl (any_of HT_.out (by kernel_rfl)) (fun _ _ _ h => h) (Or.inl ⟨by rfl, ?_⟩) ?_ ?_
                                rotate_left
                                · intro w'
                                  go_simp
                                  with_reducible rfl
                                rotate_left
                                · simp only [Act.put, List.setIfInBounds_toArray, List.set_cons_zero, List.set_cons_succ, i64_w, i32_w]
                                  rfl
                                refine pure_ (i := 1) (N := some 94) (v := ?_) (a' := ?_) #[true, true, false, false, false, false, false, false, false, false, false, false, false, false, false, false, false, false, false, false, false, false, false, false, false, false, false, false, false, false, false, false, false] rfl rfl (any_of HT_.out (by kernel_rfl)) (fun _ _ _ h => h) (Or.inl ⟨by rfl, ?_⟩) ?_ ?_
                                rotate_left
                                · intro w'
                                  go_simp
                                  with_reducible rfl
                                rotate_left
                                · simp only [Act.put, List.setIfInBounds_toArray, List.set_cons_zero, List.set_cons_succ, i64_w, i32_w]
                                  rfl
                                refine pure_ (i := 2) (N := some 95) (v := ?_) (a' := ?_) #[true, true, true, false, false, false, false, false, false, false, false, false, false, false, false, false, false, false, false, false, false, false, false, false, false, false, false, false, false, false, false, false, false] rfl rfl (any_of HT_.out (by kernel_rfl)) (fun _ _ _ h => h) (Or.inl ⟨by rfl, ?_⟩) ?_ ?_
                                rotate_left
                                · intro w'
                                  go_simp
                                  with_reducible rfl
                                rotate_left
                                · simp only [Act.put, List.setIfInBounds_toArray, List.set_cons_zero, List.set_cons_succ, i64_w, i32_w]
                                  rfl
                                refine pure_ (i := 3) (N := some 96) (v := ?_) (a' := ?_) #[true, true, true, true, false, false, false, false, false, false, false, false, false, false, false, false, false, false, false, false, false, false, false, false, false, false, false, false, false, false, false, false, false] rfl rfl (any_of HT_.out (by kernel_rfl)) (fun _ _ _ h => h) (Or.inl ⟨by rfl, ?_⟩) ?_ ?_
                                rotate_left
                                · intro w'
                                  go_simp
                                  with_reducible rfl
                                rotate_left
                                · simp only [Act.put, List.setIfInBounds_toArray, List.set_cons_zero, List.set_cons_succ, i64_w, i32_w]
                                  rfl
                                refine pure_ (i := 5) (N := some 98) (v := ?_) (a' := ?_) #[true, true, true, true, false, true, false, false, false, false, false, false, false, false, false, false, false, false, false, false, false, false, false, false, false, false, false, false, false, false, false, false, false] rfl rfl (any_of HT_.out (by kernel_rfl)) (fun _ _ _ h => h) (Or.inl ⟨by rfl, ?_⟩) ?_ ?_
                                rotate_left
                                · intro w'
                                  go_simp
                                  with_reducible rfl
                                rotate_left
                                · simp only [Act.put, List.setIfInBounds_toArray, List.set_cons_zero, List.set_cons_succ, i64_w, i32_w]
                                  rfl
                                refine take_ (i := 4) (N := some 97) (v := ?_) (a' := ?_) #[true, true, true, true, true, true, false, false, false, false, false, false, false, false, false, false, false, false, false, false, false, false, false, false, false, false, false, false, false, false, false, false, false] rfl rfl (take_ofW HT_.out HW_.out (by kernel_rfl)) (fun _ _ _ h => h) (Or.inl ⟨by rfl, ?_⟩) hHeld ?_ ?_
                                rotate_left
                                · rintro w' ⟨s0, s1, s2, s3, s4, s5, s6, s7, s8, s9, s10, s11, s12, s13, s14, s15, s16, s17⟩
                                  go_simp
                                  with_reducible rfl
                                rotate_left
                                · simp only [Act.put, List.setIfInBounds_toArray, List.set_cons_zero, List.set_cons_succ, i64_w, i32_w]
                                  rfl
                                refine take_ (i := 6) (N := some 99) (v := ?_) (a' := ?_) #[true, true, true, true, true, true, true, false, false, false, false, false, false, false, false, false, false, false, false, false, false, false, false, false, false, false, false, false, false, false, false, false, false] rfl rfl (take_ofW HT_.out HW_.out (by kernel_rfl)) (fun _ _ _ h => h) (Or.inl ⟨by rfl, ?_⟩) hHeld ?_ ?_
                                rotate_left
                                · rintro w' ⟨s0, s1, s2, s3, s4, s5, s6, s7, s8, s9, s10, s11, s12, s13, s14, s15, s16, s17⟩
                                  go_simp
                                  with_reducible rfl
                                rotate_left
                                · simp only [Act.put, List.setIfInBounds_toArray, List.set_cons_zero, List.set_cons_succ, i64_w, i32_w]
                                  rfl
                                refine pure_ (i := 7) (N := some 100) (v := ?_) (a' := ?_) #[true, true, true, true, true, true, true, true, false, false, false, false, false, false, false, false, false, false, false, false, false, false, false, false, false, false, false, false, false, false, false, false, false] rfl rfl (any_of HT_.out (by kernel_rfl)) (fun _ _ _ h => h) (Or.inl ⟨by rfl, ?_⟩) ?_ ?_
                                rotate_left
                                · intro w'
                                  go_simp
                                  with_reducible rfl
                                rotate_left
                                · simp only [Act.put, List.setIfInBounds_toArray, List.set_cons_zero, List.set_cons_succ, i64_w, i32_w]
                                  rfl
                                refine pure_ (i := 8) (N := some 101) (v := ?_) (a' := ?_) #[true, true, true, true, true, true, true, true, true, false, false, false, false, false, false, false, false, false, false, false, false, false, false, false, false, false, false, false, false, false, false, false, false] rfl rfl (any_of HT_.out (by kernel_rfl)) (fun _ _ _ h => h) (Or.inl ⟨by rfl, ?_⟩) ?_ ?_
                                rotate_left
                                · intro w'
                                  go_simp
                                  with_reducible rfl
                                rotate_left
                                · simp only [Act.put, List.setIfInBounds_toArray, List.set_cons_zero, List.set_cons_succ, i64_w, i32_w]
                                  rfl
                                refine pure_ (i := 9) (N := some 102) (v := ?_) (a' := ?_) #[true, true, true, true, true, true, true, true, true, true, false, false, false, false, false, false, false, false, false, false, false, false, false, false, false, false, false, false, false, false, false, false, false] rfl rfl (any_of HT_.out (by kernel_rfl)) (fun _ _ _ h => h) (Or.inl ⟨by rfl, ?_⟩) ?_ ?_
                                rotate_left
                                · intro w'
                                  go_simp
                                  with_reducible rfl
                                rotate_left
                                · simp only [Act.put, List.setIfInBounds_toArray, List.set_cons_zero, List.set_cons_succ, i64_w, i32_w]
                                  rfl
                                refine pure_ (i := 10) (N := some 103) (v := ?_) (a' := ?_) #[true, true, true, true, true, true, true, true, true, true, true, false, false, false, false, false, false, false, false, false, false, false, false, false, false, false, false, false, false, false, false, false, false] rfl rfl (any_of HT_.out (by kernel_rfl)) (fun _ _ _ h => h) (Or.inl ⟨by rfl, ?_⟩) ?_ ?_
                                rotate_left
                                · intro w'
                                  go_simp
                                  with_reducible rfl
                                rotate_left
                                · simp only [Act.put, List.setIfInBounds_toArray, List.set_cons_zero, List.set_cons_succ, i64_w, i32_w]
                                  rfl
                                refine pure_ (i := 11) (N := some 104) (v := ?_) (a' := ?_) #[true, true, true, true, true, true, true, true, true, true, true, true, false, false, false, false, false, false, false, false, false, false, false, false, false, false, false, false, false, false, false, false, false] rfl rfl (any_of HT_.out (by kernel_rfl)) (fun _ _ _ h => h) (Or.inl ⟨by rfl, ?_⟩) ?_ ?_
                                rotate_left
                                · intro w'
                                  go_simp
                                  with_reducible rfl
                                rotate_left
                                · simp only [Act.put, List.setIfInBounds_toArray, List.set_cons_zero, List.set_cons_succ, i64_w, i32_w]
                                  rfl
                                refine pure_ (i := 13) (N := some 106) (v := ?_) (a' := ?_) #[true, true, true, true, true, true, true, true, true, true, true, true, false, true, false, false, false, false, false, false, false, false, false, false, false, false, false, false, false, false, false, false, false] rfl rfl (any_of HT_.out (by kernel_rfl)) (fun _ _ _ h => h) (Or.inl ⟨by rfl, ?_⟩) ?_ ?_
                                rotate_left
                                · intro w'
                                  go_simp
                                  with_reducible rfl
                                rotate_left
                                · simp only [Act.put, List.setIfInBounds_toArray, List.set_cons_zero, List.set_cons_succ, i64_w, i32_w]
                                  rfl
                                refine pure_ (i := 14) (N := some 107) (v := ?_) (a' := ?_) #[true, true, true, true, true, true, true, true, true, true, true, true, false, true, true, false, false, false, false, false, false, false, false, false, false, false, false, false, false, false, false, false, false] rfl rfl (any_of HT_.out (by kernel_rfl)) (fun _ _ _ h => h) (Or.inl ⟨by rfl, ?_⟩) ?_ ?_
                                rotate_left
                                · intro w'
                                  go_simp
                                  with_reducible rfl
                                rotate_left
                                · simp only [Act.put, List.setIfInBounds_toArray, List.set_cons_zero, List.set_cons_succ, i64_w, i32_w]
                                  rfl
                                refine pure_ (i := 15) (N := some 108) (v := ?_) (a' := ?_) #[true, true, true, true, true, true, true, true, true, true, true, true, false, true, true, true, false, false, false, false, false, false, false, false, false, false, false, false, false, false, false, false, false] rfl rfl (any_of HT_.out (by kernel_rfl)) (fun _ _ _ h => h) (Or.inl ⟨by rfl, ?_⟩) ?_ ?_
                                rotate_left
                                · intro w'
                                  go_simp
                                  with_reducible rfl
                                rotate_left
                                · simp only [Act.put, List.setIfInBounds_toArray, List.set_cons_zero, List.set_cons_succ, i64_w, i32_w]
                                  rfl
                                refine take_ (i := 12) (N := some 105) (v := ?_) (a' := ?_) #[true, true, true, true, true, true, true, true, true, true, true, true, true, true, true, true, false, false, false, false, false, false, false, false, false, false, false, false, false, false, false, false, false] rfl rfl (take_ofW HT_.out HW_.out (by kernel_rfl)) (fun _ _ _ h => h) (Or.inl ⟨by rfl, ?_⟩) hHeld ?_ ?_
                                rotate_left
                                · rintro w' ⟨s0, s1, s2, s3, s4, s5, s6, s7, s8, s9, s10, s11, s12, s13, s14, s15, s16, s17⟩
                                  go_simp
                                  with_reducible rfl
                                rotate_left
                                · simp only [Act.put, List.setIfInBounds_toArray, List.set_cons_zero, List.set_cons_succ, i64_w, i32_w]
                                  rfl
                                refine take_ (i := 16) (N := some 109) (v := ?_) (a' := ?_) #[true, true, true, true, true, true, true, true, true, true, true, true, true, true, true, true, true, false, false, false, false, false, false, false, false, false, false, false, false, false, false, false, false] rfl rfl (take_ofW HT_.out HW_.out (by kernel_rfl)) (fun _ _ _ h => h) (Or.inl ⟨by rfl, ?_⟩) hHeld ?_ ?_
                                rotate_left
                                · rintro w' ⟨s0, s1, s2, s3, s4, s5, s6, s7, s8, s9, s10, s11, s12, s13, s14, s15, s16, s17⟩
                                  go_simp
                                  with_reducible rfl
                                rotate_left
                                · simp only [Act.put, List.setIfInBounds_toArray, List.set_cons_zero, List.set_cons_succ, i64_w, i32_w]
                                  rfl
                                refine one_ (i := 17) (N := some 110) #[true, true, true, true, true, true, true, true, true, true, true, true, true, true, true, true, true, true, false, false, false, false, false, false, false, false, false, false, false, false, false, false, false] rfl rfl (one_of HT_.out (by kernel_rfl)) (by decide) (fun K hK => ?_)
                                refine goes_ Try.func27 (by kernel_rfl) rfl #[.agg #[.string ((rd_TSchema t268 x14_3).f0), .int .i64 ((rd_TSchema t268 x14_3).f1), .slice A288_2 ((rd_TSchema t268 x14_3).f2).length c288_2], .agg #[.string ((rd_TSchema l0 x14_3).f0), .int .i64 ((rd_TSchema l0 x14_3).f1), .slice A285_2 ((rd_TSchema l0 x14_3).f2).length c285_2]] (by rfl) rfl rfl (by (try simp only [List.map_toArray, List.map_cons, List.map_nil]); first | done | rfl | (simp only [List.length_drop, List.length_take]; rfl)) ?_
                                with_reducible refine (schema_Same.calls k3 ((rd_TSchema t268 x14_3).f0) ((rd_TSchema t268 x14_3).f1) _ _ ((rd_TSchema t268 x14_3).f2) ((rd_TSchema l0 x14_3).f0) ((rd_TSchema l0 x14_3).f1) _ _ ((rd_TSchema l0 x14_3).f2) true _ ?side1 ?side2 ?side3 ?side4 A69.out).mono ?_
                                (case side1 => repeat (first | exact (by repeat (first | (with_reducible exact HR288_2.out) | (with_reducible refine Kd.C_alloc ?_ _) | (with_reducible refine Kd.C_drewN ?_ _) | (with_reducible refine Kd.C_drew ?_) | exact HR288_2.out)) | (with_reducible refine Kd.C_alloc ?_ _) | (with_reducible refine Kd.C_drewN ?_ _) | (with_reducible refine Kd.C_drew ?_)))
                                (case side2 => exact HC288_2.out)
                                (case side3 => repeat (first | exact (Kd.C_below HR289_2.out HB.out) | (with_reducible refine Kd.C_alloc ?_ _) | (with_reducible refine Kd.C_drewN ?_ _) | (with_reducible refine Kd.C_drew ?_)))
                                (case side4 => exact HC289_2.out)
                                rintro e w73 ⟨rfl, hb⟩
                                have HS6_ := (hb.cell (World.block_lt_of_cell? _ _ (hHeld.2.2.2.2.2.2.1))).trans (hHeld.2.2.2.2.2.2.1)
                                have HS7_ := (hb.cell (World.block_lt_of_cell? _ _ (hHeld.2.2.2.2.2.2.2.1))).trans (hHeld.2.2.2.2.2.2.2.1)
                                have HS8_ := (hb.cell (World.block_lt_of_cell? _ _ (hHeld.2.2.2.2.2.2.2.2.1))).trans (hHeld.2.2.2.2.2.2.2.2.1)
                                have HS12_ := (hb.cell (World.block_lt_of_cell? _ _ (hHeld.2.2.2.2.2.2.2.2.2.2.2.2.1))).trans (hHeld.2.2.2.2.2.2.2.2.2.2.2.2.1)
                                have HS13_ := (hb.cell (World.block_lt_of_cell? _ _ (hHeld.2.2.2.2.2.2.2.2.2.2.2.2.2.1))).trans (hHeld.2.2.2.2.2.2.2.2.2.2.2.2.2.1)
                                have HS14_ := (hb.cell (World.block_lt_of_cell? _ _ (hHeld.2.2.2.2.2.2.2.2.2.2.2.2.2.2.1))).trans (hHeld.2.2.2.2.2.2.2.2.2.2.2.2.2.2.1)
                                refine ⟨_, rfl, ?_⟩
                                have n0_ := Aside0.mk (Kd.S_below (by (with_reducible repeat (first | apply Kd.S_alloc | apply Kd.S_drewN | apply Kd.S_drew)); exact HO_8.out) hb)
                                have n1_ := Aside0.mk (Kd.R_below (by (with_reducible repeat (first | apply Kd.R_alloc | apply Kd.R_drewN | apply Kd.R_drew)); exact HO_279002.out) hb)
                                have n2_ := Aside0.mk (Kd.R_below (by (with_reducible repeat (first | apply Kd.R_alloc | apply Kd.R_drewN | apply Kd.R_drew)); exact HL288_2.out) hb)
                                have n3_ := Aside0.mk (blk_below (g := gb264) (o := .cells #[.string a1_0, .int .i64 a1_1, .slice A1_2 l1_2.length c1_2] 25 (0, 0)) (by (with_reducible repeat (first | refine blk_drewN ?_ _ | refine blk_drew ?_ | refine blk_alloc ?_ _)); exact BK264.out) hb)
                                have n4_ := Aside0.mk (blk_below (g := gb278) (o := .cells #[.string t272, .int .i64 t273, .slice Ao28 t274.length co28] 25 (0, 0)) (by (with_reducible repeat (first | refine blk_drewN ?_ _ | refine blk_drew ?_ | refine blk_alloc ?_ _)); exact BK278.out) hb)
                                have n5_ := Aside0.mk (Kd.C_below (by repeat (first | (with_reducible exact HR288_2.out) | (with_reducible refine Kd.C_alloc ?_ _) | (with_reducible refine Kd.C_drewN ?_ _) | (with_reducible refine Kd.C_drew ?_) | exact HR288_2.out)) hb)
                                have n6_ := Aside0.mk (below_step (by repeat (first | (with_reducible first | exact HB.out | apply below_alloc | apply pw_below_drewN | apply below_drew1 | refine below_set ?_ GE264.out | refine below_set ?_ GE278.out) | exact HB.out)) hb)
                                clear HO_8
                                clear HO_279002
                                clear HL288_2
                                clear BK264
                                clear BK278
                                clear HR288_2
                                clear HB
                                have HO_8 := n0_
                                have HO_279002 := n1_
                                have HL288_2 := n2_
                                have BK264 := n3_
                                have BK278 := n4_
                                have HR288_2 := n5_
                                have HB := n6_
                                clear n0_ n1_ n2_ n3_ n4_ n5_ n6_
                                (try clear hb)
                                (try clear hb2)
                                (try clear hk)
                                (try clear hi)
                                refine hK.out _ _ ⟨(blk_cell BK264.out 0).trans rfl, (blk_cell BK264.out 1).trans rfl, (blk_cell BK264.out 2).trans rfl, ((HB.out.cell (World.block_lt_of_cell? w _ hw285_0)).trans hw285_0), ((HB.out.cell (World.block_lt_of_cell? w _ hw285_1)).trans hw285_1), ((HB.out.cell (World.block_lt_of_cell? w _ hw285_2)).trans hw285_2), HS6_, HS7_, HS8_, ((HB.out.cell (World.block_lt_of_cell? w _ hw289_0)).trans hw289_0), ((HB.out.cell (World.block_lt_of_cell? w _ hw289_1)).trans hw289_1), ((HB.out.cell (World.block_lt_of_cell? w _ hw289_2)).trans hw289_2), HS12_, HS13_, HS14_, ((HB.out.cell (World.block_lt_of_cell? w _ hw292_0)).trans hw292_0), ((HB.out.cell (World.block_lt_of_cell? w _ hw292_1)).trans hw292_1), ((HB.out.cell (World.block_lt_of_cell? w _ hw292_2)).trans hw292_2)⟩ (fun hHeld => ?_)
                                clear hK K
                                refine norm_ (a' := ?_) ?_ ?_
                                rotate_left
                                · show Act.put _ (some 110) _ = _
                                  simp only [Act.put, List.setIfInBounds_toArray, List.set_cons_zero, List.set_cons_succ, i64_w, i32_w]
                                  rfl
                                refine pure_ (i := 18) (N := some 111) (v := ?_) (a' := ?_) #[true, true, true, true, true, true, true, true, true, true, true, true, true, true, true, true, true, true, true, false, false, false, false, false, false, false, false, false, false, false, false, false, false] rfl rfl (any_of HT_.out (by kernel_rfl)) (fun _ _ _ h => h) (Or.inl ⟨by rfl, ?_⟩) ?_ ?_
                                rotate_left
                                · intro w'
                                  go_simp
                                  with_reducible rfl
                                rotate_left
                                · simp only [Act.put, List.setIfInBounds_toArray, List.set_cons_zero, List.set_cons_succ, i64_w, i32_w]
                                  rfl
                                refine pure_ (i := 19) (N := some 112) (v := ?_) (a' := ?_) #[true, true, true, true, true, true, true, true, true, true, true, true, true, true, true, true, true, true, true, true, false, false, false, false, false, false, false, false, false, false, false, false, false] rfl rfl (any_of HT_.out (by kernel_rfl)) (fun _ _ _ h => h) (Or.inl ⟨by rfl, ?_⟩) ?_ ?_
                                rotate_left
                                · intro w'
                                  go_simp
                                  with_reducible rfl
                                rotate_left
                                · simp only [Act.put, List.setIfInBounds_toArray, List.set_cons_zero, List.set_cons_succ, i64_w, i32_w]
                                  rfl
                                refine pure_ (i := 20) (N := some 113) (v := ?_) (a' := ?_) #[true, true, true, true, true, true, true, true, true, true, true, true, true, true, true, true, true, true, true, true, true, false, false, false, false, false, false, false, false, false, false, false, false] rfl rfl (any_of HT_.out (by kernel_rfl)) (fun _ _ _ h => h) (Or.inl ⟨by rfl, ?_⟩) ?_ ?_
                                rotate_left
                                · intro w'
                                  go_simp
                                  with_reducible rfl
                                rotate_left
                                · simp only [Act.put, List.setIfInBounds_toArray, List.set_cons_zero, List.set_cons_succ, i64_w, i32_w]
                                  rfl
                                refine pure_ (i := 21) (N := some 114) (v := ?_) (a' := ?_) #[true, true, true, true, true, true, true, true, true, true, true, true, true, true, true, true, true, true, true, true, true, true, false, false, false, false, false, false, false, false, false, false, false] rfl rfl (any_of HT_.out (by kernel_rfl)) (fun _ _ _ h => h) (Or.inl ⟨by rfl, ?_⟩) ?_ ?_
                                rotate_left
                                · intro w'
                                  go_simp
                                  with_reducible rfl
                                rotate_left
                                · simp only [Act.put, List.setIfInBounds_toArray, List.set_cons_zero, List.set_cons_succ, i64_w, i32_w]
                                  rfl
                                refine pure_ (i := 22) (N := some 115) (v := ?_) (a' := ?_) #[true, true, true, true, true, true, true, true, true, true, true, true, true, true, true, true, true, true, true, true, true, true, true, false, false, false, false, false, false, false, false, false, false] rfl rfl (any_of HT_.out (by kernel_rfl)) (fun _ _ _ h => h) (Or.inl ⟨by rfl, ?_⟩) ?_ ?_
                                rotate_left
                                · intro w'
                                  go_simp
                                  with_reducible rfl
                                rotate_left
                                · simp only [Act.put, List.setIfInBounds_toArray, List.set_cons_zero, List.set_cons_succ, i64_w, i32_w]
                                  rfl
                                refine pure_ (i := 23) (N := some 116) (v := ?_) (a' := ?_) #[true, true, true, true, true, true, true, true, true, true, true, true, true, true, true, true, true, true, true, true, true, true, true, true, false, false, false, false, false, false, false, false, false] rfl rfl (any_of HT_.out (by kernel_rfl)) (fun _ _ _ h => h) (Or.inl ⟨by rfl, ?_⟩) ?_ ?_
                                rotate_left
                                · intro w'
                                  go_simp
                                  with_reducible rfl
                                rotate_left
                                · simp only [Act.put, List.setIfInBounds_toArray, List.set_cons_zero, List.set_cons_succ, i64_w, i32_w]
                                  rfl
                                refine pure_ (i := 24) (N := some 117) (v := ?_) (a' := ?_) #[true, true, true, true, true, true, true, true, true, true, true, true, true, true, true, true, true, true, true, true, true, true, true, true, true, false, false, false, false, false, false, false, false] rfl rfl (any_of HT_.out (by kernel_rfl)) (fun _ _ _ h => h) (Or.inl ⟨by rfl, ?_⟩) ?_ ?_
                                rotate_left
                                · intro w'
                                  go_simp
                                  with_reducible rfl
                                rotate_left
                                · simp only [Act.put, List.setIfInBounds_toArray, List.set_cons_zero, List.set_cons_succ, i64_w, i32_w]
                                  rfl
                                refine pure_ (i := 26) (N := some 119) (v := ?_) (a' := ?_) #[true, true, true, true, true, true, true, true, true, true, true, true, true, true, true, true, true, true, true, true, true, true, true, true, true, false, true, false, false, false, false, false, false] rfl rfl (any_of HT_.out (by kernel_rfl)) (fun _ _ _ h => h) (Or.inl ⟨by rfl, ?_⟩) ?_ ?_
                                rotate_left
                                · intro w'
                                  go_simp
                                  with_reducible rfl
                                rotate_left
                                · simp only [Act.put, List.setIfInBounds_toArray, List.set_cons_zero, List.set_cons_succ, i64_w, i32_w]
                                  rfl
                                refine pure_ (i := 27) (N := some 120) (v := ?_) (a' := ?_) #[true, true, true, true, true, true, true, true, true, true, true, true, true, true, true, true, true, true, true, true, true, true, true, true, true, false, true, true, false, false, false, false, false] rfl rfl (any_of HT_.out (by kernel_rfl)) (fun _ _ _ h => h) (Or.inl ⟨by rfl, ?_⟩) ?_ ?_
                                rotate_left
                                · intro w'
                                  go_simp
                                  with_reducible rfl
                                rotate_left
                                · simp only [Act.put, List.setIfInBounds_toArray, List.set_cons_zero, List.set_cons_succ, i64_w, i32_w]
                                  rfl
                                refine pure_ (i := 28) (N := some 121) (v := ?_) (a' := ?_) #[true, true, true, true, true, true, true, true, true, true, true, true, true, true, true, true, true, true, true, true, true, true, true, true, true, false, true, true, true, false, false, false, false] rfl rfl (any_of HT_.out (by kernel_rfl)) (fun _ _ _ h => h) (Or.inl ⟨by rfl, ?_⟩) ?_ ?_
                                rotate_left
                                · intro w'
                                  go_simp
                                  with_reducible rfl
                                rotate_left
                                · simp only [Act.put, List.setIfInBounds_toArray, List.set_cons_zero, List.set_cons_succ, i64_w, i32_w]
                                  rfl
                                refine pure_ (i := 29) (N := some 122) (v := ?_) (a' := ?_) #[true, true, true, true, true, true, true, true, true, true, true, true, true, true, true, true, true, true, true, true, true, true, true, true, true, false, true, true, true, true, false, false, false] rfl rfl (any_of HT_.out (by kernel_rfl)) (fun _ _ _ h => h) (Or.inl ⟨by rfl, ?_⟩) ?_ ?_
                                rotate_left
                                · intro w'
                                  go_simp
                                  with_reducible rfl
                                rotate_left
                                · simp only [Act.put, List.setIfInBounds_toArray, List.set_cons_zero, List.set_cons_succ, i64_w, i32_w]
                                  rfl
                                refine take_ (i := 25) (N := some 118) (v := ?_) (a' := ?_) #[true, true, true, true, true, true, true, true, true, true, true, true, true, true, true, true, true, true, true, true, true, true, true, true, true, true, true, true, true, true, false, false, false] rfl rfl (take_ofW HT_.out HW_.out (by kernel_rfl)) (fun _ _ _ h => h) (Or.inl ⟨by rfl, ?_⟩) hHeld ?_ ?_
                                rotate_left
                                · rintro w' ⟨s0, s1, s2, s3, s4, s5, s6, s7, s8, s9, s10, s11, s12, s13, s14, s15, s16, s17⟩
                                  go_simp
                                  with_reducible rfl
                                rotate_left
                                · simp only [Act.put, List.setIfInBounds_toArray, List.set_cons_zero, List.set_cons_succ, i64_w, i32_w]
                                  rfl
                                refine take_ (i := 30) (N := some 123) (v := ?_) (a' := ?_) #[true, true, true, true, true, true, true, true, true, true, true, true, true, true, true, true, true, true, true, true, true, true, true, true, true, true, true, true, true, true, true, false, false] rfl rfl (take_ofW HT_.out HW_.out (by kernel_rfl)) (fun _ _ _ h => h) (Or.inl ⟨by rfl, ?_⟩) hHeld ?_ ?_
                                rotate_left
                                · rintro w' ⟨s0, s1, s2, s3, s4, s5, s6, s7, s8, s9, s10, s11, s12, s13, s14, s15, s16, s17⟩
                                  go_simp
                                  with_reducible rfl
                                rotate_left
                                · simp only [Act.put, List.setIfInBounds_toArray, List.set_cons_zero, List.set_cons_succ, i64_w, i32_w]
                                  rfl
                                refine pure_ (i := 31) (N := some 124) (v := ?_) (a' := ?_) #[true, true, true, true, true, true, true, true, true, true, true, true, true, true, true, true, true, true, true, true, true, true, true, true, true, true, true, true, true, true, true, true, false] rfl rfl (any_of HT_.out (by kernel_rfl)) (fun _ _ _ h => h) (Or.inl ⟨by rfl, ?_⟩) ?_ ?_
                                rotate_left
                                · intro w'
                                  go_simp
                                  with_reducible rfl
                                rotate_left
                                · simp only [Act.put, List.setIfInBounds_toArray, List.set_cons_zero, List.set_cons_succ, i64_w, i32_w]
                                  rfl
                                refine pure_ (i := 32) (N := some 125) (v := ?_) (a' := ?_) #[true, true, true, true, true, true, true, true, true, true, true, true, true, true, true, true, true, true, true, true, true, true, true, true, true, true, true, true, true, true, true, true, true] rfl rfl (any_of HT_.out (by kernel_rfl)) (fun _ _ _ h => h) (Or.inl ⟨by rfl, ?_⟩) ?_ ?_
                                rotate_left
                                · intro w'
                                  go_simp
                                  with_reducible rfl
                                rotate_left
                                · simp only [Act.put, List.setIfInBounds_toArray, List.set_cons_zero, List.set_cons_succ, i64_w, i32_w]
                                  rfl
                                refine done_ (done_of HT_.out (by kernel_rfl)) ?_
                                try go_wp2
                                go_roundg k3
                                case measure => have := HJ5.out; have := HJ18.out; have := HK3.out; omega
                                case rel => exact ⟨(wrap64 (x14_3 + 1)), (by first | rfl | (simp; done) | (simp [*]; done)), H', ⟨by have := HJ5.out; have := HJ18.out; have := HK3.out; omega⟩, ⟨by (with_reducible repeat (first | apply Kd.S_alloc | apply Kd.S_drewN | apply Kd.S_drew)); exact HO_8.out⟩, ⟨by (with_reducible repeat (first | apply Kd.R_alloc | apply Kd.R_drewN | apply Kd.R_drew)); exact HO_279002.out⟩, ⟨by (with_reducible repeat (first | refine blk_drewN ?_ _ | refine blk_drew ?_ | refine blk_alloc ?_ _)); exact BK264.out⟩, ⟨by (with_reducible repeat (first | refine blk_drewN ?_ _ | refine blk_drew ?_ | refine blk_alloc ?_ _)); exact BK278.out⟩, ⟨by repeat (first | (with_reducible first | exact HB.out | apply below_alloc | apply pw_below_drewN | apply below_drew1 | refine below_set ?_ GE264.out | refine below_set ?_ GE278.out) | exact HB.out)⟩⟩
                              · rw [if_neg c71] at H
                                have c71b0 : (((rd_TSchema t268 x14_3).f0).toList == ((rd_TSchema l0 x14_3).f0).toList) = false := beq_eq_false_iff_ne.mpr c71
                                have c71b1 : (((rd_TSchema t268 x14_3).f0).toList != ((rd_TSchema l0 x14_3).f0).toList) = true := bne_iff_ne.mpr c71
                                obtain rfl := Option.some.inj H
                                try go_wp2
                                have n0_ := Aside0.mk (Kd.S_drew HO_8.out)
                                have n1_ := Aside0.mk (Kd.R_drew HO_279002.out)
                                have n2_ := Aside0.mk (blk_drew BK264.out)
                                have n3_ := Aside0.mk (blk_drew BK278.out)
                                have n4_ := Aside0.mk (below_drew1 HB.out)
                                clear HO_8
                                clear HO_279002
                                clear BK264
                                clear BK278
                                clear HB
                                have HO_8 := n0_
                                have HO_279002 := n1_
                                have BK264 := n2_
                                have BK278 := n3_
                                have HB := n4_
                                clear n0_ n1_ n2_ n3_ n4_
                                have p285 : 0 ≤ (x14_3 : Int) := of_decide_eq_true (by first | (with_reducible assumption) | assumption)
                                have q285 : x14_3 < (l0.length : Int) := of_decide_eq_true (by first | (with_reducible assumption) | assumption)
                                obtain ⟨ad285, A285_2, c285_2, e285, hx285_0, hx285_1, hx285_2, hl285_2, hi285_2⟩ := at_TSchema HR0.out x14_3 p285 q285
                                have hw285_2 := hx285_2
                                have hw285_1 := hx285_1
                                have hw285_0 := hx285_0
                                cases e285
                                replace hx285_0 := (HB.out.cell (World.block_lt_of_cell? w _ hx285_0)).trans hx285_0
                                replace hx285_1 := (HB.out.cell (World.block_lt_of_cell? w _ hx285_1)).trans hx285_1
                                replace hx285_2 := (HB.out.cell (World.block_lt_of_cell? w _ hx285_2)).trans hx285_2
                                have HR285_2 := Aside0.mk hi285_2
                                have HC285_2 := Aside0.mk hl285_2
                                clear hi285_2 hl285_2
                                replace p285 := eq_true p285
                                replace q285 := eq_true q285
                                have p288 : 0 ≤ (x14_3 : Int) := of_decide_eq_true (by first | (with_reducible assumption) | assumption)
                                have q288 : x14_3 < (t268.length : Int) := of_decide_eq_true (by first | (with_reducible assumption) | assumption)
                                obtain ⟨ad288, A288_2, c288_2, e288, hx288_0, hx288_1, hx288_2, hl288_2, hi288_2⟩ := at_TSchema (Kd.S_reads' HO_8.out).2.2 x14_3 p288 q288
                                cases e288
                                obtain ⟨ce288, hce288, hMe288, hcc288⟩ := Kd.S_get HO_8.out zSchema x14_3 p288 (by first | exact q288 | exact of_decide_eq_true (by first | (with_reducible assumption) | assumption) | (have e_ := (Kd.S_reads' HO_8.out).1; omega))
                                obtain ⟨ve288_2, rfl, ge288_2⟩ := kSchema_openM hMe288
                                have hv288_2 := hcc288 2 _ rfl
                                rw [add_field _ _ 2 (by omega)] at hv288_2
                                replace hv288_2 := Option.some.inj (hv288_2.symm.trans hx288_2)
                                rw [hv288_2] at ge288_2
                                have HL288_2 := Aside0.mk (show Kd.R kField 39 _ _ _ _ ((rd_TSchema t268 x14_3).f2) from ge288_2)
                                clear hv288_2 ge288_2
                                clear hcc288 hce288
                                have HR288_2 := Aside0.mk hi288_2
                                have HC288_2 := Aside0.mk hl288_2
                                clear hi288_2 hl288_2
                                replace p288 := eq_true p288
                                replace q288 := eq_true q288
                                have p289 : 0 ≤ (x14_3 : Int) := of_decide_eq_true (by first | (with_reducible assumption) | assumption)
                                have q289 : x14_3 < (l0.length : Int) := of_decide_eq_true (by first | (with_reducible assumption) | assumption)
                                obtain ⟨ad289, A289_2, c289_2, e289, hx289_0, hx289_1, hx289_2, hl289_2, hi289_2⟩ := at_TSchema HR0.out x14_3 p289 q289
                                have hw289_2 := hx289_2
                                have hw289_1 := hx289_1
                                have hw289_0 := hx289_0
                                obtain rfl : ad285 = ad289 := (by injection e289)
                                replace hx289_0 := (HB.out.cell (World.block_lt_of_cell? w _ hx289_0)).trans hx289_0
                                replace hx289_1 := (HB.out.cell (World.block_lt_of_cell? w _ hx289_1)).trans hx289_1
                                replace hx289_2 := (HB.out.cell (World.block_lt_of_cell? w _ hx289_2)).trans hx289_2
                                have HR289_2 := Aside0.mk hi289_2
                                have HC289_2 := Aside0.mk hl289_2
                                clear hi289_2 hl289_2
                                replace p289 := eq_true p289
                                replace q289 := eq_true q289
                                have ea_ := Option.some.inj (hx285_2.symm.trans hx289_2)
                                injection ea_ with ea_ en_ ec_
                                subst ea_
                                subst ec_
                                clear en_
                                have p291 : 0 ≤ (x14_3 : Int) := of_decide_eq_true (by first | (with_reducible assumption) | assumption)
                                have q291 : x14_3 < (t268.length : Int) := of_decide_eq_true (by first | (with_reducible assumption) | assumption)
                                obtain ⟨ad291, A291_2, c291_2, e291, hx291_0, hx291_1, hx291_2, hl291_2, hi291_2⟩ := at_TSchema (Kd.S_reads' HO_8.out).2.2 x14_3 p291 q291
                                obtain rfl : ad288 = ad291 := (by injection e291)
                                obtain ⟨ce291, hce291, hMe291, hcc291⟩ := Kd.S_get HO_8.out zSchema x14_3 p291 (by first | exact q291 | exact of_decide_eq_true (by first | (with_reducible assumption) | assumption) | (have e_ := (Kd.S_reads' HO_8.out).1; omega))
                                obtain ⟨ve291_2, rfl, ge291_2⟩ := kSchema_openM hMe291
                                have hv291_2 := hcc291 2 _ rfl
                                rw [add_field _ _ 2 (by omega)] at hv291_2
                                replace hv291_2 := Option.some.inj (hv291_2.symm.trans hx291_2)
                                rw [hv291_2] at ge291_2
                                have HL291_2 := Aside0.mk (show Kd.R kField 39 _ _ _ _ ((rd_TSchema t268 x14_3).f2) from ge291_2)
                                clear hv291_2 ge291_2
                                clear hcc291 hce291
                                have HR291_2 := Aside0.mk hi291_2
                                have HC291_2 := Aside0.mk hl291_2
                                clear hi291_2 hl291_2
                                replace p291 := eq_true p291
                                replace q291 := eq_true q291
                                have p292 : 0 ≤ (x14_3 : Int) := of_decide_eq_true (by first | (with_reducible assumption) | assumption)
                                have q292 : x14_3 < (l0.length : Int) := of_decide_eq_true (by first | (with_reducible assumption) | assumption)
                                obtain ⟨ad292, A292_2, c292_2, e292, hx292_0, hx292_1, hx292_2, hl292_2, hi292_2⟩ := at_TSchema HR0.out x14_3 p292 q292
                                have hw292_2 := hx292_2
                                have hw292_1 := hx292_1
                                have hw292_0 := hx292_0
                                obtain rfl : ad285 = ad292 := (by injection e292)
                                replace hx292_0 := (HB.out.cell (World.block_lt_of_cell? w _ hx292_0)).trans hx292_0
                                replace hx292_1 := (HB.out.cell (World.block_lt_of_cell? w _ hx292_1)).trans hx292_1
                                replace hx292_2 := (HB.out.cell (World.block_lt_of_cell? w _ hx292_2)).trans hx292_2
                                have HR292_2 := Aside0.mk hi292_2
                                have HC292_2 := Aside0.mk hl292_2
                                clear hi292_2 hl292_2
                                replace p292 := eq_true p292
                                replace q292 := eq_true q292
                                refine start_ (n := 33) (S := fun w' => w'.cell? ⟨gb264, 0, none⟩ = some (.string a1_0) ∧ w'.cell? ⟨gb264, 1, none⟩ = some (.int .i64 a1_1) ∧ w'.cell? ⟨gb264, 2, none⟩ = some (.slice A1_2 l1_2.length c1_2) ∧ w'.cell? (ad285.add ((x14_3).toNat * 3)) = some (.string ((rd_TSchema l0 x14_3).f0)) ∧ w'.cell? ⟨(ad285.add ((x14_3).toNat * 3)).block, (ad285.add ((x14_3).toNat * 3)).off + 1, none⟩ = some (.int .i64 ((rd_TSchema l0 x14_3).f1)) ∧ w'.cell? ⟨(ad285.add ((x14_3).toNat * 3)).block, (ad285.add ((x14_3).toNat * 3)).off + 2, none⟩ = some (.slice A285_2 ((rd_TSchema l0 x14_3).f2).length c285_2) ∧ w'.cell? (ad288.add ((x14_3).toNat * 3)) = some (.string ((rd_TSchema t268 x14_3).f0)) ∧ w'.cell? ⟨(ad288.add ((x14_3).toNat * 3)).block, (ad288.add ((x14_3).toNat * 3)).off + 1, none⟩ = some (.int .i64 ((rd_TSchema t268 x14_3).f1)) ∧ w'.cell? ⟨(ad288.add ((x14_3).toNat * 3)).block, (ad288.add ((x14_3).toNat * 3)).off + 2, none⟩ = some (.slice A288_2 ((rd_TSchema t268 x14_3).f2).length c288_2) ∧ w'.cell? (ad285.add ((x14_3).toNat * 3)) = some (.string ((rd_TSchema l0 x14_3).f0)) ∧ w'.cell? ⟨(ad285.add ((x14_3).toNat * 3)).block, (ad285.add ((x14_3).toNat * 3)).off + 1, none⟩ = some (.int .i64 ((rd_TSchema l0 x14_3).f1)) ∧ w'.cell? ⟨(ad285.add ((x14_3).toNat * 3)).block, (ad285.add ((x14_3).toNat * 3)).off + 2, none⟩ = some (.slice A285_2 ((rd_TSchema l0 x14_3).f2).length c285_2) ∧ w'.cell? (ad288.add ((x14_3).toNat * 3)) = some (.string ((rd_TSchema t268 x14_3).f0)) ∧ w'.cell? ⟨(ad288.add ((x14_3).toNat * 3)).block, (ad288.add ((x14_3).toNat * 3)).off + 1, none⟩ = some (.int .i64 ((rd_TSchema t268 x14_3).f1)) ∧ w'.cell? ⟨(ad288.add ((x14_3).toNat * 3)).block, (ad288.add ((x14_3).toNat * 3)).off + 2, none⟩ = some (.slice A291_2 ((rd_TSchema t268 x14_3).f2).length c291_2) ∧ w'.cell? (ad285.add ((x14_3).toNat * 3)) = some (.string ((rd_TSchema l0 x14_3).f0)) ∧ w'.cell? ⟨(ad285.add ((x14_3).toNat * 3)).block, (ad285.add ((x14_3).toNat * 3)).off + 1, none⟩ = some (.int .i64 ((rd_TSchema l0 x14_3).f1)) ∧ w'.cell? ⟨(ad285.add ((x14_3).toNat * 3)).block, (ad285.add ((x14_3).toNat * 3)).off + 2, none⟩ = some (.slice A292_2 ((rd_TSchema l0 x14_3).f2).length c292_2)) (ds := []) #[false, false, false, false, false, false, false, false, false, false, false, false, false, false, false, false, false, false, false, false, false, false, false, false, false, false, false, false, false, false, false, false, false] (by kernel_rfl) rfl rfl ⟨(blk_cell BK264.out 0).trans rfl, (blk_cell BK264.out 1).trans rfl, (blk_cell BK264.out 2).trans rfl, ((HB.out.cell (World.block_lt_of_cell? w _ hw285_0)).trans hw285_0), ((HB.out.cell (World.block_lt_of_cell? w _ hw285_1)).trans hw285_1), ((HB.out.cell (World.block_lt_of_cell? w _ hw285_2)).trans hw285_2), hx288_0, hx288_1, hx288_2, ((HB.out.cell (World.block_lt_of_cell? w _ hw289_0)).trans hw289_0), ((HB.out.cell (World.block_lt_of_cell? w _ hw289_1)).trans hw289_1), ((HB.out.cell (World.block_lt_of_cell? w _ hw289_2)).trans hw289_2), hx291_0, hx291_1, hx291_2, ((HB.out.cell (World.block_lt_of_cell? w _ hw292_0)).trans hw292_0), ((HB.out.cell (World.block_lt_of_cell? w _ hw292_1)).trans hw292_1), ((HB.out.cell (World.block_lt_of_cell? w _ hw292_2)).trans hw292_2)⟩ (fun hHeld => ?_); refine with_tabW towncrierlaw07_RegistryAdds.tab16 towncrierlaw07_RegistryAdds.bits16 (fun HT_ HW_ => ?_)
                                generalize wr.drew = w74 at HO_8 HO_279002 BK264 BK278 HB HL288_2 HL291_2 HR285_2 HR288_2 HR289_2 HR291_2 HR292_2 hx285_0 hx285_1 hx285_2 hx288_0 hx288_1 hx288_2 hx289_0 hx289_1 hx289_2 hx291_0 hx291_1 hx291_2 hx292_0 hx292_1 hx292_2 hHeld ⊢
                                refine pure_ (i := 0) (N := some 93) (v := ?_) (a' := ?_) #[true, false, false, false, false, false, false, false, false, false, false, false, false, false, false, false, false, false, false, false, false, false, false, false, false, false, false, false, false, false, false, false, false] rfl rfl (any_of HT_.out (by kernel_rfl)) (fun _ _ _ h => h) (Or.inl ⟨by rfl, ?_⟩) ?_ ?_
                                rotate_left
                                · intro w'
                                  go_simp
                                  with_reducible rfl
                                rotate_left
                                · simp only [Act.put, List.setIfInBounds_toArray, List.set_cons_zero, List.set_cons_succ, i64_w, i32_w]
                                  rfl
                                refine pure_ (i := 1) (N := some 94) (v := ?_) (a' := ?_) #[true, true, false, false, false, false, false, false, false, false, false, false, false, false, false, false, false, false, false, false, false, false, false, false, false, false, false, false, false, false, false, false, false] rfl rfl (any_of HT_.out (by kernel_rfl)) (fun _ _ _ h => h) (Or.inl ⟨by rfl, ?_⟩) ?_ ?_
                                rotate_left
                                · intro w'
                                  go_simp
                                  with_reducible rfl
                                rotate_left
                                · simp only [Act.put, List.setIfInBounds_toArray, List.set_cons_zero, List.set_cons_succ, i64_w, i32_w]
                                  rfl
                                refine pure_ (i := 2) (N := some 95) (v := ?_) (a' := ?_) #[true, true, true, false, false, false, false, false, false, false, false, false, false, false, false, false, false, false, false, false, false, false, false, false, false, false, false, false, false, false, false, false, false] rfl rfl (any_of HT_.out (by kernel_rfl)) (fun _ _ _ h => h) (Or.inl ⟨by rfl, ?_⟩) ?_ ?_
                                rotate_left
                                · intro w'
                                  go_simp
                                  with_reducible rfl
                                rotate_left
                                · simp only [Act.put, List.setIfInBounds_toArray, List.set_cons_zero, List.set_cons_succ, i64_w, i32_w]
                                  rfl
                                refine pure_ (i := 3) (N := some 96) (v := ?_) (a' := ?_) #[true, true, true, true, false, false, false, false, false, false, false, false, false, false, false, false, false, false, false, false, false, false, false, false, false, false, false, false, false, false, false, false, false] rfl rfl (any_of HT_.out (by kernel_rfl)) (fun _ _ _ h => h) (Or.inl ⟨by rfl, ?_⟩) ?_ ?_
                                rotate_left
                                · intro w'
                                  go_simp
                                  with_reducible rfl
                                rotate_left
                                · simp only [Act.put, List.setIfInBounds_toArray, List.set_cons_zero, List.set_cons_succ, i64_w, i32_w]
                                  rfl
                                refine pure_ (i := 5) (N := some 98) (v := ?_) (a' := ?_) #[true, true, true, true, false, true, false, false, false, false, false, false, false, false, false, false, false, false, false, false, false, false, false, false, false, false, false, false, false, false, false, false, false] rfl rfl (any_of HT_.out (by kernel_rfl)) (fun _ _ _ h => h) (Or.inl ⟨by rfl, ?_⟩) ?_ ?_
                                rotate_left
                                · intro w'
                                  go_simp
                                  with_reducible rfl
                                rotate_left
                                · simp only [Act.put, List.setIfInBounds_toArray, List.set_cons_zero, List.set_cons_succ, i64_w, i32_w]
                                  rfl
                                refine take_ (i := 4) (N := some 97) (v := ?_) (a' := ?_) #[true, true, true, true, true, true, false, false, false, false, false, false, false, false, false, false, false, false, false, false, false, false, false, false, false, false, false, false, false, false, false, false, false] rfl rfl (take_ofW HT_.out HW_.out (by kernel_rfl)) (fun _ _ _ h => h) (Or.inl ⟨by rfl, ?_⟩) hHeld ?_ ?_
                                rotate_left
                                · rintro w' ⟨s0, s1, s2, s3, s4, s5, s6, s7, s8, s9, s10, s11, s12, s13, s14, s15, s16, s17⟩
                                  go_simp
                                  with_reducible rfl
                                rotate_left
                                · simp only [Act.put, List.setIfInBounds_toArray, List.set_cons_zero, List.set_cons_succ, i64_w, i32_w]
                                  rfl
                                refine take_ (i := 6) (N := some 99) (v := ?_) (a' := ?_) #[true, true, true, true, true, true, true, false, false, false, false, false, false, false, false, false, false, false, false, false, false, false, false, false, false, false, false, false, false, false, false, false, false] rfl rfl (take_ofW HT_.out HW_.out (by kernel_rfl)) (fun _ _ _ h => h) (Or.inl ⟨by rfl, ?_⟩) hHeld ?_ ?_
                                rotate_left
                                · rintro w' ⟨s0, s1, s2, s3, s4, s5, s6, s7, s8, s9, s10, s11, s12, s13, s14, s15, s16, s17⟩
                                  go_simp
                                  with_reducible rfl
                                rotate_left
                                · simp only [Act.put, List.setIfInBounds_toArray, List.set_cons_zero, List.set_cons_succ, i64_w, i32_w]
                                  rfl
                                refine pure_ (i := 7) (N := some 100) (v := ?_) (a' := ?_) #[true, true, true, true, true, true, true, true, false, false, false, false, false, false, false, false, false, false, false, false, false, false, false, false, false, false, false, false, false, false, false, false, false] rfl rfl (any_of HT_.out (by kernel_rfl)) (fun _ _ _ h => h) (Or.inl ⟨by rfl, ?_⟩) ?_ ?_
                                rotate_left
                                · intro w'
                                  go_simp
                                  with_reducible rfl
                                rotate_left
                                · simp only [Act.put, List.setIfInBounds_toArray, List.set_cons_zero, List.set_cons_succ, i64_w, i32_w]
                                  rfl
                                refine pure_ (i := 8) (N := some 101) (v := ?_) (a' := ?_) #[true, true, true, true, true, true, true, true, true, false, false, false, false, false, false, false, false, false, false, false, false, false, false, false, false, false, false, false, false, false, false, false, false] rfl rfl (any_of HT_.out (by kernel_rfl)) (fun _ _ _ h => h) (Or.inl ⟨by rfl, ?_⟩) ?_ ?_
                                rotate_left
                                · intro w'
                                  go_simp
                                  with_reducible rfl
                                rotate_left
                                · simp only [Act.put, List.setIfInBounds_toArray, List.set_cons_zero, List.set_cons_succ, i64_w, i32_w]
                                  rfl
                                refine pure_ (i := 9) (N := some 102) (v := ?_) (a' := ?_) #[true, true, true, true, true, true, true, true, true, true, false, false, false, false, false, false, false, false, false, false, false, false, false, false, false, false, false, false, false, false, false, false, false] rfl rfl (any_of HT_.out (by kernel_rfl)) (fun _ _ _ h => h) (Or.inl ⟨by rfl, ?_⟩) ?_ ?_
                                rotate_left
                                · intro w'
                                  go_simp
                                  with_reducible rfl
                                rotate_left
                                · simp only [Act.put, List.setIfInBounds_toArray, List.set_cons_zero, List.set_cons_succ, i64_w, i32_w]
                                  rfl
                                refine pure_ (i := 10) (N := some 103) (v := ?_) (a' := ?_) #[true, true, true, true, true, true, true, true, true, true, true, false, false, false, false, false, false, false, false, false, false, false, false, false, false, false, false, false, false, false, false, false, false] rfl rfl (any_of HT_.out (by kernel_rfl)) (fun _ _ _ h => h) (Or.inl ⟨by rfl, ?_⟩) ?_ ?_
                                rotate_left
                                · intro w'
                                  go_simp
                                  with_reducible rfl
                                rotate_left
                                · simp only [Act.put, List.setIfInBounds_toArray, List.set_cons_zero, List.set_cons_succ, i64_w, i32_w]
                                  rfl
                                refine pure_ (i := 11) (N := some 104) (v := ?_) (a' := ?_) #[true, true, true, true, true, true, true, true, true, true, true, true, false, false, false, false, false, false, false, false, false, false, false, false, false, false, false, false, false, false, false, false, false] rfl rfl (any_of HT_.out (by kernel_rfl)) (fun _ _ _ h => h) (Or.inl ⟨by rfl, ?_⟩) ?_ ?_
                                rotate_left
                                · intro w'
                                  go_simp
                                  with_reducible rfl
                                rotate_left
                                · simp only [Act.put, List.setIfInBounds_toArray, List.set_cons_zero, List.set_cons_succ, i64_w, i32_w]
                                  rfl
                                refine pure_ (i := 13) (N := some 106) (v := ?_) (a' := ?_) #[true, true, true, true, true, true, true, true, true, true, true, true, false, true, false, false, false, false, false, false, false, false, false, false, false, false, false, false, false, false, false, false, false] rfl rfl (any_of HT_.out (by kernel_rfl)) (fun _ _ _ h => h) (Or.inl ⟨by rfl, ?_⟩) ?_ ?_
                                rotate_left
                                · intro w'
                                  go_simp
                                  with_reducible rfl
                                rotate_left
                                · simp only [Act.put, List.setIfInBounds_toArray, List.set_cons_zero, List.set_cons_succ, i64_w, i32_w]
                                  rfl
                                refine pure_ (i := 14) (N := some 107) (v := ?_) (a' := ?_) #[true, true, true, true, true, true, true, true, true, true, true, true, false, true, true, false, false, false, false, false, false, false, false, false, false, false, false, false, false, false, false, false, false] rfl rfl (any_of HT_.out (by kernel_rfl)) (fun _ _ _ h => h) (Or.inl ⟨by rfl, ?_⟩) ?_ ?_
                                rotate_left
                                · intro w'
                                  go_simp
                                  with_reducible rfl
                                rotate_left
                                · simp only [Act.put, List.setIfInBounds_toArray, List.set_cons_zero, List.set_cons_succ, i64_w, i32_w]
                                  rfl
                                refine pure_ (i := 15) (N := some 108) (v := ?_) (a' := ?_) #[true, true, true, true, true, true, true, true, true, true, true, true, false, true, true, true, false, false, false, false, false, false, false, false, false, false, false, false, false, false, false, false, false] rfl rfl (any_of HT_.out (by kernel_rfl)) (fun _ _ _ h => h) (Or.inl ⟨by rfl, ?_⟩) ?_ ?_
                                rotate_left
                                · intro w'
                                  go_simp
                                  with_reducible rfl
                                rotate_left
                                · simp only [Act.put, List.setIfInBounds_toArray, List.set_cons_zero, List.set_cons_succ, i64_w, i32_w]
                                  rfl
                                refine take_ (i := 12) (N := some 105) (v := ?_) (a' := ?_) #[true, true, true, true, true, true, true, true, true, true, true, true, true, true, true, true, false, false, false, false, false, false, false, false, false, false, false, false, false, false, false, false, false] rfl rfl (take_ofW HT_.out HW_.out (by kernel_rfl)) (fun _ _ _ h => h) (Or.inl ⟨by rfl, ?_⟩) hHeld ?_ ?_
                                rotate_left
                                · rintro w' ⟨s0, s1, s2, s3, s4, s5, s6, s7, s8, s9, s10, s11, s12, s13, s14, s15, s16, s17⟩
                                  go_simp
                                  with_reducible rfl
                                rotate_left
                                · simp only [Act.put, List.setIfInBounds_toArray, List.set_cons_zero, List.set_cons_succ, i64_w, i32_w]
                                  rfl
                                refine take_ (i := 16) (N := some 109) (v := ?_) (a' := ?_) #[true, true, true, true, true, true, true, true, true, true, true, true, true, true, true, true, true, false, false, false, false, false, false, false, false, false, false, false, false, false, false, false, false] rfl rfl (take_ofW HT_.out HW_.out (by kernel_rfl)) (fun _ _ _ h => h) (Or.inl ⟨by rfl, ?_⟩) hHeld ?_ ?_
                                rotate_left
                                · rintro w' ⟨s0, s1, s2, s3, s4, s5, s6, s7, s8, s9, s10, s11, s12, s13, s14, s15, s16, s17⟩
                                  go_simp
                                  with_reducible rfl
                                rotate_left
                                · simp only [Act.put, List.setIfInBounds_toArray, List.set_cons_zero, List.set_cons_succ, i64_w, i32_w]
                                  rfl
                                refine one_ (i := 17) (N := some 110) #[true, true, true, true, true, true, true, true, true, true, true, true, true, true, true, true, true, true, false, false, false, false, false, false, false, false, false, false, false, false, false, false, false] rfl rfl (one_of HT_.out (by kernel_rfl)) (by decide) (fun K hK => ?_)
                                refine goes_ Try.func27 (by kernel_rfl) rfl #[.agg #[.string ((rd_TSchema t268 x14_3).f0), .int .i64 ((rd_TSchema t268 x14_3).f1), .slice A288_2 ((rd_TSchema t268 x14_3).f2).length c288_2], .agg #[.string ((rd_TSchema l0 x14_3).f0), .int .i64 ((rd_TSchema l0 x14_3).f1), .slice A285_2 ((rd_TSchema l0 x14_3).f2).length c285_2]] (by rfl) rfl rfl (by (try simp only [List.map_toArray, List.map_cons, List.map_nil]); first | done | rfl | (simp only [List.length_drop, List.length_take]; rfl)) ?_
                                with_reducible refine (schema_Same.calls k3 ((rd_TSchema t268 x14_3).f0) ((rd_TSchema t268 x14_3).f1) _ _ ((rd_TSchema t268 x14_3).f2) ((rd_TSchema l0 x14_3).f0) ((rd_TSchema l0 x14_3).f1) _ _ ((rd_TSchema l0 x14_3).f2) true _ ?side1 ?side2 ?side3 ?side4 A69.out).mono ?_
                                (case side1 => repeat (first | exact (by repeat (first | (with_reducible exact HR288_2.out) | (with_reducible refine Kd.C_alloc ?_ _) | (with_reducible refine Kd.C_drewN ?_ _) | (with_reducible refine Kd.C_drew ?_) | exact HR288_2.out)) | (with_reducible refine Kd.C_alloc ?_ _) | (with_reducible refine Kd.C_drewN ?_ _) | (with_reducible refine Kd.C_drew ?_)))
                                (case side2 => exact HC288_2.out)
                                (case side3 => repeat (first | exact (Kd.C_below HR289_2.out HB.out) | (with_reducible refine Kd.C_alloc ?_ _) | (with_reducible refine Kd.C_drewN ?_ _) | (with_reducible refine Kd.C_drew ?_)))
                                (case side4 => exact HC289_2.out)
                                rintro e w75 ⟨rfl, hb⟩
                                have HS6_ := (hb.cell (World.block_lt_of_cell? _ _ (hHeld.2.2.2.2.2.2.1))).trans (hHeld.2.2.2.2.2.2.1)
                                have HS7_ := (hb.cell (World.block_lt_of_cell? _ _ (hHeld.2.2.2.2.2.2.2.1))).trans (hHeld.2.2.2.2.2.2.2.1)
                                have HS8_ := (hb.cell (World.block_lt_of_cell? _ _ (hHeld.2.2.2.2.2.2.2.2.1))).trans (hHeld.2.2.2.2.2.2.2.2.1)
                                have HS12_ := (hb.cell (World.block_lt_of_cell? _ _ (hHeld.2.2.2.2.2.2.2.2.2.2.2.2.1))).trans (hHeld.2.2.2.2.2.2.2.2.2.2.2.2.1)
                                have HS13_ := (hb.cell (World.block_lt_of_cell? _ _ (hHeld.2.2.2.2.2.2.2.2.2.2.2.2.2.1))).trans (hHeld.2.2.2.2.2.2.2.2.2.2.2.2.2.1)
                                have HS14_ := (hb.cell (World.block_lt_of_cell? _ _ (hHeld.2.2.2.2.2.2.2.2.2.2.2.2.2.2.1))).trans (hHeld.2.2.2.2.2.2.2.2.2.2.2.2.2.2.1)
                                refine ⟨_, rfl, ?_⟩
                                have n0_ := Aside0.mk (Kd.S_below (by (with_reducible repeat (first | apply Kd.S_alloc | apply Kd.S_drewN | apply Kd.S_drew)); exact HO_8.out) hb)
                                have n1_ := Aside0.mk (Kd.R_below (by (with_reducible repeat (first | apply Kd.R_alloc | apply Kd.R_drewN | apply Kd.R_drew)); exact HO_279002.out) hb)
                                have n2_ := Aside0.mk (Kd.R_below (by (with_reducible repeat (first | apply Kd.R_alloc | apply Kd.R_drewN | apply Kd.R_drew)); exact HL288_2.out) hb)
                                have n3_ := Aside0.mk (blk_below (g := gb264) (o := .cells #[.string a1_0, .int .i64 a1_1, .slice A1_2 l1_2.length c1_2] 25 (0, 0)) (by (with_reducible repeat (first | refine blk_drewN ?_ _ | refine blk_drew ?_ | refine blk_alloc ?_ _)); exact BK264.out) hb)
                                have n4_ := Aside0.mk (blk_below (g := gb278) (o := .cells #[.string t272, .int .i64 t273, .slice Ao28 t274.length co28] 25 (0, 0)) (by (with_reducible repeat (first | refine blk_drewN ?_ _ | refine blk_drew ?_ | refine blk_alloc ?_ _)); exact BK278.out) hb)
                                have n5_ := Aside0.mk (Kd.C_below (by repeat (first | (with_reducible exact HR288_2.out) | (with_reducible refine Kd.C_alloc ?_ _) | (with_reducible refine Kd.C_drewN ?_ _) | (with_reducible refine Kd.C_drew ?_) | exact HR288_2.out)) hb)
                                have n6_ := Aside0.mk (below_step (by repeat (first | (with_reducible first | exact HB.out | apply below_alloc | apply pw_below_drewN | apply below_drew1 | refine below_set ?_ GE264.out | refine below_set ?_ GE278.out) | exact HB.out)) hb)
                                clear HO_8
                                clear HO_279002
                                clear HL288_2
                                clear BK264
                                clear BK278
                                clear HR288_2
                                clear HB
                                have HO_8 := n0_
                                have HO_279002 := n1_
                                have HL288_2 := n2_
                                have BK264 := n3_
                                have BK278 := n4_
                                have HR288_2 := n5_
                                have HB := n6_
                                clear n0_ n1_ n2_ n3_ n4_ n5_ n6_
                                (try clear hb)
                                (try clear hb2)
                                (try clear hk)
                                (try clear hi)
                                refine hK.out _ _ ⟨(blk_cell BK264.out 0).trans rfl, (blk_cell BK264.out 1).trans rfl, (blk_cell BK264.out 2).trans rfl, ((HB.out.cell (World.block_lt_of_cell? w _ hw285_0)).trans hw285_0), ((HB.out.cell (World.block_lt_of_cell? w _ hw285_1)).trans hw285_1), ((HB.out.cell (World.block_lt_of_cell? w _ hw285_2)).trans hw285_2), HS6_, HS7_, HS8_, ((HB.out.cell (World.block_lt_of_cell? w _ hw289_0)).trans hw289_0), ((HB.out.cell (World.block_lt_of_cell? w _ hw289_1)).trans hw289_1), ((HB.out.cell (World.block_lt_of_cell? w _ hw289_2)).trans hw289_2), HS12_, HS13_, HS14_, ((HB.out.cell (World.block_lt_of_cell? w _ hw292_0)).trans hw292_0), ((HB.out.cell (World.block_lt_of_cell? w _ hw292_1)).trans hw292_1), ((HB.out.cell (World.block_lt_of_cell? w _ hw292_2)).trans hw292_2)⟩ (fun hHeld => ?_)
                                clear hK K
                                refine norm_ (a' := ?_) ?_ ?_
                                rotate_left
                                · show Act.put _ (some 110) _ = _
                                  simp only [Act.put, List.setIfInBounds_toArray, List.set_cons_zero, List.set_cons_succ, i64_w, i32_w]
                                  rfl
                                refine pure_ (i := 18) (N := some 111) (v := ?_) (a' := ?_) #[true, true, true, true, true, true, true, true, true, true, true, true, true, true, true, true, true, true, true, false, false, false, false, false, false, false, false, false, false, false, false, false, false] rfl rfl (any_of HT_.out (by kernel_rfl)) (fun _ _ _ h => h) (Or.inl ⟨by rfl, ?_⟩) ?_ ?_
                                rotate_left
                                · intro w'
                                  go_simp
                                  with_reducible rfl
                                rotate_left
                                · simp only [Act.put, List.setIfInBounds_toArray, List.set_cons_zero, List.set_cons_succ, i64_w, i32_w]
                                  rfl
                                refine pure_ (i := 19) (N := some 112) (v := ?_) (a' := ?_) #[true, true, true, true, true, true, true, true, true, true, true, true, true, true, true, true, true, true, true, true, false, false, false, false, false, false, false, false, false, false, false, false, false] rfl rfl (any_of HT_.out (by kernel_rfl)) (fun _ _ _ h => h) (Or.inl ⟨by rfl, ?_⟩) ?_ ?_
                                rotate_left
                                · intro w'
                                  go_simp
                                  with_reducible rfl
                                rotate_left
                                · simp only [Act.put, List.setIfInBounds_toArray, List.set_cons_zero, List.set_cons_succ, i64_w, i32_w]
                                  rfl
                                refine pure_ (i := 20) (N := some 113) (v := ?_) (a' := ?_) #[true, true, true, true, true, true, true, true, true, true, true, true, true, true, true, true, true, true, true, true, true, false, false, false, false, false, false, false, false, false, false, false, false] rfl rfl (any_of HT_.out (by kernel_rfl)) (fun _ _ _ h => h) (Or.inl ⟨by rfl, ?_⟩) ?_ ?_
                                rotate_left
                                · intro w'
                                  go_simp
                                  with_reducible rfl
                                rotate_left
                                · simp only [Act.put, List.setIfInBounds_toArray, List.set_cons_zero, List.set_cons_succ, i64_w, i32_w]
                                  rfl
                                refine pure_ (i := 21) (N := some 114) (v := ?_) (a' := ?_) #[true, true, true, true, true, true, true, true, true, true, true, true, true, true, true, true, true, true, true, true, true, true, false, false, false, false, false, false, false, false, false, false, false] rfl rfl (any_of HT_.out (by kernel_rfl)) (fun _ _ _ h => h) (Or.inl ⟨by rfl, ?_⟩) ?_ ?_
                                rotate_left
                                · intro w'
                                  go_simp
                                  with_reducible rfl
                                rotate_left
                                · simp only [Act.put, List.setIfInBounds_toArray, List.set_cons_zero, List.set_cons_succ, i64_w, i32_w]
                                  rfl
                                refine pure_ (i := 22) (N := some 115) (v := ?_) (a' := ?_) #[true, true, true, true, true, true, true, true, true, true, true, true, true, true, true, true, true, true, true, true, true, true, true, false, false, false, false, false, false, false, false, false, false] rfl rfl (any_of HT_.out (by kernel_rfl)) (fun _ _ _ h => h) (Or.inl ⟨by rfl, ?_⟩) ?_ ?_
                                rotate_left
                                · intro w'
                                  go_simp
                                  with_reducible rfl
                                rotate_left
                                · simp only [Act.put, List.setIfInBounds_toArray, List.set_cons_zero, List.set_cons_succ, i64_w, i32_w]
                                  rfl
                                refine pure_ (i := 23) (N := some 116) (v := ?_) (a' := ?_) #[true, true, true, true, true, true, true, true, true, true, true, true, true, true, true, true, true, true, true, true, true, true, true, true, false, false, false, false, false, false, false, false, false] rfl rfl (any_of HT_.out (by kernel_rfl)) (fun _ _ _ h => h) (Or.inl ⟨by rfl, ?_⟩) ?_ ?_
                                rotate_left
                                · intro w'
                                  go_simp
                                  with_reducible rfl
                                rotate_left
                                · simp only [Act.put, List.setIfInBounds_toArray, List.set_cons_zero, List.set_cons_succ, i64_w, i32_w]
                                  rfl
                                refine pure_ (i := 24) (N := some 117) (v := ?_) (a' := ?_) #[true, true, true, true, true, true, true, true, true, true, true, true, true, true, true, true, true, true, true, true, true, true, true, true, true, false, false, false, false, false, false, false, false] rfl rfl (any_of HT_.out (by kernel_rfl)) (fun _ _ _ h => h) (Or.inl ⟨by rfl, ?_⟩) ?_ ?_
                                rotate_left
                                · intro w'
                                  go_simp
                                  with_reducible rfl
                                rotate_left
                                · simp only [Act.put, List.setIfInBounds_toArray, List.set_cons_zero, List.set_cons_succ, i64_w, i32_w]
                                  rfl
                                refine pure_ (i := 26) (N := some 119) (v := ?_) (a' := ?_) #[true, true, true, true, true, true, true, true, true, true, true, true, true, true, true, true, true, true, true, true, true, true, true, true, true, false, true, false, false, false, false, false, false] rfl rfl (any_of HT_.out (by kernel_rfl)) (fun _ _ _ h => h) (Or.inl ⟨by rfl, ?_⟩) ?_ ?_
                                rotate_left
                                · intro w'
                                  go_simp
                                  with_reducible rfl
                                rotate_left
                                · simp only [Act.put, List.setIfInBounds_toArray, List.set_cons_zero, List.set_cons_succ, i64_w, i32_w]
                                  rfl
                                refine pure_ (i := 27) (N := some 120) (v := ?_) (a' := ?_) #[true, true, true, true, true, true, true, true, true, true, true, true, true, true, true, true, true, true, true, true, true, true, true, true, true, false, true, true, false, false, false, false, false] rfl rfl (any_of HT_.out (by kernel_rfl)) (fun _ _ _ h => h) (Or.inl ⟨by rfl, ?_⟩) ?_ ?_
                                rotate_left
                                · intro w'
                                  go_simp
                                  with_reducible rfl
                                rotate_left
                                · simp only [Act.put, List.setIfInBounds_toArray, List.set_cons_zero, List.set_cons_succ, i64_w, i32_w]
                                  rfl
                                refine pure_ (i := 28) (N := some 121) (v := ?_) (a' := ?_) #[true, true, true, true, true, true, true, true, true, true, true, true, true, true, true, true, true, true, true, true, true, true, true, true, true, false, true, true, true, false, false, false, false] rfl rfl (any_of HT_.out (by kernel_rfl)) (fun _ _ _ h => h) (Or.inl ⟨by rfl, ?_⟩) ?_ ?_
                                rotate_left
                                · intro w'
                                  go_simp
                                  with_reducible rfl
                                rotate_left
                                · simp only [Act.put, List.setIfInBounds_toArray, List.set_cons_zero, List.set_cons_succ, i64_w, i32_w]
                                  rfl
                                refine pure_ (i := 29) (N := some 122) (v := ?_) (a' := ?_) #[true, true, true, true, true, true, true, true, true, true, true, true, true, true, true, true, true, true, true, true, true, true, true, true, true, false, true, true, true, true, false, false, false] rfl rfl (any_of HT_.out (by kernel_rfl)) (fun _ _ _ h => h) (Or.inl ⟨by rfl, ?_⟩) ?_ ?_
                                rotate_left
                                · intro w'
                                  go_simp
                                  with_reducible rfl
                                rotate_left
                                · simp only [Act.put, List.setIfInBounds_toArray, List.set_cons_zero, List.set_cons_succ, i64_w, i32_w]
                                  rfl
                                refine take_ (i := 25) (N := some 118) (v := ?_) (a' := ?_) #[true, true, true, true, true, true, true, true, true, true, true, true, true, true, true, true, true, true, true, true, true, true, true, true, true, true, true, true, true, true, false, false, false] rfl rfl (take_ofW HT_.out HW_.out (by kernel_rfl)) (fun _ _ _ h => h) (Or.inl ⟨by rfl, ?_⟩) hHeld ?_ ?_
                                rotate_left
                                · rintro w' ⟨s0, s1, s2, s3, s4, s5, s6, s7, s8, s9, s10, s11, s12, s13, s14, s15, s16, s17⟩
                                  go_simp
                                  with_reducible rfl
                                rotate_left
                                · simp only [Act.put, List.setIfInBounds_toArray, List.set_cons_zero, List.set_cons_succ, i64_w, i32_w]
                                  rfl
                                refine take_ (i := 30) (N := some 123) (v := ?_) (a' := ?_) #[true, true, true, true, true, true, true, true, true, true, true, true, true, true, true, true, true, true, true, true, true, true, true, true, true, true, true, true, true, true, true, false, false] rfl rfl (take_ofW HT_.out HW_.out (by kernel_rfl)) (fun _ _ _ h => h) (Or.inl ⟨by rfl, ?_⟩) hHeld ?_ ?_
                                rotate_left
                                · rintro w' ⟨s0, s1, s2, s3, s4, s5, s6, s7, s8, s9, s10, s11, s12, s13, s14, s15, s16, s17⟩
                                  go_simp
                                  with_reducible rfl
                                rotate_left
                                · simp only [Act.put, List.setIfInBounds_toArray, List.set_cons_zero, List.set_cons_succ, i64_w, i32_w]
                                  rfl
                                refine pure_ (i := 31) (N := some 124) (v := ?_) (a' := ?_) #[true, true, true, true, true, true, true, true, true, true, true, true, true, true, true, true, true, true, true, true, true, true, true, true, true, true, true, true, true, true, true, true, false] rfl rfl (any_of HT_.out (by kernel_rfl)) (fun _ _ _ h => h) (Or.inl ⟨by rfl, ?_⟩) ?_ ?_
                                rotate_left
                                · intro w'
                                  go_simp
                                  with_reducible rfl
                                rotate_left
                                · simp only [Act.put, List.setIfInBounds_toArray, List.set_cons_zero, List.set_cons_succ, i64_w, i32_w]
                                  rfl
                                refine pure_ (i := 32) (N := some 125) (v := ?_) (a' := ?_) #[true, true, true, true, true, true, true, true, true, true, true, true, true, true, true, true, true, true, true, true, true, true, true, true, true, true, true, true, true, true, true, true, true] rfl rfl (any_of HT_.out (by kernel_rfl)) (fun _ _ _ h => h) (Or.inl ⟨by rfl, ?_⟩) ?_ ?_
                                rotate_left
                                · intro w'
                                  go_simp
                                  with_reducible rfl
                                rotate_left
                                · simp only [Act.put, List.setIfInBounds_toArray, List.set_cons_zero, List.set_cons_succ, i64_w, i32_w]
                                  rfl
                                refine done_ (done_of HT_.out (by kernel_rfl)) ?_
                                try go_wp2
                                go_ret
                                exact ⟨by first | rfl | (simp [errW_none, errW_some] <;> rfl) | (simp [*, errW_none, errW_some] <;> rfl), by repeat (first | (with_reducible first | exact HB.out | apply below_alloc | apply pw_below_drewN | apply below_drew1 | refine below_set ?_ GE264.out | refine below_set ?_ GE278.out) | exact HB.out)⟩
                            · replace c70 := Bool.eq_false_iff.mpr c70
                              subst c70
                              have H1 : (some false) = some r := by rw [if_neg (show ¬ (false = true) by decide)] at H; exact H
                              clear H
                              have H := H1
                              clear H1
                              obtain rfl := Option.some.inj H
                              try go_wp2
                              have n0_ := Aside0.mk (Kd.S_drew HO_8.out)
                              have n1_ := Aside0.mk (Kd.R_drew HO_279002.out)
                              have n2_ := Aside0.mk (blk_drew BK264.out)
                              have n3_ := Aside0.mk (blk_drew BK278.out)
                              have n4_ := Aside0.mk (below_drew1 HB.out)
                              clear HO_8
                              clear HO_279002
                              clear BK264
                              clear BK278
                              clear HB
                              have HO_8 := n0_
                              have HO_279002 := n1_
                              have BK264 := n2_
                              have BK278 := n3_
                              have HB := n4_
                              clear n0_ n1_ n2_ n3_ n4_
                              have p285 : 0 ≤ (x14_3 : Int) := of_decide_eq_true (by first | (with_reducible assumption) | assumption)
                              have q285 : x14_3 < (l0.length : Int) := of_decide_eq_true (by first | (with_reducible assumption) | assumption)
                              obtain ⟨ad285, A285_2, c285_2, e285, hx285_0, hx285_1, hx285_2, hl285_2, hi285_2⟩ := at_TSchema HR0.out x14_3 p285 q285
                              have hw285_2 := hx285_2
                              have hw285_1 := hx285_1
                              have hw285_0 := hx285_0
                              cases e285
                              replace hx285_0 := (HB.out.cell (World.block_lt_of_cell? w _ hx285_0)).trans hx285_0
                              replace hx285_1 := (HB.out.cell (World.block_lt_of_cell? w _ hx285_1)).trans hx285_1
                              replace hx285_2 := (HB.out.cell (World.block_lt_of_cell? w _ hx285_2)).trans hx285_2
                              have HR285_2 := Aside0.mk hi285_2
                              have HC285_2 := Aside0.mk hl285_2
                              clear hi285_2 hl285_2
                              replace p285 := eq_true p285
                              replace q285 := eq_true q285
                              have p288 : 0 ≤ (x14_3 : Int) := of_decide_eq_true (by first | (with_reducible assumption) | assumption)
                              have q288 : x14_3 < (t268.length : Int) := of_decide_eq_true (by first | (with_reducible assumption) | assumption)
                              obtain ⟨ad288, A288_2, c288_2, e288, hx288_0, hx288_1, hx288_2, hl288_2, hi288_2⟩ := at_TSchema (Kd.S_reads' HO_8.out).2.2 x14_3 p288 q288
                              cases e288
                              obtain ⟨ce288, hce288, hMe288, hcc288⟩ := Kd.S_get HO_8.out zSchema x14_3 p288 (by first | exact q288 | exact of_decide_eq_true (by first | (with_reducible assumption) | assumption) | (have e_ := (Kd.S_reads' HO_8.out).1; omega))
                              obtain ⟨ve288_2, rfl, ge288_2⟩ := kSchema_openM hMe288
                              have hv288_2 := hcc288 2 _ rfl
                              rw [add_field _ _ 2 (by omega)] at hv288_2
                              replace hv288_2 := Option.some.inj (hv288_2.symm.trans hx288_2)
                              rw [hv288_2] at ge288_2
                              have HL288_2 := Aside0.mk (show Kd.R kField 39 _ _ _ _ ((rd_TSchema t268 x14_3).f2) from ge288_2)
                              clear hv288_2 ge288_2
                              clear hcc288 hce288
                              have HR288_2 := Aside0.mk hi288_2
                              have HC288_2 := Aside0.mk hl288_2
                              clear hi288_2 hl288_2
                              replace p288 := eq_true p288
                              replace q288 := eq_true q288
                              have p289 : 0 ≤ (x14_3 : Int) := of_decide_eq_true (by first | (with_reducible assumption) | assumption)
                              have q289 : x14_3 < (l0.length : Int) := of_decide_eq_true (by first | (with_reducible assumption) | assumption)
                              obtain ⟨ad289, A289_2, c289_2, e289, hx289_0, hx289_1, hx289_2, hl289_2, hi289_2⟩ := at_TSchema HR0.out x14_3 p289 q289
                              have hw289_2 := hx289_2
                              have hw289_1 := hx289_1
                              have hw289_0 := hx289_0
                              obtain rfl : ad285 = ad289 := (by injection e289)
                              replace hx289_0 := (HB.out.cell (World.block_lt_of_cell? w _ hx289_0)).trans hx289_0
                              replace hx289_1 := (HB.out.cell (World.block_lt_of_cell? w _ hx289_1)).trans hx289_1
                              replace hx289_2 := (HB.out.cell (World.block_lt_of_cell? w _ hx289_2)).trans hx289_2
                              have HR289_2 := Aside0.mk hi289_2
                              have HC289_2 := Aside0.mk hl289_2
                              clear hi289_2 hl289_2
                              replace p289 := eq_true p289
                              replace q289 := eq_true q289
                              have ea_ := Option.some.inj (hx285_2.symm.trans hx289_2)
                              injection ea_ with ea_ en_ ec_
                              subst ea_
                              subst ec_
                              clear en_
                              refine start_ (n := 33) (S := fun w' => w'.cell? ⟨gb264, 0, none⟩ = some (.string a1_0) ∧ w'.cell? ⟨gb264, 1, none⟩ = some (.int .i64 a1_1) ∧ w'.cell? ⟨gb264, 2, none⟩ = some (.slice A1_2 l1_2.length c1_2) ∧ w'.cell? (ad285.add ((x14_3).toNat * 3)) = some (.string ((rd_TSchema l0 x14_3).f0)) ∧ w'.cell? ⟨(ad285.add ((x14_3).toNat * 3)).block, (ad285.add ((x14_3).toNat * 3)).off + 1, none⟩ = some (.int .i64 ((rd_TSchema l0 x14_3).f1)) ∧ w'.cell? ⟨(ad285.add ((x14_3).toNat * 3)).block, (ad285.add ((x14_3).toNat * 3)).off + 2, none⟩ = some (.slice A285_2 ((rd_TSchema l0 x14_3).f2).length c285_2) ∧ w'.cell? (ad288.add ((x14_3).toNat * 3)) = some (.string ((rd_TSchema t268 x14_3).f0)) ∧ w'.cell? ⟨(ad288.add ((x14_3).toNat * 3)).block, (ad288.add ((x14_3).toNat * 3)).off + 1, none⟩ = some (.int .i64 ((rd_TSchema t268 x14_3).f1)) ∧ w'.cell? ⟨(ad288.add ((x14_3).toNat * 3)).block, (ad288.add ((x14_3).toNat * 3)).off + 2, none⟩ = some (.slice A288_2 ((rd_TSchema t268 x14_3).f2).length c288_2) ∧ w'.cell? (ad285.add ((x14_3).toNat * 3)) = some (.string ((rd_TSchema l0 x14_3).f0)) ∧ w'.cell? ⟨(ad285.add ((x14_3).toNat * 3)).block, (ad285.add ((x14_3).toNat * 3)).off + 1, none⟩ = some (.int .i64 ((rd_TSchema l0 x14_3).f1)) ∧ w'.cell? ⟨(ad285.add ((x14_3).toNat * 3)).block, (ad285.add ((x14_3).toNat * 3)).off + 2, none⟩ = some (.slice A285_2 ((rd_TSchema l0 x14_3).f2).length c285_2)) (ds := []) #[false, false, false, false, false, false, false, false, false, false, false, false, false, false, false, false, false, false, false, false, false, false, false, false, false, false, false, false, false, false, false, false, false] (by kernel_rfl) rfl rfl ⟨(blk_cell BK264.out 0).trans rfl, (blk_cell BK264.out 1).trans rfl, (blk_cell BK264.out 2).trans rfl, ((HB.out.cell (World.block_lt_of_cell? w _ hw285_0)).trans hw285_0), ((HB.out.cell (World.block_lt_of_cell? w _ hw285_1)).trans hw285_1), ((HB.out.cell (World.block_lt_of_cell? w _ hw285_2)).trans hw285_2), hx288_0, hx288_1, hx288_2, ((HB.out.cell (World.block_lt_of_cell? w _ hw289_0)).trans hw289_0), ((HB.out.cell (World.block_lt_of_cell? w _ hw289_1)).trans hw289_1), ((HB.out.cell (World.block_lt_of_cell? w _ hw289_2)).trans hw289_2)⟩ (fun hHeld => ?_); refine with_tabW towncrierlaw07_RegistryAdds.tab16 towncrierlaw07_RegistryAdds.bits16 (fun HT_ HW_ => ?_)
                              generalize wr.drew = w76 at HO_8 HO_279002 BK264 BK278 HB HL288_2 HR285_2 HR288_2 HR289_2 hx285_0 hx285_1 hx285_2 hx288_0 hx288_1 hx288_2 hx289_0 hx289_1 hx289_2 hHeld ⊢
                              refine pure_ (i := 0) (N := some 93) (v := ?_) (a' := ?_) #[true, false, false, false, false, false, false, false, false, false, false, false, false, false, false, false, false, false, false, false, false, false, false, false, false, false, false, false, false, false, false, false, false] rfl rfl (any_of HT_.out (by kernel_rfl)) (fun _ _ _ h => h) (Or.inl ⟨by rfl, ?_⟩) ?_ ?_
                              rotate_left
                              · intro w'
                                go_simp
                                with_reducible rfl
                              rotate_left
                              · simp only [Act.put, List.setIfInBounds_toArray, List.set_cons_zero, List.set_cons_succ, i64_w, i32_w]
                                rfl
                              refine pure_ (i := 1) (N := some 94) (v := ?_) (a' := ?_) #[true, true, false, false, false, false, false, false, false, false, false, false, false, false, false, false, false, false, false, false, false, false, false, false, false, false, false, false, false, false, false, false, false] rfl rfl (any_of HT_.out (by kernel_rfl)) (fun _ _ _ h => h) (Or.inl ⟨by rfl, ?_⟩) ?_ ?_
                              rotate_left
                              · intro w'
                                go_simp
                                with_reducible rfl
                              rotate_left
                              · simp only [Act.put, List.setIfInBounds_toArray, List.set_cons_zero, List.set_cons_succ, i64_w, i32_w]
                                rfl
                              refine pure_ (i := 2) (N := some 95) (v := ?_) (a' := ?_) #[true, true, true, false, false, false, false, false, false, false, false, false, false, false, false, false, false, false, false, false, false, false, false, false, false, false, false, false, false, false, false, false, false] rfl rfl (any_of HT_.out (by kernel_rfl)) (fun _ _ _ h => h) (Or.inl ⟨by rfl, ?_⟩) ?_ ?_
                              rotate_left
                              · intro w'
                                go_simp
                                with_reducible rfl
                              rotate_left
                              · simp only [Act.put, List.setIfInBounds_toArray, List.set_cons_zero, List.set_cons_succ, i64_w, i32_w]
                                rfl
                              refine pure_ (i := 3) (N := some 96) (v := ?_) (a' := ?_) #[true, true, true, true, false, false, false, false, false, false, false, false, false, false, false, false, false, false, false, false, false, false, false, false, false, false, false, false, false, false, false, false, false] rfl rfl (any_of HT_.out (by kernel_rfl)) (fun _ _ _ h => h) (Or.inl ⟨by rfl, ?_⟩) ?_ ?_
                              rotate_left
                              · intro w'
                                go_simp
                                with_reducible rfl
                              rotate_left
                              · simp only [Act.put, List.setIfInBounds_toArray, List.set_cons_zero, List.set_cons_succ, i64_w, i32_w]
                                rfl
                              refine pure_ (i := 5) (N := some 98) (v := ?_) (a' := ?_) #[true, true, true, true, false, true, false, false, false, false, false, false, false, false, false, false, false, false, false, false, false, false, false, false, false, false, false, false, false, false, false, false, false] rfl rfl (any_of HT_.out (by kernel_rfl)) (fun _ _ _ h => h) (Or.inl ⟨by rfl, ?_⟩) ?_ ?_
                              rotate_left
                              · intro w'
                                go_simp
                                with_reducible rfl
                              rotate_left
                              · simp only [Act.put, List.setIfInBounds_toArray, List.set_cons_zero, List.set_cons_succ, i64_w, i32_w]
                                rfl
                              refine take_ (i := 4) (N := some 97) (v := ?_) (a' := ?_) #[true, true, true, true, true, true, false, false, false, false, false, false, false, false, false, false, false, false, false, false, false, false, false, false, false, false, false, false, false, false, false, false, false] rfl rfl (take_ofW HT_.out HW_.out (by kernel_rfl)) (fun _ _ _ h => h) (Or.inl ⟨by rfl, ?_⟩) hHeld ?_ ?_
                              rotate_left
                              · rintro w' ⟨s0, s1, s2, s3, s4, s5, s6, s7, s8, s9, s10, s11⟩
                                go_simp
                                with_reducible rfl
                              rotate_left
                              · simp only [Act.put, List.setIfInBounds_toArray, List.set_cons_zero, List.set_cons_succ, i64_w, i32_w]
                                rfl
                              refine take_ (i := 6) (N := some 99) (v := ?_) (a' := ?_) #[true, true, true, true, true, true, true, false, false, false, false, false, false, false, false, false, false, false, false, false, false, false, false, false, false, false, false, false, false, false, false, false, false] rfl rfl (take_ofW HT_.out HW_.out (by kernel_rfl)) (fun _ _ _ h => h) (Or.inl ⟨by rfl, ?_⟩) hHeld ?_ ?_
                              rotate_left
                              · rintro w' ⟨s0, s1, s2, s3, s4, s5, s6, s7, s8, s9, s10, s11⟩
                                go_simp
                                with_reducible rfl
                              rotate_left
                              · simp only [Act.put, List.setIfInBounds_toArray, List.set_cons_zero, List.set_cons_succ, i64_w, i32_w]
                                rfl
                              refine pure_ (i := 7) (N := some 100) (v := ?_) (a' := ?_) #[true, true, true, true, true, true, true, true, false, false, false, false, false, false, false, false, false, false, false, false, false, false, false, false, false, false, false, false, false, false, false, false, false] rfl rfl (any_of HT_.out (by kernel_rfl)) (fun _ _ _ h => h) (Or.inl ⟨by rfl, ?_⟩) ?_ ?_
                              rotate_left
                              · intro w'
                                go_simp
                                with_reducible rfl
                              rotate_left
                              · simp only [Act.put, List.setIfInBounds_toArray, List.set_cons_zero, List.set_cons_succ, i64_w, i32_w]
                                rfl
                              refine pure_ (i := 8) (N := some 101) (v := ?_) (a' := ?_) #[true, true, true, true, true, true, true, true, true, false, false, false, false, false, false, false, false, false, false, false, false, false, false, false, false, false, false, false, false, false, false, false, false] rfl rfl (any_of HT_.out (by kernel_rfl)) (fun _ _ _ h => h) (Or.inl ⟨by rfl, ?_⟩) ?_ ?_
                              rotate_left
                              · intro w'
                                go_simp
                                with_reducible rfl
                              rotate_left
                              · simp only [Act.put, List.setIfInBounds_toArray, List.set_cons_zero, List.set_cons_succ, i64_w, i32_w]
                                rfl
                              refine pure_ (i := 9) (N := some 102) (v := ?_) (a' := ?_) #[true, true, true, true, true, true, true, true, true, true, false, false, false, false, false, false, false, false, false, false, false, false, false, false, false, false, false, false, false, false, false, false, false] rfl rfl (any_of HT_.out (by kernel_rfl)) (fun _ _ _ h => h) (Or.inl ⟨by rfl, ?_⟩) ?_ ?_
                              rotate_left
                              · intro w'
                                go_simp
                                with_reducible rfl
                              rotate_left
                              · simp only [Act.put, List.setIfInBounds_toArray, List.set_cons_zero, List.set_cons_succ, i64_w, i32_w]
                                rfl
                              refine pure_ (i := 10) (N := some 103) (v := ?_) (a' := ?_) #[true, true, true, true, true, true, true, true, true, true, true, false, false, false, false, false, false, false, false, false, false, false, false, false, false, false, false, false, false, false, false, false, false] rfl rfl (any_of HT_.out (by kernel_rfl)) (fun _ _ _ h => h) (Or.inl ⟨by rfl, ?_⟩) ?_ ?_
                              rotate_left
                              · intro w'
                                go_simp
                                with_reducible rfl
                              rotate_left
                              · simp only [Act.put, List.setIfInBounds_toArray, List.set_cons_zero, List.set_cons_succ, i64_w, i32_w]
                                rfl
                              refine pure_ (i := 11) (N := some 104) (v := ?_) (a' := ?_) #[true, true, true, true, true, true, true, true, true, true, true, true, false, false, false, false, false, false, false, false, false, false, false, false, false, false, false, false, false, false, false, false, false] rfl rfl (any_of HT_.out (by kernel_rfl)) (fun _ _ _ h => h) (Or.inl ⟨by rfl, ?_⟩) ?_ ?_
                              rotate_left
                              · intro w'
                                go_simp
                                with_reducible rfl
                              rotate_left
                              · simp only [Act.put, List.setIfInBounds_toArray, List.set_cons_zero, List.set_cons_succ, i64_w, i32_w]
                                rfl
                              refine pure_ (i := 13) (N := some 106) (v := ?_) (a' := ?_) #[true, true, true, true, true, true, true, true, true, true, true, true, false, true, false, false, false, false, false, false, false, false, false, false, false, false, false, false, false, false, false, false, false] rfl rfl (any_of HT_.out (by kernel_rfl)) (fun _ _ _ h => h) (Or.inl ⟨by rfl, ?_⟩) ?_ ?_
                              rotate_left
                              · intro w'
                                go_simp
                                with_reducible rfl
                              rotate_left
                              · simp only [Act.put, List.setIfInBounds_toArray, List.set_cons_zero, List.set_cons_succ, i64_w, i32_w]
                                rfl
                              refine pure_ (i := 14) (N := some 107) (v := ?_) (a' := ?_) #[true, true, true, true, true, true, true, true, true, true, true, true, false, true, true, false, false, false, false, false, false, false, false, false, false, false, false, false, false, false, false, false, false] rfl rfl (any_of HT_.out (by kernel_rfl)) (fun _ _ _ h => h) (Or.inl ⟨by rfl, ?_⟩) ?_ ?_
                              rotate_left
                              · intro w'
                                go_simp
                                with_reducible rfl
                              rotate_left
                              · simp only [Act.put, List.setIfInBounds_toArray, List.set_cons_zero, List.set_cons_succ, i64_w, i32_w]
                                rfl
                              refine pure_ (i := 15) (N := some 108) (v := ?_) (a' := ?_) #[true, true, true, true, true, true, true, true, true, true, true, true, false, true, true, true, false, false, false, false, false, false, false, false, false, false, false, false, false, false, false, false, false] rfl rfl (any_of HT_.out (by kernel_rfl)) (fun _ _ _ h => h) (Or.inl ⟨by rfl, ?_⟩) ?_ ?_
                              rotate_left
                              · intro w'
                                go_simp
                                with_reducible rfl
                              rotate_left
                              · simp only [Act.put, List.setIfInBounds_toArray, List.set_cons_zero, List.set_cons_succ, i64_w, i32_w]
                                rfl
                              refine take_ (i := 12) (N := some 105) (v := ?_) (a' := ?_) #[true, true, true, true, true, true, true, true, true, true, true, true, true, true, true, true, false, false, false, false, false, false, false, false, false, false, false, false, false, false, false, false, false] rfl rfl (take_ofW HT_.out HW_.out (by kernel_rfl)) (fun _ _ _ h => h) (Or.inl ⟨by rfl, ?_⟩) hHeld ?_ ?_
                              rotate_left
                              · rintro w' ⟨s0, s1, s2, s3, s4, s5, s6, s7, s8, s9, s10, s11⟩
                                go_simp
                                with_reducible rfl
                              rotate_left
                              · simp only [Act.put, List.setIfInBounds_toArray, List.set_cons_zero, List.set_cons_succ, i64_w, i32_w]
                                rfl
                              refine take_ (i := 16) (N := some 109) (v := ?_) (a' := ?_) #[true, true, true, true, true, true, true, true, true, true, true, true, true, true, true, true, true, false, false, false, false, false, false, false, false, false, false, false, false, false, false, false, false] rfl rfl (take_ofW HT_.out HW_.out (by kernel_rfl)) (fun _ _ _ h => h) (Or.inl ⟨by rfl, ?_⟩) hHeld ?_ ?_
                              rotate_left
                              · rintro w' ⟨s0, s1, s2, s3, s4, s5, s6, s7, s8, s9, s10, s11⟩
                                go_simp
                                with_reducible rfl
                              rotate_left
                              · simp only [Act.put, List.setIfInBounds_toArray, List.set_cons_zero, List.set_cons_succ, i64_w, i32_w]
                                rfl
                              refine one_ (i := 17) (N := some 110) #[true, true, true, true, true, true, true, true, true, true, true, true, true, true, true, true, true, true, false, false, false, false, false, false, false, false, false, false, false, false, false, false, false] rfl rfl (one_of HT_.out (by kernel_rfl)) (by decide) (fun K hK => ?_)
                              refine goes_ Try.func27 (by kernel_rfl) rfl #[.agg #[.string ((rd_TSchema t268 x14_3).f0), .int .i64 ((rd_TSchema t268 x14_3).f1), .slice A288_2 ((rd_TSchema t268 x14_3).f2).length c288_2], .agg #[.string ((rd_TSchema l0 x14_3).f0), .int .i64 ((rd_TSchema l0 x14_3).f1), .slice A285_2 ((rd_TSchema l0 x14_3).f2).length c285_2]] (by rfl) rfl rfl (by (try simp only [List.map_toArray, List.map_cons, List.map_nil]); first | done | rfl | (simp only [List.length_drop, List.length_take]; rfl)) ?_
                              with_reducible refine (schema_Same.calls k3 ((rd_TSchema t268 x14_3).f0) ((rd_TSchema t268 x14_3).f1) _ _ ((rd_TSchema t268 x14_3).f2) ((rd_TSchema l0 x14_3).f0) ((rd_TSchema l0 x14_3).f1) _ _ ((rd_TSchema l0 x14_3).f2) false _ ?side1 ?side2 ?side3 ?side4 A69.out).mono ?_
                              (case side1 => repeat (first | exact (by repeat (first | (with_reducible exact HR288_2.out) | (with_reducible refine Kd.C_alloc ?_ _) | (with_reducible refine Kd.C_drewN ?_ _) | (with_reducible refine Kd.C_drew ?_) | exact HR288_2.out)) | (with_reducible refine Kd.C_alloc ?_ _) | (with_reducible refine Kd.C_drewN ?_ _) | (with_reducible refine Kd.C_drew ?_)))
                              (case side2 => exact HC288_2.out)
                              (case side3 => repeat (first | exact (Kd.C_below HR289_2.out HB.out) | (with_reducible refine Kd.C_alloc ?_ _) | (with_reducible refine Kd.C_drewN ?_ _) | (with_reducible refine Kd.C_drew ?_)))
                              (case side4 => exact HC289_2.out)
                              rintro e w77 ⟨rfl, hb⟩
                              have HS6_ := (hb.cell (World.block_lt_of_cell? _ _ (hHeld.2.2.2.2.2.2.1))).trans (hHeld.2.2.2.2.2.2.1)
                              have HS7_ := (hb.cell (World.block_lt_of_cell? _ _ (hHeld.2.2.2.2.2.2.2.1))).trans (hHeld.2.2.2.2.2.2.2.1)
                              have HS8_ := (hb.cell (World.block_lt_of_cell? _ _ (hHeld.2.2.2.2.2.2.2.2.1))).trans (hHeld.2.2.2.2.2.2.2.2.1)
                              refine ⟨_, rfl, ?_⟩
                              have n0_ := Aside0.mk (Kd.S_below (by (with_reducible repeat (first | apply Kd.S_alloc | apply Kd.S_drewN | apply Kd.S_drew)); exact HO_8.out) hb)
                              have n1_ := Aside0.mk (Kd.R_below (by (with_reducible repeat (first | apply Kd.R_alloc | apply Kd.R_drewN | apply Kd.R_drew)); exact HO_279002.out) hb)
                              have n2_ := Aside0.mk (Kd.R_below (by (with_reducible repeat (first | apply Kd.R_alloc | apply Kd.R_drewN | apply Kd.R_drew)); exact HL288_2.out) hb)
                              have n3_ := Aside0.mk (blk_below (g := gb264) (o := .cells #[.string a1_0, .int .i64 a1_1, .slice A1_2 l1_2.length c1_2] 25 (0, 0)) (by (with_reducible repeat (first | refine blk_drewN ?_ _ | refine blk_drew ?_ | refine blk_alloc ?_ _)); exact BK264.out) hb)
                              have n4_ := Aside0.mk (blk_below (g := gb278) (o := .cells #[.string t272, .int .i64 t273, .slice Ao28 t274.length co28] 25 (0, 0)) (by (with_reducible repeat (first | refine blk_drewN ?_ _ | refine blk_drew ?_ | refine blk_alloc ?_ _)); exact BK278.out) hb)
                              have n5_ := Aside0.mk (Kd.C_below (by repeat (first | (with_reducible exact HR288_2.out) | (with_reducible refine Kd.C_alloc ?_ _) | (with_reducible refine Kd.C_drewN ?_ _) | (with_reducible refine Kd.C_drew ?_) | exact HR288_2.out)) hb)
                              have n6_ := Aside0.mk (below_step (by repeat (first | (with_reducible first | exact HB.out | apply below_alloc | apply pw_below_drewN | apply below_drew1 | refine below_set ?_ GE264.out | refine below_set ?_ GE278.out) | exact HB.out)) hb)
                              clear HO_8
                              clear HO_279002
                              clear HL288_2
                              clear BK264
                              clear BK278
                              clear HR288_2
                              clear HB
                              have HO_8 := n0_
                              have HO_279002 := n1_
                              have HL288_2 := n2_
                              have BK264 := n3_
                              have BK278 := n4_
                              have HR288_2 := n5_
                              have HB := n6_
                              clear n0_ n1_ n2_ n3_ n4_ n5_ n6_
                              (try clear hb)
                              (try clear hb2)
                              (try clear hk)
                              (try clear hi)
                              refine hK.out _ _ ⟨(blk_cell BK264.out 0).trans rfl, (blk_cell BK264.out 1).trans rfl, (blk_cell BK264.out 2).trans rfl, ((HB.out.cell (World.block_lt_of_cell? w _ hw285_0)).trans hw285_0), ((HB.out.cell (World.block_lt_of_cell? w _ hw285_1)).trans hw285_1), ((HB.out.cell (World.block_lt_of_cell? w _ hw285_2)).trans hw285_2), HS6_, HS7_, HS8_, ((HB.out.cell (World.block_lt_of_cell? w _ hw289_0)).trans hw289_0), ((HB.out.cell (World.block_lt_of_cell? w _ hw289_1)).trans hw289_1), ((HB.out.cell (World.block_lt_of_cell? w _ hw289_2)).trans hw289_2)⟩ (fun hHeld => ?_)
                              clear hK K
                              refine norm_ (a' := ?_) ?_ ?_
                              rotate_left
                              · show Act.put _ (some 110) _ = _
                                simp only [Act.put, List.setIfInBounds_toArray, List.set_cons_zero, List.set_cons_succ, i64_w, i32_w]
                                rfl
                              refine pure_ (i := 18) (N := some 111) (v := ?_) (a' := ?_) #[true, true, true, true, true, true, true, true, true, true, true, true, true, true, true, true, true, true, true, false, false, false, false, false, false, false, false, false, false, false, false, false, false] rfl rfl (any_of HT_.out (by kernel_rfl)) (fun _ _ _ h => h) (Or.inl ⟨by rfl, ?_⟩) ?_ ?_
                              rotate_left
                              · intro w'
                                go_simp
                                with_reducible rfl
                              rotate_left
                              · simp only [Act.put, List.setIfInBounds_toArray, List.set_cons_zero, List.set_cons_succ, i64_w, i32_w]
                                rfl
                              refine pure_ (i := 19) (N := some 112) (v := ?_) (a' := ?_) #[true, true, true, true, true, true, true, true, true, true, true, true, true, true, true, true, true, true, true, true, false, false, false, false, false, false, false, false, false, false, false, false, false] rfl rfl (any_of HT_.out (by kernel_rfl)) (fun _ _ _ h => h) (Or.inl ⟨by rfl, ?_⟩) ?_ ?_
                              rotate_left
                              · intro w'
                                go_simp
                                with_reducible rfl
                              rotate_left
                              · simp only [Act.put, List.setIfInBounds_toArray, List.set_cons_zero, List.set_cons_succ, i64_w, i32_w]
                                rfl
                              refine pure_ (i := 20) (N := some 113) (v := ?_) (a' := ?_) #[true, true, true, true, true, true, true, true, true, true, true, true, true, true, true, true, true, true, true, true, true, false, false, false, false, false, false, false, false, false, false, false, false] rfl rfl (any_of HT_.out (by kernel_rfl)) (fun _ _ _ h => h) (Or.inl ⟨by rfl, ?_⟩) ?_ ?_
                              rotate_left
                              · intro w'
                                go_simp
                                with_reducible rfl
                              rotate_left
                              · simp only [Act.put, List.setIfInBounds_toArray, List.set_cons_zero, List.set_cons_succ, i64_w, i32_w]
                                rfl
                              refine pure_ (i := 21) (N := some 114) (v := undef) (a' := ?_) #[true, true, true, true, true, true, true, true, true, true, true, true, true, true, true, true, true, true, true, true, true, true, false, false, false, false, false, false, false, false, false, false, false] rfl rfl (any_of HT_.out (by kernel_rfl)) (fun _ _ _ h => h) (Or.inr ⟨by rfl, rfl⟩) ?_ ?_
                              rotate_left
                              · simp only [Act.put, List.setIfInBounds_toArray, List.set_cons_zero, List.set_cons_succ, i64_w, i32_w]
                                rfl
                              refine pure_ (i := 22) (N := some 115) (v := undef) (a' := ?_) #[true, true, true, true, true, true, true, true, true, true, true, true, true, true, true, true, true, true, true, true, true, true, true, false, false, false, false, false, false, false, false, false, false] rfl rfl (any_of HT_.out (by kernel_rfl)) (fun _ _ _ h => h) (Or.inr ⟨by rfl, rfl⟩) ?_ ?_
                              rotate_left
                              · simp only [Act.put, List.setIfInBounds_toArray, List.set_cons_zero, List.set_cons_succ, i64_w, i32_w]
                                rfl
                              refine pure_ (i := 23) (N := some 116) (v := undef) (a' := ?_) #[true, true, true, true, true, true, true, true, true, true, true, true, true, true, true, true, true, true, true, true, true, true, true, true, false, false, false, false, false, false, false, false, false] rfl rfl (any_of HT_.out (by kernel_rfl)) (fun _ _ _ h => h) (Or.inr ⟨by rfl, rfl⟩) ?_ ?_
                              rotate_left
                              · simp only [Act.put, List.setIfInBounds_toArray, List.set_cons_zero, List.set_cons_succ, i64_w, i32_w]
                                rfl
                              refine pure_ (i := 24) (N := some 117) (v := undef) (a' := ?_) #[true, true, true, true, true, true, true, true, true, true, true, true, true, true, true, true, true, true, true, true, true, true, true, true, true, false, false, false, false, false, false, false, false] rfl rfl (any_of HT_.out (by kernel_rfl)) (fun _ _ _ h => h) (Or.inr ⟨by rfl, rfl⟩) ?_ ?_
                              rotate_left
                              · simp only [Act.put, List.setIfInBounds_toArray, List.set_cons_zero, List.set_cons_succ, i64_w, i32_w]
                                rfl
                              refine pure_ (i := 25) (N := some 118) (v := undef) (a' := ?_) #[true, true, true, true, true, true, true, true, true, true, true, true, true, true, true, true, true, true, true, true, true, true, true, true, true, true, false, false, false, false, false, false, false] rfl rfl (any_of HT_.out (by kernel_rfl)) (fun _ _ _ h => h) (Or.inr ⟨by rfl, rfl⟩) ?_ ?_
                              rotate_left
                              · simp only [Act.put, List.setIfInBounds_toArray, List.set_cons_zero, List.set_cons_succ, i64_w, i32_w]
                                rfl
                              refine pure_ (i := 26) (N := some 119) (v := undef) (a' := ?_) #[true, true, true, true, true, true, true, true, true, true, true, true, true, true, true, true, true, true, true, true, true, true, true, true, true, true, true, false, false, false, false, false, false] rfl rfl (any_of HT_.out (by kernel_rfl)) (fun _ _ _ h => h) (Or.inr ⟨by rfl, rfl⟩) ?_ ?_
                              rotate_left
                              · simp only [Act.put, List.setIfInBounds_toArray, List.set_cons_zero, List.set_cons_succ, i64_w, i32_w]
                                rfl
                              refine pure_ (i := 27) (N := some 120) (v := undef) (a' := ?_) #[true, true, true, true, true, true, true, true, true, true, true, true, true, true, true, true, true, true, true, true, true, true, true, true, true, true, true, true, false, false, false, false, false] rfl rfl (any_of HT_.out (by kernel_rfl)) (fun _ _ _ h => h) (Or.inr ⟨by rfl, rfl⟩) ?_ ?_
                              rotate_left
                              · simp only [Act.put, List.setIfInBounds_toArray, List.set_cons_zero, List.set_cons_succ, i64_w, i32_w]
                                rfl
                              refine pure_ (i := 28) (N := some 121) (v := undef) (a' := ?_) #[true, true, true, true, true, true, true, true, true, true, true, true, true, true, true, true, true, true, true, true, true, true, true, true, true, true, true, true, true, false, false, false, false] rfl rfl (any_of HT_.out (by kernel_rfl)) (fun _ _ _ h => h) (Or.inr ⟨by rfl, rfl⟩) ?_ ?_
                              rotate_left
                              · simp only [Act.put, List.setIfInBounds_toArray, List.set_cons_zero, List.set_cons_succ, i64_w, i32_w]
                                rfl
                              refine pure_ (i := 29) (N := some 122) (v := undef) (a' := ?_) #[true, true, true, true, true, true, true, true, true, true, true, true, true, true, true, true, true, true, true, true, true, true, true, true, true, true, true, true, true, true, false, false, false] rfl rfl (any_of HT_.out (by kernel_rfl)) (fun _ _ _ h => h) (Or.inr ⟨by rfl, rfl⟩) ?_ ?_
                              rotate_left
                              · simp only [Act.put, List.setIfInBounds_toArray, List.set_cons_zero, List.set_cons_succ, i64_w, i32_w]
                                rfl
                              refine pure_ (i := 30) (N := some 123) (v := undef) (a' := ?_) #[true, true, true, true, true, true, true, true, true, true, true, true, true, true, true, true, true, true, true, true, true, true, true, true, true, true, true, true, true, true, true, false, false] rfl rfl (any_of HT_.out (by kernel_rfl)) (fun _ _ _ h => h) (Or.inr ⟨by rfl, rfl⟩) ?_ ?_
                              rotate_left
                              · simp only [Act.put, List.setIfInBounds_toArray, List.set_cons_zero, List.set_cons_succ, i64_w, i32_w]
                                rfl
                              refine pure_ (i := 31) (N := some 124) (v := undef) (a' := ?_) #[true, true, true, true, true, true, true, true, true, true, true, true, true, true, true, true, true, true, true, true, true, true, true, true, true, true, true, true, true, true, true, true, false] rfl rfl (any_of HT_.out (by kernel_rfl)) (fun _ _ _ h => h) (Or.inr ⟨by rfl, rfl⟩) ?_ ?_
                              rotate_left
                              · simp only [Act.put, List.setIfInBounds_toArray, List.set_cons_zero, List.set_cons_succ, i64_w, i32_w]
                                rfl
                              refine pure_ (i := 32) (N := some 125) (v := ?_) (a' := ?_) #[true, true, true, true, true, true, true, true, true, true, true, true, true, true, true, true, true, true, true, true, true, true, true, true, true, true, true, true, true, true, true, true, true] rfl rfl (any_of HT_.out (by kernel_rfl)) (fun _ _ _ h => h) (Or.inl ⟨by rfl, ?_⟩) ?_ ?_
                              rotate_left
                              · intro w'
                                go_simp
                                with_reducible rfl
                              rotate_left
                              · simp only [Act.put, List.setIfInBounds_toArray, List.set_cons_zero, List.set_cons_succ, i64_w, i32_w]
                                rfl
                              refine done_ (done_of HT_.out (by kernel_rfl)) ?_
                              try go_wp2
                              go_ret
                              exact ⟨by first | rfl | (simp [errW_none, errW_some] <;> rfl) | (simp [*, errW_none, errW_some] <;> rfl), by repeat (first | (with_reducible first | exact HB.out | apply below_alloc | apply pw_below_drewN | apply below_drew1 | refine below_set ?_ GE264.out | refine below_set ?_ GE278.out) | exact HB.out)⟩
                          · rw [if_neg c68] at H
                            exact absurd H (by simp)
                      · rw [if_neg c62] at H
                        exact absurd H (by simp)
                    · rw [if_neg c61] at H
                      have c61b0 : decide (x14_3 < (l0.length : Int)) = false := decide_eq_false c61
                      clear c61
                      obtain rfl := Option.some.inj H
                      go_wp2
                      go_ret
                      exact ⟨by first | rfl | (simp [errW_none, errW_some] <;> rfl) | (simp [*, errW_none, errW_some] <;> rfl), by repeat (first | (with_reducible first | exact HB.out | apply below_alloc | apply pw_below_drewN | apply below_drew1 | refine below_set ?_ GE264.out | refine below_set ?_ GE278.out) | exact HB.out)⟩
        · rw [if_neg c16] at H
          have c16b0 : (t271 == 0) = false := beq_eq_false_iff_ne.mpr c16
          have c16b1 : (t271 != 0) = true := bne_iff_ne.mpr c16
          obtain rfl := Option.some.inj H
          have hcz78_0 : wc.cell? ⟨gb264, 0, none⟩ = some (.string a1_0) := (blk_cell BK264.out 0).trans rfl
          have hcz78_1 : wc.cell? ⟨gb264, 1, none⟩ = some (.int .i64 a1_1) := (blk_cell BK264.out 1).trans rfl
          have hcz78_2 : wc.cell? ⟨gb264, 2, none⟩ = some (.slice A1_2 l1_2.length c1_2) := (blk_cell BK264.out 2).trans rfl
          have hfz78_0 := blk_frozen BK264.out 0
          have hfz78_1 := blk_frozen BK264.out 1
          have hfz78_2 := blk_frozen BK264.out 2
          go_wp2_with (first | ((with_reducible refine gate_callee (f := 18) rfl ?_); refine goesL_ (some 34) rfl rfl Try.func18 (by kernel_rfl) rfl #[.slice A0 l0.length c0, .agg #[.string a1_0, .int .i64 a1_1, .slice A1_2 l1_2.length c1_2]] rfl (by (try simp only [List.map_toArray, List.map_cons, List.map_nil]); first | done | rfl | (simp only [List.length_drop, List.length_take]; rfl)) ?_; (with_reducible refine (registry_Add.calls kj5 _ _ l0 a1_0 a1_1 _ _ l1_2 t268 t271 _ ?side1 ?side2 ?side3 ?side4 A15.out).mono ?_); (case side1 => repeat (first | exact (Kd.C_below HR0.out HB.out) | (with_reducible refine Kd.C_alloc ?_ _) | (with_reducible refine Kd.C_drewN ?_ _) | (with_reducible refine Kd.C_drew ?_))); (case side2 => exact HC0.out); (case side3 => repeat (first | exact (Kd.C_below HR1_2.out HB.out) | (with_reducible refine Kd.C_alloc ?_ _) | (with_reducible refine Kd.C_drewN ?_ _) | (with_reducible refine Kd.C_drew ?_))); (case side4 => exact HC1_2.out); rintro e w79 ⟨v269, rfl, ho0, hb⟩; refine ⟨_, rfl, ?_⟩; have n0_ := Aside0.mk (Kd.S_lower (Kd.S_newB ho0 (g := gb264) (o := .cells #[.string a1_0, .int .i64 a1_1, .slice A1_2 l1_2.length c1_2] 25 (0, 0)) (by (with_reducible repeat (first | refine blk_drewN ?_ _ | refine blk_drew ?_ | refine blk_alloc ?_ _)); exact BK264.out)) (below_size (by repeat (first | (with_reducible first | exact HB.out | apply below_alloc | apply pw_below_drewN | apply below_drew1 | refine below_set ?_ GE264.out) | exact HB.out)))); have n1_ := Aside0.mk (blk_below (g := gb264) (o := .cells #[.string a1_0, .int .i64 a1_1, .slice A1_2 l1_2.length c1_2] 25 (0, 0)) (by (with_reducible repeat (first | refine blk_drewN ?_ _ | refine blk_drew ?_ | refine blk_alloc ?_ _)); exact BK264.out) hb); have n2_ := Aside0.mk (below_step (by repeat (first | (with_reducible first | exact HB.out | apply below_alloc | apply pw_below_drewN | apply below_drew1 | refine below_set ?_ GE264.out) | exact HB.out)) hb); clear BK264; clear HB; have HO270 := n0_; have BK264 := n1_; have HB := n2_; clear n0_ n1_ n2_; (try clear hb); (try clear hb2); (try clear hk); (try clear hi); (try clear ho0); obtain ⟨Ao80, co80, eo80⟩ := Kd.S_slice HO270.out; subst eo80))
          go_ret
          exact ⟨by first | rfl | (simp [errW_none, errW_some] <;> rfl) | (simp [*, errW_none, errW_some] <;> rfl), by repeat (first | (with_reducible first | exact HB.out | apply below_alloc | apply pw_below_drewN | apply below_drew1 | refine below_set ?_ GE264.out) | exact HB.out)⟩

end Go.Proofs.Ytbgdamlidohfhaa.P
