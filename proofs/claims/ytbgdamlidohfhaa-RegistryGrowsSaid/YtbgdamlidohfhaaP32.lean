/- The functions that the laws of this seat reach, as plain Lean functions, and for each the contract of its call: no condition but those that each theorem names. -/
import Derived.Test.YtbgdamlidohfhaaP0
import Derived.Test.YtbgdamlidohfhaaP1
import Derived.Test.YtbgdamlidohfhaaP14
import Derived.Test.YtbgdamlidohfhaaP15
import Derived.Test.YtbgdamlidohfhaaP18
import Derived.Test.YtbgdamlidohfhaaP19
import Derived.Test.YtbgdamlidohfhaaP20
namespace Go.Proofs.Ytbgdamlidohfhaa.P
open Go.RowKit Go.Proofs.YtbgdamlidohfhaaW.PrintWords Go.Proofs.YtbgdamlidohfhaaW.PrintLast Go.Proofs.YtbgdamlidohfhaaW.PrintMore
attribute [local go_sem] max2_int min2_int max_two min_two max_three min_three max_four min_four   -- for this text's walks alone
set_option linter.unusedVariables false
set_option linter.unusedSimpArgs false

attribute [local go_sem high] eqAField
/-! ### towncrierlaw07_RegistryGrows: function 5 -/
mutual
def towncrierlaw07_RegistryGrows.j0 : Nat → List (SSchema) → ByteArray → Bool → Bool → ByteArray → Int → List (SField) → Option (Bool)
  | 0, _, _, _, _, _, _, _ => none
  | k + 1, x0, x2, x7, x36, x294000, x294001, x294002 => if x36 = true then (some x7) else ((registry_Add.f k x0 x294000 x294001 x294002).bind fun bt297 => ((registry_Find.f x0 x2).bind fun bt301 => ((registry_Find.f bt297.1 x2).bind fun bt308 => (if bt297.2 = 0 then (towncrierlaw07_RegistryGrows.j1 k bt308.2.2.2 (!bt301.2.2.2) bt301.1 bt301.2.1 bt301.2.2.1 bt308.1 bt308.2.1 bt308.2.2.1) else (towncrierlaw07_RegistryGrows.j1 k bt308.2.2.2 true bt301.1 bt301.2.1 bt301.2.2.1 bt308.1 bt308.2.1 bt308.2.2.1)))))
def towncrierlaw07_RegistryGrows.j1 : Nat → Bool → Bool → ByteArray → Int → List (SField) → ByteArray → Int → List (SField) → Option (Bool)
  | 0, _, _, _, _, _, _, _, _ => none
  | k + 1, x15, x61, x308000, x308001, x308002, x315000, x315001, x315002 => if x61 = true then (some true) else (if x15 = true then (if x315001 < x308001 then (towncrierlaw07_RegistryGrows.j2 k true x308000 x308001 x308002 x315000 x315001 x315002) else (towncrierlaw07_RegistryGrows.j2 k (decide ((x315002.length : Int) < (x308002.length : Int))) x308000 x308001 x308002 x315000 x315001 x315002)) else (towncrierlaw07_RegistryGrows.j2 k true x308000 x308001 x308002 x315000 x315001 x315002))
def towncrierlaw07_RegistryGrows.j2 : Nat → Bool → ByteArray → Int → List (SField) → ByteArray → Int → List (SField) → Option (Bool)
  | 0, _, _, _, _, _, _, _ => none
  | k + 1, x79, x308000, x308001, x308002, x315000, x315001, x315002 => if x79 = true then (some false) else (towncrierlaw07_RegistryGrows.l0 k 0 x308000 x308001 x308002 x315000 x315001 x315002)
def towncrierlaw07_RegistryGrows.l0 : Nat → Int → ByteArray → Int → List (SField) → ByteArray → Int → List (SField) → Option (Bool)
  | 0, _, _, _, _, _, _, _ => none
  | k + 1, x16, x308000, x308001, x308002, x315000, x315001, x315002 => if x16 < (x308002.length : Int) then (if 0 ≤ x16 then (if x16 < (x315002.length : Int) then (if (!((((rd_TField x315002 x16).f0).toList) == (((rd_TField x308002 x16).f0).toList)) || (!(((rd_TField x315002 x16).f1) == ((rd_TField x308002 x16).f1)))) = true then (some false) else (towncrierlaw07_RegistryGrows.l0 k (wrap64 (x16 + 1)) x308000 x308001 x308002 x315000 x315001 x315002)) else (none)) else (none)) else (some true)
end
def towncrierlaw07_RegistryGrows.f (k : Nat) (l0 : List (SSchema)) (a1_0 : ByteArray) (a1_1 : Int) (l1_2 : List (SField)) (a2 : ByteArray) : Option (Bool) := (towncrierlaw07_awake.f k).bind fun t294 => ((towncrierlaw07_Few.f k l0).bind fun t295 => ((towncrierlaw05_Few.f k a1_0 a1_1 l1_2).bind fun t296 => (if t294 = true then (if t295 = true then (if t296 = true then (towncrierlaw07_RegistryGrows.j0 k l0 a2 t294 (decide ((a2.size : Int) > 60)) a1_0 a1_1 l1_2) else (towncrierlaw07_RegistryGrows.j0 k l0 a2 t294 true a1_0 a1_1 l1_2)) else (towncrierlaw07_RegistryGrows.j0 k l0 a2 t294 true a1_0 a1_1 l1_2)) else (towncrierlaw07_RegistryGrows.j0 k l0 a2 t294 true a1_0 a1_1 l1_2))))
theorem towncrierlaw07_RegistryGrows.mono_l : ∀ k, (∀ y0 y1 y2 y3 y4 y5 y6, LeO (towncrierlaw07_RegistryGrows.j0 k y0 y1 y2 y3 y4 y5 y6) (towncrierlaw07_RegistryGrows.j0 (k + 1) y0 y1 y2 y3 y4 y5 y6)) ∧ (∀ y0 y1 y2 y3 y4 y5 y6 y7, LeO (towncrierlaw07_RegistryGrows.j1 k y0 y1 y2 y3 y4 y5 y6 y7) (towncrierlaw07_RegistryGrows.j1 (k + 1) y0 y1 y2 y3 y4 y5 y6 y7)) ∧ (∀ y0 y1 y2 y3 y4 y5 y6, LeO (towncrierlaw07_RegistryGrows.j2 k y0 y1 y2 y3 y4 y5 y6) (towncrierlaw07_RegistryGrows.j2 (k + 1) y0 y1 y2 y3 y4 y5 y6)) ∧ (∀ y0 y1 y2 y3 y4 y5 y6, LeO (towncrierlaw07_RegistryGrows.l0 k y0 y1 y2 y3 y4 y5 y6) (towncrierlaw07_RegistryGrows.l0 (k + 1) y0 y1 y2 y3 y4 y5 y6))
  | 0 => ⟨fun _ _ _ _ _ _ _ r h => by simp [towncrierlaw07_RegistryGrows.j0] at h, fun _ _ _ _ _ _ _ _ r h => by simp [towncrierlaw07_RegistryGrows.j1] at h, fun _ _ _ _ _ _ _ r h => by simp [towncrierlaw07_RegistryGrows.j2] at h, fun _ _ _ _ _ _ _ r h => by simp [towncrierlaw07_RegistryGrows.l0] at h⟩
  | k + 1 => by
    obtain ⟨ih0, ih1, ih2, ih3⟩ := towncrierlaw07_RegistryGrows.mono_l k
    refine ⟨?_, ?_, ?_, ?_⟩
    · intro y0 y1 y2 y3 y4 y5 y6
      unfold towncrierlaw07_RegistryGrows.j0
      repeat' first
      | (with_reducible exact ih0 _ _ _ _ _ _ _)
      | (with_reducible exact ih1 _ _ _ _ _ _ _ _)
      | (with_reducible exact ih2 _ _ _ _ _ _ _)
      | (with_reducible exact ih3 _ _ _ _ _ _ _)
      | (with_reducible exact registry_Add.mono _ _ _ _ _)
      | (with_reducible exact towncrierlaw05_Few.mono _ _ _ _)
      | (with_reducible exact towncrierlaw07_Few.mono _ _)
      | (with_reducible exact towncrierlaw07_awake.mono _)
      | (with_reducible exact LeO.refl _)
      | (with_reducible exact LeO.none _)
      | (with_reducible refine LeO.ite ?_ ?_)
      | (with_reducible refine LeO.bind ?_ (fun _ => ?_))
      | exact ih0 _ _ _ _ _ _ _
      | exact ih1 _ _ _ _ _ _ _ _
      | exact ih2 _ _ _ _ _ _ _
      | exact ih3 _ _ _ _ _ _ _
      | exact registry_Add.mono _ _ _ _ _
      | exact towncrierlaw05_Few.mono _ _ _ _
      | exact towncrierlaw07_Few.mono _ _
      | exact towncrierlaw07_awake.mono _
      | exact LeO.none _
      | refine LeO.ite ?_ ?_
      | refine LeO.bind ?_ (fun _ => ?_)
    · intro y0 y1 y2 y3 y4 y5 y6 y7
      unfold towncrierlaw07_RegistryGrows.j1
      repeat' first
      | (with_reducible exact ih0 _ _ _ _ _ _ _)
      | (with_reducible exact ih1 _ _ _ _ _ _ _ _)
      | (with_reducible exact ih2 _ _ _ _ _ _ _)
      | (with_reducible exact ih3 _ _ _ _ _ _ _)
      | (with_reducible exact registry_Add.mono _ _ _ _ _)
      | (with_reducible exact towncrierlaw05_Few.mono _ _ _ _)
      | (with_reducible exact towncrierlaw07_Few.mono _ _)
      | (with_reducible exact towncrierlaw07_awake.mono _)
      | (with_reducible exact LeO.refl _)
      | (with_reducible exact LeO.none _)
      | (with_reducible refine LeO.ite ?_ ?_)
      | (with_reducible refine LeO.bind ?_ (fun _ => ?_))
      | exact ih0 _ _ _ _ _ _ _
      | exact ih1 _ _ _ _ _ _ _ _
      | exact ih2 _ _ _ _ _ _ _
      | exact ih3 _ _ _ _ _ _ _
      | exact registry_Add.mono _ _ _ _ _
      | exact towncrierlaw05_Few.mono _ _ _ _
      | exact towncrierlaw07_Few.mono _ _
      | exact towncrierlaw07_awake.mono _
      | exact LeO.none _
      | refine LeO.ite ?_ ?_
      | refine LeO.bind ?_ (fun _ => ?_)
    · intro y0 y1 y2 y3 y4 y5 y6
      unfold towncrierlaw07_RegistryGrows.j2
      repeat' first
      | (with_reducible exact ih0 _ _ _ _ _ _ _)
      | (with_reducible exact ih1 _ _ _ _ _ _ _ _)
      | (with_reducible exact ih2 _ _ _ _ _ _ _)
      | (with_reducible exact ih3 _ _ _ _ _ _ _)
      | (with_reducible exact registry_Add.mono _ _ _ _ _)
      | (with_reducible exact towncrierlaw05_Few.mono _ _ _ _)
      | (with_reducible exact towncrierlaw07_Few.mono _ _)
      | (with_reducible exact towncrierlaw07_awake.mono _)
      | (with_reducible exact LeO.refl _)
      | (with_reducible exact LeO.none _)
      | (with_reducible refine LeO.ite ?_ ?_)
      | (with_reducible refine LeO.bind ?_ (fun _ => ?_))
      | exact ih0 _ _ _ _ _ _ _
      | exact ih1 _ _ _ _ _ _ _ _
      | exact ih2 _ _ _ _ _ _ _
      | exact ih3 _ _ _ _ _ _ _
      | exact registry_Add.mono _ _ _ _ _
      | exact towncrierlaw05_Few.mono _ _ _ _
      | exact towncrierlaw07_Few.mono _ _
      | exact towncrierlaw07_awake.mono _
      | exact LeO.none _
      | refine LeO.ite ?_ ?_
      | refine LeO.bind ?_ (fun _ => ?_)
    · intro y0 y1 y2 y3 y4 y5 y6
      unfold towncrierlaw07_RegistryGrows.l0
      repeat' first
      | (with_reducible exact ih0 _ _ _ _ _ _ _)
      | (with_reducible exact ih1 _ _ _ _ _ _ _ _)
      | (with_reducible exact ih2 _ _ _ _ _ _ _)
      | (with_reducible exact ih3 _ _ _ _ _ _ _)
      | (with_reducible exact registry_Add.mono _ _ _ _ _)
      | (with_reducible exact towncrierlaw05_Few.mono _ _ _ _)
      | (with_reducible exact towncrierlaw07_Few.mono _ _)
      | (with_reducible exact towncrierlaw07_awake.mono _)
      | (with_reducible exact LeO.refl _)
      | (with_reducible exact LeO.none _)
      | (with_reducible refine LeO.ite ?_ ?_)
      | (with_reducible refine LeO.bind ?_ (fun _ => ?_))
      | exact ih0 _ _ _ _ _ _ _
      | exact ih1 _ _ _ _ _ _ _ _
      | exact ih2 _ _ _ _ _ _ _
      | exact ih3 _ _ _ _ _ _ _
      | exact registry_Add.mono _ _ _ _ _
      | exact towncrierlaw05_Few.mono _ _ _ _
      | exact towncrierlaw07_Few.mono _ _
      | exact towncrierlaw07_awake.mono _
      | exact LeO.none _
      | refine LeO.ite ?_ ?_
      | refine LeO.bind ?_ (fun _ => ?_)
theorem towncrierlaw07_RegistryGrows.mono : ∀ a0 a1 a2 a3 a4 k, LeO (towncrierlaw07_RegistryGrows.f k a0 a1 a2 a3 a4) (towncrierlaw07_RegistryGrows.f (k + 1) a0 a1 a2 a3 a4) := by
  intro a0 a1 a2 a3 a4 k
  obtain ⟨ih0, ih1, ih2, ih3⟩ := towncrierlaw07_RegistryGrows.mono_l k
  unfold towncrierlaw07_RegistryGrows.f
  repeat' first
      | (with_reducible exact ih0 _ _ _ _ _ _ _)
      | (with_reducible exact ih1 _ _ _ _ _ _ _ _)
      | (with_reducible exact ih2 _ _ _ _ _ _ _)
      | (with_reducible exact ih3 _ _ _ _ _ _ _)
      | (with_reducible exact registry_Add.mono _ _ _ _ _)
      | (with_reducible exact towncrierlaw05_Few.mono _ _ _ _)
      | (with_reducible exact towncrierlaw07_Few.mono _ _)
      | (with_reducible exact towncrierlaw07_awake.mono _)
      | (with_reducible exact LeO.refl _)
      | (with_reducible exact LeO.none _)
      | (with_reducible refine LeO.ite ?_ ?_)
      | (with_reducible refine LeO.bind ?_ (fun _ => ?_))
      | exact ih0 _ _ _ _ _ _ _
      | exact ih1 _ _ _ _ _ _ _ _
      | exact ih2 _ _ _ _ _ _ _
      | exact ih3 _ _ _ _ _ _ _
      | exact registry_Add.mono _ _ _ _ _
      | exact towncrierlaw05_Few.mono _ _ _ _
      | exact towncrierlaw07_Few.mono _ _
      | exact towncrierlaw07_awake.mono _
      | exact LeO.none _
      | refine LeO.ite ?_ ?_
      | refine LeO.bind ?_ (fun _ => ?_)
set_option maxHeartbeats 8000000 in
set_option maxRecDepth 100000 in
theorem towncrierlaw07_RegistryGrows.calls (k : Nat) (A0 : Option Addr) (c0 : Nat) (l0 : List (SSchema)) (a1_0 : ByteArray) (a1_1 : Int) (A1_2 : Option Addr) (c1_2 : Nat) (l1_2 : List (SField)) (a2 : ByteArray) (r : Bool) (w : World) (hr0 : Kd.C kSchema w A0 l0.length l0) (hc0 : l0.length ≤ c0) (hr1_2 : Kd.C kField w A1_2 l1_2.length l1_2) (hc1_2 : l1_2.length ≤ c1_2) (h : towncrierlaw07_RegistryGrows.f k l0 a1_0 a1_1 l1_2 a2 = some r) :
    Calls Try.prog 5 #[.slice A0 l0.length c0, .agg #[.string a1_0, .int .i64 a1_1, .slice A1_2 l1_2.length c1_2], .string a2] w fun e w' => e = .returned (.bool r) ∧ Below w.heap.size w w' := by
  have hu25 := Try.underlying25
  have hu39 := Try.underlying39
  have HR0 := Aside0.mk hr0
  have HC0 := Aside0.mk hc0
  clear hr0 hc0
  have HR1_2 := Aside0.mk hr1_2
  have HC1_2 := Aside0.mk hc1_2
  clear hr1_2 hc1_2
  have HB := Aside0.mk (Below.refl w.heap.size w)
  have H : ((towncrierlaw07_awake.f k).bind fun t294 => ((towncrierlaw07_Few.f k l0).bind fun t295 => ((towncrierlaw05_Few.f k a1_0 a1_1 l1_2).bind fun t296 => (if t294 = true then (if t295 = true then (if t296 = true then (towncrierlaw07_RegistryGrows.j0 k l0 a2 t294 (decide ((a2.size : Int) > 60)) a1_0 a1_1 l1_2) else (towncrierlaw07_RegistryGrows.j0 k l0 a2 t294 true a1_0 a1_1 l1_2)) else (towncrierlaw07_RegistryGrows.j0 k l0 a2 t294 true a1_0 a1_1 l1_2)) else (towncrierlaw07_RegistryGrows.j0 k l0 a2 t294 true a1_0 a1_1 l1_2))))) = some r := h
  clear h
  replace H := Option.bind_eq_some_iff.mp H
  obtain ⟨t294, A40, H⟩ := H
  replace H : ((towncrierlaw07_Few.f k l0).bind fun t295 => ((towncrierlaw05_Few.f k a1_0 a1_1 l1_2).bind fun t296 => (if t294 = true then (if t295 = true then (if t296 = true then (towncrierlaw07_RegistryGrows.j0 k l0 a2 t294 (decide ((a2.size : Int) > 60)) a1_0 a1_1 l1_2) else (towncrierlaw07_RegistryGrows.j0 k l0 a2 t294 true a1_0 a1_1 l1_2)) else (towncrierlaw07_RegistryGrows.j0 k l0 a2 t294 true a1_0 a1_1 l1_2)) else (towncrierlaw07_RegistryGrows.j0 k l0 a2 t294 true a1_0 a1_1 l1_2)))) = some r := H
  have A4 := Aside0.mk A40
  clear A40
  replace H := Option.bind_eq_some_iff.mp H
  obtain ⟨t295, A50, H⟩ := H
  replace H : ((towncrierlaw05_Few.f k a1_0 a1_1 l1_2).bind fun t296 => (if t294 = true then (if t295 = true then (if t296 = true then (towncrierlaw07_RegistryGrows.j0 k l0 a2 t294 (decide ((a2.size : Int) > 60)) a1_0 a1_1 l1_2) else (towncrierlaw07_RegistryGrows.j0 k l0 a2 t294 true a1_0 a1_1 l1_2)) else (towncrierlaw07_RegistryGrows.j0 k l0 a2 t294 true a1_0 a1_1 l1_2)) else (towncrierlaw07_RegistryGrows.j0 k l0 a2 t294 true a1_0 a1_1 l1_2))) = some r := H
  have A5 := Aside0.mk A50
  clear A50
  replace H := Option.bind_eq_some_iff.mp H
  obtain ⟨t296, A60, H⟩ := H
  replace H : (if t294 = true then (if t295 = true then (if t296 = true then (towncrierlaw07_RegistryGrows.j0 k l0 a2 t294 (decide ((a2.size : Int) > 60)) a1_0 a1_1 l1_2) else (towncrierlaw07_RegistryGrows.j0 k l0 a2 t294 true a1_0 a1_1 l1_2)) else (towncrierlaw07_RegistryGrows.j0 k l0 a2 t294 true a1_0 a1_1 l1_2)) else (towncrierlaw07_RegistryGrows.j0 k l0 a2 t294 true a1_0 a1_1 l1_2)) = some r := H
  have A6 := Aside0.mk A60
  clear A60
  have HC7 := Aside0.mk H
  clear H
  go_enter Try.func5, Try.ntmps5
  go_upto_region 4 with (first | ((with_reducible refine gate_dst (N := 4) rfl ?_); (try (refine gate_guard (by rfl) ?_; dsimp only)); refine box_event ?hg (N := 4) ?hd (cs := #[.string a1_0, .int .i64 a1_1, .slice A1_2 l1_2.length c1_2]) (t := 25) ?hr ?_; (case hd => rfl); (case hg => rfl); (case hr => first | (go_simp; done) | (go_simp; rfl)); intro gb293 hg w8 hbox hb; have n0_ := Aside0.mk (below_step (by repeat (first | (with_reducible first | exact HB.out | apply below_alloc | apply pw_below_drewN | apply below_drew1) | exact HB.out)) hb); have n1_ := Aside0.mk (hbox); have n2_ := Aside0.mk ((by rw [hg]; exact (below_size (by repeat (first | (with_reducible first | exact HB.out | apply below_alloc | apply pw_below_drewN | apply below_drew1) | exact HB.out))) : w.heap.size ≤ gb293)); have n3_ := Aside0.mk ((by rw [hg]; exact (below_size (by repeat (first | (with_reducible first | exact HB.out | apply below_alloc | apply pw_below_drewN | apply below_drew1) | exact HB.out))) : w.heap.size ≤ gb293)); clear HB; have HB := n0_; have BK293 := n1_; have GW293 := n2_; have GE293 := n3_; clear n0_ n1_ n2_ n3_; clear hb hbox hg) | (go_at_call 15; (with_reducible refine (towncrierlaw07_awake.calls k  t294 _ A4.out).mono ?_); rintro e w9 ⟨rfl, hb⟩; have n0_ := Aside0.mk (blk_below (g := gb293) (o := .cells #[.string a1_0, .int .i64 a1_1, .slice A1_2 l1_2.length c1_2] 25 (0, 0)) (by (with_reducible repeat (first | refine blk_drewN ?_ _ | refine blk_drew ?_ | refine blk_alloc ?_ _)); exact BK293.out) hb); have n1_ := Aside0.mk (below_step (by repeat (first | (with_reducible first | exact HB.out | apply below_alloc | apply pw_below_drewN | apply below_drew1 | refine below_set ?_ GE293.out) | exact HB.out)) hb); clear BK293; clear HB; have BK293 := n0_; have HB := n1_; clear n0_ n1_; (try clear hb); (try clear hb2); (try clear hk); (try clear hi)) | (go_at_call 16; (with_reducible refine (towncrierlaw07_Few.calls k _ _ l0 t295 _ ?side1 ?side2 A5.out).mono ?_); (case side1 => repeat (first | exact (Kd.C_below HR0.out HB.out) | (with_reducible refine Kd.C_alloc ?_ _) | (with_reducible refine Kd.C_drewN ?_ _) | (with_reducible refine Kd.C_drew ?_))); (case side2 => exact HC0.out); rintro e w10 ⟨rfl, hb⟩; have n0_ := Aside0.mk (blk_below (g := gb293) (o := .cells #[.string a1_0, .int .i64 a1_1, .slice A1_2 l1_2.length c1_2] 25 (0, 0)) (by (with_reducible repeat (first | refine blk_drewN ?_ _ | refine blk_drew ?_ | refine blk_alloc ?_ _)); exact BK293.out) hb); have n1_ := Aside0.mk (below_step (by repeat (first | (with_reducible first | exact HB.out | apply below_alloc | apply pw_below_drewN | apply below_drew1 | refine below_set ?_ GE293.out) | exact HB.out)) hb); clear BK293; clear HB; have BK293 := n0_; have HB := n1_; clear n0_ n1_; (try clear hb); (try clear hb2); (try clear hk); (try clear hi); have hcz11_0 : w10.cell? ⟨gb293, 0, none⟩ = some (.string a1_0) := (blk_cell BK293.out 0).trans rfl; have hcz11_1 : w10.cell? ⟨gb293, 1, none⟩ = some (.int .i64 a1_1) := (blk_cell BK293.out 1).trans rfl; have hcz11_2 : w10.cell? ⟨gb293, 2, none⟩ = some (.slice A1_2 l1_2.length c1_2) := (blk_cell BK293.out 2).trans rfl; have hfz11_0 := blk_frozen BK293.out 0; have hfz11_1 := blk_frozen BK293.out 1; have hfz11_2 := blk_frozen BK293.out 2) | (go_at_call 17; (with_reducible refine (towncrierlaw05_Few.calls k a1_0 a1_1 _ _ l1_2 t296 _ ?side1 ?side2 A6.out).mono ?_); (case side1 => repeat (first | exact (Kd.C_below HR1_2.out HB.out) | (with_reducible refine Kd.C_alloc ?_ _) | (with_reducible refine Kd.C_drewN ?_ _) | (with_reducible refine Kd.C_drew ?_))); (case side2 => exact HC1_2.out); rintro e w12 ⟨rfl, hb⟩; have n0_ := Aside0.mk (blk_below (g := gb293) (o := .cells #[.string a1_0, .int .i64 a1_1, .slice A1_2 l1_2.length c1_2] 25 (0, 0)) (by (with_reducible repeat (first | refine blk_drewN ?_ _ | refine blk_drew ?_ | refine blk_alloc ?_ _)); exact BK293.out) hb); have n1_ := Aside0.mk (below_step (by repeat (first | (with_reducible first | exact HB.out | apply below_alloc | apply pw_below_drewN | apply below_drew1 | refine below_set ?_ GE293.out) | exact HB.out)) hb); clear BK293; clear HB; have BK293 := n0_; have HB := n1_; clear n0_ n1_; (try clear hb); (try clear hb2); (try clear hk); (try clear hi)))
  repeat (go_quiet (first | ((with_reducible refine gate_dst (N := 4) rfl ?_); (try (refine gate_guard (by rfl) ?_; dsimp only)); refine box_event ?hg (N := 4) ?hd (cs := #[.string a1_0, .int .i64 a1_1, .slice A1_2 l1_2.length c1_2]) (t := 25) ?hr ?_; (case hd => rfl); (case hg => rfl); (case hr => first | (go_simp; done) | (go_simp; rfl)); intro gb293 hg w8 hbox hb; have n0_ := Aside0.mk (below_step (by repeat (first | (with_reducible first | exact HB.out | apply below_alloc | apply pw_below_drewN | apply below_drew1) | exact HB.out)) hb); have n1_ := Aside0.mk (hbox); have n2_ := Aside0.mk ((by rw [hg]; exact (below_size (by repeat (first | (with_reducible first | exact HB.out | apply below_alloc | apply pw_below_drewN | apply below_drew1) | exact HB.out))) : w.heap.size ≤ gb293)); have n3_ := Aside0.mk ((by rw [hg]; exact (below_size (by repeat (first | (with_reducible first | exact HB.out | apply below_alloc | apply pw_below_drewN | apply below_drew1) | exact HB.out))) : w.heap.size ≤ gb293)); clear HB; have HB := n0_; have BK293 := n1_; have GW293 := n2_; have GE293 := n3_; clear n0_ n1_ n2_ n3_; clear hb hbox hg) | (go_at_call 15; (with_reducible refine (towncrierlaw07_awake.calls k  t294 _ A4.out).mono ?_); rintro e w9 ⟨rfl, hb⟩; have n0_ := Aside0.mk (blk_below (g := gb293) (o := .cells #[.string a1_0, .int .i64 a1_1, .slice A1_2 l1_2.length c1_2] 25 (0, 0)) (by (with_reducible repeat (first | refine blk_drewN ?_ _ | refine blk_drew ?_ | refine blk_alloc ?_ _)); exact BK293.out) hb); have n1_ := Aside0.mk (below_step (by repeat (first | (with_reducible first | exact HB.out | apply below_alloc | apply pw_below_drewN | apply below_drew1 | refine below_set ?_ GE293.out) | exact HB.out)) hb); clear BK293; clear HB; have BK293 := n0_; have HB := n1_; clear n0_ n1_; (try clear hb); (try clear hb2); (try clear hk); (try clear hi)) | (go_at_call 16; (with_reducible refine (towncrierlaw07_Few.calls k _ _ l0 t295 _ ?side1 ?side2 A5.out).mono ?_); (case side1 => repeat (first | exact (Kd.C_below HR0.out HB.out) | (with_reducible refine Kd.C_alloc ?_ _) | (with_reducible refine Kd.C_drewN ?_ _) | (with_reducible refine Kd.C_drew ?_))); (case side2 => exact HC0.out); rintro e w10 ⟨rfl, hb⟩; have n0_ := Aside0.mk (blk_below (g := gb293) (o := .cells #[.string a1_0, .int .i64 a1_1, .slice A1_2 l1_2.length c1_2] 25 (0, 0)) (by (with_reducible repeat (first | refine blk_drewN ?_ _ | refine blk_drew ?_ | refine blk_alloc ?_ _)); exact BK293.out) hb); have n1_ := Aside0.mk (below_step (by repeat (first | (with_reducible first | exact HB.out | apply below_alloc | apply pw_below_drewN | apply below_drew1 | refine below_set ?_ GE293.out) | exact HB.out)) hb); clear BK293; clear HB; have BK293 := n0_; have HB := n1_; clear n0_ n1_; (try clear hb); (try clear hb2); (try clear hk); (try clear hi); have hcz11_0 : w10.cell? ⟨gb293, 0, none⟩ = some (.string a1_0) := (blk_cell BK293.out 0).trans rfl; have hcz11_1 : w10.cell? ⟨gb293, 1, none⟩ = some (.int .i64 a1_1) := (blk_cell BK293.out 1).trans rfl; have hcz11_2 : w10.cell? ⟨gb293, 2, none⟩ = some (.slice A1_2 l1_2.length c1_2) := (blk_cell BK293.out 2).trans rfl; have hfz11_0 := blk_frozen BK293.out 0; have hfz11_1 := blk_frozen BK293.out 1; have hfz11_2 := blk_frozen BK293.out 2) | (go_at_call 17; (with_reducible refine (towncrierlaw05_Few.calls k a1_0 a1_1 _ _ l1_2 t296 _ ?side1 ?side2 A6.out).mono ?_); (case side1 => repeat (first | exact (Kd.C_below HR1_2.out HB.out) | (with_reducible refine Kd.C_alloc ?_ _) | (with_reducible refine Kd.C_drewN ?_ _) | (with_reducible refine Kd.C_drew ?_))); (case side2 => exact HC1_2.out); rintro e w12 ⟨rfl, hb⟩; have n0_ := Aside0.mk (blk_below (g := gb293) (o := .cells #[.string a1_0, .int .i64 a1_1, .slice A1_2 l1_2.length c1_2] 25 (0, 0)) (by (with_reducible repeat (first | refine blk_drewN ?_ _ | refine blk_drew ?_ | refine blk_alloc ?_ _)); exact BK293.out) hb); have n1_ := Aside0.mk (below_step (by repeat (first | (with_reducible first | exact HB.out | apply below_alloc | apply pw_below_drewN | apply below_drew1 | refine below_set ?_ GE293.out) | exact HB.out)) hb); clear BK293; clear HB; have BK293 := n0_; have HB := n1_; clear n0_ n1_; (try clear hb); (try clear hb2); (try clear hk); (try clear hi))); go_upto_region 4 with (first | ((with_reducible refine gate_dst (N := 4) rfl ?_); (try (refine gate_guard (by rfl) ?_; dsimp only)); refine box_event ?hg (N := 4) ?hd (cs := #[.string a1_0, .int .i64 a1_1, .slice A1_2 l1_2.length c1_2]) (t := 25) ?hr ?_; (case hd => rfl); (case hg => rfl); (case hr => first | (go_simp; done) | (go_simp; rfl)); intro gb293 hg w8 hbox hb; have n0_ := Aside0.mk (below_step (by repeat (first | (with_reducible first | exact HB.out | apply below_alloc | apply pw_below_drewN | apply below_drew1) | exact HB.out)) hb); have n1_ := Aside0.mk (hbox); have n2_ := Aside0.mk ((by rw [hg]; exact (below_size (by repeat (first | (with_reducible first | exact HB.out | apply below_alloc | apply pw_below_drewN | apply below_drew1) | exact HB.out))) : w.heap.size ≤ gb293)); have n3_ := Aside0.mk ((by rw [hg]; exact (below_size (by repeat (first | (with_reducible first | exact HB.out | apply below_alloc | apply pw_below_drewN | apply below_drew1) | exact HB.out))) : w.heap.size ≤ gb293)); clear HB; have HB := n0_; have BK293 := n1_; have GW293 := n2_; have GE293 := n3_; clear n0_ n1_ n2_ n3_; clear hb hbox hg) | (go_at_call 15; (with_reducible refine (towncrierlaw07_awake.calls k  t294 _ A4.out).mono ?_); rintro e w9 ⟨rfl, hb⟩; have n0_ := Aside0.mk (blk_below (g := gb293) (o := .cells #[.string a1_0, .int .i64 a1_1, .slice A1_2 l1_2.length c1_2] 25 (0, 0)) (by (with_reducible repeat (first | refine blk_drewN ?_ _ | refine blk_drew ?_ | refine blk_alloc ?_ _)); exact BK293.out) hb); have n1_ := Aside0.mk (below_step (by repeat (first | (with_reducible first | exact HB.out | apply below_alloc | apply pw_below_drewN | apply below_drew1 | refine below_set ?_ GE293.out) | exact HB.out)) hb); clear BK293; clear HB; have BK293 := n0_; have HB := n1_; clear n0_ n1_; (try clear hb); (try clear hb2); (try clear hk); (try clear hi)) | (go_at_call 16; (with_reducible refine (towncrierlaw07_Few.calls k _ _ l0 t295 _ ?side1 ?side2 A5.out).mono ?_); (case side1 => repeat (first | exact (Kd.C_below HR0.out HB.out) | (with_reducible refine Kd.C_alloc ?_ _) | (with_reducible refine Kd.C_drewN ?_ _) | (with_reducible refine Kd.C_drew ?_))); (case side2 => exact HC0.out); rintro e w10 ⟨rfl, hb⟩; have n0_ := Aside0.mk (blk_below (g := gb293) (o := .cells #[.string a1_0, .int .i64 a1_1, .slice A1_2 l1_2.length c1_2] 25 (0, 0)) (by (with_reducible repeat (first | refine blk_drewN ?_ _ | refine blk_drew ?_ | refine blk_alloc ?_ _)); exact BK293.out) hb); have n1_ := Aside0.mk (below_step (by repeat (first | (with_reducible first | exact HB.out | apply below_alloc | apply pw_below_drewN | apply below_drew1 | refine below_set ?_ GE293.out) | exact HB.out)) hb); clear BK293; clear HB; have BK293 := n0_; have HB := n1_; clear n0_ n1_; (try clear hb); (try clear hb2); (try clear hk); (try clear hi); have hcz11_0 : w10.cell? ⟨gb293, 0, none⟩ = some (.string a1_0) := (blk_cell BK293.out 0).trans rfl; have hcz11_1 : w10.cell? ⟨gb293, 1, none⟩ = some (.int .i64 a1_1) := (blk_cell BK293.out 1).trans rfl; have hcz11_2 : w10.cell? ⟨gb293, 2, none⟩ = some (.slice A1_2 l1_2.length c1_2) := (blk_cell BK293.out 2).trans rfl; have hfz11_0 := blk_frozen BK293.out 0; have hfz11_1 := blk_frozen BK293.out 1; have hfz11_2 := blk_frozen BK293.out 2) | (go_at_call 17; (with_reducible refine (towncrierlaw05_Few.calls k a1_0 a1_1 _ _ l1_2 t296 _ ?side1 ?side2 A6.out).mono ?_); (case side1 => repeat (first | exact (Kd.C_below HR1_2.out HB.out) | (with_reducible refine Kd.C_alloc ?_ _) | (with_reducible refine Kd.C_drewN ?_ _) | (with_reducible refine Kd.C_drew ?_))); (case side2 => exact HC1_2.out); rintro e w12 ⟨rfl, hb⟩; have n0_ := Aside0.mk (blk_below (g := gb293) (o := .cells #[.string a1_0, .int .i64 a1_1, .slice A1_2 l1_2.length c1_2] 25 (0, 0)) (by (with_reducible repeat (first | refine blk_drewN ?_ _ | refine blk_drew ?_ | refine blk_alloc ?_ _)); exact BK293.out) hb); have n1_ := Aside0.mk (below_step (by repeat (first | (with_reducible first | exact HB.out | apply below_alloc | apply pw_below_drewN | apply below_drew1 | refine below_set ?_ GE293.out) | exact HB.out)) hb); clear BK293; clear HB; have BK293 := n0_; have HB := n1_; clear n0_ n1_; (try clear hb); (try clear hb2); (try clear hk); (try clear hi))))
  (try simp only [Act.put, List.setIfInBounds_toArray, List.set_cons_zero, List.set_cons_succ])
  go_cut [36] (fun v36 wc => ∃ (kq : Nat) (x36_6 : Bool), v36 = .bool x36_6 ∧ Aside0 (towncrierlaw07_RegistryGrows.j0 kq l0 a2 t294 x36_6 a1_0 a1_1 l1_2 = some r) ∧ Aside0 (kq ≤ k) ∧ Aside0 (wc.heap[gb293]? = some (.cells #[.string a1_0, .int .i64 a1_1, (.slice A1_2 l1_2.length c1_2)] 25 (0, 0))) ∧ Aside0 (Below w.heap.size w wc))
  case first =>
    have H := HC7.out
    clear HC7
    by_cases c13 : t294 = true
    · subst c13
      have H1 : (if t295 = true then (if t296 = true then (towncrierlaw07_RegistryGrows.j0 k l0 a2 true (decide ((a2.size : Int) > 60)) a1_0 a1_1 l1_2) else (towncrierlaw07_RegistryGrows.j0 k l0 a2 true true a1_0 a1_1 l1_2)) else (towncrierlaw07_RegistryGrows.j0 k l0 a2 true true a1_0 a1_1 l1_2)) = some r := by rw [if_pos rfl] at H; exact H
      clear H
      have H := H1
      clear H1
      by_cases c14 : t295 = true
      · subst c14
        have H1 : (if t296 = true then (towncrierlaw07_RegistryGrows.j0 k l0 a2 true (decide ((a2.size : Int) > 60)) a1_0 a1_1 l1_2) else (towncrierlaw07_RegistryGrows.j0 k l0 a2 true true a1_0 a1_1 l1_2)) = some r := by rw [if_pos rfl] at H; exact H
        clear H
        have H := H1
        clear H1
        by_cases c15 : t296 = true
        · subst c15
          have H1 : (towncrierlaw07_RegistryGrows.j0 k l0 a2 true (decide ((a2.size : Int) > 60)) a1_0 a1_1 l1_2) = some r := by rw [if_pos rfl] at H; exact H
          clear H
          have H := H1
          clear H1
          have H' := Aside0.mk H
          clear H
          go_wp2
          repeat (go_quiet (fail); try go_wp2)
          go_meet
          case rel => exact ⟨_, (decide ((a2.size : Int) > 60)), (by first | rfl | (simp; done) | (simp [*]; done)), H', ⟨by first | omega | exact Nat.le_refl _⟩, ⟨by (with_reducible repeat (first | refine blk_drewN ?_ _ | refine blk_drew ?_ | refine blk_alloc ?_ _)); exact BK293.out⟩, ⟨by repeat (first | (with_reducible first | exact HB.out | apply below_alloc | apply pw_below_drewN | apply below_drew1 | refine below_set ?_ GE293.out) | exact HB.out)⟩⟩
        · replace c15 := Bool.eq_false_iff.mpr c15
          subst c15
          have H1 : (towncrierlaw07_RegistryGrows.j0 k l0 a2 true true a1_0 a1_1 l1_2) = some r := by rw [if_neg (show ¬ (false = true) by decide)] at H; exact H
          clear H
          have H := H1
          clear H1
          have H' := Aside0.mk H
          clear H
          go_wp2
          repeat (go_quiet (fail); try go_wp2)
          go_meet
          case rel => exact ⟨_, (true), (by first | rfl | (simp; done) | (simp [*]; done)), H', ⟨by first | omega | exact Nat.le_refl _⟩, ⟨by (with_reducible repeat (first | refine blk_drewN ?_ _ | refine blk_drew ?_ | refine blk_alloc ?_ _)); exact BK293.out⟩, ⟨by repeat (first | (with_reducible first | exact HB.out | apply below_alloc | apply pw_below_drewN | apply below_drew1 | refine below_set ?_ GE293.out) | exact HB.out)⟩⟩
      · replace c14 := Bool.eq_false_iff.mpr c14
        subst c14
        have H1 : (towncrierlaw07_RegistryGrows.j0 k l0 a2 true true a1_0 a1_1 l1_2) = some r := by rw [if_neg (show ¬ (false = true) by decide)] at H; exact H
        clear H
        have H := H1
        clear H1
        have H' := Aside0.mk H
        clear H
        go_wp2
        repeat (go_quiet (fail); try go_wp2)
        go_meet
        case rel => exact ⟨_, (true), (by first | rfl | (simp; done) | (simp [*]; done)), H', ⟨by first | omega | exact Nat.le_refl _⟩, ⟨by (with_reducible repeat (first | refine blk_drewN ?_ _ | refine blk_drew ?_ | refine blk_alloc ?_ _)); exact BK293.out⟩, ⟨by repeat (first | (with_reducible first | exact HB.out | apply below_alloc | apply pw_below_drewN | apply below_drew1 | refine below_set ?_ GE293.out) | exact HB.out)⟩⟩
    · replace c13 := Bool.eq_false_iff.mpr c13
      subst c13
      have H1 : (towncrierlaw07_RegistryGrows.j0 k l0 a2 false true a1_0 a1_1 l1_2) = some r := by rw [if_neg (show ¬ (false = true) by decide)] at H; exact H
      clear H
      have H := H1
      clear H1
      have H' := Aside0.mk H
      clear H
      go_wp2
      repeat (go_quiet (fail); try go_wp2)
      go_meet
      case rel => exact ⟨_, (true), (by first | rfl | (simp; done) | (simp [*]; done)), H', ⟨by first | omega | exact Nat.le_refl _⟩, ⟨by (with_reducible repeat (first | refine blk_drewN ?_ _ | refine blk_drew ?_ | refine blk_alloc ?_ _)); exact BK293.out⟩, ⟨by repeat (first | (with_reducible first | exact HB.out | apply below_alloc | apply pw_below_drewN | apply below_drew1 | refine below_set ?_ GE293.out) | exact HB.out)⟩⟩
  case rest =>
    clear HC7
    try clear c1
    try clear p2
    try clear c5
    try clear c13
    try clear c14
    try clear c15
    try clear hcz11_0
    try clear hcz11_1
    try clear hcz11_2
    try clear hfz11_0
    try clear hfz11_1
    try clear hfz11_2
    obtain ⟨kq, x36_6, rfl, HA, HJ6, BK293, HB⟩ := hcut
    cases kq with
    | zero => exact absurd HA.out (by simp [towncrierlaw07_RegistryGrows.j0])
    | succ kj6 =>
      have H := HA.out
      clear HA
      simp only [towncrierlaw07_RegistryGrows.j0] at H
      by_cases c16 : x36_6 = true
      · subst c16
        have H1 : (some t294) = some r := by rw [if_pos rfl] at H; exact H
        clear H
        have H := H1
        clear H1
        obtain rfl := Option.some.inj H
        go_wp2
        repeat (go_quiet (fail); try go_wp2)
        go_ret
        exact ⟨by first | rfl | (simp [errW_none, errW_some] <;> rfl) | (simp [*, errW_none, errW_some] <;> rfl), by repeat (first | (with_reducible first | exact HB.out | apply below_alloc | apply pw_below_drewN | apply below_drew1 | refine below_set ?_ GE293.out) | exact HB.out)⟩
      · replace c16 := Bool.eq_false_iff.mpr c16
        subst c16
        have H1 : ((registry_Add.f kj6 l0 a1_0 a1_1 l1_2).bind fun bt297 => ((registry_Find.f l0 a2).bind fun bt301 => ((registry_Find.f bt297.1 a2).bind fun bt308 => (if bt297.2 = 0 then (towncrierlaw07_RegistryGrows.j1 kj6 bt308.2.2.2 (!bt301.2.2.2) bt301.1 bt301.2.1 bt301.2.2.1 bt308.1 bt308.2.1 bt308.2.2.1) else (towncrierlaw07_RegistryGrows.j1 kj6 bt308.2.2.2 true bt301.1 bt301.2.1 bt301.2.2.1 bt308.1 bt308.2.1 bt308.2.2.1))))) = some r := by rw [if_neg (show ¬ (false = true) by decide)] at H; exact H
        clear H
        have H := H1
        clear H1
        replace H := Option.bind_eq_some_iff.mp H
        obtain ⟨⟨t297, t300⟩, A170, H⟩ := H
        replace H : ((registry_Find.f l0 a2).bind fun bt301 => ((registry_Find.f t297 a2).bind fun bt308 => (if t300 = 0 then (towncrierlaw07_RegistryGrows.j1 kj6 bt308.2.2.2 (!bt301.2.2.2) bt301.1 bt301.2.1 bt301.2.2.1 bt308.1 bt308.2.1 bt308.2.2.1) else (towncrierlaw07_RegistryGrows.j1 kj6 bt308.2.2.2 true bt301.1 bt301.2.1 bt301.2.2.1 bt308.1 bt308.2.1 bt308.2.2.1)))) = some r := H
        have A17 := Aside0.mk A170
        clear A170
        replace H := Option.bind_eq_some_iff.mp H
        obtain ⟨⟨t301, t302, t303, t306⟩, A180, H⟩ := H
        replace H : ((registry_Find.f t297 a2).bind fun bt308 => (if t300 = 0 then (towncrierlaw07_RegistryGrows.j1 kj6 bt308.2.2.2 (!t306) t301 t302 t303 bt308.1 bt308.2.1 bt308.2.2.1) else (towncrierlaw07_RegistryGrows.j1 kj6 bt308.2.2.2 true t301 t302 t303 bt308.1 bt308.2.1 bt308.2.2.1))) = some r := H
        have A18 := Aside0.mk A180
        clear A180
        replace H := Option.bind_eq_some_iff.mp H
        obtain ⟨⟨t308, t309, t310, t313⟩, A190, H⟩ := H
        replace H : (if t300 = 0 then (towncrierlaw07_RegistryGrows.j1 kj6 t313 (!t306) t301 t302 t303 t308 t309 t310) else (towncrierlaw07_RegistryGrows.j1 kj6 t313 true t301 t302 t303 t308 t309 t310)) = some r := H
        have A19 := Aside0.mk A190
        clear A190
        have HC20 := Aside0.mk H
        clear H
        have hcz21_0 : wc.cell? ⟨gb293, 0, none⟩ = some (.string a1_0) := (blk_cell BK293.out 0).trans rfl
        have hcz21_1 : wc.cell? ⟨gb293, 1, none⟩ = some (.int .i64 a1_1) := (blk_cell BK293.out 1).trans rfl
        have hcz21_2 : wc.cell? ⟨gb293, 2, none⟩ = some (.slice A1_2 l1_2.length c1_2) := (blk_cell BK293.out 2).trans rfl
        have hfz21_0 := blk_frozen BK293.out 0
        have hfz21_1 := blk_frozen BK293.out 1
        have hfz21_2 := blk_frozen BK293.out 2
        go_upto_region 9 with (first | (go_at_call 18; (with_reducible refine (registry_Add.calls kj6 _ _ l0 a1_0 a1_1 _ _ l1_2 t297 t300 _ ?side1 ?side2 ?side3 ?side4 A17.out).mono ?_); (case side1 => repeat (first | exact (Kd.C_below HR0.out HB.out) | (with_reducible refine Kd.C_alloc ?_ _) | (with_reducible refine Kd.C_drewN ?_ _) | (with_reducible refine Kd.C_drew ?_))); (case side2 => exact HC0.out); (case side3 => repeat (first | exact (Kd.C_below HR1_2.out HB.out) | (with_reducible refine Kd.C_alloc ?_ _) | (with_reducible refine Kd.C_drewN ?_ _) | (with_reducible refine Kd.C_drew ?_))); (case side4 => exact HC1_2.out); rintro e w22 ⟨v298, rfl, ho0, hb⟩; have n0_ := Aside0.mk (Kd.S_lower (Kd.S_newB ho0 (g := gb293) (o := .cells #[.string a1_0, .int .i64 a1_1, .slice A1_2 l1_2.length c1_2] 25 (0, 0)) (by (with_reducible repeat (first | refine blk_drewN ?_ _ | refine blk_drew ?_ | refine blk_alloc ?_ _)); exact BK293.out)) (below_size (by repeat (first | (with_reducible first | exact HB.out | apply below_alloc | apply pw_below_drewN | apply below_drew1 | refine below_set ?_ GE293.out) | exact HB.out)))); have n1_ := Aside0.mk (blk_below (g := gb293) (o := .cells #[.string a1_0, .int .i64 a1_1, .slice A1_2 l1_2.length c1_2] 25 (0, 0)) (by (with_reducible repeat (first | refine blk_drewN ?_ _ | refine blk_drew ?_ | refine blk_alloc ?_ _)); exact BK293.out) hb); have n2_ := Aside0.mk (below_step (by repeat (first | (with_reducible first | exact HB.out | apply below_alloc | apply pw_below_drewN | apply below_drew1 | refine below_set ?_ GE293.out) | exact HB.out)) hb); clear BK293; clear HB; have HO299 := n0_; have BK293 := n1_; have HB := n2_; clear n0_ n1_ n2_; (try clear hb); (try clear hb2); (try clear hk); (try clear hi); (try clear ho0)) | (go_at_call 20; (with_reducible refine (registry_Find.calls _ _ l0 a2 t301 t302 t303 t306 _ ?side1 ?side2 A18.out).mono ?_); (case side1 => repeat (first | exact (Kd.C_below HR0.out HB.out) | (with_reducible refine Kd.C_alloc ?_ _) | (with_reducible refine Kd.C_drewN ?_ _) | (with_reducible refine Kd.C_drew ?_))); (case side2 => exact HC0.out); rintro e w23 ⟨v304, rfl, ho0, hb⟩; have n0_ := Aside0.mk (Kd.S_elder' (by (with_reducible repeat (first | apply Kd.S_alloc | apply Kd.S_drewN | apply Kd.S_drew)); exact HO299.out) (Kd.R_base ho0) hb); have n1_ := Aside0.mk (Kd.R_lower ho0 (below_size (by repeat (first | (with_reducible first | exact HB.out | apply below_alloc | apply pw_below_drewN | apply below_drew1 | refine below_set ?_ GE293.out) | exact HB.out)))); have n2_ := Aside0.mk (blk_below (g := gb293) (o := .cells #[.string a1_0, .int .i64 a1_1, .slice A1_2 l1_2.length c1_2] 25 (0, 0)) (by (with_reducible repeat (first | refine blk_drewN ?_ _ | refine blk_drew ?_ | refine blk_alloc ?_ _)); exact BK293.out) hb); have n3_ := Aside0.mk (below_step (by repeat (first | (with_reducible first | exact HB.out | apply below_alloc | apply pw_below_drewN | apply below_drew1 | refine below_set ?_ GE293.out) | exact HB.out)) hb); clear HO299; clear BK293; clear HB; have HO299 := n0_; have HO305 := n1_; have BK293 := n2_; have HB := n3_; clear n0_ n1_ n2_ n3_; (try clear hb); (try clear hb2); (try clear hk); (try clear hi); (try clear ho0)) | ((with_reducible refine gate_dst (N := 12) rfl ?_); (try (refine gate_guard (by rfl) ?_; dsimp only)); refine box_event ?hg (N := 12) ?hd (cs := #[.string (⟨#[]⟩ : ByteArray), .int .i64 0, .slice none 0 0]) (t := 25) ?hr ?_; (case hd => rfl); (case hg => rfl); (case hr => first | (go_simp; done) | (go_simp; rfl)); intro gb307 hg w24 hbox hb; have n0_ := Aside0.mk (Kd.S_below (Kd.S_elderB (by (with_reducible repeat (first | apply Kd.S_alloc | apply Kd.S_drewN | apply Kd.S_drew)); exact HO299.out) gb307 (Nat.le_of_eq hg.symm)) hb); have n1_ := Aside0.mk (Kd.R_below (by (with_reducible repeat (first | apply Kd.R_alloc | apply Kd.R_drewN | apply Kd.R_drew)); exact HO305.out) hb); have n2_ := Aside0.mk (blk_below (g := gb293) (o := .cells #[.string a1_0, .int .i64 a1_1, .slice A1_2 l1_2.length c1_2] 25 (0, 0)) (by (with_reducible repeat (first | refine blk_drewN ?_ _ | refine blk_drew ?_ | refine blk_alloc ?_ _)); exact BK293.out) hb); have n3_ := Aside0.mk (below_step (by repeat (first | (with_reducible first | exact HB.out | apply below_alloc | apply pw_below_drewN | apply below_drew1 | refine below_set ?_ GE293.out) | exact HB.out)) hb); have n4_ := Aside0.mk (hbox); have n5_ := Aside0.mk ((by rw [hg]; exact (below_size (by repeat (first | (with_reducible first | exact HB.out | apply below_alloc | apply pw_below_drewN | apply below_drew1 | refine below_set ?_ GE293.out) | exact HB.out))) : w.heap.size ≤ gb307)); have n6_ := Aside0.mk ((by rw [hg]; exact (below_size (by repeat (first | (with_reducible first | exact HB.out | apply below_alloc | apply pw_below_drewN | apply below_drew1 | refine below_set ?_ GE293.out) | exact HB.out))) : w.heap.size ≤ gb307)); have n7_ := Aside0.mk ((by rw [hg]; exact Nat.ne_of_lt (blk_lt (g := gb293) (o := .cells #[.string a1_0, .int .i64 a1_1, .slice A1_2 l1_2.length c1_2] 25 (0, 0)) (by (with_reducible repeat (first | refine blk_drewN ?_ _ | refine blk_drew ?_ | refine blk_alloc ?_ _)); exact BK293.out)) : gb293 ≠ gb307)); have n8_ := Aside0.mk ((by rw [hg]; exact Nat.ne_of_gt (blk_lt (g := gb293) (o := .cells #[.string a1_0, .int .i64 a1_1, .slice A1_2 l1_2.length c1_2] 25 (0, 0)) (by (with_reducible repeat (first | refine blk_drewN ?_ _ | refine blk_drew ?_ | refine blk_alloc ?_ _)); exact BK293.out)) : gb307 ≠ gb293)); clear HO299; clear HO305; clear BK293; clear HB; have HO299 := n0_; have HO305 := n1_; have BK293 := n2_; have HB := n3_; have BK307 := n4_; have GW307 := n5_; have GE307 := n6_; have NB293_307 := n7_; have NB307_293 := n8_; clear n0_ n1_ n2_ n3_ n4_ n5_ n6_ n7_ n8_; clear hb hbox hg; have hnb25 := NB307_293.out; have hnc25 := NB293_307.out; have hcz26_0 : w24.cell? ⟨gb307, 0, none⟩ = some (.string (⟨#[]⟩ : ByteArray)) := (blk_cell BK307.out 0).trans rfl; have hcz26_1 : w24.cell? ⟨gb307, 1, none⟩ = some (.int .i64 0) := (blk_cell BK307.out 1).trans rfl; have hcz26_2 : w24.cell? ⟨gb307, 2, none⟩ = some (.slice none 0 0) := (blk_cell BK307.out 2).trans rfl; have hfz26_0 := blk_frozen BK307.out 0; have hfz26_1 := blk_frozen BK307.out 1; have hfz26_2 := blk_frozen BK307.out 2; obtain ⟨Ao27, co27, eo27⟩ := Kd.R_slice HO305.out; subst eo27; obtain ⟨Ao28, co28, eo28⟩ := Kd.S_slice HO299.out; subst eo28) | (go_at_call 20; (with_reducible refine (registry_Find.calls _ _ t297 a2 t308 t309 t310 t313 _ ?side1 ?side2 A19.out).mono ?_); (case side1 => refine (Kd.S_reads' (e := 25) (base := w.heap.size) (ok := fun k_ => (((True ∧ k_ ≠ gb293) ∧ some k_ ≠ (.slice Ao27 t303.length co27 : Value).ownBlock) ∧ k_ ≠ gb307)) (n := t297.length) (c := co28) ?_).2.2; exact (by (with_reducible repeat (first | apply Kd.S_alloc | apply Kd.S_drewN | apply Kd.S_drew)); exact (Kd.S_mono (Kd.S_far (p := ⟨gb307, 2, none⟩) (Kd.S_far (p := ⟨gb307, 1, none⟩) (Kd.S_far (p := ⟨gb307, 0, none⟩) (Kd.S_mono HO299.out (fun k_ hk => (⟨hk, hk.2⟩ : _ ∧ k_ ≠ gb307))) (fun _ hk => hk.2) (.string t301)) (fun _ hk => hk.2) (.int .i64 t302)) (fun _ hk => hk.2) (.slice Ao27 t303.length co27)) (fun _ h_ => h_.1)))); (case side2 => exact (Kd.S_reads' HO299.out).2.1); rintro e w29 ⟨v311, rfl, ho0, hb⟩; have n0_ := Aside0.mk (Kd.S_elder' (by (with_reducible repeat (first | apply Kd.S_alloc | apply Kd.S_drewN | apply Kd.S_drew)); exact (Kd.S_mono (Kd.S_far (p := ⟨gb307, 2, none⟩) (Kd.S_far (p := ⟨gb307, 1, none⟩) (Kd.S_far (p := ⟨gb307, 0, none⟩) (Kd.S_mono HO299.out (fun k_ hk => (⟨hk, hk.2⟩ : _ ∧ k_ ≠ gb307))) (fun _ hk => hk.2) (.string t301)) (fun _ hk => hk.2) (.int .i64 t302)) (fun _ hk => hk.2) (.slice Ao27 t303.length co27)) (fun _ h_ => h_.1))) (Kd.R_base ho0) hb); have n1_ := Aside0.mk (Kd.R_elder' (by (with_reducible repeat (first | apply Kd.R_alloc | apply Kd.R_drewN | apply Kd.R_drew)); exact (Kd.R_mono (Kd.R_far (p := ⟨gb307, 2, none⟩) (Kd.R_far (p := ⟨gb307, 1, none⟩) (Kd.R_far (p := ⟨gb307, 0, none⟩) (Kd.R_types HO305.out BK307.out (by decide)) (fun _ hk => hk.2) (.string t301)) (fun _ hk => hk.2) (.int .i64 t302)) (fun _ hk => hk.2) (.slice Ao27 t303.length co27)) (fun _ h_ => h_.1))) (Kd.R_base ho0) hb); have n2_ := Aside0.mk (Kd.R_lower (Kd.R_new' ho0 (Kd.R_lt (by (with_reducible repeat (first | apply Kd.R_alloc | apply Kd.R_drewN | apply Kd.R_drew)); exact (Kd.R_mono (Kd.R_far (p := ⟨gb307, 2, none⟩) (Kd.R_far (p := ⟨gb307, 1, none⟩) (Kd.R_far (p := ⟨gb307, 0, none⟩) (Kd.R_types HO305.out BK307.out (by decide)) (fun _ hk => hk.2) (.string t301)) (fun _ hk => hk.2) (.int .i64 t302)) (fun _ hk => hk.2) (.slice Ao27 t303.length co27)) (fun _ h_ => h_.1))))) (below_size (by repeat (first | (with_reducible first | exact HB.out | apply below_alloc | apply pw_below_drewN | apply below_drew1 | refine below_set ?_ GE293.out | refine below_set ?_ GE307.out) | exact HB.out)))); have n3_ := Aside0.mk (blk_below (g := gb293) (o := .cells #[.string a1_0, .int .i64 a1_1, .slice A1_2 l1_2.length c1_2] 25 (0, 0)) (by (with_reducible repeat (first | refine blk_drewN ?_ _ | refine blk_drew ?_ | refine blk_alloc ?_ _)); refine blk_far ?_ NB293_307.out _; (with_reducible repeat (first | refine blk_drewN ?_ _ | refine blk_drew ?_ | refine blk_alloc ?_ _)); refine blk_far ?_ NB293_307.out _; (with_reducible repeat (first | refine blk_drewN ?_ _ | refine blk_drew ?_ | refine blk_alloc ?_ _)); refine blk_far ?_ NB293_307.out _; (with_reducible repeat (first | refine blk_drewN ?_ _ | refine blk_drew ?_ | refine blk_alloc ?_ _)); exact BK293.out) hb); have n4_ := Aside0.mk (blk_below (g := gb307) (o := .cells #[.string t301, .int .i64 t302, .slice Ao27 t303.length co27] 25 (0, 0)) (by (with_reducible repeat (first | refine blk_drewN ?_ _ | refine blk_drew ?_ | refine blk_alloc ?_ _)); refine blk_put (cs := #[.string t301, .int .i64 t302, .slice none 0 0]) ?_ 2 _ rfl; (with_reducible repeat (first | refine blk_drewN ?_ _ | refine blk_drew ?_ | refine blk_alloc ?_ _)); refine blk_put (cs := #[.string t301, .int .i64 0, .slice none 0 0]) ?_ 1 _ rfl; (with_reducible repeat (first | refine blk_drewN ?_ _ | refine blk_drew ?_ | refine blk_alloc ?_ _)); refine blk_put (cs := #[.string (⟨#[]⟩ : ByteArray), .int .i64 0, .slice none 0 0]) ?_ 0 _ rfl; (with_reducible repeat (first | refine blk_drewN ?_ _ | refine blk_drew ?_ | refine blk_alloc ?_ _)); exact BK307.out) hb); have n5_ := Aside0.mk (below_step (by repeat (first | (with_reducible first | exact HB.out | apply below_alloc | apply pw_below_drewN | apply below_drew1 | refine below_set ?_ GE293.out | refine below_set ?_ GE307.out) | exact HB.out)) hb); clear HO299; clear HO305; clear BK293; clear BK307; clear HB; have HO299 := n0_; have HO305 := n1_; have HO312 := n2_; have BK293 := n3_; have BK307 := n4_; have HB := n5_; clear n0_ n1_ n2_ n3_ n4_ n5_; (try clear hb); (try clear hb2); (try clear hk); (try clear hi); (try clear ho0)) | ((with_reducible refine gate_dst (N := 14) rfl ?_); (try (refine gate_guard (by rfl) ?_; dsimp only)); refine box_event ?hg (N := 14) ?hd (cs := #[.string (⟨#[]⟩ : ByteArray), .int .i64 0, .slice none 0 0]) (t := 25) ?hr ?_; (case hd => rfl); (case hg => rfl); (case hr => first | (go_simp; done) | (go_simp; rfl)); intro gb314 hg w30 hbox hb; have n0_ := Aside0.mk (Kd.S_below (Kd.S_elderB (by (with_reducible repeat (first | apply Kd.S_alloc | apply Kd.S_drewN | apply Kd.S_drew)); exact HO299.out) gb314 (Nat.le_of_eq hg.symm)) hb); have n1_ := Aside0.mk (Kd.R_below (by (with_reducible repeat (first | apply Kd.R_alloc | apply Kd.R_drewN | apply Kd.R_drew)); exact HO305.out) hb); have n2_ := Aside0.mk (Kd.R_below (by (with_reducible repeat (first | apply Kd.R_alloc | apply Kd.R_drewN | apply Kd.R_drew)); exact HO312.out) hb); have n3_ := Aside0.mk (blk_below (g := gb293) (o := .cells #[.string a1_0, .int .i64 a1_1, .slice A1_2 l1_2.length c1_2] 25 (0, 0)) (by (with_reducible repeat (first | refine blk_drewN ?_ _ | refine blk_drew ?_ | refine blk_alloc ?_ _)); exact BK293.out) hb); have n4_ := Aside0.mk (blk_below (g := gb307) (o := .cells #[.string t301, .int .i64 t302, .slice Ao27 t303.length co27] 25 (0, 0)) (by (with_reducible repeat (first | refine blk_drewN ?_ _ | refine blk_drew ?_ | refine blk_alloc ?_ _)); exact BK307.out) hb); have n5_ := Aside0.mk (below_step (by repeat (first | (with_reducible first | exact HB.out | apply below_alloc | apply pw_below_drewN | apply below_drew1 | refine below_set ?_ GE293.out | refine below_set ?_ GE307.out) | exact HB.out)) hb); have n6_ := Aside0.mk (hbox); have n7_ := Aside0.mk ((by rw [hg]; exact (below_size (by repeat (first | (with_reducible first | exact HB.out | apply below_alloc | apply pw_below_drewN | apply below_drew1 | refine below_set ?_ GE293.out | refine below_set ?_ GE307.out) | exact HB.out))) : w.heap.size ≤ gb314)); have n8_ := Aside0.mk ((by rw [hg]; exact (below_size (by repeat (first | (with_reducible first | exact HB.out | apply below_alloc | apply pw_below_drewN | apply below_drew1 | refine below_set ?_ GE293.out | refine below_set ?_ GE307.out) | exact HB.out))) : w.heap.size ≤ gb314)); have n9_ := Aside0.mk ((by rw [hg]; exact Nat.ne_of_lt (blk_lt (g := gb293) (o := .cells #[.string a1_0, .int .i64 a1_1, .slice A1_2 l1_2.length c1_2] 25 (0, 0)) (by (with_reducible repeat (first | refine blk_drewN ?_ _ | refine blk_drew ?_ | refine blk_alloc ?_ _)); exact BK293.out)) : gb293 ≠ gb314)); have n10_ := Aside0.mk ((by rw [hg]; exact Nat.ne_of_gt (blk_lt (g := gb293) (o := .cells #[.string a1_0, .int .i64 a1_1, .slice A1_2 l1_2.length c1_2] 25 (0, 0)) (by (with_reducible repeat (first | refine blk_drewN ?_ _ | refine blk_drew ?_ | refine blk_alloc ?_ _)); exact BK293.out)) : gb314 ≠ gb293)); have n11_ := Aside0.mk ((by rw [hg]; exact Nat.ne_of_lt (blk_lt (g := gb307) (o := .cells #[.string t301, .int .i64 t302, .slice Ao27 t303.length co27] 25 (0, 0)) (by (with_reducible repeat (first | refine blk_drewN ?_ _ | refine blk_drew ?_ | refine blk_alloc ?_ _)); exact BK307.out)) : gb307 ≠ gb314)); have n12_ := Aside0.mk ((by rw [hg]; exact Nat.ne_of_gt (blk_lt (g := gb307) (o := .cells #[.string t301, .int .i64 t302, .slice Ao27 t303.length co27] 25 (0, 0)) (by (with_reducible repeat (first | refine blk_drewN ?_ _ | refine blk_drew ?_ | refine blk_alloc ?_ _)); exact BK307.out)) : gb314 ≠ gb307)); clear HO299; clear HO305; clear HO312; clear BK293; clear BK307; clear HB; have HO299 := n0_; have HO305 := n1_; have HO312 := n2_; have BK293 := n3_; have BK307 := n4_; have HB := n5_; have BK314 := n6_; have GW314 := n7_; have GE314 := n8_; have NB293_314 := n9_; have NB314_293 := n10_; have NB307_314 := n11_; have NB314_307 := n12_; clear n0_ n1_ n2_ n3_ n4_ n5_ n6_ n7_ n8_ n9_ n10_ n11_ n12_; clear hb hbox hg; have hnb31 := NB314_293.out; have hnc31 := NB293_314.out; have hnb32 := NB314_307.out; have hnc32 := NB307_314.out; have hcz33_0 : w30.cell? ⟨gb314, 0, none⟩ = some (.string (⟨#[]⟩ : ByteArray)) := (blk_cell BK314.out 0).trans rfl; have hcz33_1 : w30.cell? ⟨gb314, 1, none⟩ = some (.int .i64 0) := (blk_cell BK314.out 1).trans rfl; have hcz33_2 : w30.cell? ⟨gb314, 2, none⟩ = some (.slice none 0 0) := (blk_cell BK314.out 2).trans rfl; have hfz33_0 := blk_frozen BK314.out 0; have hfz33_1 := blk_frozen BK314.out 1; have hfz33_2 := blk_frozen BK314.out 2; obtain ⟨Ao34, co34, eo34⟩ := Kd.R_slice HO312.out; subst eo34))
        repeat (go_quiet (first | (go_at_call 18; (with_reducible refine (registry_Add.calls kj6 _ _ l0 a1_0 a1_1 _ _ l1_2 t297 t300 _ ?side1 ?side2 ?side3 ?side4 A17.out).mono ?_); (case side1 => repeat (first | exact (Kd.C_below HR0.out HB.out) | (with_reducible refine Kd.C_alloc ?_ _) | (with_reducible refine Kd.C_drewN ?_ _) | (with_reducible refine Kd.C_drew ?_))); (case side2 => exact HC0.out); (case side3 => repeat (first | exact (Kd.C_below HR1_2.out HB.out) | (with_reducible refine Kd.C_alloc ?_ _) | (with_reducible refine Kd.C_drewN ?_ _) | (with_reducible refine Kd.C_drew ?_))); (case side4 => exact HC1_2.out); rintro e w22 ⟨v298, rfl, ho0, hb⟩; have n0_ := Aside0.mk (Kd.S_lower (Kd.S_newB ho0 (g := gb293) (o := .cells #[.string a1_0, .int .i64 a1_1, .slice A1_2 l1_2.length c1_2] 25 (0, 0)) (by (with_reducible repeat (first | refine blk_drewN ?_ _ | refine blk_drew ?_ | refine blk_alloc ?_ _)); exact BK293.out)) (below_size (by repeat (first | (with_reducible first | exact HB.out | apply below_alloc | apply pw_below_drewN | apply below_drew1 | refine below_set ?_ GE293.out) | exact HB.out)))); have n1_ := Aside0.mk (blk_below (g := gb293) (o := .cells #[.string a1_0, .int .i64 a1_1, .slice A1_2 l1_2.length c1_2] 25 (0, 0)) (by (with_reducible repeat (first | refine blk_drewN ?_ _ | refine blk_drew ?_ | refine blk_alloc ?_ _)); exact BK293.out) hb); have n2_ := Aside0.mk (below_step (by repeat (first | (with_reducible first | exact HB.out | apply below_alloc | apply pw_below_drewN | apply below_drew1 | refine below_set ?_ GE293.out) | exact HB.out)) hb); clear BK293; clear HB; have HO299 := n0_; have BK293 := n1_; have HB := n2_; clear n0_ n1_ n2_; (try clear hb); (try clear hb2); (try clear hk); (try clear hi); (try clear ho0)) | (go_at_call 20; (with_reducible refine (registry_Find.calls _ _ l0 a2 t301 t302 t303 t306 _ ?side1 ?side2 A18.out).mono ?_); (case side1 => repeat (first | exact (Kd.C_below HR0.out HB.out) | (with_reducible refine Kd.C_alloc ?_ _) | (with_reducible refine Kd.C_drewN ?_ _) | (with_reducible refine Kd.C_drew ?_))); (case side2 => exact HC0.out); rintro e w23 ⟨v304, rfl, ho0, hb⟩; have n0_ := Aside0.mk (Kd.S_elder' (by (with_reducible repeat (first | apply Kd.S_alloc | apply Kd.S_drewN | apply Kd.S_drew)); exact HO299.out) (Kd.R_base ho0) hb); have n1_ := Aside0.mk (Kd.R_lower ho0 (below_size (by repeat (first | (with_reducible first | exact HB.out | apply below_alloc | apply pw_below_drewN | apply below_drew1 | refine below_set ?_ GE293.out) | exact HB.out)))); have n2_ := Aside0.mk (blk_below (g := gb293) (o := .cells #[.string a1_0, .int .i64 a1_1, .slice A1_2 l1_2.length c1_2] 25 (0, 0)) (by (with_reducible repeat (first | refine blk_drewN ?_ _ | refine blk_drew ?_ | refine blk_alloc ?_ _)); exact BK293.out) hb); have n3_ := Aside0.mk (below_step (by repeat (first | (with_reducible first | exact HB.out | apply below_alloc | apply pw_below_drewN | apply below_drew1 | refine below_set ?_ GE293.out) | exact HB.out)) hb); clear HO299; clear BK293; clear HB; have HO299 := n0_; have HO305 := n1_; have BK293 := n2_; have HB := n3_; clear n0_ n1_ n2_ n3_; (try clear hb); (try clear hb2); (try clear hk); (try clear hi); (try clear ho0)) | ((with_reducible refine gate_dst (N := 12) rfl ?_); (try (refine gate_guard (by rfl) ?_; dsimp only)); refine box_event ?hg (N := 12) ?hd (cs := #[.string (⟨#[]⟩ : ByteArray), .int .i64 0, .slice none 0 0]) (t := 25) ?hr ?_; (case hd => rfl); (case hg => rfl); (case hr => first | (go_simp; done) | (go_simp; rfl)); intro gb307 hg w24 hbox hb; have n0_ := Aside0.mk (Kd.S_below (Kd.S_elderB (by (with_reducible repeat (first | apply Kd.S_alloc | apply Kd.S_drewN | apply Kd.S_drew)); exact HO299.out) gb307 (Nat.le_of_eq hg.symm)) hb); have n1_ := Aside0.mk (Kd.R_below (by (with_reducible repeat (first | apply Kd.R_alloc | apply Kd.R_drewN | apply Kd.R_drew)); exact HO305.out) hb); have n2_ := Aside0.mk (blk_below (g := gb293) (o := .cells #[.string a1_0, .int .i64 a1_1, .slice A1_2 l1_2.length c1_2] 25 (0, 0)) (by (with_reducible repeat (first | refine blk_drewN ?_ _ | refine blk_drew ?_ | refine blk_alloc ?_ _)); exact BK293.out) hb); have n3_ := Aside0.mk (below_step (by repeat (first | (with_reducible first | exact HB.out | apply below_alloc | apply pw_below_drewN | apply below_drew1 | refine below_set ?_ GE293.out) | exact HB.out)) hb); have n4_ := Aside0.mk (hbox); have n5_ := Aside0.mk ((by rw [hg]; exact (below_size (by repeat (first | (with_reducible first | exact HB.out | apply below_alloc | apply pw_below_drewN | apply below_drew1 | refine below_set ?_ GE293.out) | exact HB.out))) : w.heap.size ≤ gb307)); have n6_ := Aside0.mk ((by rw [hg]; exact (below_size (by repeat (first | (with_reducible first | exact HB.out | apply below_alloc | apply pw_below_drewN | apply below_drew1 | refine below_set ?_ GE293.out) | exact HB.out))) : w.heap.size ≤ gb307)); have n7_ := Aside0.mk ((by rw [hg]; exact Nat.ne_of_lt (blk_lt (g := gb293) (o := .cells #[.string a1_0, .int .i64 a1_1, .slice A1_2 l1_2.length c1_2] 25 (0, 0)) (by (with_reducible repeat (first | refine blk_drewN ?_ _ | refine blk_drew ?_ | refine blk_alloc ?_ _)); exact BK293.out)) : gb293 ≠ gb307)); have n8_ := Aside0.mk ((by rw [hg]; exact Nat.ne_of_gt (blk_lt (g := gb293) (o := .cells #[.string a1_0, .int .i64 a1_1, .slice A1_2 l1_2.length c1_2] 25 (0, 0)) (by (with_reducible repeat (first | refine blk_drewN ?_ _ | refine blk_drew ?_ | refine blk_alloc ?_ _)); exact BK293.out)) : gb307 ≠ gb293)); clear HO299; clear HO305; clear BK293; clear HB; have HO299 := n0_; have HO305 := n1_; have BK293 := n2_; have HB := n3_; have BK307 := n4_; have GW307 := n5_; have GE307 := n6_; have NB293_307 := n7_; have NB307_293 := n8_; clear n0_ n1_ n2_ n3_ n4_ n5_ n6_ n7_ n8_; clear hb hbox hg; have hnb25 := NB307_293.out; have hnc25 := NB293_307.out; have hcz26_0 : w24.cell? ⟨gb307, 0, none⟩ = some (.string (⟨#[]⟩ : ByteArray)) := (blk_cell BK307.out 0).trans rfl; have hcz26_1 : w24.cell? ⟨gb307, 1, none⟩ = some (.int .i64 0) := (blk_cell BK307.out 1).trans rfl; have hcz26_2 : w24.cell? ⟨gb307, 2, none⟩ = some (.slice none 0 0) := (blk_cell BK307.out 2).trans rfl; have hfz26_0 := blk_frozen BK307.out 0; have hfz26_1 := blk_frozen BK307.out 1; have hfz26_2 := blk_frozen BK307.out 2; obtain ⟨Ao27, co27, eo27⟩ := Kd.R_slice HO305.out; subst eo27; obtain ⟨Ao28, co28, eo28⟩ := Kd.S_slice HO299.out; subst eo28) | (go_at_call 20; (with_reducible refine (registry_Find.calls _ _ t297 a2 t308 t309 t310 t313 _ ?side1 ?side2 A19.out).mono ?_); (case side1 => refine (Kd.S_reads' (e := 25) (base := w.heap.size) (ok := fun k_ => (((True ∧ k_ ≠ gb293) ∧ some k_ ≠ (.slice Ao27 t303.length co27 : Value).ownBlock) ∧ k_ ≠ gb307)) (n := t297.length) (c := co28) ?_).2.2; exact (by (with_reducible repeat (first | apply Kd.S_alloc | apply Kd.S_drewN | apply Kd.S_drew)); exact (Kd.S_mono (Kd.S_far (p := ⟨gb307, 2, none⟩) (Kd.S_far (p := ⟨gb307, 1, none⟩) (Kd.S_far (p := ⟨gb307, 0, none⟩) (Kd.S_mono HO299.out (fun k_ hk => (⟨hk, hk.2⟩ : _ ∧ k_ ≠ gb307))) (fun _ hk => hk.2) (.string t301)) (fun _ hk => hk.2) (.int .i64 t302)) (fun _ hk => hk.2) (.slice Ao27 t303.length co27)) (fun _ h_ => h_.1)))); (case side2 => exact (Kd.S_reads' HO299.out).2.1); rintro e w29 ⟨v311, rfl, ho0, hb⟩; have n0_ := Aside0.mk (Kd.S_elder' (by (with_reducible repeat (first | apply Kd.S_alloc | apply Kd.S_drewN | apply Kd.S_drew)); exact (Kd.S_mono (Kd.S_far (p := ⟨gb307, 2, none⟩) (Kd.S_far (p := ⟨gb307, 1, none⟩) (Kd.S_far (p := ⟨gb307, 0, none⟩) (Kd.S_mono HO299.out (fun k_ hk => (⟨hk, hk.2⟩ : _ ∧ k_ ≠ gb307))) (fun _ hk => hk.2) (.string t301)) (fun _ hk => hk.2) (.int .i64 t302)) (fun _ hk => hk.2) (.slice Ao27 t303.length co27)) (fun _ h_ => h_.1))) (Kd.R_base ho0) hb); have n1_ := Aside0.mk (Kd.R_elder' (by (with_reducible repeat (first | apply Kd.R_alloc | apply Kd.R_drewN | apply Kd.R_drew)); exact (Kd.R_mono (Kd.R_far (p := ⟨gb307, 2, none⟩) (Kd.R_far (p := ⟨gb307, 1, none⟩) (Kd.R_far (p := ⟨gb307, 0, none⟩) (Kd.R_types HO305.out BK307.out (by decide)) (fun _ hk => hk.2) (.string t301)) (fun _ hk => hk.2) (.int .i64 t302)) (fun _ hk => hk.2) (.slice Ao27 t303.length co27)) (fun _ h_ => h_.1))) (Kd.R_base ho0) hb); have n2_ := Aside0.mk (Kd.R_lower (Kd.R_new' ho0 (Kd.R_lt (by (with_reducible repeat (first | apply Kd.R_alloc | apply Kd.R_drewN | apply Kd.R_drew)); exact (Kd.R_mono (Kd.R_far (p := ⟨gb307, 2, none⟩) (Kd.R_far (p := ⟨gb307, 1, none⟩) (Kd.R_far (p := ⟨gb307, 0, none⟩) (Kd.R_types HO305.out BK307.out (by decide)) (fun _ hk => hk.2) (.string t301)) (fun _ hk => hk.2) (.int .i64 t302)) (fun _ hk => hk.2) (.slice Ao27 t303.length co27)) (fun _ h_ => h_.1))))) (below_size (by repeat (first | (with_reducible first | exact HB.out | apply below_alloc | apply pw_below_drewN | apply below_drew1 | refine below_set ?_ GE293.out | refine below_set ?_ GE307.out) | exact HB.out)))); have n3_ := Aside0.mk (blk_below (g := gb293) (o := .cells #[.string a1_0, .int .i64 a1_1, .slice A1_2 l1_2.length c1_2] 25 (0, 0)) (by (with_reducible repeat (first | refine blk_drewN ?_ _ | refine blk_drew ?_ | refine blk_alloc ?_ _)); refine blk_far ?_ NB293_307.out _; (with_reducible repeat (first | refine blk_drewN ?_ _ | refine blk_drew ?_ | refine blk_alloc ?_ _)); refine blk_far ?_ NB293_307.out _; (with_reducible repeat (first | refine blk_drewN ?_ _ | refine blk_drew ?_ | refine blk_alloc ?_ _)); refine blk_far ?_ NB293_307.out _; (with_reducible repeat (first | refine blk_drewN ?_ _ | refine blk_drew ?_ | refine blk_alloc ?_ _)); exact BK293.out) hb); have n4_ := Aside0.mk (blk_below (g := gb307) (o := .cells #[.string t301, .int .i64 t302, .slice Ao27 t303.length co27] 25 (0, 0)) (by (with_reducible repeat (first | refine blk_drewN ?_ _ | refine blk_drew ?_ | refine blk_alloc ?_ _)); refine blk_put (cs := #[.string t301, .int .i64 t302, .slice none 0 0]) ?_ 2 _ rfl; (with_reducible repeat (first | refine blk_drewN ?_ _ | refine blk_drew ?_ | refine blk_alloc ?_ _)); refine blk_put (cs := #[.string t301, .int .i64 0, .slice none 0 0]) ?_ 1 _ rfl; (with_reducible repeat (first | refine blk_drewN ?_ _ | refine blk_drew ?_ | refine blk_alloc ?_ _)); refine blk_put (cs := #[.string (⟨#[]⟩ : ByteArray), .int .i64 0, .slice none 0 0]) ?_ 0 _ rfl; (with_reducible repeat (first | refine blk_drewN ?_ _ | refine blk_drew ?_ | refine blk_alloc ?_ _)); exact BK307.out) hb); have n5_ := Aside0.mk (below_step (by repeat (first | (with_reducible first | exact HB.out | apply below_alloc | apply pw_below_drewN | apply below_drew1 | refine below_set ?_ GE293.out | refine below_set ?_ GE307.out) | exact HB.out)) hb); clear HO299; clear HO305; clear BK293; clear BK307; clear HB; have HO299 := n0_; have HO305 := n1_; have HO312 := n2_; have BK293 := n3_; have BK307 := n4_; have HB := n5_; clear n0_ n1_ n2_ n3_ n4_ n5_; (try clear hb); (try clear hb2); (try clear hk); (try clear hi); (try clear ho0)) | ((with_reducible refine gate_dst (N := 14) rfl ?_); (try (refine gate_guard (by rfl) ?_; dsimp only)); refine box_event ?hg (N := 14) ?hd (cs := #[.string (⟨#[]⟩ : ByteArray), .int .i64 0, .slice none 0 0]) (t := 25) ?hr ?_; (case hd => rfl); (case hg => rfl); (case hr => first | (go_simp; done) | (go_simp; rfl)); intro gb314 hg w30 hbox hb; have n0_ := Aside0.mk (Kd.S_below (Kd.S_elderB (by (with_reducible repeat (first | apply Kd.S_alloc | apply Kd.S_drewN | apply Kd.S_drew)); exact HO299.out) gb314 (Nat.le_of_eq hg.symm)) hb); have n1_ := Aside0.mk (Kd.R_below (by (with_reducible repeat (first | apply Kd.R_alloc | apply Kd.R_drewN | apply Kd.R_drew)); exact HO305.out) hb); have n2_ := Aside0.mk (Kd.R_below (by (with_reducible repeat (first | apply Kd.R_alloc | apply Kd.R_drewN | apply Kd.R_drew)); exact HO312.out) hb); have n3_ := Aside0.mk (blk_below (g := gb293) (o := .cells #[.string a1_0, .int .i64 a1_1, .slice A1_2 l1_2.length c1_2] 25 (0, 0)) (by (with_reducible repeat (first | refine blk_drewN ?_ _ | refine blk_drew ?_ | refine blk_alloc ?_ _)); exact BK293.out) hb); have n4_ := Aside0.mk (blk_below (g := gb307) (o := .cells #[.string t301, .int .i64 t302, .slice Ao27 t303.length co27] 25 (0, 0)) (by (with_reducible repeat (first | refine blk_drewN ?_ _ | refine blk_drew ?_ | refine blk_alloc ?_ _)); exact BK307.out) hb); have n5_ := Aside0.mk (below_step (by repeat (first | (with_reducible first | exact HB.out | apply below_alloc | apply pw_below_drewN | apply below_drew1 | refine below_set ?_ GE293.out | refine below_set ?_ GE307.out) | exact HB.out)) hb); have n6_ := Aside0.mk (hbox); have n7_ := Aside0.mk ((by rw [hg]; exact (below_size (by repeat (first | (with_reducible first | exact HB.out | apply below_alloc | apply pw_below_drewN | apply below_drew1 | refine below_set ?_ GE293.out | refine below_set ?_ GE307.out) | exact HB.out))) : w.heap.size ≤ gb314)); have n8_ := Aside0.mk ((by rw [hg]; exact (below_size (by repeat (first | (with_reducible first | exact HB.out | apply below_alloc | apply pw_below_drewN | apply below_drew1 | refine below_set ?_ GE293.out | refine below_set ?_ GE307.out) | exact HB.out))) : w.heap.size ≤ gb314)); have n9_ := Aside0.mk ((by rw [hg]; exact Nat.ne_of_lt (blk_lt (g := gb293) (o := .cells #[.string a1_0, .int .i64 a1_1, .slice A1_2 l1_2.length c1_2] 25 (0, 0)) (by (with_reducible repeat (first | refine blk_drewN ?_ _ | refine blk_drew ?_ | refine blk_alloc ?_ _)); exact BK293.out)) : gb293 ≠ gb314)); have n10_ := Aside0.mk ((by rw [hg]; exact Nat.ne_of_gt (blk_lt (g := gb293) (o := .cells #[.string a1_0, .int .i64 a1_1, .slice A1_2 l1_2.length c1_2] 25 (0, 0)) (by (with_reducible repeat (first | refine blk_drewN ?_ _ | refine blk_drew ?_ | refine blk_alloc ?_ _)); exact BK293.out)) : gb314 ≠ gb293)); have n11_ := Aside0.mk ((by rw [hg]; exact Nat.ne_of_lt (blk_lt (g := gb307) (o := .cells #[.string t301, .int .i64 t302, .slice Ao27 t303.length co27] 25 (0, 0)) (by (with_reducible repeat (first | refine blk_drewN ?_ _ | refine blk_drew ?_ | refine blk_alloc ?_ _)); exact BK307.out)) : gb307 ≠ gb314)); have n12_ := Aside0.mk ((by rw [hg]; exact Nat.ne_of_gt (blk_lt (g := gb307) (o := .cells #[.string t301, .int .i64 t302, .slice Ao27 t303.length co27] 25 (0, 0)) (by (with_reducible repeat (first | refine blk_drewN ?_ _ | refine blk_drew ?_ | refine blk_alloc ?_ _)); exact BK307.out)) : gb314 ≠ gb307)); clear HO299; clear HO305; clear HO312; clear BK293; clear BK307; clear HB; have HO299 := n0_; have HO305 := n1_; have HO312 := n2_; have BK293 := n3_; have BK307 := n4_; have HB := n5_; have BK314 := n6_; have GW314 := n7_; have GE314 := n8_; have NB293_314 := n9_; have NB314_293 := n10_; have NB307_314 := n11_; have NB314_307 := n12_; clear n0_ n1_ n2_ n3_ n4_ n5_ n6_ n7_ n8_ n9_ n10_ n11_ n12_; clear hb hbox hg; have hnb31 := NB314_293.out; have hnc31 := NB293_314.out; have hnb32 := NB314_307.out; have hnc32 := NB307_314.out; have hcz33_0 : w30.cell? ⟨gb314, 0, none⟩ = some (.string (⟨#[]⟩ : ByteArray)) := (blk_cell BK314.out 0).trans rfl; have hcz33_1 : w30.cell? ⟨gb314, 1, none⟩ = some (.int .i64 0) := (blk_cell BK314.out 1).trans rfl; have hcz33_2 : w30.cell? ⟨gb314, 2, none⟩ = some (.slice none 0 0) := (blk_cell BK314.out 2).trans rfl; have hfz33_0 := blk_frozen BK314.out 0; have hfz33_1 := blk_frozen BK314.out 1; have hfz33_2 := blk_frozen BK314.out 2; obtain ⟨Ao34, co34, eo34⟩ := Kd.R_slice HO312.out; subst eo34)); go_upto_region 9 with (first | (go_at_call 18; (with_reducible refine (registry_Add.calls kj6 _ _ l0 a1_0 a1_1 _ _ l1_2 t297 t300 _ ?side1 ?side2 ?side3 ?side4 A17.out).mono ?_); (case side1 => repeat (first | exact (Kd.C_below HR0.out HB.out) | (with_reducible refine Kd.C_alloc ?_ _) | (with_reducible refine Kd.C_drewN ?_ _) | (with_reducible refine Kd.C_drew ?_))); (case side2 => exact HC0.out); (case side3 => repeat (first | exact (Kd.C_below HR1_2.out HB.out) | (with_reducible refine Kd.C_alloc ?_ _) | (with_reducible refine Kd.C_drewN ?_ _) | (with_reducible refine Kd.C_drew ?_))); (case side4 => exact HC1_2.out); rintro e w22 ⟨v298, rfl, ho0, hb⟩; have n0_ := Aside0.mk (Kd.S_lower (Kd.S_newB ho0 (g := gb293) (o := .cells #[.string a1_0, .int .i64 a1_1, .slice A1_2 l1_2.length c1_2] 25 (0, 0)) (by (with_reducible repeat (first | refine blk_drewN ?_ _ | refine blk_drew ?_ | refine blk_alloc ?_ _)); exact BK293.out)) (below_size (by repeat (first | (with_reducible first | exact HB.out | apply below_alloc | apply pw_below_drewN | apply below_drew1 | refine below_set ?_ GE293.out) | exact HB.out)))); have n1_ := Aside0.mk (blk_below (g := gb293) (o := .cells #[.string a1_0, .int .i64 a1_1, .slice A1_2 l1_2.length c1_2] 25 (0, 0)) (by (with_reducible repeat (first | refine blk_drewN ?_ _ | refine blk_drew ?_ | refine blk_alloc ?_ _)); exact BK293.out) hb); have n2_ := Aside0.mk (below_step (by repeat (first | (with_reducible first | exact HB.out | apply below_alloc | apply pw_below_drewN | apply below_drew1 | refine below_set ?_ GE293.out) | exact HB.out)) hb); clear BK293; clear HB; have HO299 := n0_; have BK293 := n1_; have HB := n2_; clear n0_ n1_ n2_; (try clear hb); (try clear hb2); (try clear hk); (try clear hi); (try clear ho0)) | (go_at_call 20; (with_reducible refine (registry_Find.calls _ _ l0 a2 t301 t302 t303 t306 _ ?side1 ?side2 A18.out).mono ?_); (case side1 => repeat (first | exact (Kd.C_below HR0.out HB.out) | (with_reducible refine Kd.C_alloc ?_ _) | (with_reducible refine Kd.C_drewN ?_ _) | (with_reducible refine Kd.C_drew ?_))); (case side2 => exact HC0.out); rintro e w23 ⟨v304, rfl, ho0, hb⟩; have n0_ := Aside0.mk (Kd.S_elder' (by (with_reducible repeat (first | apply Kd.S_alloc | apply Kd.S_drewN | apply Kd.S_drew)); exact HO299.out) (Kd.R_base ho0) hb); have n1_ := Aside0.mk (Kd.R_lower ho0 (below_size (by repeat (first | (with_reducible first | exact HB.out | apply below_alloc | apply pw_below_drewN | apply below_drew1 | refine below_set ?_ GE293.out) | exact HB.out)))); have n2_ := Aside0.mk (blk_below (g := gb293) (o := .cells #[.string a1_0, .int .i64 a1_1, .slice A1_2 l1_2.length c1_2] 25 (0, 0)) (by (with_reducible repeat (first | refine blk_drewN ?_ _ | refine blk_drew ?_ | refine blk_alloc ?_ _)); exact BK293.out) hb); have n3_ := Aside0.mk (below_step (by repeat (first | (with_reducible first | exact HB.out | apply below_alloc | apply pw_below_drewN | apply below_drew1 | refine below_set ?_ GE293.out) | exact HB.out)) hb); clear HO299; clear BK293; clear HB; have HO299 := n0_; have HO305 := n1_; have BK293 := n2_; have HB := n3_; clear n0_ n1_ n2_ n3_; (try clear hb); (try clear hb2); (try clear hk); (try clear hi); (try clear ho0)) | ((with_reducible refine gate_dst (N := 12) rfl ?_); (try (refine gate_guard (by rfl) ?_; dsimp only)); refine box_event ?hg (N := 12) ?hd (cs := #[.string (⟨#[]⟩ : ByteArray), .int .i64 0, .slice none 0 0]) (t := 25) ?hr ?_; (case hd => rfl); (case hg => rfl); (case hr => first | (go_simp; done) | (go_simp; rfl)); intro gb307 hg w24 hbox hb; have n0_ := Aside0.mk (Kd.S_below (Kd.S_elderB (by (with_reducible repeat (first | apply Kd.S_alloc | apply Kd.S_drewN | apply Kd.S_drew)); exact HO299.out) gb307 (Nat.le_of_eq hg.symm)) hb); have n1_ := Aside0.mk (Kd.R_below (by (with_reducible repeat (first | apply Kd.R_alloc | apply Kd.R_drewN | apply Kd.R_drew)); exact HO305.out) hb); have n2_ := Aside0.mk (blk_below (g := gb293) (o := .cells #[.string a1_0, .int .i64 a1_1, .slice A1_2 l1_2.length c1_2] 25 (0, 0)) (by (with_reducible repeat (first | refine blk_drewN ?_ _ | refine blk_drew ?_ | refine blk_alloc ?_ _)); exact BK293.out) hb); have n3_ := Aside0.mk (below_step (by repeat (first | (with_reducible first | exact HB.out | apply below_alloc | apply pw_below_drewN | apply below_drew1 | refine below_set ?_ GE293.out) | exact HB.out)) hb); have n4_ := Aside0.mk (hbox); have n5_ := Aside0.mk ((by rw [hg]; exact (below_size (by repeat (first | (with_reducible first | exact HB.out | apply below_alloc | apply pw_below_drewN | apply below_drew1 | refine below_set ?_ GE293.out) | exact HB.out))) : w.heap.size ≤ gb307)); have n6_ := Aside0.mk ((by rw [hg]; exact (below_size (by repeat (first | (with_reducible first | exact HB.out | apply below_alloc | apply pw_below_drewN | apply below_drew1 | refine below_set ?_ GE293.out) | exact HB.out))) : w.heap.size ≤ gb307)); have n7_ := Aside0.mk ((by rw [hg]; exact Nat.ne_of_lt (blk_lt (g := gb293) (o := .cells #[.string a1_0, .int .i64 a1_1, .slice A1_2 l1_2.length c1_2] 25 (0, 0)) (by (with_reducible repeat (first | refine blk_drewN ?_ _ | refine blk_drew ?_ | refine blk_alloc ?_ _)); exact BK293.out)) : gb293 ≠ gb307)); have n8_ := Aside0.mk ((by rw [hg]; exact Nat.ne_of_gt (blk_lt (g := gb293) (o := .cells #[.string a1_0, .int .i64 a1_1, .slice A1_2 l1_2.length c1_2] 25 (0, 0)) (by (with_reducible repeat (first | refine blk_drewN ?_ _ | refine blk_drew ?_ | refine blk_alloc ?_ _)); exact BK293.out)) : gb307 ≠ gb293)); clear HO299; clear HO305; clear BK293; clear HB; have HO299 := n0_; have HO305 := n1_; have BK293 := n2_; have HB := n3_; have BK307 := n4_; have GW307 := n5_; have GE307 := n6_; have NB293_307 := n7_; have NB307_293 := n8_; clear n0_ n1_ n2_ n3_ n4_ n5_ n6_ n7_ n8_; clear hb hbox hg; have hnb25 := NB307_293.out; have hnc25 := NB293_307.out; have hcz26_0 : w24.cell? ⟨gb307, 0, none⟩ = some (.string (⟨#[]⟩ : ByteArray)) := (blk_cell BK307.out 0).trans rfl; have hcz26_1 : w24.cell? ⟨gb307, 1, none⟩ = some (.int .i64 0) := (blk_cell BK307.out 1).trans rfl; have hcz26_2 : w24.cell? ⟨gb307, 2, none⟩ = some (.slice none 0 0) := (blk_cell BK307.out 2).trans rfl; have hfz26_0 := blk_frozen BK307.out 0; have hfz26_1 := blk_frozen BK307.out 1; have hfz26_2 := blk_frozen BK307.out 2; obtain ⟨Ao27, co27, eo27⟩ := Kd.R_slice HO305.out; subst eo27; obtain ⟨Ao28, co28, eo28⟩ := Kd.S_slice HO299.out; subst eo28) | (go_at_call 20; (with_reducible refine (registry_Find.calls _ _ t297 a2 t308 t309 t310 t313 _ ?side1 ?side2 A19.out).mono ?_); (case side1 => refine (Kd.S_reads' (e := 25) (base := w.heap.size) (ok := fun k_ => (((True ∧ k_ ≠ gb293) ∧ some k_ ≠ (.slice Ao27 t303.length co27 : Value).ownBlock) ∧ k_ ≠ gb307)) (n := t297.length) (c := co28) ?_).2.2; exact (by (with_reducible repeat (first | apply Kd.S_alloc | apply Kd.S_drewN | apply Kd.S_drew)); exact (Kd.S_mono (Kd.S_far (p := ⟨gb307, 2, none⟩) (Kd.S_far (p := ⟨gb307, 1, none⟩) (Kd.S_far (p := ⟨gb307, 0, none⟩) (Kd.S_mono HO299.out (fun k_ hk => (⟨hk, hk.2⟩ : _ ∧ k_ ≠ gb307))) (fun _ hk => hk.2) (.string t301)) (fun _ hk => hk.2) (.int .i64 t302)) (fun _ hk => hk.2) (.slice Ao27 t303.length co27)) (fun _ h_ => h_.1)))); (case side2 => exact (Kd.S_reads' HO299.out).2.1); rintro e w29 ⟨v311, rfl, ho0, hb⟩; have n0_ := Aside0.mk (Kd.S_elder' (by (with_reducible repeat (first | apply Kd.S_alloc | apply Kd.S_drewN | apply Kd.S_drew)); exact (Kd.S_mono (Kd.S_far (p := ⟨gb307, 2, none⟩) (Kd.S_far (p := ⟨gb307, 1, none⟩) (Kd.S_far (p := ⟨gb307, 0, none⟩) (Kd.S_mono HO299.out (fun k_ hk => (⟨hk, hk.2⟩ : _ ∧ k_ ≠ gb307))) (fun _ hk => hk.2) (.string t301)) (fun _ hk => hk.2) (.int .i64 t302)) (fun _ hk => hk.2) (.slice Ao27 t303.length co27)) (fun _ h_ => h_.1))) (Kd.R_base ho0) hb); have n1_ := Aside0.mk (Kd.R_elder' (by (with_reducible repeat (first | apply Kd.R_alloc | apply Kd.R_drewN | apply Kd.R_drew)); exact (Kd.R_mono (Kd.R_far (p := ⟨gb307, 2, none⟩) (Kd.R_far (p := ⟨gb307, 1, none⟩) (Kd.R_far (p := ⟨gb307, 0, none⟩) (Kd.R_types HO305.out BK307.out (by decide)) (fun _ hk => hk.2) (.string t301)) (fun _ hk => hk.2) (.int .i64 t302)) (fun _ hk => hk.2) (.slice Ao27 t303.length co27)) (fun _ h_ => h_.1))) (Kd.R_base ho0) hb); have n2_ := Aside0.mk (Kd.R_lower (Kd.R_new' ho0 (Kd.R_lt (by (with_reducible repeat (first | apply Kd.R_alloc | apply Kd.R_drewN | apply Kd.R_drew)); exact (Kd.R_mono (Kd.R_far (p := ⟨gb307, 2, none⟩) (Kd.R_far (p := ⟨gb307, 1, none⟩) (Kd.R_far (p := ⟨gb307, 0, none⟩) (Kd.R_types HO305.out BK307.out (by decide)) (fun _ hk => hk.2) (.string t301)) (fun _ hk => hk.2) (.int .i64 t302)) (fun _ hk => hk.2) (.slice Ao27 t303.length co27)) (fun _ h_ => h_.1))))) (below_size (by repeat (first | (with_reducible first | exact HB.out | apply below_alloc | apply pw_below_drewN | apply below_drew1 | refine below_set ?_ GE293.out | refine below_set ?_ GE307.out) | exact HB.out)))); have n3_ := Aside0.mk (blk_below (g := gb293) (o := .cells #[.string a1_0, .int .i64 a1_1, .slice A1_2 l1_2.length c1_2] 25 (0, 0)) (by (with_reducible repeat (first | refine blk_drewN ?_ _ | refine blk_drew ?_ | refine blk_alloc ?_ _)); refine blk_far ?_ NB293_307.out _; (with_reducible repeat (first | refine blk_drewN ?_ _ | refine blk_drew ?_ | refine blk_alloc ?_ _)); refine blk_far ?_ NB293_307.out _; (with_reducible repeat (first | refine blk_drewN ?_ _ | refine blk_drew ?_ | refine blk_alloc ?_ _)); refine blk_far ?_ NB293_307.out _; (with_reducible repeat (first | refine blk_drewN ?_ _ | refine blk_drew ?_ | refine blk_alloc ?_ _)); exact BK293.out) hb); have n4_ := Aside0.mk (blk_below (g := gb307) (o := .cells #[.string t301, .int .i64 t302, .slice Ao27 t303.length co27] 25 (0, 0)) (by (with_reducible repeat (first | refine blk_drewN ?_ _ | refine blk_drew ?_ | refine blk_alloc ?_ _)); refine blk_put (cs := #[.string t301, .int .i64 t302, .slice none 0 0]) ?_ 2 _ rfl; (with_reducible repeat (first | refine blk_drewN ?_ _ | refine blk_drew ?_ | refine blk_alloc ?_ _)); refine blk_put (cs := #[.string t301, .int .i64 0, .slice none 0 0]) ?_ 1 _ rfl; (with_reducible repeat (first | refine blk_drewN ?_ _ | refine blk_drew ?_ | refine blk_alloc ?_ _)); refine blk_put (cs := #[.string (⟨#[]⟩ : ByteArray), .int .i64 0, .slice none 0 0]) ?_ 0 _ rfl; (with_reducible repeat (first | refine blk_drewN ?_ _ | refine blk_drew ?_ | refine blk_alloc ?_ _)); exact BK307.out) hb); have n5_ := Aside0.mk (below_step (by repeat (first | (with_reducible first | exact HB.out | apply below_alloc | apply pw_below_drewN | apply below_drew1 | refine below_set ?_ GE293.out | refine below_set ?_ GE307.out) | exact HB.out)) hb); clear HO299; clear HO305; clear BK293; clear BK307; clear HB; have HO299 := n0_; have HO305 := n1_; have HO312 := n2_; have BK293 := n3_; have BK307 := n4_; have HB := n5_; clear n0_ n1_ n2_ n3_ n4_ n5_; (try clear hb); (try clear hb2); (try clear hk); (try clear hi); (try clear ho0)) | ((with_reducible refine gate_dst (N := 14) rfl ?_); (try (refine gate_guard (by rfl) ?_; dsimp only)); refine box_event ?hg (N := 14) ?hd (cs := #[.string (⟨#[]⟩ : ByteArray), .int .i64 0, .slice none 0 0]) (t := 25) ?hr ?_; (case hd => rfl); (case hg => rfl); (case hr => first | (go_simp; done) | (go_simp; rfl)); intro gb314 hg w30 hbox hb; have n0_ := Aside0.mk (Kd.S_below (Kd.S_elderB (by (with_reducible repeat (first | apply Kd.S_alloc | apply Kd.S_drewN | apply Kd.S_drew)); exact HO299.out) gb314 (Nat.le_of_eq hg.symm)) hb); have n1_ := Aside0.mk (Kd.R_below (by (with_reducible repeat (first | apply Kd.R_alloc | apply Kd.R_drewN | apply Kd.R_drew)); exact HO305.out) hb); have n2_ := Aside0.mk (Kd.R_below (by (with_reducible repeat (first | apply Kd.R_alloc | apply Kd.R_drewN | apply Kd.R_drew)); exact HO312.out) hb); have n3_ := Aside0.mk (blk_below (g := gb293) (o := .cells #[.string a1_0, .int .i64 a1_1, .slice A1_2 l1_2.length c1_2] 25 (0, 0)) (by (with_reducible repeat (first | refine blk_drewN ?_ _ | refine blk_drew ?_ | refine blk_alloc ?_ _)); exact BK293.out) hb); have n4_ := Aside0.mk (blk_below (g := gb307) (o := .cells #[.string t301, .int .i64 t302, .slice Ao27 t303.length co27] 25 (0, 0)) (by (with_reducible repeat (first | refine blk_drewN ?_ _ | refine blk_drew ?_ | refine blk_alloc ?_ _)); exact BK307.out) hb); have n5_ := Aside0.mk (below_step (by repeat (first | (with_reducible first | exact HB.out | apply below_alloc | apply pw_below_drewN | apply below_drew1 | refine below_set ?_ GE293.out | refine below_set ?_ GE307.out) | exact HB.out)) hb); have n6_ := Aside0.mk (hbox); have n7_ := Aside0.mk ((by rw [hg]; exact (below_size (by repeat (first | (with_reducible first | exact HB.out | apply below_alloc | apply pw_below_drewN | apply below_drew1 | refine below_set ?_ GE293.out | refine below_set ?_ GE307.out) | exact HB.out))) : w.heap.size ≤ gb314)); have n8_ := Aside0.mk ((by rw [hg]; exact (below_size (by repeat (first | (with_reducible first | exact HB.out | apply below_alloc | apply pw_below_drewN | apply below_drew1 | refine below_set ?_ GE293.out | refine below_set ?_ GE307.out) | exact HB.out))) : w.heap.size ≤ gb314)); have n9_ := Aside0.mk ((by rw [hg]; exact Nat.ne_of_lt (blk_lt (g := gb293) (o := .cells #[.string a1_0, .int .i64 a1_1, .slice A1_2 l1_2.length c1_2] 25 (0, 0)) (by (with_reducible repeat (first | refine blk_drewN ?_ _ | refine blk_drew ?_ | refine blk_alloc ?_ _)); exact BK293.out)) : gb293 ≠ gb314)); have n10_ := Aside0.mk ((by rw [hg]; exact Nat.ne_of_gt (blk_lt (g := gb293) (o := .cells #[.string a1_0, .int .i64 a1_1, .slice A1_2 l1_2.length c1_2] 25 (0, 0)) (by (with_reducible repeat (first | refine blk_drewN ?_ _ | refine blk_drew ?_ | refine blk_alloc ?_ _)); exact BK293.out)) : gb314 ≠ gb293)); have n11_ := Aside0.mk ((by rw [hg]; exact Nat.ne_of_lt (blk_lt (g := gb307) (o := .cells #[.string t301, .int .i64 t302, .slice Ao27 t303.length co27] 25 (0, 0)) (by (with_reducible repeat (first | refine blk_drewN ?_ _ | refine blk_drew ?_ | refine blk_alloc ?_ _)); exact BK307.out)) : gb307 ≠ gb314)); have n12_ := Aside0.mk ((by rw [hg]; exact Nat.ne_of_gt (blk_lt (g := gb307) (o := .cells #[.string t301, .int .i64 t302, .slice Ao27 t303.length co27] 25 (0, 0)) (by (with_reducible repeat (first | refine blk_drewN ?_ _ | refine blk_drew ?_ | refine blk_alloc ?_ _)); exact BK307.out)) : gb314 ≠ gb307)); clear HO299; clear HO305; clear HO312; clear BK293; clear BK307; clear HB; have HO299 := n0_; have HO305 := n1_; have HO312 := n2_; have BK293 := n3_; have BK307 := n4_; have HB := n5_; have BK314 := n6_; have GW314 := n7_; have GE314 := n8_; have NB293_314 := n9_; have NB314_293 := n10_; have NB307_314 := n11_; have NB314_307 := n12_; clear n0_ n1_ n2_ n3_ n4_ n5_ n6_ n7_ n8_ n9_ n10_ n11_ n12_; clear hb hbox hg; have hnb31 := NB314_293.out; have hnc31 := NB293_314.out; have hnb32 := NB314_307.out; have hnc32 := NB307_314.out; have hcz33_0 : w30.cell? ⟨gb314, 0, none⟩ = some (.string (⟨#[]⟩ : ByteArray)) := (blk_cell BK314.out 0).trans rfl; have hcz33_1 : w30.cell? ⟨gb314, 1, none⟩ = some (.int .i64 0) := (blk_cell BK314.out 1).trans rfl; have hcz33_2 : w30.cell? ⟨gb314, 2, none⟩ = some (.slice none 0 0) := (blk_cell BK314.out 2).trans rfl; have hfz33_0 := blk_frozen BK314.out 0; have hfz33_1 := blk_frozen BK314.out 1; have hfz33_2 := blk_frozen BK314.out 2; obtain ⟨Ao34, co34, eo34⟩ := Kd.R_slice HO312.out; subst eo34)))
        (try simp only [Act.put, List.setIfInBounds_toArray, List.set_cons_zero, List.set_cons_succ])
        go_cut [61] (fun v61 wc => ∃ (kq : Nat) (x61_19 : Bool), v61 = .bool x61_19 ∧ Aside0 (towncrierlaw07_RegistryGrows.j1 kq t313 x61_19 t301 t302 t303 t308 t309 t310 = some r) ∧ Aside0 (kq ≤ kj6) ∧ Aside0 (Kd.R kField 39 wc w.heap.size (fun k_ => some k_ ≠ ((.slice Ao34 t310.length co34) : Value).ownBlock) (.slice Ao27 t303.length co27) t303) ∧ Aside0 (Kd.R kField 39 wc w.heap.size (fun k_ => some k_ ≠ ((.slice Ao27 t303.length co27) : Value).ownBlock) (.slice Ao34 t310.length co34) t310) ∧ Aside0 (wc.heap[gb293]? = some (.cells #[.string a1_0, .int .i64 a1_1, (.slice A1_2 l1_2.length c1_2)] 25 (0, 0))) ∧ Aside0 (wc.heap[gb307]? = some (.cells #[.string t301, .int .i64 t302, (.slice Ao27 t303.length co27)] 25 (0, 0))) ∧ Aside0 (wc.heap[gb314]? = some (.cells #[.string t308, .int .i64 t309, (.slice Ao34 t310.length co34)] 25 (0, 0))) ∧ Aside0 (Below w.heap.size w wc))
        case first =>
          have H := HC20.out
          clear HC20
          by_cases c35 : t300 = 0
          · rw [if_pos c35] at H
            have c35b0 : (t300 == 0) = true := beq_iff_eq.mpr c35
            have c35b1 : (t300 != 0) = false := bne_eq_false_iff_eq.mpr c35
            clear c35
            (first | rw [c35b0] | (simp only [i64_w, i32_w]; rw [c35b0]) | skip)
            have H' := Aside0.mk H
            clear H
            go_wp2
            repeat (go_quiet (fail); try go_wp2)
            go_meet
            case rel => exact ⟨_, (!t306), (by first | rfl | (simp; done) | (simp [*]; done)), H', ⟨by have := HJ6.out; first | omega | exact Nat.le_refl _⟩, ⟨by (with_reducible repeat (first | apply Kd.R_alloc | apply Kd.R_drewN | apply Kd.R_drew)); exact Kd.R_mono (Kd.R_far (p := ⟨gb314, 2, none⟩) (Kd.R_far (p := ⟨gb314, 1, none⟩) (Kd.R_far (p := ⟨gb314, 0, none⟩) (Kd.R_types HO305.out BK314.out (by decide)) (fun _ hk => hk.2) (.string t308)) (fun _ hk => hk.2) (.int .i64 t309)) (fun _ hk => hk.2) (.slice Ao34 t310.length co34)) (fun _ hk => hk.1.2)⟩, ⟨by (with_reducible repeat (first | apply Kd.R_alloc | apply Kd.R_drewN | apply Kd.R_drew)); exact Kd.R_mono (Kd.R_far (p := ⟨gb314, 2, none⟩) (Kd.R_far (p := ⟨gb314, 1, none⟩) (Kd.R_far (p := ⟨gb314, 0, none⟩) (Kd.R_types HO312.out BK314.out (by decide)) (fun _ hk => hk.2) (.string t308)) (fun _ hk => hk.2) (.int .i64 t309)) (fun _ hk => hk.2) (.slice Ao34 t310.length co34)) (fun _ hk => hk.1.2)⟩, ⟨by (with_reducible repeat (first | refine blk_drewN ?_ _ | refine blk_drew ?_ | refine blk_alloc ?_ _)); refine blk_far ?_ NB293_314.out _; (with_reducible repeat (first | refine blk_drewN ?_ _ | refine blk_drew ?_ | refine blk_alloc ?_ _)); refine blk_far ?_ NB293_314.out _; (with_reducible repeat (first | refine blk_drewN ?_ _ | refine blk_drew ?_ | refine blk_alloc ?_ _)); refine blk_far ?_ NB293_314.out _; (with_reducible repeat (first | refine blk_drewN ?_ _ | refine blk_drew ?_ | refine blk_alloc ?_ _)); exact BK293.out⟩, ⟨by (with_reducible repeat (first | refine blk_drewN ?_ _ | refine blk_drew ?_ | refine blk_alloc ?_ _)); refine blk_far ?_ NB307_314.out _; (with_reducible repeat (first | refine blk_drewN ?_ _ | refine blk_drew ?_ | refine blk_alloc ?_ _)); refine blk_far ?_ NB307_314.out _; (with_reducible repeat (first | refine blk_drewN ?_ _ | refine blk_drew ?_ | refine blk_alloc ?_ _)); refine blk_far ?_ NB307_314.out _; (with_reducible repeat (first | refine blk_drewN ?_ _ | refine blk_drew ?_ | refine blk_alloc ?_ _)); exact BK307.out⟩, ⟨by (with_reducible repeat (first | refine blk_drewN ?_ _ | refine blk_drew ?_ | refine blk_alloc ?_ _)); refine blk_put (cs := #[.string t308, .int .i64 t309, .slice none 0 0]) ?_ 2 _ rfl; (with_reducible repeat (first | refine blk_drewN ?_ _ | refine blk_drew ?_ | refine blk_alloc ?_ _)); refine blk_put (cs := #[.string t308, .int .i64 0, .slice none 0 0]) ?_ 1 _ rfl; (with_reducible repeat (first | refine blk_drewN ?_ _ | refine blk_drew ?_ | refine blk_alloc ?_ _)); refine blk_put (cs := #[.string (⟨#[]⟩ : ByteArray), .int .i64 0, .slice none 0 0]) ?_ 0 _ rfl; (with_reducible repeat (first | refine blk_drewN ?_ _ | refine blk_drew ?_ | refine blk_alloc ?_ _)); exact BK314.out⟩, ⟨by repeat (first | (with_reducible first | exact HB.out | apply below_alloc | apply pw_below_drewN | apply below_drew1 | refine below_set ?_ GE293.out | refine below_set ?_ GE307.out | refine below_set ?_ GE314.out) | exact HB.out)⟩⟩
          · rw [if_neg c35] at H
            have c35b0 : (t300 == 0) = false := beq_eq_false_iff_ne.mpr c35
            have c35b1 : (t300 != 0) = true := bne_iff_ne.mpr c35
            (first | rw [c35b0] | (simp only [i64_w, i32_w]; rw [c35b0]) | skip)
            have H' := Aside0.mk H
            clear H
            go_wp2
            repeat (go_quiet (fail); try go_wp2)
            go_meet
            case rel => exact ⟨_, (true), (by first | rfl | (simp; done) | (simp [*]; done)), H', ⟨by have := HJ6.out; first | omega | exact Nat.le_refl _⟩, ⟨by (with_reducible repeat (first | apply Kd.R_alloc | apply Kd.R_drewN | apply Kd.R_drew)); exact Kd.R_mono (Kd.R_far (p := ⟨gb314, 2, none⟩) (Kd.R_far (p := ⟨gb314, 1, none⟩) (Kd.R_far (p := ⟨gb314, 0, none⟩) (Kd.R_types HO305.out BK314.out (by decide)) (fun _ hk => hk.2) (.string t308)) (fun _ hk => hk.2) (.int .i64 t309)) (fun _ hk => hk.2) (.slice Ao34 t310.length co34)) (fun _ hk => hk.1.2)⟩, ⟨by (with_reducible repeat (first | apply Kd.R_alloc | apply Kd.R_drewN | apply Kd.R_drew)); exact Kd.R_mono (Kd.R_far (p := ⟨gb314, 2, none⟩) (Kd.R_far (p := ⟨gb314, 1, none⟩) (Kd.R_far (p := ⟨gb314, 0, none⟩) (Kd.R_types HO312.out BK314.out (by decide)) (fun _ hk => hk.2) (.string t308)) (fun _ hk => hk.2) (.int .i64 t309)) (fun _ hk => hk.2) (.slice Ao34 t310.length co34)) (fun _ hk => hk.1.2)⟩, ⟨by (with_reducible repeat (first | refine blk_drewN ?_ _ | refine blk_drew ?_ | refine blk_alloc ?_ _)); refine blk_far ?_ NB293_314.out _; (with_reducible repeat (first | refine blk_drewN ?_ _ | refine blk_drew ?_ | refine blk_alloc ?_ _)); refine blk_far ?_ NB293_314.out _; (with_reducible repeat (first | refine blk_drewN ?_ _ | refine blk_drew ?_ | refine blk_alloc ?_ _)); refine blk_far ?_ NB293_314.out _; (with_reducible repeat (first | refine blk_drewN ?_ _ | refine blk_drew ?_ | refine blk_alloc ?_ _)); exact BK293.out⟩, ⟨by (with_reducible repeat (first | refine blk_drewN ?_ _ | refine blk_drew ?_ | refine blk_alloc ?_ _)); refine blk_far ?_ NB307_314.out _; (with_reducible repeat (first | refine blk_drewN ?_ _ | refine blk_drew ?_ | refine blk_alloc ?_ _)); refine blk_far ?_ NB307_314.out _; (with_reducible repeat (first | refine blk_drewN ?_ _ | refine blk_drew ?_ | refine blk_alloc ?_ _)); refine blk_far ?_ NB307_314.out _; (with_reducible repeat (first | refine blk_drewN ?_ _ | refine blk_drew ?_ | refine blk_alloc ?_ _)); exact BK307.out⟩, ⟨by (with_reducible repeat (first | refine blk_drewN ?_ _ | refine blk_drew ?_ | refine blk_alloc ?_ _)); refine blk_put (cs := #[.string t308, .int .i64 t309, .slice none 0 0]) ?_ 2 _ rfl; (with_reducible repeat (first | refine blk_drewN ?_ _ | refine blk_drew ?_ | refine blk_alloc ?_ _)); refine blk_put (cs := #[.string t308, .int .i64 0, .slice none 0 0]) ?_ 1 _ rfl; (with_reducible repeat (first | refine blk_drewN ?_ _ | refine blk_drew ?_ | refine blk_alloc ?_ _)); refine blk_put (cs := #[.string (⟨#[]⟩ : ByteArray), .int .i64 0, .slice none 0 0]) ?_ 0 _ rfl; (with_reducible repeat (first | refine blk_drewN ?_ _ | refine blk_drew ?_ | refine blk_alloc ?_ _)); exact BK314.out⟩, ⟨by repeat (first | (with_reducible first | exact HB.out | apply below_alloc | apply pw_below_drewN | apply below_drew1 | refine below_set ?_ GE293.out | refine below_set ?_ GE307.out | refine below_set ?_ GE314.out) | exact HB.out)⟩⟩
        case rest =>
          clear HC20
          try clear c1
          try clear c2
          try clear p2
          try clear c3
          try clear c5
          try clear c13
          try clear c14
          try clear c15
          try clear c16
          try clear c25
          try clear c31
          try clear c32
          try clear c35
          try clear c35b0
          try clear c35b1
          try clear hcz11_0
          try clear hcz11_1
          try clear hcz11_2
          try clear hcz21_0
          try clear hcz21_1
          try clear hcz21_2
          try clear hcz26_0
          try clear hcz26_1
          try clear hcz26_2
          try clear hcz33_0
          try clear hcz33_1
          try clear hcz33_2
          try clear hfz11_0
          try clear hfz11_1
          try clear hfz11_2
          try clear hfz21_0
          try clear hfz21_1
          try clear hfz21_2
          try clear hfz26_0
          try clear hfz26_1
          try clear hfz26_2
          try clear hfz33_0
          try clear hfz33_1
          try clear hfz33_2
          try clear p2
          obtain ⟨kq, x61_19, rfl, HA, HJ19, HO_308002, HO_315002, BK293, BK307, BK314, HB⟩ := hcut
          cases kq with
          | zero => exact absurd HA.out (by simp [towncrierlaw07_RegistryGrows.j1])
          | succ kj19 =>
            have H := HA.out
            clear HA
            simp only [towncrierlaw07_RegistryGrows.j1] at H
            by_cases c36 : x61_19 = true
            · subst c36
              have H1 : (some true) = some r := by rw [if_pos rfl] at H; exact H
              clear H
              have H := H1
              clear H1
              obtain rfl := Option.some.inj H
              go_wp2
              repeat (go_quiet (fail); try go_wp2)
              go_ret
              exact ⟨by first | rfl | (simp [errW_none, errW_some] <;> rfl) | (simp [*, errW_none, errW_some] <;> rfl), by repeat (first | (with_reducible first | exact HB.out | apply below_alloc | apply pw_below_drewN | apply below_drew1 | refine below_set ?_ GE293.out | refine below_set ?_ GE307.out | refine below_set ?_ GE314.out) | exact HB.out)⟩
            · replace c36 := Bool.eq_false_iff.mpr c36
              subst c36
              have H1 : (if t313 = true then (if t309 < t302 then (towncrierlaw07_RegistryGrows.j2 kj19 true t301 t302 t303 t308 t309 t310) else (towncrierlaw07_RegistryGrows.j2 kj19 (decide ((t310.length : Int) < (t303.length : Int))) t301 t302 t303 t308 t309 t310)) else (towncrierlaw07_RegistryGrows.j2 kj19 true t301 t302 t303 t308 t309 t310)) = some r := by rw [if_neg (show ¬ (false = true) by decide)] at H; exact H
              clear H
              have H := H1
              clear H1
              have HC37 := Aside0.mk H
              clear H
              go_upto_region 11 with (fail)
              repeat (go_quiet (fail); go_upto_region 11 with (fail))
              go_cut [79] (fun v79 wc => ∃ (kq : Nat) (x79_36 : Bool), v79 = .bool x79_36 ∧ Aside0 (towncrierlaw07_RegistryGrows.j2 kq x79_36 t301 t302 t303 t308 t309 t310 = some r) ∧ Aside0 (kq ≤ kj19) ∧ Aside0 (Kd.R kField 39 wc w.heap.size (fun k_ => some k_ ≠ ((.slice Ao34 t310.length co34) : Value).ownBlock) (.slice Ao27 t303.length co27) t303) ∧ Aside0 (Kd.R kField 39 wc w.heap.size (fun k_ => some k_ ≠ ((.slice Ao27 t303.length co27) : Value).ownBlock) (.slice Ao34 t310.length co34) t310) ∧ Aside0 (wc.heap[gb293]? = some (.cells #[.string a1_0, .int .i64 a1_1, (.slice A1_2 l1_2.length c1_2)] 25 (0, 0))) ∧ Aside0 (wc.heap[gb307]? = some (.cells #[.string t301, .int .i64 t302, (.slice Ao27 t303.length co27)] 25 (0, 0))) ∧ Aside0 (wc.heap[gb314]? = some (.cells #[.string t308, .int .i64 t309, (.slice Ao34 t310.length co34)] 25 (0, 0))) ∧ Aside0 (Below w.heap.size w wc))
              case first =>
                have H := HC37.out
                clear HC37
                by_cases c38 : t313 = true
                · subst c38
                  have H1 : (if t309 < t302 then (towncrierlaw07_RegistryGrows.j2 kj19 true t301 t302 t303 t308 t309 t310) else (towncrierlaw07_RegistryGrows.j2 kj19 (decide ((t310.length : Int) < (t303.length : Int))) t301 t302 t303 t308 t309 t310)) = some r := by rw [if_pos rfl] at H; exact H
                  clear H
                  have H := H1
                  clear H1
                  by_cases c39 : t309 < t302
                  · rw [if_pos c39] at H
                    have c39b0 : decide (t309 < t302) = true := decide_eq_true c39
                    clear c39
                    (first | rw [c39b0] | (simp only [i64_w, i32_w]; rw [c39b0]) | skip)
                    have H' := Aside0.mk H
                    clear H
                    have hnb40 := NB314_293.out
                    have hnc40 := NB293_314.out
                    have hnb41 := NB314_307.out
                    have hnc41 := NB307_314.out
                    have hcz42_0 : wc.cell? ⟨gb314, 0, none⟩ = some (.string t308) := (blk_cell BK314.out 0).trans rfl
                    have hcz42_1 : wc.cell? ⟨gb314, 1, none⟩ = some (.int .i64 t309) := (blk_cell BK314.out 1).trans rfl
                    have hcz42_2 : wc.cell? ⟨gb314, 2, none⟩ = some (.slice Ao34 t310.length co34) := (blk_cell BK314.out 2).trans rfl
                    have hfz42_0 := blk_frozen BK314.out 0
                    have hfz42_1 := blk_frozen BK314.out 1
                    have hfz42_2 := blk_frozen BK314.out 2
                    have hnb43 := NB307_293.out
                    have hnc43 := NB293_307.out
                    have hcz44_0 : wc.cell? ⟨gb307, 0, none⟩ = some (.string t301) := (blk_cell BK307.out 0).trans rfl
                    have hcz44_1 : wc.cell? ⟨gb307, 1, none⟩ = some (.int .i64 t302) := (blk_cell BK307.out 1).trans rfl
                    have hcz44_2 : wc.cell? ⟨gb307, 2, none⟩ = some (.slice Ao27 t303.length co27) := (blk_cell BK307.out 2).trans rfl
                    have hfz44_0 := blk_frozen BK307.out 0
                    have hfz44_1 := blk_frozen BK307.out 1
                    have hfz44_2 := blk_frozen BK307.out 2
                    go_wp2
                    repeat (go_quiet (fail); try go_wp2)
                    go_meet
                    case rel => exact ⟨_, (true), (by first | rfl | (simp; done) | (simp [*]; done)), H', ⟨by have := HJ6.out; have := HJ19.out; first | omega | exact Nat.le_refl _⟩, ⟨by (with_reducible repeat (first | apply Kd.R_alloc | apply Kd.R_drewN | apply Kd.R_drew)); exact HO_308002.out⟩, ⟨by (with_reducible repeat (first | apply Kd.R_alloc | apply Kd.R_drewN | apply Kd.R_drew)); exact HO_315002.out⟩, ⟨by (with_reducible repeat (first | refine blk_drewN ?_ _ | refine blk_drew ?_ | refine blk_alloc ?_ _)); exact BK293.out⟩, ⟨by (with_reducible repeat (first | refine blk_drewN ?_ _ | refine blk_drew ?_ | refine blk_alloc ?_ _)); exact BK307.out⟩, ⟨by (with_reducible repeat (first | refine blk_drewN ?_ _ | refine blk_drew ?_ | refine blk_alloc ?_ _)); exact BK314.out⟩, ⟨by repeat (first | (with_reducible first | exact HB.out | apply below_alloc | apply pw_below_drewN | apply below_drew1 | refine below_set ?_ GE293.out | refine below_set ?_ GE307.out | refine below_set ?_ GE314.out) | exact HB.out)⟩⟩
                  · rw [if_neg c39] at H
                    have c39b0 : decide (t309 < t302) = false := decide_eq_false c39
                    clear c39
                    (first | rw [c39b0] | (simp only [i64_w, i32_w]; rw [c39b0]) | skip)
                    have H' := Aside0.mk H
                    clear H
                    have hnb45 := NB314_293.out
                    have hnc45 := NB293_314.out
                    have hnb46 := NB314_307.out
                    have hnc46 := NB307_314.out
                    have hcz47_0 : wc.cell? ⟨gb314, 0, none⟩ = some (.string t308) := (blk_cell BK314.out 0).trans rfl
                    have hcz47_1 : wc.cell? ⟨gb314, 1, none⟩ = some (.int .i64 t309) := (blk_cell BK314.out 1).trans rfl
                    have hcz47_2 : wc.cell? ⟨gb314, 2, none⟩ = some (.slice Ao34 t310.length co34) := (blk_cell BK314.out 2).trans rfl
                    have hfz47_0 := blk_frozen BK314.out 0
                    have hfz47_1 := blk_frozen BK314.out 1
                    have hfz47_2 := blk_frozen BK314.out 2
                    have hnb48 := NB307_293.out
                    have hnc48 := NB293_307.out
                    have hcz49_0 : wc.cell? ⟨gb307, 0, none⟩ = some (.string t301) := (blk_cell BK307.out 0).trans rfl
                    have hcz49_1 : wc.cell? ⟨gb307, 1, none⟩ = some (.int .i64 t302) := (blk_cell BK307.out 1).trans rfl
                    have hcz49_2 : wc.cell? ⟨gb307, 2, none⟩ = some (.slice Ao27 t303.length co27) := (blk_cell BK307.out 2).trans rfl
                    have hfz49_0 := blk_frozen BK307.out 0
                    have hfz49_1 := blk_frozen BK307.out 1
                    have hfz49_2 := blk_frozen BK307.out 2
                    go_wp2
                    repeat (go_quiet (fail); try go_wp2)
                    go_meet
                    case rel => exact ⟨_, (decide ((t310.length : Int) < (t303.length : Int))), (by first | rfl | (simp; done) | (simp [*]; done)), H', ⟨by have := HJ6.out; have := HJ19.out; first | omega | exact Nat.le_refl _⟩, ⟨by (with_reducible repeat (first | apply Kd.R_alloc | apply Kd.R_drewN | apply Kd.R_drew)); exact HO_308002.out⟩, ⟨by (with_reducible repeat (first | apply Kd.R_alloc | apply Kd.R_drewN | apply Kd.R_drew)); exact HO_315002.out⟩, ⟨by (with_reducible repeat (first | refine blk_drewN ?_ _ | refine blk_drew ?_ | refine blk_alloc ?_ _)); exact BK293.out⟩, ⟨by (with_reducible repeat (first | refine blk_drewN ?_ _ | refine blk_drew ?_ | refine blk_alloc ?_ _)); exact BK307.out⟩, ⟨by (with_reducible repeat (first | refine blk_drewN ?_ _ | refine blk_drew ?_ | refine blk_alloc ?_ _)); exact BK314.out⟩, ⟨by repeat (first | (with_reducible first | exact HB.out | apply below_alloc | apply pw_below_drewN | apply below_drew1 | refine below_set ?_ GE293.out | refine below_set ?_ GE307.out | refine below_set ?_ GE314.out) | exact HB.out)⟩⟩
                · replace c38 := Bool.eq_false_iff.mpr c38
                  subst c38
                  have H1 : (towncrierlaw07_RegistryGrows.j2 kj19 true t301 t302 t303 t308 t309 t310) = some r := by rw [if_neg (show ¬ (false = true) by decide)] at H; exact H
                  clear H
                  have H := H1
                  clear H1
                  have H' := Aside0.mk H
                  clear H
                  go_wp2
                  repeat (go_quiet (fail); try go_wp2)
                  go_meet
                  case rel => exact ⟨_, (true), (by first | rfl | (simp; done) | (simp [*]; done)), H', ⟨by have := HJ6.out; have := HJ19.out; first | omega | exact Nat.le_refl _⟩, ⟨by (with_reducible repeat (first | apply Kd.R_alloc | apply Kd.R_drewN | apply Kd.R_drew)); exact HO_308002.out⟩, ⟨by (with_reducible repeat (first | apply Kd.R_alloc | apply Kd.R_drewN | apply Kd.R_drew)); exact HO_315002.out⟩, ⟨by (with_reducible repeat (first | refine blk_drewN ?_ _ | refine blk_drew ?_ | refine blk_alloc ?_ _)); exact BK293.out⟩, ⟨by (with_reducible repeat (first | refine blk_drewN ?_ _ | refine blk_drew ?_ | refine blk_alloc ?_ _)); exact BK307.out⟩, ⟨by (with_reducible repeat (first | refine blk_drewN ?_ _ | refine blk_drew ?_ | refine blk_alloc ?_ _)); exact BK314.out⟩, ⟨by repeat (first | (with_reducible first | exact HB.out | apply below_alloc | apply pw_below_drewN | apply below_drew1 | refine below_set ?_ GE293.out | refine below_set ?_ GE307.out | refine below_set ?_ GE314.out) | exact HB.out)⟩⟩
              case rest =>
                clear HC37
                try clear c1
                try clear c2
                try clear p2
                try clear c3
                try clear c4
                try clear c5
                try clear c13
                try clear c14
                try clear c15
                try clear c16
                try clear c25
                try clear c31
                try clear c32
                try clear c35
                try clear c35b0
                try clear c35b1
                try clear c36
                try clear c38
                try clear c39
                try clear c39b0
                try clear c40
                try clear c41
                try clear c43
                try clear c45
                try clear c46
                try clear c48
                try clear hcz11_0
                try clear hcz11_1
                try clear hcz11_2
                try clear hcz21_0
                try clear hcz21_1
                try clear hcz21_2
                try clear hcz26_0
                try clear hcz26_1
                try clear hcz26_2
                try clear hcz33_0
                try clear hcz33_1
                try clear hcz33_2
                try clear hcz42_0
                try clear hcz42_1
                try clear hcz42_2
                try clear hcz44_0
                try clear hcz44_1
                try clear hcz44_2
                try clear hcz47_0
                try clear hcz47_1
                try clear hcz47_2
                try clear hcz49_0
                try clear hcz49_1
                try clear hcz49_2
                try clear hfz11_0
                try clear hfz11_1
                try clear hfz11_2
                try clear hfz21_0
                try clear hfz21_1
                try clear hfz21_2
                try clear hfz26_0
                try clear hfz26_1
                try clear hfz26_2
                try clear hfz33_0
                try clear hfz33_1
                try clear hfz33_2
                try clear hfz42_0
                try clear hfz42_1
                try clear hfz42_2
                try clear hfz44_0
                try clear hfz44_1
                try clear hfz44_2
                try clear hfz47_0
                try clear hfz47_1
                try clear hfz47_2
                try clear hfz49_0
                try clear hfz49_1
                try clear hfz49_2
                try clear p2
                obtain ⟨kq, x79_36, rfl, HA, HJ36, HO_308002, HO_315002, BK293, BK307, BK314, HB⟩ := hcut
                cases kq with
                | zero => exact absurd HA.out (by simp [towncrierlaw07_RegistryGrows.j2])
                | succ kj36 =>
                  have H := HA.out
                  clear HA
                  simp only [towncrierlaw07_RegistryGrows.j2] at H
                  by_cases c50 : x79_36 = true
                  · subst c50
                    have H1 : (some false) = some r := by rw [if_pos rfl] at H; exact H
                    clear H
                    have H := H1
                    clear H1
                    obtain rfl := Option.some.inj H
                    go_wp2
                    repeat (go_quiet (fail); try go_wp2)
                    go_ret
                    exact ⟨by first | rfl | (simp [errW_none, errW_some] <;> rfl) | (simp [*, errW_none, errW_some] <;> rfl), by repeat (first | (with_reducible first | exact HB.out | apply below_alloc | apply pw_below_drewN | apply below_drew1 | refine below_set ?_ GE293.out | refine below_set ?_ GE307.out | refine below_set ?_ GE314.out) | exact HB.out)⟩
                  · replace c50 := Bool.eq_false_iff.mpr c50
                    subst c50
                    have H1 : (towncrierlaw07_RegistryGrows.l0 kj36 0 t301 t302 t303 t308 t309 t310) = some r := by rw [if_neg (show ¬ (false = true) by decide)] at H; exact H
                    clear H
                    have H := H1
                    clear H1
                    have H' := Aside0.mk H
                    clear H
                    go_wp2
                    repeat (go_quiet (fail); try go_wp2)
                    go_loopg [16] kj36 (fun kq v16 w' => ∃ (x16_4 : Int), v16 = .int .i64 x16_4 ∧ Aside0 (towncrierlaw07_RegistryGrows.l0 kq x16_4 t301 t302 t303 t308 t309 t310 = some r) ∧ Aside0 (kq ≤ kj36) ∧ Aside0 (Kd.R kField 39 w' w.heap.size (fun k_ => some k_ ≠ ((.slice Ao34 t310.length co34) : Value).ownBlock) (.slice Ao27 t303.length co27) t303) ∧ Aside0 (Kd.R kField 39 w' w.heap.size (fun k_ => some k_ ≠ ((.slice Ao27 t303.length co27) : Value).ownBlock) (.slice Ao34 t310.length co34) t310) ∧ Aside0 (w'.heap[gb293]? = some (.cells #[.string a1_0, .int .i64 a1_1, (.slice A1_2 l1_2.length c1_2)] 25 (0, 0))) ∧ Aside0 (w'.heap[gb307]? = some (.cells #[.string t301, .int .i64 t302, (.slice Ao27 t303.length co27)] 25 (0, 0))) ∧ Aside0 (w'.heap[gb314]? = some (.cells #[.string t308, .int .i64 t309, (.slice Ao34 t310.length co34)] 25 (0, 0))) ∧ Aside0 (Below w.heap.size w w'))
                    case atStart => exact ⟨(0), (by first | rfl | (simp; done) | (simp [*]; done)), H', ⟨Nat.le_refl _⟩, ⟨by (with_reducible repeat (first | apply Kd.R_alloc | apply Kd.R_drewN | apply Kd.R_drew)); exact HO_308002.out⟩, ⟨by (with_reducible repeat (first | apply Kd.R_alloc | apply Kd.R_drewN | apply Kd.R_drew)); exact HO_315002.out⟩, ⟨by (with_reducible repeat (first | refine blk_drewN ?_ _ | refine blk_drew ?_ | refine blk_alloc ?_ _)); exact BK293.out⟩, ⟨by (with_reducible repeat (first | refine blk_drewN ?_ _ | refine blk_drew ?_ | refine blk_alloc ?_ _)); exact BK307.out⟩, ⟨by (with_reducible repeat (first | refine blk_drewN ?_ _ | refine blk_drew ?_ | refine blk_alloc ?_ _)); exact BK314.out⟩, ⟨by repeat (first | (with_reducible first | exact HB.out | apply below_alloc | apply pw_below_drewN | apply below_drew1 | refine below_set ?_ GE293.out | refine below_set ?_ GE307.out | refine below_set ?_ GE314.out) | exact HB.out)⟩⟩
                    case round =>
                      clear H'
                      try clear c1
                      try clear c2
                      try clear p2
                      try clear c3
                      try clear c4
                      try clear c5
                      try clear c13
                      try clear c14
                      try clear c15
                      try clear c16
                      try clear c25
                      try clear c31
                      try clear c32
                      try clear c35
                      try clear c35b0
                      try clear c35b1
                      try clear c36
                      try clear c38
                      try clear c39
                      try clear c39b0
                      try clear c40
                      try clear c41
                      try clear c43
                      try clear c45
                      try clear c46
                      try clear c48
                      try clear c50
                      try clear hcz11_0
                      try clear hcz11_1
                      try clear hcz11_2
                      try clear hcz21_0
                      try clear hcz21_1
                      try clear hcz21_2
                      try clear hcz26_0
                      try clear hcz26_1
                      try clear hcz26_2
                      try clear hcz33_0
                      try clear hcz33_1
                      try clear hcz33_2
                      try clear hcz42_0
                      try clear hcz42_1
                      try clear hcz42_2
                      try clear hcz44_0
                      try clear hcz44_1
                      try clear hcz44_2
                      try clear hcz47_0
                      try clear hcz47_1
                      try clear hcz47_2
                      try clear hcz49_0
                      try clear hcz49_1
                      try clear hcz49_2
                      try clear hfz11_0
                      try clear hfz11_1
                      try clear hfz11_2
                      try clear hfz21_0
                      try clear hfz21_1
                      try clear hfz21_2
                      try clear hfz26_0
                      try clear hfz26_1
                      try clear hfz26_2
                      try clear hfz33_0
                      try clear hfz33_1
                      try clear hfz33_2
                      try clear hfz42_0
                      try clear hfz42_1
                      try clear hfz42_2
                      try clear hfz44_0
                      try clear hfz44_1
                      try clear hfz44_2
                      try clear hfz47_0
                      try clear hfz47_1
                      try clear hfz47_2
                      try clear hfz49_0
                      try clear hfz49_1
                      try clear hfz49_2
                      try clear p2
                      obtain ⟨x16_4, rfl, HA, HK4, HO_308002, HO_315002, BK293, BK307, BK314, HB⟩ := hrel
                      cases gk with
                      | zero => exact absurd HA.out (by simp [towncrierlaw07_RegistryGrows.l0])
                      | succ k4 =>
                        have H := HA.out
                        clear HA
                        simp only [towncrierlaw07_RegistryGrows.l0] at H
                        by_cases c51 : x16_4 < (t303.length : Int)
                        · rw [if_pos c51] at H
                          have c51b0 : decide (x16_4 < (t303.length : Int)) = true := decide_eq_true c51
                          clear c51
                          by_cases c52 : 0 ≤ x16_4
                          · rw [if_pos c52] at H
                            have c52b0 : decide (0 ≤ x16_4) = true := decide_eq_true c52
                            clear c52
                            by_cases c53 : x16_4 < (t310.length : Int)
                            · rw [if_pos c53] at H
                              have c53b0 : decide (x16_4 < (t310.length : Int)) = true := decide_eq_true c53
                              clear c53
                              by_cases c54 : (!((((rd_TField t310 x16_4).f0).toList) == (((rd_TField t303 x16_4).f0).toList)) || (!(((rd_TField t310 x16_4).f1) == ((rd_TField t303 x16_4).f1)))) = true
                              · rw [if_pos c54] at H
                                have c54b0 : (!((((rd_TField t310 x16_4).f0).toList) == (((rd_TField t303 x16_4).f0).toList)) || (!(((rd_TField t310 x16_4).f1) == ((rd_TField t303 x16_4).f1)))) = true := c54
                                clear c54
                                obtain rfl := Option.some.inj H
                                have hnb55 := NB307_293.out
                                have hnc55 := NB293_307.out
                                have hnb56 := NB307_314.out
                                have hnc56 := NB314_307.out
                                have hcz57_0 : wr.cell? ⟨gb307, 0, none⟩ = some (.string t301) := (blk_cell BK307.out 0).trans rfl
                                have hcz57_1 : wr.cell? ⟨gb307, 1, none⟩ = some (.int .i64 t302) := (blk_cell BK307.out 1).trans rfl
                                have hcz57_2 : wr.cell? ⟨gb307, 2, none⟩ = some (.slice Ao27 t303.length co27) := (blk_cell BK307.out 2).trans rfl
                                have hfz57_0 := blk_frozen BK307.out 0
                                have hfz57_1 := blk_frozen BK307.out 1
                                have hfz57_2 := blk_frozen BK307.out 2
                                have hnb58 := NB314_293.out
                                have hnc58 := NB293_314.out
                                have hcz59_0 : wr.cell? ⟨gb314, 0, none⟩ = some (.string t308) := (blk_cell BK314.out 0).trans rfl
                                have hcz59_1 : wr.cell? ⟨gb314, 1, none⟩ = some (.int .i64 t309) := (blk_cell BK314.out 1).trans rfl
                                have hcz59_2 : wr.cell? ⟨gb314, 2, none⟩ = some (.slice Ao34 t310.length co34) := (blk_cell BK314.out 2).trans rfl
                                have hfz59_0 := blk_frozen BK314.out 0
                                have hfz59_1 := blk_frozen BK314.out 1
                                have hfz59_2 := blk_frozen BK314.out 2
                                have p315 : 0 ≤ (x16_4 : Int) := of_decide_eq_true (by first | (with_reducible assumption) | assumption)
                                have q315 : x16_4 < (t310.length : Int) := of_decide_eq_true (by first | (with_reducible assumption) | assumption)
                                obtain ⟨ad315, e315, hx315_0, hx315_1⟩ := at_TField (Kd.R_reads' HO_315002.out).2.2 x16_4 p315 q315
                                cases e315
                                replace p315 := eq_true p315
                                replace q315 := eq_true q315
                                have p316 : 0 ≤ (x16_4 : Int) := of_decide_eq_true (by first | (with_reducible assumption) | assumption)
                                have q316 : x16_4 < (t303.length : Int) := of_decide_eq_true (by first | (with_reducible assumption) | assumption)
                                obtain ⟨ad316, e316, hx316_0, hx316_1⟩ := at_TField (Kd.R_reads' HO_308002.out).2.2 x16_4 p316 q316
                                cases e316
                                replace p316 := eq_true p316
                                replace q316 := eq_true q316
                                go_wp2
                                repeat (go_quiet (fail); try go_wp2)
                                go_ret
                                exact ⟨by first | rfl | (simp [errW_none, errW_some] <;> rfl) | (simp [*, errW_none, errW_some] <;> rfl), by repeat (first | (with_reducible first | exact HB.out | apply below_alloc | apply pw_below_drewN | apply below_drew1 | refine below_set ?_ GE293.out | refine below_set ?_ GE307.out | refine below_set ?_ GE314.out) | exact HB.out)⟩
                              · rw [if_neg c54] at H
                                have c54b0 : (!((((rd_TField t310 x16_4).f0).toList) == (((rd_TField t303 x16_4).f0).toList)) || (!(((rd_TField t310 x16_4).f1) == ((rd_TField t303 x16_4).f1)))) = false := by simpa using c54
                                clear c54
                                have H' := Aside0.mk H
                                clear H
                                have hnb60 := NB307_293.out
                                have hnc60 := NB293_307.out
                                have hnb61 := NB307_314.out
                                have hnc61 := NB314_307.out
                                have hcz62_0 : wr.cell? ⟨gb307, 0, none⟩ = some (.string t301) := (blk_cell BK307.out 0).trans rfl
                                have hcz62_1 : wr.cell? ⟨gb307, 1, none⟩ = some (.int .i64 t302) := (blk_cell BK307.out 1).trans rfl
                                have hcz62_2 : wr.cell? ⟨gb307, 2, none⟩ = some (.slice Ao27 t303.length co27) := (blk_cell BK307.out 2).trans rfl
                                have hfz62_0 := blk_frozen BK307.out 0
                                have hfz62_1 := blk_frozen BK307.out 1
                                have hfz62_2 := blk_frozen BK307.out 2
                                have hnb63 := NB314_293.out
                                have hnc63 := NB293_314.out
                                have hcz64_0 : wr.cell? ⟨gb314, 0, none⟩ = some (.string t308) := (blk_cell BK314.out 0).trans rfl
                                have hcz64_1 : wr.cell? ⟨gb314, 1, none⟩ = some (.int .i64 t309) := (blk_cell BK314.out 1).trans rfl
                                have hcz64_2 : wr.cell? ⟨gb314, 2, none⟩ = some (.slice Ao34 t310.length co34) := (blk_cell BK314.out 2).trans rfl
                                have hfz64_0 := blk_frozen BK314.out 0
                                have hfz64_1 := blk_frozen BK314.out 1
                                have hfz64_2 := blk_frozen BK314.out 2
                                have p315 : 0 ≤ (x16_4 : Int) := of_decide_eq_true (by first | (with_reducible assumption) | assumption)
                                have q315 : x16_4 < (t310.length : Int) := of_decide_eq_true (by first | (with_reducible assumption) | assumption)
                                obtain ⟨ad315, e315, hx315_0, hx315_1⟩ := at_TField (Kd.R_reads' HO_315002.out).2.2 x16_4 p315 q315
                                cases e315
                                replace p315 := eq_true p315
                                replace q315 := eq_true q315
                                have p316 : 0 ≤ (x16_4 : Int) := of_decide_eq_true (by first | (with_reducible assumption) | assumption)
                                have q316 : x16_4 < (t303.length : Int) := of_decide_eq_true (by first | (with_reducible assumption) | assumption)
                                obtain ⟨ad316, e316, hx316_0, hx316_1⟩ := at_TField (Kd.R_reads' HO_308002.out).2.2 x16_4 p316 q316
                                cases e316
                                replace p316 := eq_true p316
                                replace q316 := eq_true q316
                                go_wp2
                                repeat (go_quiet (fail); try go_wp2)
                                go_roundg k4
                                case measure => have := HJ6.out; have := HJ19.out; have := HJ36.out; have := HK4.out; omega
                                case rel => exact ⟨(wrap64 (x16_4 + 1)), (by first | rfl | (simp; done) | (simp [*]; done)), H', ⟨by have := HJ6.out; have := HJ19.out; have := HJ36.out; have := HK4.out; omega⟩, ⟨by (with_reducible repeat (first | apply Kd.R_alloc | apply Kd.R_drewN | apply Kd.R_drew)); exact HO_308002.out⟩, ⟨by (with_reducible repeat (first | apply Kd.R_alloc | apply Kd.R_drewN | apply Kd.R_drew)); exact HO_315002.out⟩, ⟨by (with_reducible repeat (first | refine blk_drewN ?_ _ | refine blk_drew ?_ | refine blk_alloc ?_ _)); exact BK293.out⟩, ⟨by (with_reducible repeat (first | refine blk_drewN ?_ _ | refine blk_drew ?_ | refine blk_alloc ?_ _)); exact BK307.out⟩, ⟨by (with_reducible repeat (first | refine blk_drewN ?_ _ | refine blk_drew ?_ | refine blk_alloc ?_ _)); exact BK314.out⟩, ⟨by repeat (first | (with_reducible first | exact HB.out | apply below_alloc | apply pw_below_drewN | apply below_drew1 | refine below_set ?_ GE293.out | refine below_set ?_ GE307.out | refine below_set ?_ GE314.out) | exact HB.out)⟩⟩
                            · rw [if_neg c53] at H
                              exact absurd H (by simp)
                          · rw [if_neg c52] at H
                            exact absurd H (by simp)
                        · rw [if_neg c51] at H
                          have c51b0 : decide (x16_4 < (t303.length : Int)) = false := decide_eq_false c51
                          clear c51
                          obtain rfl := Option.some.inj H
                          have hnb65 := NB307_293.out
                          have hnc65 := NB293_307.out
                          have hnb66 := NB307_314.out
                          have hnc66 := NB314_307.out
                          have hcz67_0 : wr.cell? ⟨gb307, 0, none⟩ = some (.string t301) := (blk_cell BK307.out 0).trans rfl
                          have hcz67_1 : wr.cell? ⟨gb307, 1, none⟩ = some (.int .i64 t302) := (blk_cell BK307.out 1).trans rfl
                          have hcz67_2 : wr.cell? ⟨gb307, 2, none⟩ = some (.slice Ao27 t303.length co27) := (blk_cell BK307.out 2).trans rfl
                          have hfz67_0 := blk_frozen BK307.out 0
                          have hfz67_1 := blk_frozen BK307.out 1
                          have hfz67_2 := blk_frozen BK307.out 2
                          go_wp2
                          repeat (go_quiet (fail); try go_wp2)
                          go_ret
                          exact ⟨by first | rfl | (simp [errW_none, errW_some] <;> rfl) | (simp [*, errW_none, errW_some] <;> rfl), by repeat (first | (with_reducible first | exact HB.out | apply below_alloc | apply pw_below_drewN | apply below_drew1 | refine below_set ?_ GE293.out | refine below_set ?_ GE307.out | refine below_set ?_ GE314.out) | exact HB.out)⟩

end Go.Proofs.Ytbgdamlidohfhaa.P
