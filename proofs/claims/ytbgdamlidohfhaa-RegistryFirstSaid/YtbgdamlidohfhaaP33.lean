/- The functions that the laws of this seat reach, as plain Lean functions, and for each the contract of its call: no condition but those that each theorem names. -/
import Derived.Test.YtbgdamlidohfhaaP0
import Derived.Test.YtbgdamlidohfhaaP5
import Derived.Test.YtbgdamlidohfhaaP8
import Derived.Test.YtbgdamlidohfhaaP14
import Derived.Test.YtbgdamlidohfhaaP15
import Derived.Test.YtbgdamlidohfhaaP18
import Derived.Test.YtbgdamlidohfhaaP19
import Derived.Test.YtbgdamlidohfhaaP20
namespace Go.Proofs.Ytbgdamlidohfhaa.P
open Go.RowKit Go.Proofs.YtbgdamlidohfhaaW.PrintWords Go.Proofs.YtbgdamlidohfhaaW.PrintLast Go.Proofs.YtbgdamlidohfhaaW.PrintMore
attribute [local go_sem] max2_int min2_int max_two min_two max_three min_three max_four min_four   -- for this text's walks alone
set_option linter.unusedVariables false
set_option linter.unusedSimpArgs false

/-! ### towncrierlaw07_RegistryFirst: function 6 -/
def towncrierlaw07_RegistryFirst.j0 : Nat → List (SSchema) → Bool → Bool → ByteArray → Int → List (SField) → Option (Bool)
  | 0, _, _, _, _, _, _ => none
  | k + 1, x0, x5, x46, x318000, x318001, x318002 => if x46 = true then (some x5) else ((registry_Add.f k x0 x318000 x318001 x318002).bind fun bt330 => (if x318001 = 1 then (if bt330.2 = 0 then (if (bt330.1.length : Int) = (wrap64 ((x0.length : Int) + 1)) then (if (x0.length : Int) < 8 then (some true) else (if bt330.2 = 7 then (some ((x0.length : Int) == 8)) else (some false))) else (if bt330.2 = 7 then (some ((x0.length : Int) == 8)) else (some false))) else (if bt330.2 = 7 then (some ((x0.length : Int) == 8)) else (some false))) else (some (bt330.2 == 5))))
def towncrierlaw07_RegistryFirst.f (k : Nat) (l0 : List (SSchema)) (a1_0 : ByteArray) (a1_1 : Int) (l1_2 : List (SField)) : Option (Bool) := (towncrierlaw07_awake.f k).bind fun t318 => ((towncrierlaw07_Few.f k l0).bind fun t319 => ((towncrierlaw05_Few.f k a1_0 a1_1 l1_2).bind fun t320 => ((registry_Find.f l0 a1_0).bind fun bt321 => (if t318 = true then (if t319 = true then (if t320 = true then (if bt321.2.2.2 = true then (towncrierlaw07_RegistryFirst.j0 k l0 t318 true a1_0 a1_1 l1_2) else ((registry_May.f k l0).bind fun t328 => (if t328 = true then ((schema_May.f a1_0 a1_1 l1_2).bind fun t329 => (towncrierlaw07_RegistryFirst.j0 k l0 t318 (!t329) a1_0 a1_1 l1_2)) else (towncrierlaw07_RegistryFirst.j0 k l0 t318 true a1_0 a1_1 l1_2)))) else (towncrierlaw07_RegistryFirst.j0 k l0 t318 true a1_0 a1_1 l1_2)) else (towncrierlaw07_RegistryFirst.j0 k l0 t318 true a1_0 a1_1 l1_2)) else (towncrierlaw07_RegistryFirst.j0 k l0 t318 true a1_0 a1_1 l1_2)))))
theorem towncrierlaw07_RegistryFirst.mono_l : ∀ k, (∀ y0 y1 y2 y3 y4 y5, LeO (towncrierlaw07_RegistryFirst.j0 k y0 y1 y2 y3 y4 y5) (towncrierlaw07_RegistryFirst.j0 (k + 1) y0 y1 y2 y3 y4 y5))
  | 0 => fun _ _ _ _ _ _ r h => by simp [towncrierlaw07_RegistryFirst.j0] at h
  | k + 1 => by
    have ih0 := towncrierlaw07_RegistryFirst.mono_l k
    · intro y0 y1 y2 y3 y4 y5
      unfold towncrierlaw07_RegistryFirst.j0
      repeat' first
      | (with_reducible exact ih0 _ _ _ _ _ _)
      | (with_reducible exact registry_Add.mono _ _ _ _ _)
      | (with_reducible exact registry_May.mono _ _)
      | (with_reducible exact towncrierlaw05_Few.mono _ _ _ _)
      | (with_reducible exact towncrierlaw07_Few.mono _ _)
      | (with_reducible exact towncrierlaw07_awake.mono _)
      | (with_reducible exact LeO.refl _)
      | (with_reducible exact LeO.none _)
      | (with_reducible refine LeO.ite ?_ ?_)
      | (with_reducible refine LeO.bind ?_ (fun _ => ?_))
      | exact ih0 _ _ _ _ _ _
      | exact registry_Add.mono _ _ _ _ _
      | exact registry_May.mono _ _
      | exact towncrierlaw05_Few.mono _ _ _ _
      | exact towncrierlaw07_Few.mono _ _
      | exact towncrierlaw07_awake.mono _
      | exact LeO.none _
      | refine LeO.ite ?_ ?_
      | refine LeO.bind ?_ (fun _ => ?_)
theorem towncrierlaw07_RegistryFirst.mono : ∀ a0 a1 a2 a3 k, LeO (towncrierlaw07_RegistryFirst.f k a0 a1 a2 a3) (towncrierlaw07_RegistryFirst.f (k + 1) a0 a1 a2 a3) := by
  intro a0 a1 a2 a3 k
  have ih0 := towncrierlaw07_RegistryFirst.mono_l k
  unfold towncrierlaw07_RegistryFirst.f
  repeat' first
      | (with_reducible exact ih0 _ _ _ _ _ _)
      | (with_reducible exact registry_Add.mono _ _ _ _ _)
      | (with_reducible exact registry_May.mono _ _)
      | (with_reducible exact towncrierlaw05_Few.mono _ _ _ _)
      | (with_reducible exact towncrierlaw07_Few.mono _ _)
      | (with_reducible exact towncrierlaw07_awake.mono _)
      | (with_reducible exact LeO.refl _)
      | (with_reducible exact LeO.none _)
      | (with_reducible refine LeO.ite ?_ ?_)
      | (with_reducible refine LeO.bind ?_ (fun _ => ?_))
      | exact ih0 _ _ _ _ _ _
      | exact registry_Add.mono _ _ _ _ _
      | exact registry_May.mono _ _
      | exact towncrierlaw05_Few.mono _ _ _ _
      | exact towncrierlaw07_Few.mono _ _
      | exact towncrierlaw07_awake.mono _
      | exact LeO.none _
      | refine LeO.ite ?_ ?_
      | refine LeO.bind ?_ (fun _ => ?_)
set_option maxHeartbeats 8000000 in
set_option maxRecDepth 100000 in
theorem towncrierlaw07_RegistryFirst.calls (k : Nat) (A0 : Option Addr) (c0 : Nat) (l0 : List (SSchema)) (a1_0 : ByteArray) (a1_1 : Int) (A1_2 : Option Addr) (c1_2 : Nat) (l1_2 : List (SField)) (r : Bool) (w : World) (hr0 : Kd.C kSchema w A0 l0.length l0) (hc0 : l0.length ≤ c0) (hr1_2 : Kd.C kField w A1_2 l1_2.length l1_2) (hc1_2 : l1_2.length ≤ c1_2) (h : towncrierlaw07_RegistryFirst.f k l0 a1_0 a1_1 l1_2 = some r) :
    Calls Try.prog 6 #[.slice A0 l0.length c0, .agg #[.string a1_0, .int .i64 a1_1, .slice A1_2 l1_2.length c1_2]] w fun e w' => e = .returned (.bool r) ∧ Below w.heap.size w w' := by
  have hu25 := Try.underlying25
  have HR0 := Aside0.mk hr0
  have HC0 := Aside0.mk hc0
  clear hr0 hc0
  have HR1_2 := Aside0.mk hr1_2
  have HC1_2 := Aside0.mk hc1_2
  clear hr1_2 hc1_2
  have HB := Aside0.mk (Below.refl w.heap.size w)
  have H : ((towncrierlaw07_awake.f k).bind fun t318 => ((towncrierlaw07_Few.f k l0).bind fun t319 => ((towncrierlaw05_Few.f k a1_0 a1_1 l1_2).bind fun t320 => ((registry_Find.f l0 a1_0).bind fun bt321 => (if t318 = true then (if t319 = true then (if t320 = true then (if bt321.2.2.2 = true then (towncrierlaw07_RegistryFirst.j0 k l0 t318 true a1_0 a1_1 l1_2) else ((registry_May.f k l0).bind fun t328 => (if t328 = true then ((schema_May.f a1_0 a1_1 l1_2).bind fun t329 => (towncrierlaw07_RegistryFirst.j0 k l0 t318 (!t329) a1_0 a1_1 l1_2)) else (towncrierlaw07_RegistryFirst.j0 k l0 t318 true a1_0 a1_1 l1_2)))) else (towncrierlaw07_RegistryFirst.j0 k l0 t318 true a1_0 a1_1 l1_2)) else (towncrierlaw07_RegistryFirst.j0 k l0 t318 true a1_0 a1_1 l1_2)) else (towncrierlaw07_RegistryFirst.j0 k l0 t318 true a1_0 a1_1 l1_2)))))) = some r := h
  clear h
  replace H := Option.bind_eq_some_iff.mp H
  obtain ⟨t318, A30, H⟩ := H
  replace H : ((towncrierlaw07_Few.f k l0).bind fun t319 => ((towncrierlaw05_Few.f k a1_0 a1_1 l1_2).bind fun t320 => ((registry_Find.f l0 a1_0).bind fun bt321 => (if t318 = true then (if t319 = true then (if t320 = true then (if bt321.2.2.2 = true then (towncrierlaw07_RegistryFirst.j0 k l0 t318 true a1_0 a1_1 l1_2) else ((registry_May.f k l0).bind fun t328 => (if t328 = true then ((schema_May.f a1_0 a1_1 l1_2).bind fun t329 => (towncrierlaw07_RegistryFirst.j0 k l0 t318 (!t329) a1_0 a1_1 l1_2)) else (towncrierlaw07_RegistryFirst.j0 k l0 t318 true a1_0 a1_1 l1_2)))) else (towncrierlaw07_RegistryFirst.j0 k l0 t318 true a1_0 a1_1 l1_2)) else (towncrierlaw07_RegistryFirst.j0 k l0 t318 true a1_0 a1_1 l1_2)) else (towncrierlaw07_RegistryFirst.j0 k l0 t318 true a1_0 a1_1 l1_2))))) = some r := H
  have A3 := Aside0.mk A30
  clear A30
  replace H := Option.bind_eq_some_iff.mp H
  obtain ⟨t319, A40, H⟩ := H
  replace H : ((towncrierlaw05_Few.f k a1_0 a1_1 l1_2).bind fun t320 => ((registry_Find.f l0 a1_0).bind fun bt321 => (if t318 = true then (if t319 = true then (if t320 = true then (if bt321.2.2.2 = true then (towncrierlaw07_RegistryFirst.j0 k l0 t318 true a1_0 a1_1 l1_2) else ((registry_May.f k l0).bind fun t328 => (if t328 = true then ((schema_May.f a1_0 a1_1 l1_2).bind fun t329 => (towncrierlaw07_RegistryFirst.j0 k l0 t318 (!t329) a1_0 a1_1 l1_2)) else (towncrierlaw07_RegistryFirst.j0 k l0 t318 true a1_0 a1_1 l1_2)))) else (towncrierlaw07_RegistryFirst.j0 k l0 t318 true a1_0 a1_1 l1_2)) else (towncrierlaw07_RegistryFirst.j0 k l0 t318 true a1_0 a1_1 l1_2)) else (towncrierlaw07_RegistryFirst.j0 k l0 t318 true a1_0 a1_1 l1_2)))) = some r := H
  have A4 := Aside0.mk A40
  clear A40
  replace H := Option.bind_eq_some_iff.mp H
  obtain ⟨t320, A50, H⟩ := H
  replace H : ((registry_Find.f l0 a1_0).bind fun bt321 => (if t318 = true then (if t319 = true then (if t320 = true then (if bt321.2.2.2 = true then (towncrierlaw07_RegistryFirst.j0 k l0 t318 true a1_0 a1_1 l1_2) else ((registry_May.f k l0).bind fun t328 => (if t328 = true then ((schema_May.f a1_0 a1_1 l1_2).bind fun t329 => (towncrierlaw07_RegistryFirst.j0 k l0 t318 (!t329) a1_0 a1_1 l1_2)) else (towncrierlaw07_RegistryFirst.j0 k l0 t318 true a1_0 a1_1 l1_2)))) else (towncrierlaw07_RegistryFirst.j0 k l0 t318 true a1_0 a1_1 l1_2)) else (towncrierlaw07_RegistryFirst.j0 k l0 t318 true a1_0 a1_1 l1_2)) else (towncrierlaw07_RegistryFirst.j0 k l0 t318 true a1_0 a1_1 l1_2))) = some r := H
  have A5 := Aside0.mk A50
  clear A50
  replace H := Option.bind_eq_some_iff.mp H
  obtain ⟨⟨t321, t322, t323, t326⟩, A60, H⟩ := H
  replace H : (if t318 = true then (if t319 = true then (if t320 = true then (if t326 = true then (towncrierlaw07_RegistryFirst.j0 k l0 t318 true a1_0 a1_1 l1_2) else ((registry_May.f k l0).bind fun t328 => (if t328 = true then ((schema_May.f a1_0 a1_1 l1_2).bind fun t329 => (towncrierlaw07_RegistryFirst.j0 k l0 t318 (!t329) a1_0 a1_1 l1_2)) else (towncrierlaw07_RegistryFirst.j0 k l0 t318 true a1_0 a1_1 l1_2)))) else (towncrierlaw07_RegistryFirst.j0 k l0 t318 true a1_0 a1_1 l1_2)) else (towncrierlaw07_RegistryFirst.j0 k l0 t318 true a1_0 a1_1 l1_2)) else (towncrierlaw07_RegistryFirst.j0 k l0 t318 true a1_0 a1_1 l1_2)) = some r := H
  have A6 := Aside0.mk A60
  clear A60
  have HC7 := Aside0.mk H
  clear H
  go_enter Try.func6, Try.ntmps6
  go_upto_region 5 with (first | ((with_reducible refine gate_dst (N := 3) rfl ?_); (try (refine gate_guard (by rfl) ?_; dsimp only)); refine box_event ?hg (N := 3) ?hd (cs := #[.string a1_0, .int .i64 a1_1, .slice A1_2 l1_2.length c1_2]) (t := 25) ?hr ?_; (case hd => rfl); (case hg => rfl); (case hr => first | (go_simp; done) | (go_simp; rfl)); intro gb317 hg w8 hbox hb; have n0_ := Aside0.mk (below_step (by repeat (first | (with_reducible first | exact HB.out | apply below_alloc | apply pw_below_drewN | apply below_drew1) | exact HB.out)) hb); have n1_ := Aside0.mk (hbox); have n2_ := Aside0.mk ((by rw [hg]; exact (below_size (by repeat (first | (with_reducible first | exact HB.out | apply below_alloc | apply pw_below_drewN | apply below_drew1) | exact HB.out))) : w.heap.size ≤ gb317)); have n3_ := Aside0.mk ((by rw [hg]; exact (below_size (by repeat (first | (with_reducible first | exact HB.out | apply below_alloc | apply pw_below_drewN | apply below_drew1) | exact HB.out))) : w.heap.size ≤ gb317)); clear HB; have HB := n0_; have BK317 := n1_; have GW317 := n2_; have GE317 := n3_; clear n0_ n1_ n2_ n3_; clear hb hbox hg) | ((with_reducible refine gate_callee (f := 15) rfl ?_); refine goesL_ (some 12) rfl rfl Try.func15 (by kernel_rfl) rfl #[] rfl (by (try simp only [List.map_toArray, List.map_cons, List.map_nil]); first | done | rfl | (simp only [List.length_drop, List.length_take]; rfl)) ?_; (with_reducible refine (towncrierlaw07_awake.calls k  t318 _ A3.out).mono ?_); rintro e w9 ⟨rfl, hb⟩; refine ⟨_, rfl, ?_⟩; have n0_ := Aside0.mk (blk_below (g := gb317) (o := .cells #[.string a1_0, .int .i64 a1_1, .slice A1_2 l1_2.length c1_2] 25 (0, 0)) (by (with_reducible repeat (first | refine blk_drewN ?_ _ | refine blk_drew ?_ | refine blk_alloc ?_ _)); exact BK317.out) hb); have n1_ := Aside0.mk (below_step (by repeat (first | (with_reducible first | exact HB.out | apply below_alloc | apply pw_below_drewN | apply below_drew1 | refine below_set ?_ GE317.out) | exact HB.out)) hb); clear BK317; clear HB; have BK317 := n0_; have HB := n1_; clear n0_ n1_; (try clear hb); (try clear hb2); (try clear hk); (try clear hi)) | ((with_reducible refine gate_callee (f := 16) rfl ?_); refine goesL_ (some 14) rfl rfl Try.func16 (by kernel_rfl) rfl #[.slice A0 l0.length c0] rfl (by (try simp only [List.map_toArray, List.map_cons, List.map_nil]); first | done | rfl | (simp only [List.length_drop, List.length_take]; rfl)) ?_; (with_reducible refine (towncrierlaw07_Few.calls k _ _ l0 t319 _ ?side1 ?side2 A4.out).mono ?_); (case side1 => repeat (first | exact (Kd.C_below HR0.out HB.out) | (with_reducible refine Kd.C_alloc ?_ _) | (with_reducible refine Kd.C_drewN ?_ _) | (with_reducible refine Kd.C_drew ?_))); (case side2 => exact HC0.out); rintro e w10 ⟨rfl, hb⟩; refine ⟨_, rfl, ?_⟩; have n0_ := Aside0.mk (blk_below (g := gb317) (o := .cells #[.string a1_0, .int .i64 a1_1, .slice A1_2 l1_2.length c1_2] 25 (0, 0)) (by (with_reducible repeat (first | refine blk_drewN ?_ _ | refine blk_drew ?_ | refine blk_alloc ?_ _)); exact BK317.out) hb); have n1_ := Aside0.mk (below_step (by repeat (first | (with_reducible first | exact HB.out | apply below_alloc | apply pw_below_drewN | apply below_drew1 | refine below_set ?_ GE317.out) | exact HB.out)) hb); clear BK317; clear HB; have BK317 := n0_; have HB := n1_; clear n0_ n1_; (try clear hb); (try clear hb2); (try clear hk); (try clear hi); have hcz11_0 : w10.cell? ⟨gb317, 0, none⟩ = some (.string a1_0) := (blk_cell BK317.out 0).trans rfl; have hcz11_1 : w10.cell? ⟨gb317, 1, none⟩ = some (.int .i64 a1_1) := (blk_cell BK317.out 1).trans rfl; have hcz11_2 : w10.cell? ⟨gb317, 2, none⟩ = some (.slice A1_2 l1_2.length c1_2) := (blk_cell BK317.out 2).trans rfl; have hfz11_0 := blk_frozen BK317.out 0; have hfz11_1 := blk_frozen BK317.out 1; have hfz11_2 := blk_frozen BK317.out 2) | ((with_reducible refine gate_callee (f := 17) rfl ?_); refine goesL_ (some 16) rfl rfl Try.func17 (by kernel_rfl) rfl #[.agg #[.string a1_0, .int .i64 a1_1, .slice A1_2 l1_2.length c1_2]] rfl (by (try simp only [List.map_toArray, List.map_cons, List.map_nil]); first | done | rfl | (simp only [List.length_drop, List.length_take]; rfl)) ?_; (with_reducible refine (towncrierlaw05_Few.calls k a1_0 a1_1 _ _ l1_2 t320 _ ?side1 ?side2 A5.out).mono ?_); (case side1 => repeat (first | exact (Kd.C_below HR1_2.out HB.out) | (with_reducible refine Kd.C_alloc ?_ _) | (with_reducible refine Kd.C_drewN ?_ _) | (with_reducible refine Kd.C_drew ?_))); (case side2 => exact HC1_2.out); rintro e w12 ⟨rfl, hb⟩; refine ⟨_, rfl, ?_⟩; have n0_ := Aside0.mk (blk_below (g := gb317) (o := .cells #[.string a1_0, .int .i64 a1_1, .slice A1_2 l1_2.length c1_2] 25 (0, 0)) (by (with_reducible repeat (first | refine blk_drewN ?_ _ | refine blk_drew ?_ | refine blk_alloc ?_ _)); exact BK317.out) hb); have n1_ := Aside0.mk (below_step (by repeat (first | (with_reducible first | exact HB.out | apply below_alloc | apply pw_below_drewN | apply below_drew1 | refine below_set ?_ GE317.out) | exact HB.out)) hb); clear BK317; clear HB; have BK317 := n0_; have HB := n1_; clear n0_ n1_; (try clear hb); (try clear hb2); (try clear hk); (try clear hi); have hcz13_0 : w12.cell? ⟨gb317, 0, none⟩ = some (.string a1_0) := (blk_cell BK317.out 0).trans rfl; have hcz13_1 : w12.cell? ⟨gb317, 1, none⟩ = some (.int .i64 a1_1) := (blk_cell BK317.out 1).trans rfl; have hcz13_2 : w12.cell? ⟨gb317, 2, none⟩ = some (.slice A1_2 l1_2.length c1_2) := (blk_cell BK317.out 2).trans rfl; have hfz13_0 := blk_frozen BK317.out 0; have hfz13_1 := blk_frozen BK317.out 1; have hfz13_2 := blk_frozen BK317.out 2) | ((with_reducible refine gate_callee (f := 20) rfl ?_); refine goesL_ (some 21) rfl rfl Try.func20 (by kernel_rfl) rfl #[.slice A0 l0.length c0, .string a1_0] rfl (by (try simp only [List.map_toArray, List.map_cons, List.map_nil]); first | done | rfl | (simp only [List.length_drop, List.length_take]; rfl)) ?_; (with_reducible refine (registry_Find.calls _ _ l0 a1_0 t321 t322 t323 t326 _ ?side1 ?side2 A6.out).mono ?_); (case side1 => repeat (first | exact (Kd.C_below HR0.out HB.out) | (with_reducible refine Kd.C_alloc ?_ _) | (with_reducible refine Kd.C_drewN ?_ _) | (with_reducible refine Kd.C_drew ?_))); (case side2 => exact HC0.out); rintro e w14 ⟨v324, rfl, ho0, hb⟩; refine ⟨_, rfl, ?_⟩; have n0_ := Aside0.mk (Kd.R_lower ho0 (below_size (by repeat (first | (with_reducible first | exact HB.out | apply below_alloc | apply pw_below_drewN | apply below_drew1 | refine below_set ?_ GE317.out) | exact HB.out)))); have n1_ := Aside0.mk (blk_below (g := gb317) (o := .cells #[.string a1_0, .int .i64 a1_1, .slice A1_2 l1_2.length c1_2] 25 (0, 0)) (by (with_reducible repeat (first | refine blk_drewN ?_ _ | refine blk_drew ?_ | refine blk_alloc ?_ _)); exact BK317.out) hb); have n2_ := Aside0.mk (below_step (by repeat (first | (with_reducible first | exact HB.out | apply below_alloc | apply pw_below_drewN | apply below_drew1 | refine below_set ?_ GE317.out) | exact HB.out)) hb); clear BK317; clear HB; have HO325 := n0_; have BK317 := n1_; have HB := n2_; clear n0_ n1_ n2_; (try clear hb); (try clear hb2); (try clear hk); (try clear hi); (try clear ho0)) | ((with_reducible refine gate_dst (N := 8) rfl ?_); (try (refine gate_guard (by rfl) ?_; dsimp only)); refine box_event ?hg (N := 8) ?hd (cs := #[.string (⟨#[]⟩ : ByteArray), .int .i64 0, .slice none 0 0]) (t := 25) ?hr ?_; (case hd => rfl); (case hg => rfl); (case hr => first | (go_simp; done) | (go_simp; rfl)); intro gb327 hg w15 hbox hb; have n0_ := Aside0.mk (Kd.R_below (by (with_reducible repeat (first | apply Kd.R_alloc | apply Kd.R_drewN | apply Kd.R_drew)); exact HO325.out) hb); have n1_ := Aside0.mk (blk_below (g := gb317) (o := .cells #[.string a1_0, .int .i64 a1_1, .slice A1_2 l1_2.length c1_2] 25 (0, 0)) (by (with_reducible repeat (first | refine blk_drewN ?_ _ | refine blk_drew ?_ | refine blk_alloc ?_ _)); exact BK317.out) hb); have n2_ := Aside0.mk (below_step (by repeat (first | (with_reducible first | exact HB.out | apply below_alloc | apply pw_below_drewN | apply below_drew1 | refine below_set ?_ GE317.out) | exact HB.out)) hb); have n3_ := Aside0.mk (hbox); have n4_ := Aside0.mk ((by rw [hg]; exact (below_size (by repeat (first | (with_reducible first | exact HB.out | apply below_alloc | apply pw_below_drewN | apply below_drew1 | refine below_set ?_ GE317.out) | exact HB.out))) : w.heap.size ≤ gb327)); have n5_ := Aside0.mk ((by rw [hg]; exact (below_size (by repeat (first | (with_reducible first | exact HB.out | apply below_alloc | apply pw_below_drewN | apply below_drew1 | refine below_set ?_ GE317.out) | exact HB.out))) : w.heap.size ≤ gb327)); have n6_ := Aside0.mk ((by rw [hg]; exact Nat.ne_of_lt (blk_lt (g := gb317) (o := .cells #[.string a1_0, .int .i64 a1_1, .slice A1_2 l1_2.length c1_2] 25 (0, 0)) (by (with_reducible repeat (first | refine blk_drewN ?_ _ | refine blk_drew ?_ | refine blk_alloc ?_ _)); exact BK317.out)) : gb317 ≠ gb327)); have n7_ := Aside0.mk ((by rw [hg]; exact Nat.ne_of_gt (blk_lt (g := gb317) (o := .cells #[.string a1_0, .int .i64 a1_1, .slice A1_2 l1_2.length c1_2] 25 (0, 0)) (by (with_reducible repeat (first | refine blk_drewN ?_ _ | refine blk_drew ?_ | refine blk_alloc ?_ _)); exact BK317.out)) : gb327 ≠ gb317)); clear HO325; clear BK317; clear HB; have HO325 := n0_; have BK317 := n1_; have HB := n2_; have BK327 := n3_; have GW327 := n4_; have GE327 := n5_; have NB317_327 := n6_; have NB327_317 := n7_; clear n0_ n1_ n2_ n3_ n4_ n5_ n6_ n7_; clear hb hbox hg; have hnb16 := NB327_317.out; have hnc16 := NB317_327.out; have hcz17_0 : w15.cell? ⟨gb327, 0, none⟩ = some (.string (⟨#[]⟩ : ByteArray)) := (blk_cell BK327.out 0).trans rfl; have hcz17_1 : w15.cell? ⟨gb327, 1, none⟩ = some (.int .i64 0) := (blk_cell BK327.out 1).trans rfl; have hcz17_2 : w15.cell? ⟨gb327, 2, none⟩ = some (.slice none 0 0) := (blk_cell BK327.out 2).trans rfl; have hfz17_0 := blk_frozen BK327.out 0; have hfz17_1 := blk_frozen BK327.out 1; have hfz17_2 := blk_frozen BK327.out 2; obtain ⟨Ao18, co18, eo18⟩ := Kd.R_slice HO325.out; subst eo18))
  (try simp only [Act.put, List.setIfInBounds_toArray, List.set_cons_zero, List.set_cons_succ])
  go_cut [46] (fun v46 wc => ∃ (kq : Nat) (x46_6 : Bool), v46 = .bool x46_6 ∧ Aside0 (towncrierlaw07_RegistryFirst.j0 kq l0 t318 x46_6 a1_0 a1_1 l1_2 = some r) ∧ Aside0 (kq ≤ k) ∧ Aside0 (Kd.R kField 39 wc w.heap.size (fun _ => True) (.slice Ao18 t323.length co18) t323) ∧ Aside0 (wc.heap[gb317]? = some (.cells #[.string a1_0, .int .i64 a1_1, (.slice A1_2 l1_2.length c1_2)] 25 (0, 0))) ∧ Aside0 (wc.heap[gb327]? = some (.cells #[.string t321, .int .i64 t322, (.slice Ao18 t323.length co18)] 25 (0, 0))) ∧ Aside0 (Below w.heap.size w wc))
  case first =>
    have H := HC7.out
    clear HC7
    by_cases c19 : t318 = true
    · subst c19
      have H1 : (if t319 = true then (if t320 = true then (if t326 = true then (towncrierlaw07_RegistryFirst.j0 k l0 true true a1_0 a1_1 l1_2) else ((registry_May.f k l0).bind fun t328 => (if t328 = true then ((schema_May.f a1_0 a1_1 l1_2).bind fun t329 => (towncrierlaw07_RegistryFirst.j0 k l0 true (!t329) a1_0 a1_1 l1_2)) else (towncrierlaw07_RegistryFirst.j0 k l0 true true a1_0 a1_1 l1_2)))) else (towncrierlaw07_RegistryFirst.j0 k l0 true true a1_0 a1_1 l1_2)) else (towncrierlaw07_RegistryFirst.j0 k l0 true true a1_0 a1_1 l1_2)) = some r := by rw [if_pos rfl] at H; exact H
      clear H
      have H := H1
      clear H1
      by_cases c20 : t319 = true
      · subst c20
        have H1 : (if t320 = true then (if t326 = true then (towncrierlaw07_RegistryFirst.j0 k l0 true true a1_0 a1_1 l1_2) else ((registry_May.f k l0).bind fun t328 => (if t328 = true then ((schema_May.f a1_0 a1_1 l1_2).bind fun t329 => (towncrierlaw07_RegistryFirst.j0 k l0 true (!t329) a1_0 a1_1 l1_2)) else (towncrierlaw07_RegistryFirst.j0 k l0 true true a1_0 a1_1 l1_2)))) else (towncrierlaw07_RegistryFirst.j0 k l0 true true a1_0 a1_1 l1_2)) = some r := by rw [if_pos rfl] at H; exact H
        clear H
        have H := H1
        clear H1
        by_cases c21 : t320 = true
        · subst c21
          have H1 : (if t326 = true then (towncrierlaw07_RegistryFirst.j0 k l0 true true a1_0 a1_1 l1_2) else ((registry_May.f k l0).bind fun t328 => (if t328 = true then ((schema_May.f a1_0 a1_1 l1_2).bind fun t329 => (towncrierlaw07_RegistryFirst.j0 k l0 true (!t329) a1_0 a1_1 l1_2)) else (towncrierlaw07_RegistryFirst.j0 k l0 true true a1_0 a1_1 l1_2)))) = some r := by rw [if_pos rfl] at H; exact H
          clear H
          have H := H1
          clear H1
          by_cases c22 : t326 = true
          · subst c22
            have H1 : (towncrierlaw07_RegistryFirst.j0 k l0 true true a1_0 a1_1 l1_2) = some r := by rw [if_pos rfl] at H; exact H
            clear H
            have H := H1
            clear H1
            have H' := Aside0.mk H
            clear H
            go_wp2
            go_meet
            case rel => exact ⟨_, (true), (by first | rfl | (simp; done) | (simp [*]; done)), H', ⟨by first | omega | exact Nat.le_refl _⟩, ⟨by (with_reducible repeat (first | apply Kd.R_alloc | apply Kd.R_drewN | apply Kd.R_drew)); exact Kd.R_mono (Kd.R_far (p := ⟨gb327, 2, none⟩) (Kd.R_far (p := ⟨gb327, 1, none⟩) (Kd.R_far (p := ⟨gb327, 0, none⟩) (Kd.R_types HO325.out BK327.out (by decide)) (fun _ hk => hk.2) (.string t321)) (fun _ hk => hk.2) (.int .i64 t322)) (fun _ hk => hk.2) (.slice Ao18 t323.length co18)) (fun _ hk => trivial)⟩, ⟨by (with_reducible repeat (first | refine blk_drewN ?_ _ | refine blk_drew ?_ | refine blk_alloc ?_ _)); refine blk_far ?_ NB317_327.out _; (with_reducible repeat (first | refine blk_drewN ?_ _ | refine blk_drew ?_ | refine blk_alloc ?_ _)); refine blk_far ?_ NB317_327.out _; (with_reducible repeat (first | refine blk_drewN ?_ _ | refine blk_drew ?_ | refine blk_alloc ?_ _)); refine blk_far ?_ NB317_327.out _; (with_reducible repeat (first | refine blk_drewN ?_ _ | refine blk_drew ?_ | refine blk_alloc ?_ _)); exact BK317.out⟩, ⟨by (with_reducible repeat (first | refine blk_drewN ?_ _ | refine blk_drew ?_ | refine blk_alloc ?_ _)); refine blk_put (cs := #[.string t321, .int .i64 t322, .slice none 0 0]) ?_ 2 _ rfl; (with_reducible repeat (first | refine blk_drewN ?_ _ | refine blk_drew ?_ | refine blk_alloc ?_ _)); refine blk_put (cs := #[.string t321, .int .i64 0, .slice none 0 0]) ?_ 1 _ rfl; (with_reducible repeat (first | refine blk_drewN ?_ _ | refine blk_drew ?_ | refine blk_alloc ?_ _)); refine blk_put (cs := #[.string (⟨#[]⟩ : ByteArray), .int .i64 0, .slice none 0 0]) ?_ 0 _ rfl; (with_reducible repeat (first | refine blk_drewN ?_ _ | refine blk_drew ?_ | refine blk_alloc ?_ _)); exact BK327.out⟩, ⟨by repeat (first | (with_reducible first | exact HB.out | apply below_alloc | apply pw_below_drewN | apply below_drew1 | refine below_set ?_ GE317.out | refine below_set ?_ GE327.out) | exact HB.out)⟩⟩
          · replace c22 := Bool.eq_false_iff.mpr c22
            subst c22
            have H1 : ((registry_May.f k l0).bind fun t328 => (if t328 = true then ((schema_May.f a1_0 a1_1 l1_2).bind fun t329 => (towncrierlaw07_RegistryFirst.j0 k l0 true (!t329) a1_0 a1_1 l1_2)) else (towncrierlaw07_RegistryFirst.j0 k l0 true true a1_0 a1_1 l1_2))) = some r := by rw [if_neg (show ¬ (false = true) by decide)] at H; exact H
            clear H
            have H := H1
            clear H1
            replace H := Option.bind_eq_some_iff.mp H
            obtain ⟨t328, A230, H⟩ := H
            replace H : (if t328 = true then ((schema_May.f a1_0 a1_1 l1_2).bind fun t329 => (towncrierlaw07_RegistryFirst.j0 k l0 true (!t329) a1_0 a1_1 l1_2)) else (towncrierlaw07_RegistryFirst.j0 k l0 true true a1_0 a1_1 l1_2)) = some r := H
            have A23 := Aside0.mk A230
            clear A230
            by_cases c24 : t328 = true
            · subst c24
              have H1 : ((schema_May.f a1_0 a1_1 l1_2).bind fun t329 => (towncrierlaw07_RegistryFirst.j0 k l0 true (!t329) a1_0 a1_1 l1_2)) = some r := by rw [if_pos rfl] at H; exact H
              clear H
              have H := H1
              clear H1
              replace H := Option.bind_eq_some_iff.mp H
              obtain ⟨t329, A250, H⟩ := H
              replace H : (towncrierlaw07_RegistryFirst.j0 k l0 true (!t329) a1_0 a1_1 l1_2) = some r := H
              have A25 := Aside0.mk A250
              clear A250
              have H' := Aside0.mk H
              clear H
              go_wp2_with (first | (go_at_call 25; (with_reducible refine (registry_May.calls k _ _ l0 true _ ?side1 ?side2 A23.out).mono ?_); (case side1 => exact Kd.C_below HR0.out (by repeat (first | (with_reducible first | exact HB.out | apply below_alloc | apply pw_below_drewN | apply below_drew1 | refine below_set ?_ GE317.out | refine below_set ?_ GE327.out) | exact HB.out))); (case side2 => exact HC0.out); rintro e w26 ⟨rfl, hb⟩; have n0_ := Aside0.mk (Kd.R_below (by (with_reducible repeat (first | apply Kd.R_alloc | apply Kd.R_drewN | apply Kd.R_drew)); exact (Kd.R_mono (Kd.R_far (p := ⟨gb327, 2, none⟩) (Kd.R_far (p := ⟨gb327, 1, none⟩) (Kd.R_far (p := ⟨gb327, 0, none⟩) (Kd.R_types HO325.out BK327.out (by decide)) (fun _ hk => hk.2) (.string t321)) (fun _ hk => hk.2) (.int .i64 t322)) (fun _ hk => hk.2) (.slice Ao18 t323.length co18)) (fun _ h_ => h_.1))) hb); have n1_ := Aside0.mk (blk_below (g := gb317) (o := .cells #[.string a1_0, .int .i64 a1_1, .slice A1_2 l1_2.length c1_2] 25 (0, 0)) (by (with_reducible repeat (first | refine blk_drewN ?_ _ | refine blk_drew ?_ | refine blk_alloc ?_ _)); refine blk_far ?_ NB317_327.out _; (with_reducible repeat (first | refine blk_drewN ?_ _ | refine blk_drew ?_ | refine blk_alloc ?_ _)); refine blk_far ?_ NB317_327.out _; (with_reducible repeat (first | refine blk_drewN ?_ _ | refine blk_drew ?_ | refine blk_alloc ?_ _)); refine blk_far ?_ NB317_327.out _; (with_reducible repeat (first | refine blk_drewN ?_ _ | refine blk_drew ?_ | refine blk_alloc ?_ _)); exact BK317.out) hb); have n2_ := Aside0.mk (blk_below (g := gb327) (o := .cells #[.string t321, .int .i64 t322, .slice Ao18 t323.length co18] 25 (0, 0)) (by (with_reducible repeat (first | refine blk_drewN ?_ _ | refine blk_drew ?_ | refine blk_alloc ?_ _)); refine blk_put (cs := #[.string t321, .int .i64 t322, .slice none 0 0]) ?_ 2 _ rfl; (with_reducible repeat (first | refine blk_drewN ?_ _ | refine blk_drew ?_ | refine blk_alloc ?_ _)); refine blk_put (cs := #[.string t321, .int .i64 0, .slice none 0 0]) ?_ 1 _ rfl; (with_reducible repeat (first | refine blk_drewN ?_ _ | refine blk_drew ?_ | refine blk_alloc ?_ _)); refine blk_put (cs := #[.string (⟨#[]⟩ : ByteArray), .int .i64 0, .slice none 0 0]) ?_ 0 _ rfl; (with_reducible repeat (first | refine blk_drewN ?_ _ | refine blk_drew ?_ | refine blk_alloc ?_ _)); exact BK327.out) hb); have n3_ := Aside0.mk (below_step (by repeat (first | (with_reducible first | exact HB.out | apply below_alloc | apply pw_below_drewN | apply below_drew1 | refine below_set ?_ GE317.out | refine below_set ?_ GE327.out) | exact HB.out)) hb); clear HO325; clear BK317; clear BK327; clear HB; have HO325 := n0_; have BK317 := n1_; have BK327 := n2_; have HB := n3_; clear n0_ n1_ n2_ n3_; (try clear hb); (try clear hb2); (try clear hk); (try clear hi); have hnb27 := NB317_327.out; have hnc27 := NB327_317.out; have hcz28_0 : w26.cell? ⟨gb317, 0, none⟩ = some (.string a1_0) := (blk_cell BK317.out 0).trans rfl; have hcz28_1 : w26.cell? ⟨gb317, 1, none⟩ = some (.int .i64 a1_1) := (blk_cell BK317.out 1).trans rfl; have hcz28_2 : w26.cell? ⟨gb317, 2, none⟩ = some (.slice A1_2 l1_2.length c1_2) := (blk_cell BK317.out 2).trans rfl; have hfz28_0 := blk_frozen BK317.out 0; have hfz28_1 := blk_frozen BK317.out 1; have hfz28_2 := blk_frozen BK317.out 2) | (go_at_call 28; (with_reducible refine (schema_May.calls a1_0 a1_1 _ _ l1_2 t329 _ ?side1 ?side2 A25.out).mono ?_); (case side1 => repeat (first | exact (Kd.C_below HR1_2.out HB.out) | (with_reducible refine Kd.C_alloc ?_ _) | (with_reducible refine Kd.C_drewN ?_ _) | (with_reducible refine Kd.C_drew ?_))); (case side2 => exact HC1_2.out); rintro e w29 ⟨rfl, hb⟩; have n0_ := Aside0.mk (Kd.R_below (by (with_reducible repeat (first | apply Kd.R_alloc | apply Kd.R_drewN | apply Kd.R_drew)); exact HO325.out) hb); have n1_ := Aside0.mk (blk_below (g := gb317) (o := .cells #[.string a1_0, .int .i64 a1_1, .slice A1_2 l1_2.length c1_2] 25 (0, 0)) (by (with_reducible repeat (first | refine blk_drewN ?_ _ | refine blk_drew ?_ | refine blk_alloc ?_ _)); exact BK317.out) hb); have n2_ := Aside0.mk (blk_below (g := gb327) (o := .cells #[.string t321, .int .i64 t322, .slice Ao18 t323.length co18] 25 (0, 0)) (by (with_reducible repeat (first | refine blk_drewN ?_ _ | refine blk_drew ?_ | refine blk_alloc ?_ _)); exact BK327.out) hb); have n3_ := Aside0.mk (below_step (by repeat (first | (with_reducible first | exact HB.out | apply below_alloc | apply pw_below_drewN | apply below_drew1 | refine below_set ?_ GE317.out | refine below_set ?_ GE327.out) | exact HB.out)) hb); clear HO325; clear BK317; clear BK327; clear HB; have HO325 := n0_; have BK317 := n1_; have BK327 := n2_; have HB := n3_; clear n0_ n1_ n2_ n3_; (try clear hb); (try clear hb2); (try clear hk); (try clear hi)))
              go_meet
              case rel => exact ⟨_, (!t329), (by first | rfl | (simp; done) | (simp [*]; done)), H', ⟨by first | omega | exact Nat.le_refl _⟩, ⟨by (with_reducible repeat (first | apply Kd.R_alloc | apply Kd.R_drewN | apply Kd.R_drew)); exact HO325.out⟩, ⟨by (with_reducible repeat (first | refine blk_drewN ?_ _ | refine blk_drew ?_ | refine blk_alloc ?_ _)); exact BK317.out⟩, ⟨by (with_reducible repeat (first | refine blk_drewN ?_ _ | refine blk_drew ?_ | refine blk_alloc ?_ _)); exact BK327.out⟩, ⟨by repeat (first | (with_reducible first | exact HB.out | apply below_alloc | apply pw_below_drewN | apply below_drew1 | refine below_set ?_ GE317.out | refine below_set ?_ GE327.out) | exact HB.out)⟩⟩
            · replace c24 := Bool.eq_false_iff.mpr c24
              subst c24
              have H1 : (towncrierlaw07_RegistryFirst.j0 k l0 true true a1_0 a1_1 l1_2) = some r := by rw [if_neg (show ¬ (false = true) by decide)] at H; exact H
              clear H
              have H := H1
              clear H1
              have H' := Aside0.mk H
              clear H
              go_wp2_with (first | (go_at_call 25; (with_reducible refine (registry_May.calls k _ _ l0 false _ ?side1 ?side2 A23.out).mono ?_); (case side1 => exact Kd.C_below HR0.out (by repeat (first | (with_reducible first | exact HB.out | apply below_alloc | apply pw_below_drewN | apply below_drew1 | refine below_set ?_ GE317.out | refine below_set ?_ GE327.out) | exact HB.out))); (case side2 => exact HC0.out); rintro e w30 ⟨rfl, hb⟩; have n0_ := Aside0.mk (Kd.R_below (by (with_reducible repeat (first | apply Kd.R_alloc | apply Kd.R_drewN | apply Kd.R_drew)); exact (Kd.R_mono (Kd.R_far (p := ⟨gb327, 2, none⟩) (Kd.R_far (p := ⟨gb327, 1, none⟩) (Kd.R_far (p := ⟨gb327, 0, none⟩) (Kd.R_types HO325.out BK327.out (by decide)) (fun _ hk => hk.2) (.string t321)) (fun _ hk => hk.2) (.int .i64 t322)) (fun _ hk => hk.2) (.slice Ao18 t323.length co18)) (fun _ h_ => h_.1))) hb); have n1_ := Aside0.mk (blk_below (g := gb317) (o := .cells #[.string a1_0, .int .i64 a1_1, .slice A1_2 l1_2.length c1_2] 25 (0, 0)) (by (with_reducible repeat (first | refine blk_drewN ?_ _ | refine blk_drew ?_ | refine blk_alloc ?_ _)); refine blk_far ?_ NB317_327.out _; (with_reducible repeat (first | refine blk_drewN ?_ _ | refine blk_drew ?_ | refine blk_alloc ?_ _)); refine blk_far ?_ NB317_327.out _; (with_reducible repeat (first | refine blk_drewN ?_ _ | refine blk_drew ?_ | refine blk_alloc ?_ _)); refine blk_far ?_ NB317_327.out _; (with_reducible repeat (first | refine blk_drewN ?_ _ | refine blk_drew ?_ | refine blk_alloc ?_ _)); exact BK317.out) hb); have n2_ := Aside0.mk (blk_below (g := gb327) (o := .cells #[.string t321, .int .i64 t322, .slice Ao18 t323.length co18] 25 (0, 0)) (by (with_reducible repeat (first | refine blk_drewN ?_ _ | refine blk_drew ?_ | refine blk_alloc ?_ _)); refine blk_put (cs := #[.string t321, .int .i64 t322, .slice none 0 0]) ?_ 2 _ rfl; (with_reducible repeat (first | refine blk_drewN ?_ _ | refine blk_drew ?_ | refine blk_alloc ?_ _)); refine blk_put (cs := #[.string t321, .int .i64 0, .slice none 0 0]) ?_ 1 _ rfl; (with_reducible repeat (first | refine blk_drewN ?_ _ | refine blk_drew ?_ | refine blk_alloc ?_ _)); refine blk_put (cs := #[.string (⟨#[]⟩ : ByteArray), .int .i64 0, .slice none 0 0]) ?_ 0 _ rfl; (with_reducible repeat (first | refine blk_drewN ?_ _ | refine blk_drew ?_ | refine blk_alloc ?_ _)); exact BK327.out) hb); have n3_ := Aside0.mk (below_step (by repeat (first | (with_reducible first | exact HB.out | apply below_alloc | apply pw_below_drewN | apply below_drew1 | refine below_set ?_ GE317.out | refine below_set ?_ GE327.out) | exact HB.out)) hb); clear HO325; clear BK317; clear BK327; clear HB; have HO325 := n0_; have BK317 := n1_; have BK327 := n2_; have HB := n3_; clear n0_ n1_ n2_ n3_; (try clear hb); (try clear hb2); (try clear hk); (try clear hi)))
              go_meet
              case rel => exact ⟨_, (true), (by first | rfl | (simp; done) | (simp [*]; done)), H', ⟨by first | omega | exact Nat.le_refl _⟩, ⟨by (with_reducible repeat (first | apply Kd.R_alloc | apply Kd.R_drewN | apply Kd.R_drew)); exact HO325.out⟩, ⟨by (with_reducible repeat (first | refine blk_drewN ?_ _ | refine blk_drew ?_ | refine blk_alloc ?_ _)); exact BK317.out⟩, ⟨by (with_reducible repeat (first | refine blk_drewN ?_ _ | refine blk_drew ?_ | refine blk_alloc ?_ _)); exact BK327.out⟩, ⟨by repeat (first | (with_reducible first | exact HB.out | apply below_alloc | apply pw_below_drewN | apply below_drew1 | refine below_set ?_ GE317.out | refine below_set ?_ GE327.out) | exact HB.out)⟩⟩
        · replace c21 := Bool.eq_false_iff.mpr c21
          subst c21
          have H1 : (towncrierlaw07_RegistryFirst.j0 k l0 true true a1_0 a1_1 l1_2) = some r := by rw [if_neg (show ¬ (false = true) by decide)] at H; exact H
          clear H
          have H := H1
          clear H1
          have H' := Aside0.mk H
          clear H
          go_wp2
          go_meet
          case rel => exact ⟨_, (true), (by first | rfl | (simp; done) | (simp [*]; done)), H', ⟨by first | omega | exact Nat.le_refl _⟩, ⟨by (with_reducible repeat (first | apply Kd.R_alloc | apply Kd.R_drewN | apply Kd.R_drew)); exact Kd.R_mono (Kd.R_far (p := ⟨gb327, 2, none⟩) (Kd.R_far (p := ⟨gb327, 1, none⟩) (Kd.R_far (p := ⟨gb327, 0, none⟩) (Kd.R_types HO325.out BK327.out (by decide)) (fun _ hk => hk.2) (.string t321)) (fun _ hk => hk.2) (.int .i64 t322)) (fun _ hk => hk.2) (.slice Ao18 t323.length co18)) (fun _ hk => trivial)⟩, ⟨by (with_reducible repeat (first | refine blk_drewN ?_ _ | refine blk_drew ?_ | refine blk_alloc ?_ _)); refine blk_far ?_ NB317_327.out _; (with_reducible repeat (first | refine blk_drewN ?_ _ | refine blk_drew ?_ | refine blk_alloc ?_ _)); refine blk_far ?_ NB317_327.out _; (with_reducible repeat (first | refine blk_drewN ?_ _ | refine blk_drew ?_ | refine blk_alloc ?_ _)); refine blk_far ?_ NB317_327.out _; (with_reducible repeat (first | refine blk_drewN ?_ _ | refine blk_drew ?_ | refine blk_alloc ?_ _)); exact BK317.out⟩, ⟨by (with_reducible repeat (first | refine blk_drewN ?_ _ | refine blk_drew ?_ | refine blk_alloc ?_ _)); refine blk_put (cs := #[.string t321, .int .i64 t322, .slice none 0 0]) ?_ 2 _ rfl; (with_reducible repeat (first | refine blk_drewN ?_ _ | refine blk_drew ?_ | refine blk_alloc ?_ _)); refine blk_put (cs := #[.string t321, .int .i64 0, .slice none 0 0]) ?_ 1 _ rfl; (with_reducible repeat (first | refine blk_drewN ?_ _ | refine blk_drew ?_ | refine blk_alloc ?_ _)); refine blk_put (cs := #[.string (⟨#[]⟩ : ByteArray), .int .i64 0, .slice none 0 0]) ?_ 0 _ rfl; (with_reducible repeat (first | refine blk_drewN ?_ _ | refine blk_drew ?_ | refine blk_alloc ?_ _)); exact BK327.out⟩, ⟨by repeat (first | (with_reducible first | exact HB.out | apply below_alloc | apply pw_below_drewN | apply below_drew1 | refine below_set ?_ GE317.out | refine below_set ?_ GE327.out) | exact HB.out)⟩⟩
      · replace c20 := Bool.eq_false_iff.mpr c20
        subst c20
        have H1 : (towncrierlaw07_RegistryFirst.j0 k l0 true true a1_0 a1_1 l1_2) = some r := by rw [if_neg (show ¬ (false = true) by decide)] at H; exact H
        clear H
        have H := H1
        clear H1
        have H' := Aside0.mk H
        clear H
        go_wp2
        go_meet
        case rel => exact ⟨_, (true), (by first | rfl | (simp; done) | (simp [*]; done)), H', ⟨by first | omega | exact Nat.le_refl _⟩, ⟨by (with_reducible repeat (first | apply Kd.R_alloc | apply Kd.R_drewN | apply Kd.R_drew)); exact Kd.R_mono (Kd.R_far (p := ⟨gb327, 2, none⟩) (Kd.R_far (p := ⟨gb327, 1, none⟩) (Kd.R_far (p := ⟨gb327, 0, none⟩) (Kd.R_types HO325.out BK327.out (by decide)) (fun _ hk => hk.2) (.string t321)) (fun _ hk => hk.2) (.int .i64 t322)) (fun _ hk => hk.2) (.slice Ao18 t323.length co18)) (fun _ hk => trivial)⟩, ⟨by (with_reducible repeat (first | refine blk_drewN ?_ _ | refine blk_drew ?_ | refine blk_alloc ?_ _)); refine blk_far ?_ NB317_327.out _; (with_reducible repeat (first | refine blk_drewN ?_ _ | refine blk_drew ?_ | refine blk_alloc ?_ _)); refine blk_far ?_ NB317_327.out _; (with_reducible repeat (first | refine blk_drewN ?_ _ | refine blk_drew ?_ | refine blk_alloc ?_ _)); refine blk_far ?_ NB317_327.out _; (with_reducible repeat (first | refine blk_drewN ?_ _ | refine blk_drew ?_ | refine blk_alloc ?_ _)); exact BK317.out⟩, ⟨by (with_reducible repeat (first | refine blk_drewN ?_ _ | refine blk_drew ?_ | refine blk_alloc ?_ _)); refine blk_put (cs := #[.string t321, .int .i64 t322, .slice none 0 0]) ?_ 2 _ rfl; (with_reducible repeat (first | refine blk_drewN ?_ _ | refine blk_drew ?_ | refine blk_alloc ?_ _)); refine blk_put (cs := #[.string t321, .int .i64 0, .slice none 0 0]) ?_ 1 _ rfl; (with_reducible repeat (first | refine blk_drewN ?_ _ | refine blk_drew ?_ | refine blk_alloc ?_ _)); refine blk_put (cs := #[.string (⟨#[]⟩ : ByteArray), .int .i64 0, .slice none 0 0]) ?_ 0 _ rfl; (with_reducible repeat (first | refine blk_drewN ?_ _ | refine blk_drew ?_ | refine blk_alloc ?_ _)); exact BK327.out⟩, ⟨by repeat (first | (with_reducible first | exact HB.out | apply below_alloc | apply pw_below_drewN | apply below_drew1 | refine below_set ?_ GE317.out | refine below_set ?_ GE327.out) | exact HB.out)⟩⟩
    · replace c19 := Bool.eq_false_iff.mpr c19
      subst c19
      have H1 : (towncrierlaw07_RegistryFirst.j0 k l0 false true a1_0 a1_1 l1_2) = some r := by rw [if_neg (show ¬ (false = true) by decide)] at H; exact H
      clear H
      have H := H1
      clear H1
      have H' := Aside0.mk H
      clear H
      go_wp2
      go_meet
      case rel => exact ⟨_, (true), (by first | rfl | (simp; done) | (simp [*]; done)), H', ⟨by first | omega | exact Nat.le_refl _⟩, ⟨by (with_reducible repeat (first | apply Kd.R_alloc | apply Kd.R_drewN | apply Kd.R_drew)); exact Kd.R_mono (Kd.R_far (p := ⟨gb327, 2, none⟩) (Kd.R_far (p := ⟨gb327, 1, none⟩) (Kd.R_far (p := ⟨gb327, 0, none⟩) (Kd.R_types HO325.out BK327.out (by decide)) (fun _ hk => hk.2) (.string t321)) (fun _ hk => hk.2) (.int .i64 t322)) (fun _ hk => hk.2) (.slice Ao18 t323.length co18)) (fun _ hk => trivial)⟩, ⟨by (with_reducible repeat (first | refine blk_drewN ?_ _ | refine blk_drew ?_ | refine blk_alloc ?_ _)); refine blk_far ?_ NB317_327.out _; (with_reducible repeat (first | refine blk_drewN ?_ _ | refine blk_drew ?_ | refine blk_alloc ?_ _)); refine blk_far ?_ NB317_327.out _; (with_reducible repeat (first | refine blk_drewN ?_ _ | refine blk_drew ?_ | refine blk_alloc ?_ _)); refine blk_far ?_ NB317_327.out _; (with_reducible repeat (first | refine blk_drewN ?_ _ | refine blk_drew ?_ | refine blk_alloc ?_ _)); exact BK317.out⟩, ⟨by (with_reducible repeat (first | refine blk_drewN ?_ _ | refine blk_drew ?_ | refine blk_alloc ?_ _)); refine blk_put (cs := #[.string t321, .int .i64 t322, .slice none 0 0]) ?_ 2 _ rfl; (with_reducible repeat (first | refine blk_drewN ?_ _ | refine blk_drew ?_ | refine blk_alloc ?_ _)); refine blk_put (cs := #[.string t321, .int .i64 0, .slice none 0 0]) ?_ 1 _ rfl; (with_reducible repeat (first | refine blk_drewN ?_ _ | refine blk_drew ?_ | refine blk_alloc ?_ _)); refine blk_put (cs := #[.string (⟨#[]⟩ : ByteArray), .int .i64 0, .slice none 0 0]) ?_ 0 _ rfl; (with_reducible repeat (first | refine blk_drewN ?_ _ | refine blk_drew ?_ | refine blk_alloc ?_ _)); exact BK327.out⟩, ⟨by repeat (first | (with_reducible first | exact HB.out | apply below_alloc | apply pw_below_drewN | apply below_drew1 | refine below_set ?_ GE317.out | refine below_set ?_ GE327.out) | exact HB.out)⟩⟩
  case rest =>
    clear HC7
    try clear c1
    try clear c2
    try clear p2
    try clear c6
    try clear c15
    try clear c16
    try clear c17
    try clear c19
    try clear c20
    try clear c21
    try clear c22
    try clear c24
    try clear c27
    try clear hcz11_0
    try clear hcz11_1
    try clear hcz11_2
    try clear hcz13_0
    try clear hcz13_1
    try clear hcz13_2
    try clear hcz17_0
    try clear hcz17_1
    try clear hcz17_2
    try clear hcz28_0
    try clear hcz28_1
    try clear hcz28_2
    try clear hfz11_0
    try clear hfz11_1
    try clear hfz11_2
    try clear hfz13_0
    try clear hfz13_1
    try clear hfz13_2
    try clear hfz17_0
    try clear hfz17_1
    try clear hfz17_2
    try clear hfz28_0
    try clear hfz28_1
    try clear hfz28_2
    obtain ⟨kq, x46_6, rfl, HA, HJ6, HO_328002, BK317, BK327, HB⟩ := hcut
    cases kq with
    | zero => exact absurd HA.out (by simp [towncrierlaw07_RegistryFirst.j0])
    | succ kj6 =>
      have H := HA.out
      clear HA
      simp only [towncrierlaw07_RegistryFirst.j0] at H
      by_cases c31 : x46_6 = true
      · subst c31
        have H1 : (some t318) = some r := by rw [if_pos rfl] at H; exact H
        clear H
        have H := H1
        clear H1
        obtain rfl := Option.some.inj H
        go_wp2
        go_ret
        exact ⟨by first | rfl | (simp [errW_none, errW_some] <;> rfl) | (simp [*, errW_none, errW_some] <;> rfl), by repeat (first | (with_reducible first | exact HB.out | apply below_alloc | apply pw_below_drewN | apply below_drew1 | refine below_set ?_ GE317.out | refine below_set ?_ GE327.out) | exact HB.out)⟩
      · replace c31 := Bool.eq_false_iff.mpr c31
        subst c31
        have H1 : ((registry_Add.f kj6 l0 a1_0 a1_1 l1_2).bind fun bt330 => (if a1_1 = 1 then (if bt330.2 = 0 then (if (bt330.1.length : Int) = (wrap64 ((l0.length : Int) + 1)) then (if (l0.length : Int) < 8 then (some true) else (if bt330.2 = 7 then (some ((l0.length : Int) == 8)) else (some false))) else (if bt330.2 = 7 then (some ((l0.length : Int) == 8)) else (some false))) else (if bt330.2 = 7 then (some ((l0.length : Int) == 8)) else (some false))) else (some (bt330.2 == 5)))) = some r := by rw [if_neg (show ¬ (false = true) by decide)] at H; exact H
        clear H
        have H := H1
        clear H1
        replace H := Option.bind_eq_some_iff.mp H
        obtain ⟨⟨t330, t333⟩, A320, H⟩ := H
        replace H : (if a1_1 = 1 then (if t333 = 0 then (if (t330.length : Int) = (wrap64 ((l0.length : Int) + 1)) then (if (l0.length : Int) < 8 then (some true) else (if t333 = 7 then (some ((l0.length : Int) == 8)) else (some false))) else (if t333 = 7 then (some ((l0.length : Int) == 8)) else (some false))) else (if t333 = 7 then (some ((l0.length : Int) == 8)) else (some false))) else (some (t333 == 5))) = some r := H
        have A32 := Aside0.mk A320
        clear A320
        by_cases c33 : a1_1 = 1
        · rw [if_pos c33] at H
          have c33b0 : (a1_1 == 1) = true := beq_iff_eq.mpr c33
          have c33b1 : (a1_1 != 1) = false := bne_eq_false_iff_eq.mpr c33
          clear c33
          by_cases c34 : t333 = 0
          · rw [if_pos c34] at H
            have c34b0 : (t333 == 0) = true := beq_iff_eq.mpr c34
            have c34b1 : (t333 != 0) = false := bne_eq_false_iff_eq.mpr c34
            clear c34
            by_cases c35 : (t330.length : Int) = (wrap64 ((l0.length : Int) + 1))
            · rw [if_pos c35] at H
              have c35b0 : ((t330.length : Int) == (wrap64 ((l0.length : Int) + 1))) = true := beq_iff_eq.mpr c35
              have c35b1 : ((t330.length : Int) != (wrap64 ((l0.length : Int) + 1))) = false := bne_eq_false_iff_eq.mpr c35
              clear c35
              by_cases c36 : (l0.length : Int) < 8
              · rw [if_pos c36] at H
                have c36b0 : decide ((l0.length : Int) < 8) = true := decide_eq_true c36
                have c36b1 : decide (l0.length < 8) = true := decide_eq_true (by omega)
                clear c36
                obtain rfl := Option.some.inj H
                have hnb37 := NB317_327.out
                have hnc37 := NB327_317.out
                have hcz38_0 : wc.cell? ⟨gb317, 0, none⟩ = some (.string a1_0) := (blk_cell BK317.out 0).trans rfl
                have hcz38_1 : wc.cell? ⟨gb317, 1, none⟩ = some (.int .i64 a1_1) := (blk_cell BK317.out 1).trans rfl
                have hcz38_2 : wc.cell? ⟨gb317, 2, none⟩ = some (.slice A1_2 l1_2.length c1_2) := (blk_cell BK317.out 2).trans rfl
                have hfz38_0 := blk_frozen BK317.out 0
                have hfz38_1 := blk_frozen BK317.out 1
                have hfz38_2 := blk_frozen BK317.out 2
                go_wp2_with (first | ((with_reducible refine gate_callee (f := 18) rfl ?_); refine goesL_ (some 51) rfl rfl Try.func18 (by kernel_rfl) rfl #[.slice A0 l0.length c0, .agg #[.string a1_0, .int .i64 a1_1, .slice A1_2 l1_2.length c1_2]] rfl (by (try simp only [List.map_toArray, List.map_cons, List.map_nil]); first | done | rfl | (simp only [List.length_drop, List.length_take]; rfl)) ?_; (with_reducible refine (registry_Add.calls kj6 _ _ l0 a1_0 a1_1 _ _ l1_2 t330 t333 _ ?side1 ?side2 ?side3 ?side4 A32.out).mono ?_); (case side1 => repeat (first | exact (Kd.C_below HR0.out HB.out) | (with_reducible refine Kd.C_alloc ?_ _) | (with_reducible refine Kd.C_drewN ?_ _) | (with_reducible refine Kd.C_drew ?_))); (case side2 => exact HC0.out); (case side3 => repeat (first | exact (Kd.C_below HR1_2.out HB.out) | (with_reducible refine Kd.C_alloc ?_ _) | (with_reducible refine Kd.C_drewN ?_ _) | (with_reducible refine Kd.C_drew ?_))); (case side4 => exact HC1_2.out); rintro e w39 ⟨v331, rfl, ho0, hb⟩; refine ⟨_, rfl, ?_⟩; have n0_ := Aside0.mk (Kd.R_below (by (with_reducible repeat (first | apply Kd.R_alloc | apply Kd.R_drewN | apply Kd.R_drew)); exact HO_328002.out) hb); have n1_ := Aside0.mk (Kd.S_lower (Kd.S_newB (Kd.S_newB (Kd.S_new' ho0 (Kd.R_lt (by (with_reducible repeat (first | apply Kd.R_alloc | apply Kd.R_drewN | apply Kd.R_drew)); exact HO_328002.out))) (g := gb317) (o := .cells #[.string a1_0, .int .i64 a1_1, .slice A1_2 l1_2.length c1_2] 25 (0, 0)) (by (with_reducible repeat (first | refine blk_drewN ?_ _ | refine blk_drew ?_ | refine blk_alloc ?_ _)); exact BK317.out)) (g := gb327) (o := .cells #[.string t321, .int .i64 t322, .slice Ao18 t323.length co18] 25 (0, 0)) (by (with_reducible repeat (first | refine blk_drewN ?_ _ | refine blk_drew ?_ | refine blk_alloc ?_ _)); exact BK327.out)) (below_size (by repeat (first | (with_reducible first | exact HB.out | apply below_alloc | apply pw_below_drewN | apply below_drew1 | refine below_set ?_ GE317.out | refine below_set ?_ GE327.out) | exact HB.out)))); have n2_ := Aside0.mk (blk_below (g := gb317) (o := .cells #[.string a1_0, .int .i64 a1_1, .slice A1_2 l1_2.length c1_2] 25 (0, 0)) (by (with_reducible repeat (first | refine blk_drewN ?_ _ | refine blk_drew ?_ | refine blk_alloc ?_ _)); exact BK317.out) hb); have n3_ := Aside0.mk (blk_below (g := gb327) (o := .cells #[.string t321, .int .i64 t322, .slice Ao18 t323.length co18] 25 (0, 0)) (by (with_reducible repeat (first | refine blk_drewN ?_ _ | refine blk_drew ?_ | refine blk_alloc ?_ _)); exact BK327.out) hb); have n4_ := Aside0.mk (below_step (by repeat (first | (with_reducible first | exact HB.out | apply below_alloc | apply pw_below_drewN | apply below_drew1 | refine below_set ?_ GE317.out | refine below_set ?_ GE327.out) | exact HB.out)) hb); clear HO_328002; clear BK317; clear BK327; clear HB; have HO_328002 := n0_; have HO332 := n1_; have BK317 := n2_; have BK327 := n3_; have HB := n4_; clear n0_ n1_ n2_ n3_ n4_; (try clear hb); (try clear hb2); (try clear hk); (try clear hi); (try clear ho0); have hcz40_0 : w39.cell? ⟨gb317, 0, none⟩ = some (.string a1_0) := (blk_cell BK317.out 0).trans rfl; have hcz40_1 : w39.cell? ⟨gb317, 1, none⟩ = some (.int .i64 a1_1) := (blk_cell BK317.out 1).trans rfl; have hcz40_2 : w39.cell? ⟨gb317, 2, none⟩ = some (.slice A1_2 l1_2.length c1_2) := (blk_cell BK317.out 2).trans rfl; have hfz40_0 := blk_frozen BK317.out 0; have hfz40_1 := blk_frozen BK317.out 1; have hfz40_2 := blk_frozen BK317.out 2; obtain ⟨Ao41, co41, eo41⟩ := Kd.S_slice HO332.out; subst eo41))
                go_ret
                exact ⟨by first | rfl | (simp [errW_none, errW_some] <;> rfl) | (simp [*, errW_none, errW_some] <;> rfl), by repeat (first | (with_reducible first | exact HB.out | apply below_alloc | apply pw_below_drewN | apply below_drew1 | refine below_set ?_ GE317.out | refine below_set ?_ GE327.out) | exact HB.out)⟩
              · rw [if_neg c36] at H
                have c36b0 : decide ((l0.length : Int) < 8) = false := decide_eq_false c36
                have c36b1 : decide (l0.length < 8) = false := decide_eq_false (by omega)
                clear c36
                by_cases c42 : t333 = 7
                · rw [if_pos c42] at H
                  have c42b0 : (t333 == 7) = true := beq_iff_eq.mpr c42
                  have c42b1 : (t333 != 7) = false := bne_eq_false_iff_eq.mpr c42
                  clear c42
                  obtain rfl := Option.some.inj H
                  have hnb43 := NB317_327.out
                  have hnc43 := NB327_317.out
                  have hcz44_0 : wc.cell? ⟨gb317, 0, none⟩ = some (.string a1_0) := (blk_cell BK317.out 0).trans rfl
                  have hcz44_1 : wc.cell? ⟨gb317, 1, none⟩ = some (.int .i64 a1_1) := (blk_cell BK317.out 1).trans rfl
                  have hcz44_2 : wc.cell? ⟨gb317, 2, none⟩ = some (.slice A1_2 l1_2.length c1_2) := (blk_cell BK317.out 2).trans rfl
                  have hfz44_0 := blk_frozen BK317.out 0
                  have hfz44_1 := blk_frozen BK317.out 1
                  have hfz44_2 := blk_frozen BK317.out 2
                  go_wp2_with (first | ((with_reducible refine gate_callee (f := 18) rfl ?_); refine goesL_ (some 51) rfl rfl Try.func18 (by kernel_rfl) rfl #[.slice A0 l0.length c0, .agg #[.string a1_0, .int .i64 a1_1, .slice A1_2 l1_2.length c1_2]] rfl (by (try simp only [List.map_toArray, List.map_cons, List.map_nil]); first | done | rfl | (simp only [List.length_drop, List.length_take]; rfl)) ?_; (with_reducible refine (registry_Add.calls kj6 _ _ l0 a1_0 a1_1 _ _ l1_2 t330 t333 _ ?side1 ?side2 ?side3 ?side4 A32.out).mono ?_); (case side1 => repeat (first | exact (Kd.C_below HR0.out HB.out) | (with_reducible refine Kd.C_alloc ?_ _) | (with_reducible refine Kd.C_drewN ?_ _) | (with_reducible refine Kd.C_drew ?_))); (case side2 => exact HC0.out); (case side3 => repeat (first | exact (Kd.C_below HR1_2.out HB.out) | (with_reducible refine Kd.C_alloc ?_ _) | (with_reducible refine Kd.C_drewN ?_ _) | (with_reducible refine Kd.C_drew ?_))); (case side4 => exact HC1_2.out); rintro e w45 ⟨v331, rfl, ho0, hb⟩; refine ⟨_, rfl, ?_⟩; have n0_ := Aside0.mk (Kd.R_below (by (with_reducible repeat (first | apply Kd.R_alloc | apply Kd.R_drewN | apply Kd.R_drew)); exact HO_328002.out) hb); have n1_ := Aside0.mk (Kd.S_lower (Kd.S_newB (Kd.S_newB (Kd.S_new' ho0 (Kd.R_lt (by (with_reducible repeat (first | apply Kd.R_alloc | apply Kd.R_drewN | apply Kd.R_drew)); exact HO_328002.out))) (g := gb317) (o := .cells #[.string a1_0, .int .i64 a1_1, .slice A1_2 l1_2.length c1_2] 25 (0, 0)) (by (with_reducible repeat (first | refine blk_drewN ?_ _ | refine blk_drew ?_ | refine blk_alloc ?_ _)); exact BK317.out)) (g := gb327) (o := .cells #[.string t321, .int .i64 t322, .slice Ao18 t323.length co18] 25 (0, 0)) (by (with_reducible repeat (first | refine blk_drewN ?_ _ | refine blk_drew ?_ | refine blk_alloc ?_ _)); exact BK327.out)) (below_size (by repeat (first | (with_reducible first | exact HB.out | apply below_alloc | apply pw_below_drewN | apply below_drew1 | refine below_set ?_ GE317.out | refine below_set ?_ GE327.out) | exact HB.out)))); have n2_ := Aside0.mk (blk_below (g := gb317) (o := .cells #[.string a1_0, .int .i64 a1_1, .slice A1_2 l1_2.length c1_2] 25 (0, 0)) (by (with_reducible repeat (first | refine blk_drewN ?_ _ | refine blk_drew ?_ | refine blk_alloc ?_ _)); exact BK317.out) hb); have n3_ := Aside0.mk (blk_below (g := gb327) (o := .cells #[.string t321, .int .i64 t322, .slice Ao18 t323.length co18] 25 (0, 0)) (by (with_reducible repeat (first | refine blk_drewN ?_ _ | refine blk_drew ?_ | refine blk_alloc ?_ _)); exact BK327.out) hb); have n4_ := Aside0.mk (below_step (by repeat (first | (with_reducible first | exact HB.out | apply below_alloc | apply pw_below_drewN | apply below_drew1 | refine below_set ?_ GE317.out | refine below_set ?_ GE327.out) | exact HB.out)) hb); clear HO_328002; clear BK317; clear BK327; clear HB; have HO_328002 := n0_; have HO332 := n1_; have BK317 := n2_; have BK327 := n3_; have HB := n4_; clear n0_ n1_ n2_ n3_ n4_; (try clear hb); (try clear hb2); (try clear hk); (try clear hi); (try clear ho0); have hcz46_0 : w45.cell? ⟨gb317, 0, none⟩ = some (.string a1_0) := (blk_cell BK317.out 0).trans rfl; have hcz46_1 : w45.cell? ⟨gb317, 1, none⟩ = some (.int .i64 a1_1) := (blk_cell BK317.out 1).trans rfl; have hcz46_2 : w45.cell? ⟨gb317, 2, none⟩ = some (.slice A1_2 l1_2.length c1_2) := (blk_cell BK317.out 2).trans rfl; have hfz46_0 := blk_frozen BK317.out 0; have hfz46_1 := blk_frozen BK317.out 1; have hfz46_2 := blk_frozen BK317.out 2; obtain ⟨Ao47, co47, eo47⟩ := Kd.S_slice HO332.out; subst eo47))
                  go_ret
                  exact ⟨by first | rfl | (simp [errW_none, errW_some] <;> rfl) | (simp [*, errW_none, errW_some] <;> rfl), by repeat (first | (with_reducible first | exact HB.out | apply below_alloc | apply pw_below_drewN | apply below_drew1 | refine below_set ?_ GE317.out | refine below_set ?_ GE327.out) | exact HB.out)⟩
                · rw [if_neg c42] at H
                  have c42b0 : (t333 == 7) = false := beq_eq_false_iff_ne.mpr c42
                  have c42b1 : (t333 != 7) = true := bne_iff_ne.mpr c42
                  obtain rfl := Option.some.inj H
                  have hnb48 := NB317_327.out
                  have hnc48 := NB327_317.out
                  have hcz49_0 : wc.cell? ⟨gb317, 0, none⟩ = some (.string a1_0) := (blk_cell BK317.out 0).trans rfl
                  have hcz49_1 : wc.cell? ⟨gb317, 1, none⟩ = some (.int .i64 a1_1) := (blk_cell BK317.out 1).trans rfl
                  have hcz49_2 : wc.cell? ⟨gb317, 2, none⟩ = some (.slice A1_2 l1_2.length c1_2) := (blk_cell BK317.out 2).trans rfl
                  have hfz49_0 := blk_frozen BK317.out 0
                  have hfz49_1 := blk_frozen BK317.out 1
                  have hfz49_2 := blk_frozen BK317.out 2
                  go_wp2_with (first | ((with_reducible refine gate_callee (f := 18) rfl ?_); refine goesL_ (some 51) rfl rfl Try.func18 (by kernel_rfl) rfl #[.slice A0 l0.length c0, .agg #[.string a1_0, .int .i64 a1_1, .slice A1_2 l1_2.length c1_2]] rfl (by (try simp only [List.map_toArray, List.map_cons, List.map_nil]); first | done | rfl | (simp only [List.length_drop, List.length_take]; rfl)) ?_; (with_reducible refine (registry_Add.calls kj6 _ _ l0 a1_0 a1_1 _ _ l1_2 t330 t333 _ ?side1 ?side2 ?side3 ?side4 A32.out).mono ?_); (case side1 => repeat (first | exact (Kd.C_below HR0.out HB.out) | (with_reducible refine Kd.C_alloc ?_ _) | (with_reducible refine Kd.C_drewN ?_ _) | (with_reducible refine Kd.C_drew ?_))); (case side2 => exact HC0.out); (case side3 => repeat (first | exact (Kd.C_below HR1_2.out HB.out) | (with_reducible refine Kd.C_alloc ?_ _) | (with_reducible refine Kd.C_drewN ?_ _) | (with_reducible refine Kd.C_drew ?_))); (case side4 => exact HC1_2.out); rintro e w50 ⟨v331, rfl, ho0, hb⟩; refine ⟨_, rfl, ?_⟩; have n0_ := Aside0.mk (Kd.R_below (by (with_reducible repeat (first | apply Kd.R_alloc | apply Kd.R_drewN | apply Kd.R_drew)); exact HO_328002.out) hb); have n1_ := Aside0.mk (Kd.S_lower (Kd.S_newB (Kd.S_newB (Kd.S_new' ho0 (Kd.R_lt (by (with_reducible repeat (first | apply Kd.R_alloc | apply Kd.R_drewN | apply Kd.R_drew)); exact HO_328002.out))) (g := gb317) (o := .cells #[.string a1_0, .int .i64 a1_1, .slice A1_2 l1_2.length c1_2] 25 (0, 0)) (by (with_reducible repeat (first | refine blk_drewN ?_ _ | refine blk_drew ?_ | refine blk_alloc ?_ _)); exact BK317.out)) (g := gb327) (o := .cells #[.string t321, .int .i64 t322, .slice Ao18 t323.length co18] 25 (0, 0)) (by (with_reducible repeat (first | refine blk_drewN ?_ _ | refine blk_drew ?_ | refine blk_alloc ?_ _)); exact BK327.out)) (below_size (by repeat (first | (with_reducible first | exact HB.out | apply below_alloc | apply pw_below_drewN | apply below_drew1 | refine below_set ?_ GE317.out | refine below_set ?_ GE327.out) | exact HB.out)))); have n2_ := Aside0.mk (blk_below (g := gb317) (o := .cells #[.string a1_0, .int .i64 a1_1, .slice A1_2 l1_2.length c1_2] 25 (0, 0)) (by (with_reducible repeat (first | refine blk_drewN ?_ _ | refine blk_drew ?_ | refine blk_alloc ?_ _)); exact BK317.out) hb); have n3_ := Aside0.mk (blk_below (g := gb327) (o := .cells #[.string t321, .int .i64 t322, .slice Ao18 t323.length co18] 25 (0, 0)) (by (with_reducible repeat (first | refine blk_drewN ?_ _ | refine blk_drew ?_ | refine blk_alloc ?_ _)); exact BK327.out) hb); have n4_ := Aside0.mk (below_step (by repeat (first | (with_reducible first | exact HB.out | apply below_alloc | apply pw_below_drewN | apply below_drew1 | refine below_set ?_ GE317.out | refine below_set ?_ GE327.out) | exact HB.out)) hb); clear HO_328002; clear BK317; clear BK327; clear HB; have HO_328002 := n0_; have HO332 := n1_; have BK317 := n2_; have BK327 := n3_; have HB := n4_; clear n0_ n1_ n2_ n3_ n4_; (try clear hb); (try clear hb2); (try clear hk); (try clear hi); (try clear ho0); have hcz51_0 : w50.cell? ⟨gb317, 0, none⟩ = some (.string a1_0) := (blk_cell BK317.out 0).trans rfl; have hcz51_1 : w50.cell? ⟨gb317, 1, none⟩ = some (.int .i64 a1_1) := (blk_cell BK317.out 1).trans rfl; have hcz51_2 : w50.cell? ⟨gb317, 2, none⟩ = some (.slice A1_2 l1_2.length c1_2) := (blk_cell BK317.out 2).trans rfl; have hfz51_0 := blk_frozen BK317.out 0; have hfz51_1 := blk_frozen BK317.out 1; have hfz51_2 := blk_frozen BK317.out 2; obtain ⟨Ao52, co52, eo52⟩ := Kd.S_slice HO332.out; subst eo52))
                  go_ret
                  exact ⟨by first | rfl | (simp [errW_none, errW_some] <;> rfl) | (simp [*, errW_none, errW_some] <;> rfl), by repeat (first | (with_reducible first | exact HB.out | apply below_alloc | apply pw_below_drewN | apply below_drew1 | refine below_set ?_ GE317.out | refine below_set ?_ GE327.out) | exact HB.out)⟩
            · rw [if_neg c35] at H
              have c35b0 : ((t330.length : Int) == (wrap64 ((l0.length : Int) + 1))) = false := beq_eq_false_iff_ne.mpr c35
              have c35b1 : ((t330.length : Int) != (wrap64 ((l0.length : Int) + 1))) = true := bne_iff_ne.mpr c35
              by_cases c53 : t333 = 7
              · rw [if_pos c53] at H
                have c53b0 : (t333 == 7) = true := beq_iff_eq.mpr c53
                have c53b1 : (t333 != 7) = false := bne_eq_false_iff_eq.mpr c53
                clear c53
                obtain rfl := Option.some.inj H
                have hnb54 := NB317_327.out
                have hnc54 := NB327_317.out
                have hcz55_0 : wc.cell? ⟨gb317, 0, none⟩ = some (.string a1_0) := (blk_cell BK317.out 0).trans rfl
                have hcz55_1 : wc.cell? ⟨gb317, 1, none⟩ = some (.int .i64 a1_1) := (blk_cell BK317.out 1).trans rfl
                have hcz55_2 : wc.cell? ⟨gb317, 2, none⟩ = some (.slice A1_2 l1_2.length c1_2) := (blk_cell BK317.out 2).trans rfl
                have hfz55_0 := blk_frozen BK317.out 0
                have hfz55_1 := blk_frozen BK317.out 1
                have hfz55_2 := blk_frozen BK317.out 2
                go_wp2_with (first | ((with_reducible refine gate_callee (f := 18) rfl ?_); refine goesL_ (some 51) rfl rfl Try.func18 (by kernel_rfl) rfl #[.slice A0 l0.length c0, .agg #[.string a1_0, .int .i64 a1_1, .slice A1_2 l1_2.length c1_2]] rfl (by (try simp only [List.map_toArray, List.map_cons, List.map_nil]); first | done | rfl | (simp only [List.length_drop, List.length_take]; rfl)) ?_; (with_reducible refine (registry_Add.calls kj6 _ _ l0 a1_0 a1_1 _ _ l1_2 t330 t333 _ ?side1 ?side2 ?side3 ?side4 A32.out).mono ?_); (case side1 => repeat (first | exact (Kd.C_below HR0.out HB.out) | (with_reducible refine Kd.C_alloc ?_ _) | (with_reducible refine Kd.C_drewN ?_ _) | (with_reducible refine Kd.C_drew ?_))); (case side2 => exact HC0.out); (case side3 => repeat (first | exact (Kd.C_below HR1_2.out HB.out) | (with_reducible refine Kd.C_alloc ?_ _) | (with_reducible refine Kd.C_drewN ?_ _) | (with_reducible refine Kd.C_drew ?_))); (case side4 => exact HC1_2.out); rintro e w56 ⟨v331, rfl, ho0, hb⟩; refine ⟨_, rfl, ?_⟩; have n0_ := Aside0.mk (Kd.R_below (by (with_reducible repeat (first | apply Kd.R_alloc | apply Kd.R_drewN | apply Kd.R_drew)); exact HO_328002.out) hb); have n1_ := Aside0.mk (Kd.S_lower (Kd.S_newB (Kd.S_newB (Kd.S_new' ho0 (Kd.R_lt (by (with_reducible repeat (first | apply Kd.R_alloc | apply Kd.R_drewN | apply Kd.R_drew)); exact HO_328002.out))) (g := gb317) (o := .cells #[.string a1_0, .int .i64 a1_1, .slice A1_2 l1_2.length c1_2] 25 (0, 0)) (by (with_reducible repeat (first | refine blk_drewN ?_ _ | refine blk_drew ?_ | refine blk_alloc ?_ _)); exact BK317.out)) (g := gb327) (o := .cells #[.string t321, .int .i64 t322, .slice Ao18 t323.length co18] 25 (0, 0)) (by (with_reducible repeat (first | refine blk_drewN ?_ _ | refine blk_drew ?_ | refine blk_alloc ?_ _)); exact BK327.out)) (below_size (by repeat (first | (with_reducible first | exact HB.out | apply below_alloc | apply pw_below_drewN | apply below_drew1 | refine below_set ?_ GE317.out | refine below_set ?_ GE327.out) | exact HB.out)))); have n2_ := Aside0.mk (blk_below (g := gb317) (o := .cells #[.string a1_0, .int .i64 a1_1, .slice A1_2 l1_2.length c1_2] 25 (0, 0)) (by (with_reducible repeat (first | refine blk_drewN ?_ _ | refine blk_drew ?_ | refine blk_alloc ?_ _)); exact BK317.out) hb); have n3_ := Aside0.mk (blk_below (g := gb327) (o := .cells #[.string t321, .int .i64 t322, .slice Ao18 t323.length co18] 25 (0, 0)) (by (with_reducible repeat (first | refine blk_drewN ?_ _ | refine blk_drew ?_ | refine blk_alloc ?_ _)); exact BK327.out) hb); have n4_ := Aside0.mk (below_step (by repeat (first | (with_reducible first | exact HB.out | apply below_alloc | apply pw_below_drewN | apply below_drew1 | refine below_set ?_ GE317.out | refine below_set ?_ GE327.out) | exact HB.out)) hb); clear HO_328002; clear BK317; clear BK327; clear HB; have HO_328002 := n0_; have HO332 := n1_; have BK317 := n2_; have BK327 := n3_; have HB := n4_; clear n0_ n1_ n2_ n3_ n4_; (try clear hb); (try clear hb2); (try clear hk); (try clear hi); (try clear ho0); have hcz57_0 : w56.cell? ⟨gb317, 0, none⟩ = some (.string a1_0) := (blk_cell BK317.out 0).trans rfl; have hcz57_1 : w56.cell? ⟨gb317, 1, none⟩ = some (.int .i64 a1_1) := (blk_cell BK317.out 1).trans rfl; have hcz57_2 : w56.cell? ⟨gb317, 2, none⟩ = some (.slice A1_2 l1_2.length c1_2) := (blk_cell BK317.out 2).trans rfl; have hfz57_0 := blk_frozen BK317.out 0; have hfz57_1 := blk_frozen BK317.out 1; have hfz57_2 := blk_frozen BK317.out 2; obtain ⟨Ao58, co58, eo58⟩ := Kd.S_slice HO332.out; subst eo58))
                go_ret
                exact ⟨by first | rfl | (simp [errW_none, errW_some] <;> rfl) | (simp [*, errW_none, errW_some] <;> rfl), by repeat (first | (with_reducible first | exact HB.out | apply below_alloc | apply pw_below_drewN | apply below_drew1 | refine below_set ?_ GE317.out | refine below_set ?_ GE327.out) | exact HB.out)⟩
              · rw [if_neg c53] at H
                have c53b0 : (t333 == 7) = false := beq_eq_false_iff_ne.mpr c53
                have c53b1 : (t333 != 7) = true := bne_iff_ne.mpr c53
                obtain rfl := Option.some.inj H
                have hnb59 := NB317_327.out
                have hnc59 := NB327_317.out
                have hcz60_0 : wc.cell? ⟨gb317, 0, none⟩ = some (.string a1_0) := (blk_cell BK317.out 0).trans rfl
                have hcz60_1 : wc.cell? ⟨gb317, 1, none⟩ = some (.int .i64 a1_1) := (blk_cell BK317.out 1).trans rfl
                have hcz60_2 : wc.cell? ⟨gb317, 2, none⟩ = some (.slice A1_2 l1_2.length c1_2) := (blk_cell BK317.out 2).trans rfl
                have hfz60_0 := blk_frozen BK317.out 0
                have hfz60_1 := blk_frozen BK317.out 1
                have hfz60_2 := blk_frozen BK317.out 2
                go_wp2_with (first | ((with_reducible refine gate_callee (f := 18) rfl ?_); refine goesL_ (some 51) rfl rfl Try.func18 (by kernel_rfl) rfl #[.slice A0 l0.length c0, .agg #[.string a1_0, .int .i64 a1_1, .slice A1_2 l1_2.length c1_2]] rfl (by (try simp only [List.map_toArray, List.map_cons, List.map_nil]); first | done | rfl | (simp only [List.length_drop, List.length_take]; rfl)) ?_; (with_reducible refine (registry_Add.calls kj6 _ _ l0 a1_0 a1_1 _ _ l1_2 t330 t333 _ ?side1 ?side2 ?side3 ?side4 A32.out).mono ?_); (case side1 => repeat (first | exact (Kd.C_below HR0.out HB.out) | (with_reducible refine Kd.C_alloc ?_ _) | (with_reducible refine Kd.C_drewN ?_ _) | (with_reducible refine Kd.C_drew ?_))); (case side2 => exact HC0.out); (case side3 => repeat (first | exact (Kd.C_below HR1_2.out HB.out) | (with_reducible refine Kd.C_alloc ?_ _) | (with_reducible refine Kd.C_drewN ?_ _) | (with_reducible refine Kd.C_drew ?_))); (case side4 => exact HC1_2.out); rintro e w61 ⟨v331, rfl, ho0, hb⟩; refine ⟨_, rfl, ?_⟩; have n0_ := Aside0.mk (Kd.R_below (by (with_reducible repeat (first | apply Kd.R_alloc | apply Kd.R_drewN | apply Kd.R_drew)); exact HO_328002.out) hb); have n1_ := Aside0.mk (Kd.S_lower (Kd.S_newB (Kd.S_newB (Kd.S_new' ho0 (Kd.R_lt (by (with_reducible repeat (first | apply Kd.R_alloc | apply Kd.R_drewN | apply Kd.R_drew)); exact HO_328002.out))) (g := gb317) (o := .cells #[.string a1_0, .int .i64 a1_1, .slice A1_2 l1_2.length c1_2] 25 (0, 0)) (by (with_reducible repeat (first | refine blk_drewN ?_ _ | refine blk_drew ?_ | refine blk_alloc ?_ _)); exact BK317.out)) (g := gb327) (o := .cells #[.string t321, .int .i64 t322, .slice Ao18 t323.length co18] 25 (0, 0)) (by (with_reducible repeat (first | refine blk_drewN ?_ _ | refine blk_drew ?_ | refine blk_alloc ?_ _)); exact BK327.out)) (below_size (by repeat (first | (with_reducible first | exact HB.out | apply below_alloc | apply pw_below_drewN | apply below_drew1 | refine below_set ?_ GE317.out | refine below_set ?_ GE327.out) | exact HB.out)))); have n2_ := Aside0.mk (blk_below (g := gb317) (o := .cells #[.string a1_0, .int .i64 a1_1, .slice A1_2 l1_2.length c1_2] 25 (0, 0)) (by (with_reducible repeat (first | refine blk_drewN ?_ _ | refine blk_drew ?_ | refine blk_alloc ?_ _)); exact BK317.out) hb); have n3_ := Aside0.mk (blk_below (g := gb327) (o := .cells #[.string t321, .int .i64 t322, .slice Ao18 t323.length co18] 25 (0, 0)) (by (with_reducible repeat (first | refine blk_drewN ?_ _ | refine blk_drew ?_ | refine blk_alloc ?_ _)); exact BK327.out) hb); have n4_ := Aside0.mk (below_step (by repeat (first | (with_reducible first | exact HB.out | apply below_alloc | apply pw_below_drewN | apply below_drew1 | refine below_set ?_ GE317.out | refine below_set ?_ GE327.out) | exact HB.out)) hb); clear HO_328002; clear BK317; clear BK327; clear HB; have HO_328002 := n0_; have HO332 := n1_; have BK317 := n2_; have BK327 := n3_; have HB := n4_; clear n0_ n1_ n2_ n3_ n4_; (try clear hb); (try clear hb2); (try clear hk); (try clear hi); (try clear ho0); have hcz62_0 : w61.cell? ⟨gb317, 0, none⟩ = some (.string a1_0) := (blk_cell BK317.out 0).trans rfl; have hcz62_1 : w61.cell? ⟨gb317, 1, none⟩ = some (.int .i64 a1_1) := (blk_cell BK317.out 1).trans rfl; have hcz62_2 : w61.cell? ⟨gb317, 2, none⟩ = some (.slice A1_2 l1_2.length c1_2) := (blk_cell BK317.out 2).trans rfl; have hfz62_0 := blk_frozen BK317.out 0; have hfz62_1 := blk_frozen BK317.out 1; have hfz62_2 := blk_frozen BK317.out 2; obtain ⟨Ao63, co63, eo63⟩ := Kd.S_slice HO332.out; subst eo63))
                go_ret
                exact ⟨by first | rfl | (simp [errW_none, errW_some] <;> rfl) | (simp [*, errW_none, errW_some] <;> rfl), by repeat (first | (with_reducible first | exact HB.out | apply below_alloc | apply pw_below_drewN | apply below_drew1 | refine below_set ?_ GE317.out | refine below_set ?_ GE327.out) | exact HB.out)⟩
          · rw [if_neg c34] at H
            have c34b0 : (t333 == 0) = false := beq_eq_false_iff_ne.mpr c34
            have c34b1 : (t333 != 0) = true := bne_iff_ne.mpr c34
            by_cases c64 : t333 = 7
            · rw [if_pos c64] at H
              have c64b0 : (t333 == 7) = true := beq_iff_eq.mpr c64
              have c64b1 : (t333 != 7) = false := bne_eq_false_iff_eq.mpr c64
              clear c64
              obtain rfl := Option.some.inj H
              have hnb65 := NB317_327.out
              have hnc65 := NB327_317.out
              have hcz66_0 : wc.cell? ⟨gb317, 0, none⟩ = some (.string a1_0) := (blk_cell BK317.out 0).trans rfl
              have hcz66_1 : wc.cell? ⟨gb317, 1, none⟩ = some (.int .i64 a1_1) := (blk_cell BK317.out 1).trans rfl
              have hcz66_2 : wc.cell? ⟨gb317, 2, none⟩ = some (.slice A1_2 l1_2.length c1_2) := (blk_cell BK317.out 2).trans rfl
              have hfz66_0 := blk_frozen BK317.out 0
              have hfz66_1 := blk_frozen BK317.out 1
              have hfz66_2 := blk_frozen BK317.out 2
              go_wp2_with (first | ((with_reducible refine gate_callee (f := 18) rfl ?_); refine goesL_ (some 51) rfl rfl Try.func18 (by kernel_rfl) rfl #[.slice A0 l0.length c0, .agg #[.string a1_0, .int .i64 a1_1, .slice A1_2 l1_2.length c1_2]] rfl (by (try simp only [List.map_toArray, List.map_cons, List.map_nil]); first | done | rfl | (simp only [List.length_drop, List.length_take]; rfl)) ?_; (with_reducible refine (registry_Add.calls kj6 _ _ l0 a1_0 a1_1 _ _ l1_2 t330 t333 _ ?side1 ?side2 ?side3 ?side4 A32.out).mono ?_); (case side1 => repeat (first | exact (Kd.C_below HR0.out HB.out) | (with_reducible refine Kd.C_alloc ?_ _) | (with_reducible refine Kd.C_drewN ?_ _) | (with_reducible refine Kd.C_drew ?_))); (case side2 => exact HC0.out); (case side3 => repeat (first | exact (Kd.C_below HR1_2.out HB.out) | (with_reducible refine Kd.C_alloc ?_ _) | (with_reducible refine Kd.C_drewN ?_ _) | (with_reducible refine Kd.C_drew ?_))); (case side4 => exact HC1_2.out); rintro e w67 ⟨v331, rfl, ho0, hb⟩; refine ⟨_, rfl, ?_⟩; have n0_ := Aside0.mk (Kd.R_below (by (with_reducible repeat (first | apply Kd.R_alloc | apply Kd.R_drewN | apply Kd.R_drew)); exact HO_328002.out) hb); have n1_ := Aside0.mk (Kd.S_lower (Kd.S_newB (Kd.S_newB (Kd.S_new' ho0 (Kd.R_lt (by (with_reducible repeat (first | apply Kd.R_alloc | apply Kd.R_drewN | apply Kd.R_drew)); exact HO_328002.out))) (g := gb317) (o := .cells #[.string a1_0, .int .i64 a1_1, .slice A1_2 l1_2.length c1_2] 25 (0, 0)) (by (with_reducible repeat (first | refine blk_drewN ?_ _ | refine blk_drew ?_ | refine blk_alloc ?_ _)); exact BK317.out)) (g := gb327) (o := .cells #[.string t321, .int .i64 t322, .slice Ao18 t323.length co18] 25 (0, 0)) (by (with_reducible repeat (first | refine blk_drewN ?_ _ | refine blk_drew ?_ | refine blk_alloc ?_ _)); exact BK327.out)) (below_size (by repeat (first | (with_reducible first | exact HB.out | apply below_alloc | apply pw_below_drewN | apply below_drew1 | refine below_set ?_ GE317.out | refine below_set ?_ GE327.out) | exact HB.out)))); have n2_ := Aside0.mk (blk_below (g := gb317) (o := .cells #[.string a1_0, .int .i64 a1_1, .slice A1_2 l1_2.length c1_2] 25 (0, 0)) (by (with_reducible repeat (first | refine blk_drewN ?_ _ | refine blk_drew ?_ | refine blk_alloc ?_ _)); exact BK317.out) hb); have n3_ := Aside0.mk (blk_below (g := gb327) (o := .cells #[.string t321, .int .i64 t322, .slice Ao18 t323.length co18] 25 (0, 0)) (by (with_reducible repeat (first | refine blk_drewN ?_ _ | refine blk_drew ?_ | refine blk_alloc ?_ _)); exact BK327.out) hb); have n4_ := Aside0.mk (below_step (by repeat (first | (with_reducible first | exact HB.out | apply below_alloc | apply pw_below_drewN | apply below_drew1 | refine below_set ?_ GE317.out | refine below_set ?_ GE327.out) | exact HB.out)) hb); clear HO_328002; clear BK317; clear BK327; clear HB; have HO_328002 := n0_; have HO332 := n1_; have BK317 := n2_; have BK327 := n3_; have HB := n4_; clear n0_ n1_ n2_ n3_ n4_; (try clear hb); (try clear hb2); (try clear hk); (try clear hi); (try clear ho0); have hcz68_0 : w67.cell? ⟨gb317, 0, none⟩ = some (.string a1_0) := (blk_cell BK317.out 0).trans rfl; have hcz68_1 : w67.cell? ⟨gb317, 1, none⟩ = some (.int .i64 a1_1) := (blk_cell BK317.out 1).trans rfl; have hcz68_2 : w67.cell? ⟨gb317, 2, none⟩ = some (.slice A1_2 l1_2.length c1_2) := (blk_cell BK317.out 2).trans rfl; have hfz68_0 := blk_frozen BK317.out 0; have hfz68_1 := blk_frozen BK317.out 1; have hfz68_2 := blk_frozen BK317.out 2))
              go_ret
              exact ⟨by first | rfl | (simp [errW_none, errW_some] <;> rfl) | (simp [*, errW_none, errW_some] <;> rfl), by repeat (first | (with_reducible first | exact HB.out | apply below_alloc | apply pw_below_drewN | apply below_drew1 | refine below_set ?_ GE317.out | refine below_set ?_ GE327.out) | exact HB.out)⟩
            · rw [if_neg c64] at H
              have c64b0 : (t333 == 7) = false := beq_eq_false_iff_ne.mpr c64
              have c64b1 : (t333 != 7) = true := bne_iff_ne.mpr c64
              obtain rfl := Option.some.inj H
              have hnb69 := NB317_327.out
              have hnc69 := NB327_317.out
              have hcz70_0 : wc.cell? ⟨gb317, 0, none⟩ = some (.string a1_0) := (blk_cell BK317.out 0).trans rfl
              have hcz70_1 : wc.cell? ⟨gb317, 1, none⟩ = some (.int .i64 a1_1) := (blk_cell BK317.out 1).trans rfl
              have hcz70_2 : wc.cell? ⟨gb317, 2, none⟩ = some (.slice A1_2 l1_2.length c1_2) := (blk_cell BK317.out 2).trans rfl
              have hfz70_0 := blk_frozen BK317.out 0
              have hfz70_1 := blk_frozen BK317.out 1
              have hfz70_2 := blk_frozen BK317.out 2
              go_wp2_with (first | ((with_reducible refine gate_callee (f := 18) rfl ?_); refine goesL_ (some 51) rfl rfl Try.func18 (by kernel_rfl) rfl #[.slice A0 l0.length c0, .agg #[.string a1_0, .int .i64 a1_1, .slice A1_2 l1_2.length c1_2]] rfl (by (try simp only [List.map_toArray, List.map_cons, List.map_nil]); first | done | rfl | (simp only [List.length_drop, List.length_take]; rfl)) ?_; (with_reducible refine (registry_Add.calls kj6 _ _ l0 a1_0 a1_1 _ _ l1_2 t330 t333 _ ?side1 ?side2 ?side3 ?side4 A32.out).mono ?_); (case side1 => repeat (first | exact (Kd.C_below HR0.out HB.out) | (with_reducible refine Kd.C_alloc ?_ _) | (with_reducible refine Kd.C_drewN ?_ _) | (with_reducible refine Kd.C_drew ?_))); (case side2 => exact HC0.out); (case side3 => repeat (first | exact (Kd.C_below HR1_2.out HB.out) | (with_reducible refine Kd.C_alloc ?_ _) | (with_reducible refine Kd.C_drewN ?_ _) | (with_reducible refine Kd.C_drew ?_))); (case side4 => exact HC1_2.out); rintro e w71 ⟨v331, rfl, ho0, hb⟩; refine ⟨_, rfl, ?_⟩; have n0_ := Aside0.mk (Kd.R_below (by (with_reducible repeat (first | apply Kd.R_alloc | apply Kd.R_drewN | apply Kd.R_drew)); exact HO_328002.out) hb); have n1_ := Aside0.mk (Kd.S_lower (Kd.S_newB (Kd.S_newB (Kd.S_new' ho0 (Kd.R_lt (by (with_reducible repeat (first | apply Kd.R_alloc | apply Kd.R_drewN | apply Kd.R_drew)); exact HO_328002.out))) (g := gb317) (o := .cells #[.string a1_0, .int .i64 a1_1, .slice A1_2 l1_2.length c1_2] 25 (0, 0)) (by (with_reducible repeat (first | refine blk_drewN ?_ _ | refine blk_drew ?_ | refine blk_alloc ?_ _)); exact BK317.out)) (g := gb327) (o := .cells #[.string t321, .int .i64 t322, .slice Ao18 t323.length co18] 25 (0, 0)) (by (with_reducible repeat (first | refine blk_drewN ?_ _ | refine blk_drew ?_ | refine blk_alloc ?_ _)); exact BK327.out)) (below_size (by repeat (first | (with_reducible first | exact HB.out | apply below_alloc | apply pw_below_drewN | apply below_drew1 | refine below_set ?_ GE317.out | refine below_set ?_ GE327.out) | exact HB.out)))); have n2_ := Aside0.mk (blk_below (g := gb317) (o := .cells #[.string a1_0, .int .i64 a1_1, .slice A1_2 l1_2.length c1_2] 25 (0, 0)) (by (with_reducible repeat (first | refine blk_drewN ?_ _ | refine blk_drew ?_ | refine blk_alloc ?_ _)); exact BK317.out) hb); have n3_ := Aside0.mk (blk_below (g := gb327) (o := .cells #[.string t321, .int .i64 t322, .slice Ao18 t323.length co18] 25 (0, 0)) (by (with_reducible repeat (first | refine blk_drewN ?_ _ | refine blk_drew ?_ | refine blk_alloc ?_ _)); exact BK327.out) hb); have n4_ := Aside0.mk (below_step (by repeat (first | (with_reducible first | exact HB.out | apply below_alloc | apply pw_below_drewN | apply below_drew1 | refine below_set ?_ GE317.out | refine below_set ?_ GE327.out) | exact HB.out)) hb); clear HO_328002; clear BK317; clear BK327; clear HB; have HO_328002 := n0_; have HO332 := n1_; have BK317 := n2_; have BK327 := n3_; have HB := n4_; clear n0_ n1_ n2_ n3_ n4_; (try clear hb); (try clear hb2); (try clear hk); (try clear hi); (try clear ho0); have hcz72_0 : w71.cell? ⟨gb317, 0, none⟩ = some (.string a1_0) := (blk_cell BK317.out 0).trans rfl; have hcz72_1 : w71.cell? ⟨gb317, 1, none⟩ = some (.int .i64 a1_1) := (blk_cell BK317.out 1).trans rfl; have hcz72_2 : w71.cell? ⟨gb317, 2, none⟩ = some (.slice A1_2 l1_2.length c1_2) := (blk_cell BK317.out 2).trans rfl; have hfz72_0 := blk_frozen BK317.out 0; have hfz72_1 := blk_frozen BK317.out 1; have hfz72_2 := blk_frozen BK317.out 2))
              go_ret
              exact ⟨by first | rfl | (simp [errW_none, errW_some] <;> rfl) | (simp [*, errW_none, errW_some] <;> rfl), by repeat (first | (with_reducible first | exact HB.out | apply below_alloc | apply pw_below_drewN | apply below_drew1 | refine below_set ?_ GE317.out | refine below_set ?_ GE327.out) | exact HB.out)⟩
        · rw [if_neg c33] at H
          have c33b0 : (a1_1 == 1) = false := beq_eq_false_iff_ne.mpr c33
          have c33b1 : (a1_1 != 1) = true := bne_iff_ne.mpr c33
          obtain rfl := Option.some.inj H
          have hnb73 := NB317_327.out
          have hnc73 := NB327_317.out
          have hcz74_0 : wc.cell? ⟨gb317, 0, none⟩ = some (.string a1_0) := (blk_cell BK317.out 0).trans rfl
          have hcz74_1 : wc.cell? ⟨gb317, 1, none⟩ = some (.int .i64 a1_1) := (blk_cell BK317.out 1).trans rfl
          have hcz74_2 : wc.cell? ⟨gb317, 2, none⟩ = some (.slice A1_2 l1_2.length c1_2) := (blk_cell BK317.out 2).trans rfl
          have hfz74_0 := blk_frozen BK317.out 0
          have hfz74_1 := blk_frozen BK317.out 1
          have hfz74_2 := blk_frozen BK317.out 2
          go_wp2_with (first | ((with_reducible refine gate_callee (f := 18) rfl ?_); refine goesL_ (some 51) rfl rfl Try.func18 (by kernel_rfl) rfl #[.slice A0 l0.length c0, .agg #[.string a1_0, .int .i64 a1_1, .slice A1_2 l1_2.length c1_2]] rfl (by (try simp only [List.map_toArray, List.map_cons, List.map_nil]); first | done | rfl | (simp only [List.length_drop, List.length_take]; rfl)) ?_; (with_reducible refine (registry_Add.calls kj6 _ _ l0 a1_0 a1_1 _ _ l1_2 t330 t333 _ ?side1 ?side2 ?side3 ?side4 A32.out).mono ?_); (case side1 => repeat (first | exact (Kd.C_below HR0.out HB.out) | (with_reducible refine Kd.C_alloc ?_ _) | (with_reducible refine Kd.C_drewN ?_ _) | (with_reducible refine Kd.C_drew ?_))); (case side2 => exact HC0.out); (case side3 => repeat (first | exact (Kd.C_below HR1_2.out HB.out) | (with_reducible refine Kd.C_alloc ?_ _) | (with_reducible refine Kd.C_drewN ?_ _) | (with_reducible refine Kd.C_drew ?_))); (case side4 => exact HC1_2.out); rintro e w75 ⟨v331, rfl, ho0, hb⟩; refine ⟨_, rfl, ?_⟩; have n0_ := Aside0.mk (Kd.R_below (by (with_reducible repeat (first | apply Kd.R_alloc | apply Kd.R_drewN | apply Kd.R_drew)); exact HO_328002.out) hb); have n1_ := Aside0.mk (Kd.S_lower (Kd.S_newB (Kd.S_newB (Kd.S_new' ho0 (Kd.R_lt (by (with_reducible repeat (first | apply Kd.R_alloc | apply Kd.R_drewN | apply Kd.R_drew)); exact HO_328002.out))) (g := gb317) (o := .cells #[.string a1_0, .int .i64 a1_1, .slice A1_2 l1_2.length c1_2] 25 (0, 0)) (by (with_reducible repeat (first | refine blk_drewN ?_ _ | refine blk_drew ?_ | refine blk_alloc ?_ _)); exact BK317.out)) (g := gb327) (o := .cells #[.string t321, .int .i64 t322, .slice Ao18 t323.length co18] 25 (0, 0)) (by (with_reducible repeat (first | refine blk_drewN ?_ _ | refine blk_drew ?_ | refine blk_alloc ?_ _)); exact BK327.out)) (below_size (by repeat (first | (with_reducible first | exact HB.out | apply below_alloc | apply pw_below_drewN | apply below_drew1 | refine below_set ?_ GE317.out | refine below_set ?_ GE327.out) | exact HB.out)))); have n2_ := Aside0.mk (blk_below (g := gb317) (o := .cells #[.string a1_0, .int .i64 a1_1, .slice A1_2 l1_2.length c1_2] 25 (0, 0)) (by (with_reducible repeat (first | refine blk_drewN ?_ _ | refine blk_drew ?_ | refine blk_alloc ?_ _)); exact BK317.out) hb); have n3_ := Aside0.mk (blk_below (g := gb327) (o := .cells #[.string t321, .int .i64 t322, .slice Ao18 t323.length co18] 25 (0, 0)) (by (with_reducible repeat (first | refine blk_drewN ?_ _ | refine blk_drew ?_ | refine blk_alloc ?_ _)); exact BK327.out) hb); have n4_ := Aside0.mk (below_step (by repeat (first | (with_reducible first | exact HB.out | apply below_alloc | apply pw_below_drewN | apply below_drew1 | refine below_set ?_ GE317.out | refine below_set ?_ GE327.out) | exact HB.out)) hb); clear HO_328002; clear BK317; clear BK327; clear HB; have HO_328002 := n0_; have HO332 := n1_; have BK317 := n2_; have BK327 := n3_; have HB := n4_; clear n0_ n1_ n2_ n3_ n4_; (try clear hb); (try clear hb2); (try clear hk); (try clear hi); (try clear ho0); have hcz76_0 : w75.cell? ⟨gb317, 0, none⟩ = some (.string a1_0) := (blk_cell BK317.out 0).trans rfl; have hcz76_1 : w75.cell? ⟨gb317, 1, none⟩ = some (.int .i64 a1_1) := (blk_cell BK317.out 1).trans rfl; have hcz76_2 : w75.cell? ⟨gb317, 2, none⟩ = some (.slice A1_2 l1_2.length c1_2) := (blk_cell BK317.out 2).trans rfl; have hfz76_0 := blk_frozen BK317.out 0; have hfz76_1 := blk_frozen BK317.out 1; have hfz76_2 := blk_frozen BK317.out 2))
          go_ret
          exact ⟨by first | rfl | (simp [errW_none, errW_some] <;> rfl) | (simp [*, errW_none, errW_some] <;> rfl), by repeat (first | (with_reducible first | exact HB.out | apply below_alloc | apply pw_below_drewN | apply below_drew1 | refine below_set ?_ GE317.out | refine below_set ?_ GE327.out) | exact HB.out)⟩

end Go.Proofs.Ytbgdamlidohfhaa.P
